/- A text of the proofs. -/
import Derived.Test.YtnpdploihlgcgaaDoorGI
set_option linter.unusedVariables false
set_option maxRecDepth 100000
namespace Go.Proofs.YtnpdploihlgcgaaDoor
open Go Go.HL
def md4 : Nat → Hint
  | 11 => ⟨false, [0, 0, 3, 7, 0, 31], [.pureN, .pureN, .pureN, .pureM, .pureM, .pureM], [.pureN, .pureN, .pureN, .pureM, .pureM, .pureM], [false, false, false, false, false, false], false⟩
  | _ => ⟨false, [], [], [], [], false⟩
def S4_k3 (G : Hp) (K : Exit → Rg → Hp → Prop) (r : Rg) (h : Hp) : Prop :=
  opH Tryd.prog G (xEq .eql 3 (.tmp 0) (.const .nilFunc) (r 8) (.int .i64 0)) h fun v30 h30 =>
  gd (wantB v30 true) (opH Tryd.prog G (callFunc 17 #[]) h30) h30 fun v31 h31 =>
  opH Tryd.prog G (xPick v30 v31 (.bool false)) h31 fun v32 h32 =>
  K .ret (upd (upd (upd (upd (upd (upd r 67 (r 8)) 68 v30) 69 v30) 70 v31) 71 v32) 4 v32) h32
def S4_k2 (G : Hp) (K : Exit → Rg → Hp → Prop) (r : Rg) (h : Hp) : Prop :=
  opH Tryd.prog G (sv (Instr.loadAt 46 (r 3))) h fun v19 h19 =>
  opH Tryd.prog G (callFunc 27 #[(r 5), v19]) h19 fun v20 h20 =>
  gd (wantB v20 true) (opH Tryd.prog G (sv (Instr.fieldAt 46 (r 3) 0)) h20) h20 fun v21 h21 =>
  gd (wantB v20 true) (opH Tryd.prog G (sv (Instr.loadAt 3 v21)) h21) h21 fun v22 h22 =>
  gd (wantB v20 true) (opH Tryd.prog G (xEq .eql 3 (.tmp 0) (.const .nilFunc) v22 (.int .i64 1)) h22) h22 fun v23 h23 =>
  gd (wantB v20 true) (fun K1 => K1 v23 h23) h23 fun v24 h24 =>
  gd (wantB v24 false) (opH Tryd.prog G (sv (Instr.fieldAt 46 (r 3) 0)) h24) h24 fun v25 h25 =>
  gd (wantB v24 false) (opH Tryd.prog G (sv (Instr.loadAt 3 v25)) h25) h25 fun v26 h26 =>
  gd (wantB v24 false) (opH Tryd.prog G (xEq .eql 3 (.tmp 0) (.const .nilFunc) v26 (.int .i64 2)) h26) h26 fun v27 h27 =>
  gd (wantB v20 true) (opH Tryd.prog G (xPick v24 (.bool true) v27) h27) h27 fun v28 h28 =>
  opH Tryd.prog G (xPick v20 v28 (.bool false)) h28 fun v29 h29 =>
  cond v29
  (opH Tryd.prog G (xEq .eql 3 (.tmp 0) (.const .nilFunc) (r 8) (.int .i64 1)) h29 fun v33 h33 =>
  gd (wantB v33 true) (opH Tryd.prog G (callFunc 17 #[]) h33) h33 fun v34 h34 =>
  opH Tryd.prog G (xPick v33 v34 (.bool false)) h34 fun v35 h35 =>
  K .ret (upd (upd (upd (upd (upd (upd (upd (upd (upd (upd (upd (upd (upd (upd (upd (upd (upd (upd (upd r 49 (r 5)) 50 v19) 51 v20) 52 v20) 53 v21) 54 v22) 55 v23) 56 v24) 57 v25) 58 v26) 59 v27) 60 v28) 61 v29) 62 (r 8)) 63 v33) 64 v33) 65 v34) 66 v35) 4 v35) h35)
  (S4_k3 G K (upd (upd (upd (upd (upd (upd (upd (upd (upd (upd (upd (upd (upd r 49 (r 5)) 50 v19) 51 v20) 52 v20) 53 v21) 54 v22) 55 v23) 56 v24) 57 v25) 58 v26) 59 v27) 60 v28) 61 v29) h29)
def S4_l4_k6 (G : Hp) (K : Exit → Rg → Hp → Prop) (r : Rg) (h : Hp) : Prop :=
  opH Tryd.prog G (sv (binOp .add 3 (r 9) (.int .i64 1))) h fun v38 h38 =>
  K .normal (upd (upd (upd r 39 (r 9)) 40 v38) 9 v38) h38
def S4_l4_k5 (G : Hp) (K : Exit → Rg → Hp → Prop) (r : Rg) (h : Hp) : Prop :=
  pureW Tryd.prog noHp noHp (sv (Instr.indexAt 47 (r 7) (r 9))) h fun v39 h39 =>
  pureW Tryd.prog G h (sv (Instr.loadAt 46 v39)) h39 fun v40 h40 =>
  pureW Tryd.prog G h (sv (Instr.loadAt 46 (r 3))) h40 fun v41 h41 =>
  pureW Tryd.prog G h (xEq .eql 46 (.tmp 0) (.tmp 0) v40 v41) h41 fun v42 h42 =>
  cond v42
  (opH Tryd.prog G (sv (binOp .add 3 (r 8) (.int .i64 1))) h42 fun v43 h43 =>
  S4_l4_k6 G K (upd (upd (upd (upd (upd (upd (upd (upd (upd r 41 (r 7)) 42 (r 9)) 43 v39) 44 v40) 45 v41) 46 v42) 47 (r 8)) 48 v43) 8 v43) h43)
  (S4_l4_k6 G K (upd (upd (upd (upd (upd (upd r 41 (r 7)) 42 (r 9)) 43 v39) 44 v40) 45 v41) 46 v42) h42)
def S4_l4 (G : Hp) (r : Rg) (h : Hp) (K : Exit → Rg → Hp → Prop) : Prop :=
  opH Tryd.prog G (sv (Builtin.len_ #[47] 3 #[(r 7)])) h fun v36 h36 =>
  opH Tryd.prog G (sv (binOp .lss 3 (r 9) v36)) h36 fun v37 h37 =>
  cond v37
  (S4_l4_k5 G K (upd (upd (upd (upd r 35 (r 9)) 36 (r 7)) 37 v36) 38 v37) h37)
  (K (.exit 0) (upd (upd (upd (upd r 35 (r 9)) 36 (r 7)) 37 v36) 38 v37) h37)
def S4_k1 (G : Hp) (K : Exit → Rg → Hp → Prop) (r : Rg) (h : Hp) : Prop :=
  opH Tryd.prog G (sv (Instr.fieldAt 46 (r 3) 5)) h fun v11 h11 =>
  opH Tryd.prog G (su (Instr.storeAt 3 v11 (.int .i64 0))) h11 fun v12 h12 =>
  opH Tryd.prog G (sv (Instr.fieldAt 46 (r 3) 6)) h12 fun v13 h13 =>
  opH Tryd.prog G (su (Instr.storeAt 3 v13 (.int .i64 0))) h13 fun v14 h14 =>
  opH Tryd.prog G (sv (Instr.fieldAt 46 (r 3) 3)) h14 fun v15 h15 =>
  opH Tryd.prog G (sv (Instr.loadAt 30 v15)) h15 fun v16 h16 =>
  opH Tryd.prog G (callFunc 26 #[(r 5), v16]) h16 fun v17 h17 =>
  opH Tryd.prog G (callFunc 25 #[v17, (.int .i64 1000)]) h17 fun v18 h18 =>
  loopP (S4_l4 G) (upd (upd (upd (upd (upd (upd (upd (upd (upd (upd r 28 v11) 29 v13) 30 (r 5)) 31 v15) 32 v16) 33 v17) 34 v18) 7 v18) 8 (.int .i64 0)) 9 (.int .i64 0)) h18 (blockK 0 (thenK (S4_k2 G K) K))
def S4 (G : Hp) (K : Exit → Rg → Hp → Prop) (r : Rg) (h : Hp) : Prop :=
  opH Tryd.prog G (sv (Instr.box 26 (r 0))) h fun v0 h0 =>
  opH Tryd.prog G (sv (Instr.box 46 (r 1))) h0 fun v1 h1 =>
  opH Tryd.prog G (sv (Instr.loadAt 26 v0)) h1 fun v2 h2 =>
  opH Tryd.prog G (callFunc 15 #[v2]) h2 fun v3 h3 =>
  opH Tryd.prog G (callFunc 14 #[v3]) h3 fun v4 h4 =>
  opH Tryd.prog G (sv (Instr.extract v4 0)) h4 fun v5 h5 =>
  opH Tryd.prog G (sv (Instr.extract v4 1)) h5 fun v6 h6 =>
  opH Tryd.prog G (xEq .neq 32 (.tmp 0) (.const .nilFunc) v6 (.int .i64 0)) h6 fun v7 h7 =>
  gd (wantB v7 false) (fun K1 => K1 v5 h7) h7 fun v8 h8 =>
  gd (wantB v7 false) (opH Tryd.prog G (xEq .eql 31 (.tmp 0) (.const .nilFunc) v8 (.pointer none)) h8) h8 fun v9 h9 =>
  opH Tryd.prog G (xPick v7 (.bool true) v9) h9 fun v10 h10 =>
  cond v10
  (opH Tryd.prog G (sv (Instr.loadAt 26 v0)) h10 fun v44 h44 =>
  opH Tryd.prog G (callFunc 16 #[v44]) h44 fun v45 h45 =>
  opH Tryd.prog G (sv (Op.unary .not v45)) h45 fun v46 h46 =>
  gd (wantB v46 true) (opH Tryd.prog G (callFunc 17 #[]) h46) h46 fun v47 h47 =>
  opH Tryd.prog G (xPick v46 v47 (.bool false)) h47 fun v48 h48 =>
  K .ret (upd (upd (upd (upd (upd (upd (upd (upd (upd (upd (upd (upd (upd (upd (upd (upd (upd (upd (upd (upd (upd (upd (upd (upd r 2 v0) 3 v1) 4 (.bool false)) 11 v2) 12 v3) 13 v4) 10 v4) 14 v5) 15 v6) 5 v5) 6 v6) 16 v6) 17 v7) 18 v7) 19 v8) 20 v9) 21 v10) 22 v44) 23 v45) 24 v46) 25 v46) 26 v47) 27 v48) 4 v48) h48)
  (S4_k1 G K (upd (upd (upd (upd (upd (upd (upd (upd (upd (upd (upd (upd (upd (upd (upd (upd (upd r 2 v0) 3 v1) 4 (.bool false)) 11 v2) 12 v3) 13 v4) 10 v4) 14 v5) 15 v6) 5 v5) 6 v6) 16 v6) 17 v7) 18 v7) 19 v8) 20 v9) 21 v10) h10)
theorem S4_eq (G : Hp) (K : Exit → Rg → Hp → Prop) (r : Rg) (h : Hp) : wpC Tryd.prog G 72 md4 true (Tryd.f4.body.getD .skip) r h K = S4 G K r h := by kernel_rfl
theorem enter4 {G : Hp} {h : Hp} {args : Array Value} {R : Value → Hp → Prop} (hn : args.size ≤ 72) (H : S4 G (retK Tryd.prog G [.tmp 4] R) (regs args) h) : HCalls Tryd.prog G 4 args h R :=
  HCalls.enter (md := md4) mixed Tryd.func4 rfl hn (by rw [← S4_eq] at H; exact H)

def md64 : Nat → Hint
  | _ => ⟨false, [], [], [], [], false⟩
def S64 (G : Hp) (K : Exit → Rg → Hp → Prop) (r : Rg) (h : Hp) : Prop :=
  opH Tryd.prog G (sv (binOp .sub 3 (r 0) (r 1))) h fun v0 h0 =>
  opH Tryd.prog G (sv (binOp .sub 3 (r 1) (r 0))) h0 fun v1 h1 =>
  opH Tryd.prog G (sv (Builtin.max_ #[3, 3] 3 #[v0, v1])) h1 fun v2 h2 =>
  K .ret (upd (upd (upd (upd (upd (upd (upd (upd (upd r 4 (.int .i64 0)) 5 (r 0)) 6 (r 1)) 7 v0) 8 (r 1)) 9 (r 0)) 10 v1) 11 v2) 4 v2) h2
theorem S64_eq (G : Hp) (K : Exit → Rg → Hp → Prop) (r : Rg) (h : Hp) : wpC Tryd.prog G 12 md64 true (Tryd.f64.body.getD .skip) r h K = S64 G K r h := by kernel_rfl
theorem enter64 {G : Hp} {h : Hp} {args : Array Value} {R : Value → Hp → Prop} (hn : args.size ≤ 12) (H : S64 G (retK Tryd.prog G [.tmp 4] R) (regs args) h) : HCalls Tryd.prog G 64 args h R :=
  HCalls.enter (md := md64) mixed Tryd.func64 rfl hn (by rw [← S64_eq] at H; exact H)

end Go.Proofs.YtnpdploihlgcgaaDoor

/- A text of the proofs. -/
import Derived.Test.YtnpdploihlgcgaaDoorGI
set_option linter.unusedVariables false
set_option maxRecDepth 100000
namespace Go.Proofs.YtnpdploihlgcgaaDoor
open Go Go.HL
/-! 3: skep/skeplaw07.GridPoses: params #[26, 30, 3, 3], results #[4] -/
def md3 : Nat → Hint
  | 8 => ⟨true, [0, 0, 3, 0, 15, 31, 63, 127, 127, 511, 127, 127, 4095, 8191, 16383, 32767, 65535, 65535, 262143, 524287, 1048575, 2097151, 2097151, 8388607, 16777215, 33554431, 67108863, 134217727, 268435455], [.pureN, .pureM, .eff, .pureM, .eff, .eff, .pureN, .pureN, .pureM, .eff, .pureM, .pureM, .eff, .pureM, .pureN, .pureN, .pureM, .pureM, .pureM, .pureN, .pureN, .pureN, .pureN, .pureM, .pureN, .pureN, .eff, .pureN, .pureN], [.pureN, .pureM, .eff, .pureM, .eff, .eff, .pureN, .pureN, .pureM, .eff, .pureM, .pureM, .eff, .pureM, .pureN, .pureN, .pureM, .pureM, .pureM, .pureN, .pureN, .pureN, .pureN, .pureM, .pureN, .pureN, .eff, .pureN, .pureN], [false, false, true, false, true, true, false, false, false, true, false, false, true, false, false, false, false, false, false, false, false, false, false, false, false, false, false, false, false], false⟩
  | _ => ⟨false, [], [], [], [], false⟩
def S3_k2 (G : Hp) (K : Exit → Rg → Hp → Prop) (r : Rg) (h : Hp) : Prop :=
  opH Tryd.prog G (sv (Instr.loadAt 30 (r 5))) h fun v14 h14 =>
  opH Tryd.prog G (callFunc 18 #[(r 9), v14, (r 2), (r 3)]) h14 fun v15 h15 =>
  opH Tryd.prog G (sv (Instr.extract v15 0)) h15 fun v16 h16 =>
  opH Tryd.prog G (sv (Instr.extract v15 1)) h16 fun v17 h17 =>
  opH Tryd.prog G (sv (Instr.alloc 30 true (.tuple #[]))) h17 fun v18 h18 =>
  opH Tryd.prog G (su (Instr.storeAt 30 v18 v16)) h18 fun v19 h19 =>
  opH Tryd.prog G (sv (Instr.loadAt 30 (r 5))) h19 fun v20 h20 =>
  opH Tryd.prog G (callFunc 19 #[v20, (r 2), (r 3)]) h20 fun v21 h21 =>
  opH Tryd.prog G (sv (Instr.extract v21 0)) h21 fun v22 h22 =>
  opH Tryd.prog G (sv (Instr.extract v21 1)) h22 fun v23 h23 =>
  opH Tryd.prog G (sv (Instr.alloc 30 true (.tuple #[]))) h23 fun v24 h24 =>
  opH Tryd.prog G (su (Instr.storeAt 30 v24 v22)) h24 fun v25 h25 =>
  pureW Tryd.prog G h25 (sv (Instr.loadAt 30 (r 5))) h25 fun v26 h26 =>
  opH Tryd.prog G (callFunc 21 #[(r 9), v26]) h26 fun v27 h27 => h25.le h27 ∧
  pureW Tryd.prog G h25 (sv (Instr.loadAt 30 (r 5))) h27 fun v28 h28 =>
  opH Tryd.prog G (callFunc 22 #[v28]) h28 fun v29 h29 => h25.le h29 ∧
  opH Tryd.prog G (callFunc 20 #[v27, v29]) h29 fun v30 h30 => h25.le h30 ∧
  gd (wantB v30 true) (fun K1 => K1 (r 9) h30) h30 fun v31 h31 =>
  gd (wantB v30 true) (pureW Tryd.prog G h25 (sv (Instr.loadAt 30 (r 5))) h31) h31 fun v32 h32 =>
  gd (wantB v30 true) (fun K1 => opH Tryd.prog G (callFunc 23 #[v31, v32]) h32 fun v h' => h25.le h' ∧ K1 v h') h32 fun v33 h33 =>
  gd (wantB v30 true) (pureW Tryd.prog G h25 (sv (Instr.loadAt 26 (r 4))) h33) h33 fun v34 h34 =>
  gd (wantB v30 true) (pureW Tryd.prog G h25 (sv (Instr.loadAt 30 (r 5))) h34) h34 fun v35 h35 =>
  gd (wantB v30 true) (fun K1 => opH Tryd.prog G (callFunc 24 #[v34, v35]) h35 fun v h' => h25.le h' ∧ K1 v h') h35 fun v36 h36 =>
  gd (wantB v30 true) (pureW Tryd.prog G h25 (xEq .eql 4 (.tmp 0) (.tmp 0) v33 v36) h36) h36 fun v37 h37 =>
  pureW Tryd.prog noHp noHp (xPick v30 v37 (.bool false)) h37 fun v38 h38 =>
  gd (wantB v38 true) (pureW Tryd.prog G h25 (sv (Instr.loadAt 30 v18)) h38) h38 fun v39 h39 =>
  gd (wantB v38 true) (pureW Tryd.prog G h25 (sv (Instr.loadAt 30 v24)) h39) h39 fun v40 h40 =>
  gd (wantB v38 true) (pureW Tryd.prog G h25 (xEq .eql 30 (.tmp 0) (.tmp 0) v39 v40) h40) h40 fun v41 h41 =>
  pureW Tryd.prog noHp noHp (xPick v38 v41 (.bool false)) h41 fun v42 h42 =>
  gd (wantB v42 true) (fun K1 => K1 v17 h42) h42 fun v43 h43 =>
  gd (wantB v42 true) (fun K1 => K1 v23 h43) h43 fun v44 h44 =>
  gd (wantB v42 true) (pureW Tryd.prog G h25 (xEq .eql 4 (.tmp 0) (.tmp 0) v43 v44) h44) h44 fun v45 h45 =>
  pureW Tryd.prog noHp noHp (xPick v42 v45 (.bool false)) h45 fun v46 h46 =>
  gd (wantB v46 true) (opH Tryd.prog G (callFunc 17 #[]) h46) h46 fun v47 h47 =>
  pureW Tryd.prog noHp noHp (xPick v46 v47 (.bool false)) h47 fun v48 h48 =>
  K .ret (upd (upd (upd (upd (upd (upd (upd (upd (upd (upd (upd (upd (upd (upd (upd (upd (upd (upd (upd (upd (upd (upd (upd (upd (upd (upd (upd (upd (upd (upd (upd (upd (upd (upd (upd (upd (upd (upd (upd (upd (upd (upd (upd (upd (upd (upd (upd (upd r 36 (r 9)) 37 v14) 38 (r 2)) 39 (r 3)) 40 v15) 35 v15) 41 v16) 42 v17) 11 v18) 12 v17) 44 v20) 45 (r 2)) 46 (r 3)) 47 v21) 43 v21) 48 v22) 49 v23) 13 v24) 14 v23) 50 (r 9)) 51 v26) 52 v27) 53 v28) 54 v29) 55 v30) 56 v30) 57 v31) 58 v32) 59 v33) 60 v34) 61 v35) 62 v36) 63 v37) 64 v38) 65 v38) 66 v39) 67 v40) 68 v41) 69 v42) 70 v42) 71 v43) 72 v44) 73 v45) 74 v46) 75 v46) 76 v47) 77 v48) 8 v48) h48
def S3_k1 (G : Hp) (K : Exit → Rg → Hp → Prop) (r : Rg) (h : Hp) : Prop :=
  opH Tryd.prog G (xEq .neq 32 (.tmp 0) (.const .nilFunc) (r 10) (.int .i64 0)) h fun v10 h10 =>
  gd (wantB v10 false) (fun K1 => K1 (r 9) h10) h10 fun v11 h11 =>
  gd (wantB v10 false) (opH Tryd.prog G (xEq .eql 31 (.tmp 0) (.const .nilFunc) v11 (.pointer none)) h11) h11 fun v12 h12 =>
  opH Tryd.prog G (xPick v10 (.bool true) v12) h12 fun v13 h13 =>
  cond v13
  (K .ret (upd (upd (upd (upd (upd (upd (upd r 29 (r 10)) 30 v10) 31 v10) 32 v11) 33 v12) 34 v13) 8 (.bool false)) h13)
  (S3_k2 G K (upd (upd (upd (upd (upd (upd r 29 (r 10)) 30 v10) 31 v10) 32 v11) 33 v12) 34 v13) h13)
def S3 (G : Hp) (K : Exit → Rg → Hp → Prop) (r : Rg) (h : Hp) : Prop :=
  opH Tryd.prog G (sv (Instr.box 26 (r 0))) h fun v0 h0 =>
  opH Tryd.prog G (sv (Instr.box 30 (r 1))) h0 fun v1 h1 =>
  opH Tryd.prog G (sv (Instr.loadAt 26 v0)) h1 fun v2 h2 =>
  opH Tryd.prog G (callFunc 15 #[v2]) h2 fun v3 h3 =>
  opH Tryd.prog G (callFunc 14 #[v3]) h3 fun v4 h4 =>
  opH Tryd.prog G (sv (Instr.extract v4 0)) h4 fun v5 h5 =>
  opH Tryd.prog G (sv (Instr.extract v4 1)) h5 fun v6 h6 =>
  opH Tryd.prog G (sv (Instr.loadAt 26 v0)) h6 fun v7 h7 =>
  opH Tryd.prog G (callFunc 16 #[v7]) h7 fun v8 h8 =>
  opH Tryd.prog G (sv (Op.unary .not v8)) h8 fun v9 h9 =>
  cond v9
  (opH Tryd.prog G (xEq .eql 32 (.tmp 0) (.const .nilFunc) v6 (.int .i64 5)) h9 fun v49 h49 =>
  gd (wantB v49 true) (opH Tryd.prog G (callFunc 17 #[]) h49) h49 fun v50 h50 =>
  opH Tryd.prog G (xPick v49 v50 (.bool false)) h50 fun v51 h51 =>
  K .ret (upd (upd (upd (upd (upd (upd (upd (upd (upd (upd (upd (upd (upd (upd (upd (upd (upd (upd (upd (upd r 4 v0) 5 v1) 8 (.bool false)) 16 v2) 17 v3) 18 v4) 15 v4) 19 v5) 20 v6) 9 v5) 10 v6) 21 v7) 22 v8) 23 v9) 24 v6) 25 v49) 26 v49) 27 v50) 28 v51) 8 v51) h51)
  (S3_k1 G K (upd (upd (upd (upd (upd (upd (upd (upd (upd (upd (upd (upd (upd (upd r 4 v0) 5 v1) 8 (.bool false)) 16 v2) 17 v3) 18 v4) 15 v4) 19 v5) 20 v6) 9 v5) 10 v6) 21 v7) 22 v8) 23 v9) h9)
theorem S3_eq (G : Hp) (K : Exit → Rg → Hp → Prop) (r : Rg) (h : Hp) : wpC Tryd.prog G 78 md3 true (Tryd.f3.body.getD .skip) r h K = S3 G K r h := by kernel_rfl
theorem enter3 {G : Hp} {h : Hp} {args : Array Value} {R : Value → Hp → Prop} (hn : args.size ≤ 78) (H : S3 G (retK Tryd.prog G [.tmp 8] R) (regs args) h) : HCalls Tryd.prog G 3 args h R :=
  HCalls.enter (md := md3) mixed Tryd.func3 rfl hn (by rw [← S3_eq] at H; exact H)

/-! 4: skep/skeplaw07.GridAll: params #[26, 46], results #[4] -/
def md4 : Nat → Hint
  | 11 => ⟨false, [0, 0, 3, 7, 0, 31], [.pureN, .pureN, .pureN, .pureM, .pureM, .pureM], [.pureN, .pureN, .pureN, .pureM, .pureM, .pureM], [false, false, false, false, false, false], false⟩
  | _ => ⟨false, [], [], [], [], false⟩
def S4_k3 (G : Hp) (K : Exit → Rg → Hp → Prop) (r : Rg) (h : Hp) : Prop :=
  opH Tryd.prog G (xEq .eql 3 (.tmp 0) (.const .nilFunc) (r 8) (.int .i64 0)) h fun v30 h30 =>
  gd (wantB v30 true) (opH Tryd.prog G (callFunc 17 #[]) h30) h30 fun v31 h31 =>
  opH Tryd.prog G (xPick v30 v31 (.bool false)) h31 fun v32 h32 =>
  K .ret (upd (upd (upd (upd (upd (upd r 67 (r 8)) 68 v30) 69 v30) 70 v31) 71 v32) 4 v32) h32
def S4_k2 (G : Hp) (K : Exit → Rg → Hp → Prop) (r : Rg) (h : Hp) : Prop :=
  opH Tryd.prog G (sv (Instr.loadAt 46 (r 3))) h fun v19 h19 =>
  opH Tryd.prog G (callFunc 27 #[(r 5), v19]) h19 fun v20 h20 =>
  gd (wantB v20 true) (opH Tryd.prog G (sv (Instr.fieldAt 46 (r 3) 0)) h20) h20 fun v21 h21 =>
  gd (wantB v20 true) (opH Tryd.prog G (sv (Instr.loadAt 3 v21)) h21) h21 fun v22 h22 =>
  gd (wantB v20 true) (opH Tryd.prog G (xEq .eql 3 (.tmp 0) (.const .nilFunc) v22 (.int .i64 1)) h22) h22 fun v23 h23 =>
  gd (wantB v20 true) (fun K1 => K1 v23 h23) h23 fun v24 h24 =>
  gd (wantB v24 false) (opH Tryd.prog G (sv (Instr.fieldAt 46 (r 3) 0)) h24) h24 fun v25 h25 =>
  gd (wantB v24 false) (opH Tryd.prog G (sv (Instr.loadAt 3 v25)) h25) h25 fun v26 h26 =>
  gd (wantB v24 false) (opH Tryd.prog G (xEq .eql 3 (.tmp 0) (.const .nilFunc) v26 (.int .i64 2)) h26) h26 fun v27 h27 =>
  gd (wantB v20 true) (opH Tryd.prog G (xPick v24 (.bool true) v27) h27) h27 fun v28 h28 =>
  opH Tryd.prog G (xPick v20 v28 (.bool false)) h28 fun v29 h29 =>
  cond v29
  (opH Tryd.prog G (xEq .eql 3 (.tmp 0) (.const .nilFunc) (r 8) (.int .i64 1)) h29 fun v33 h33 =>
  gd (wantB v33 true) (opH Tryd.prog G (callFunc 17 #[]) h33) h33 fun v34 h34 =>
  opH Tryd.prog G (xPick v33 v34 (.bool false)) h34 fun v35 h35 =>
  K .ret (upd (upd (upd (upd (upd (upd (upd (upd (upd (upd (upd (upd (upd (upd (upd (upd (upd (upd (upd r 49 (r 5)) 50 v19) 51 v20) 52 v20) 53 v21) 54 v22) 55 v23) 56 v24) 57 v25) 58 v26) 59 v27) 60 v28) 61 v29) 62 (r 8)) 63 v33) 64 v33) 65 v34) 66 v35) 4 v35) h35)
  (S4_k3 G K (upd (upd (upd (upd (upd (upd (upd (upd (upd (upd (upd (upd (upd r 49 (r 5)) 50 v19) 51 v20) 52 v20) 53 v21) 54 v22) 55 v23) 56 v24) 57 v25) 58 v26) 59 v27) 60 v28) 61 v29) h29)
def S4_l4_k6 (G : Hp) (K : Exit → Rg → Hp → Prop) (r : Rg) (h : Hp) : Prop :=
  opH Tryd.prog G (sv (binOp .add 3 (r 9) (.int .i64 1))) h fun v38 h38 =>
  K .normal (upd (upd (upd r 39 (r 9)) 40 v38) 9 v38) h38
def S4_l4_k5 (G : Hp) (K : Exit → Rg → Hp → Prop) (r : Rg) (h : Hp) : Prop :=
  pureW Tryd.prog noHp noHp (sv (Instr.indexAt 47 (r 7) (r 9))) h fun v39 h39 =>
  pureW Tryd.prog G h (sv (Instr.loadAt 46 v39)) h39 fun v40 h40 =>
  pureW Tryd.prog G h (sv (Instr.loadAt 46 (r 3))) h40 fun v41 h41 =>
  pureW Tryd.prog G h (xEq .eql 46 (.tmp 0) (.tmp 0) v40 v41) h41 fun v42 h42 =>
  cond v42
  (opH Tryd.prog G (sv (binOp .add 3 (r 8) (.int .i64 1))) h42 fun v43 h43 =>
  S4_l4_k6 G K (upd (upd (upd (upd (upd (upd (upd (upd (upd r 41 (r 7)) 42 (r 9)) 43 v39) 44 v40) 45 v41) 46 v42) 47 (r 8)) 48 v43) 8 v43) h43)
  (S4_l4_k6 G K (upd (upd (upd (upd (upd (upd r 41 (r 7)) 42 (r 9)) 43 v39) 44 v40) 45 v41) 46 v42) h42)
def S4_l4 (G : Hp) (r : Rg) (h : Hp) (K : Exit → Rg → Hp → Prop) : Prop :=
  opH Tryd.prog G (sv (Builtin.len_ #[47] 3 #[(r 7)])) h fun v36 h36 =>
  opH Tryd.prog G (sv (binOp .lss 3 (r 9) v36)) h36 fun v37 h37 =>
  cond v37
  (S4_l4_k5 G K (upd (upd (upd (upd r 35 (r 9)) 36 (r 7)) 37 v36) 38 v37) h37)
  (K (.exit 0) (upd (upd (upd (upd r 35 (r 9)) 36 (r 7)) 37 v36) 38 v37) h37)
def S4_k1 (G : Hp) (K : Exit → Rg → Hp → Prop) (r : Rg) (h : Hp) : Prop :=
  opH Tryd.prog G (sv (Instr.fieldAt 46 (r 3) 5)) h fun v11 h11 =>
  opH Tryd.prog G (su (Instr.storeAt 3 v11 (.int .i64 0))) h11 fun v12 h12 =>
  opH Tryd.prog G (sv (Instr.fieldAt 46 (r 3) 6)) h12 fun v13 h13 =>
  opH Tryd.prog G (su (Instr.storeAt 3 v13 (.int .i64 0))) h13 fun v14 h14 =>
  opH Tryd.prog G (sv (Instr.fieldAt 46 (r 3) 3)) h14 fun v15 h15 =>
  opH Tryd.prog G (sv (Instr.loadAt 30 v15)) h15 fun v16 h16 =>
  opH Tryd.prog G (callFunc 26 #[(r 5), v16]) h16 fun v17 h17 =>
  opH Tryd.prog G (callFunc 25 #[v17, (.int .i64 1000)]) h17 fun v18 h18 =>
  loopP (S4_l4 G) (upd (upd (upd (upd (upd (upd (upd (upd (upd (upd r 28 v11) 29 v13) 30 (r 5)) 31 v15) 32 v16) 33 v17) 34 v18) 7 v18) 8 (.int .i64 0)) 9 (.int .i64 0)) h18 (blockK 0 (thenK (S4_k2 G K) K))
def S4 (G : Hp) (K : Exit → Rg → Hp → Prop) (r : Rg) (h : Hp) : Prop :=
  opH Tryd.prog G (sv (Instr.box 26 (r 0))) h fun v0 h0 =>
  opH Tryd.prog G (sv (Instr.box 46 (r 1))) h0 fun v1 h1 =>
  opH Tryd.prog G (sv (Instr.loadAt 26 v0)) h1 fun v2 h2 =>
  opH Tryd.prog G (callFunc 15 #[v2]) h2 fun v3 h3 =>
  opH Tryd.prog G (callFunc 14 #[v3]) h3 fun v4 h4 =>
  opH Tryd.prog G (sv (Instr.extract v4 0)) h4 fun v5 h5 =>
  opH Tryd.prog G (sv (Instr.extract v4 1)) h5 fun v6 h6 =>
  opH Tryd.prog G (xEq .neq 32 (.tmp 0) (.const .nilFunc) v6 (.int .i64 0)) h6 fun v7 h7 =>
  gd (wantB v7 false) (fun K1 => K1 v5 h7) h7 fun v8 h8 =>
  gd (wantB v7 false) (opH Tryd.prog G (xEq .eql 31 (.tmp 0) (.const .nilFunc) v8 (.pointer none)) h8) h8 fun v9 h9 =>
  opH Tryd.prog G (xPick v7 (.bool true) v9) h9 fun v10 h10 =>
  cond v10
  (opH Tryd.prog G (sv (Instr.loadAt 26 v0)) h10 fun v44 h44 =>
  opH Tryd.prog G (callFunc 16 #[v44]) h44 fun v45 h45 =>
  opH Tryd.prog G (sv (Op.unary .not v45)) h45 fun v46 h46 =>
  gd (wantB v46 true) (opH Tryd.prog G (callFunc 17 #[]) h46) h46 fun v47 h47 =>
  opH Tryd.prog G (xPick v46 v47 (.bool false)) h47 fun v48 h48 =>
  K .ret (upd (upd (upd (upd (upd (upd (upd (upd (upd (upd (upd (upd (upd (upd (upd (upd (upd (upd (upd (upd (upd (upd (upd (upd r 2 v0) 3 v1) 4 (.bool false)) 11 v2) 12 v3) 13 v4) 10 v4) 14 v5) 15 v6) 5 v5) 6 v6) 16 v6) 17 v7) 18 v7) 19 v8) 20 v9) 21 v10) 22 v44) 23 v45) 24 v46) 25 v46) 26 v47) 27 v48) 4 v48) h48)
  (S4_k1 G K (upd (upd (upd (upd (upd (upd (upd (upd (upd (upd (upd (upd (upd (upd (upd (upd (upd r 2 v0) 3 v1) 4 (.bool false)) 11 v2) 12 v3) 13 v4) 10 v4) 14 v5) 15 v6) 5 v5) 6 v6) 16 v6) 17 v7) 18 v7) 19 v8) 20 v9) 21 v10) h10)
theorem S4_eq (G : Hp) (K : Exit → Rg → Hp → Prop) (r : Rg) (h : Hp) : wpC Tryd.prog G 72 md4 true (Tryd.f4.body.getD .skip) r h K = S4 G K r h := by kernel_rfl
theorem enter4 {G : Hp} {h : Hp} {args : Array Value} {R : Value → Hp → Prop} (hn : args.size ≤ 72) (H : S4 G (retK Tryd.prog G [.tmp 4] R) (regs args) h) : HCalls Tryd.prog G 4 args h R :=
  HCalls.enter (md := md4) mixed Tryd.func4 rfl hn (by rw [← S4_eq] at H; exact H)

/-! 5: skep/skeplaw07.GridMay: params #[26], results #[4] -/
def md5 : Nat → Hint
  | _ => ⟨false, [], [], [], [], false⟩
def S5_k2 (G : Hp) (K : Exit → Rg → Hp → Prop) (r : Rg) (h : Hp) : Prop :=
  opH Tryd.prog G (xEq .neq 31 (.tmp 0) (.const .nilFunc) (r 3) (.pointer none)) h fun v13 h13 =>
  gd (wantB v13 true) (fun K1 => K1 (r 4) h13) h13 fun v14 h14 =>
  gd (wantB v13 true) (opH Tryd.prog G (xEq .eql 32 (.tmp 0) (.const .nilFunc) v14 (.int .i64 0)) h14) h14 fun v15 h15 =>
  opH Tryd.prog G (xPick v13 v15 (.bool false)) h15 fun v16 h16 =>
  gd (wantB v16 true) (opH Tryd.prog G (callFunc 17 #[]) h16) h16 fun v17 h17 =>
  opH Tryd.prog G (xPick v16 v17 (.bool false)) h17 fun v18 h18 =>
  K .ret (upd (upd (upd (upd (upd (upd (upd (upd (upd (upd r 30 (r 3)) 31 v13) 32 v13) 33 v14) 34 v15) 35 v16) 36 v16) 37 v17) 38 v18) 2 v18) h18
def S5_k1 (G : Hp) (K : Exit → Rg → Hp → Prop) (r : Rg) (h : Hp) : Prop :=
  opH Tryd.prog G (sv (Op.unary .not (r 5))) h fun v12 h12 =>
  cond v12
  (opH Tryd.prog G (xEq .eql 31 (.tmp 0) (.const .nilFunc) (r 3) (.pointer none)) h12 fun v19 h19 =>
  gd (wantB v19 true) (fun K1 => K1 (r 4) h19) h19 fun v20 h20 =>
  gd (wantB v19 true) (opH Tryd.prog G (xEq .eql 32 (.tmp 0) (.const .nilFunc) v20 (.int .i64 5)) h20) h20 fun v21 h21 =>
  opH Tryd.prog G (xPick v19 v21 (.bool false)) h21 fun v22 h22 =>
  gd (wantB v22 true) (opH Tryd.prog G (callFunc 17 #[]) h22) h22 fun v23 h23 =>
  opH Tryd.prog G (xPick v22 v23 (.bool false)) h23 fun v24 h24 =>
  K .ret (upd (upd (upd (upd (upd (upd (upd (upd (upd (upd (upd (upd r 19 (r 5)) 20 v12) 21 (r 3)) 22 v19) 23 v19) 24 v20) 25 v21) 26 v22) 27 v22) 28 v23) 29 v24) 2 v24) h24)
  (S5_k2 G K (upd (upd r 19 (r 5)) 20 v12) h12)
def S5 (G : Hp) (K : Exit → Rg → Hp → Prop) (r : Rg) (h : Hp) : Prop :=
  opH Tryd.prog G (sv (Instr.box 26 (r 0))) h fun v0 h0 =>
  opH Tryd.prog G (sv (Instr.loadAt 26 v0)) h0 fun v1 h1 =>
  opH Tryd.prog G (callFunc 15 #[v1]) h1 fun v2 h2 =>
  opH Tryd.prog G (callFunc 14 #[v2]) h2 fun v3 h3 =>
  opH Tryd.prog G (sv (Instr.extract v3 0)) h3 fun v4 h4 =>
  opH Tryd.prog G (sv (Instr.extract v3 1)) h4 fun v5 h5 =>
  opH Tryd.prog G (sv (Instr.loadAt 26 v0)) h5 fun v6 h6 =>
  opH Tryd.prog G (callFunc 16 #[v6]) h6 fun v7 h7 =>
  opH Tryd.prog G (sv (Instr.loadAt 26 v0)) h7 fun v8 h8 =>
  opH Tryd.prog G (callFunc 15 #[v8]) h8 fun v9 h9 =>
  opH Tryd.prog G (callFunc 28 #[v9]) h9 fun v10 h10 =>
  opH Tryd.prog G (xEq .neq 4 (.tmp 0) (.tmp 0) v10 v7) h10 fun v11 h11 =>
  cond v11
  (K .ret (upd (upd (upd (upd (upd (upd (upd (upd (upd (upd (upd (upd (upd (upd (upd (upd (upd (upd (upd r 1 v0) 2 (.bool false)) 7 v1) 8 v2) 9 v3) 6 v3) 10 v4) 11 v5) 3 v4) 4 v5) 12 v6) 13 v7) 5 v7) 14 v8) 15 v9) 16 v10) 17 v7) 18 v11) 2 (.bool false)) h11)
  (S5_k1 G K (upd (upd (upd (upd (upd (upd (upd (upd (upd (upd (upd (upd (upd (upd (upd (upd (upd (upd r 1 v0) 2 (.bool false)) 7 v1) 8 v2) 9 v3) 6 v3) 10 v4) 11 v5) 3 v4) 4 v5) 12 v6) 13 v7) 5 v7) 14 v8) 15 v9) 16 v10) 17 v7) 18 v11) h11)
theorem S5_eq (G : Hp) (K : Exit → Rg → Hp → Prop) (r : Rg) (h : Hp) : wpC Tryd.prog G 39 md5 true (Tryd.f5.body.getD .skip) r h K = S5 G K r h := by kernel_rfl
theorem enter5 {G : Hp} {h : Hp} {args : Array Value} {R : Value → Hp → Prop} (hn : args.size ≤ 39) (H : S5 G (retK Tryd.prog G [.tmp 2] R) (regs args) h) : HCalls Tryd.prog G 5 args h R :=
  HCalls.enter (md := md5) mixed Tryd.func5 rfl hn (by rw [← S5_eq] at H; exact H)

/-! 6: skep/skeplaw07.GridEdges: params #[3, 4, 4], results #[4] -/
def md6 : Nat → Hint
  | _ => ⟨false, [], [], [], [], false⟩
def S6_k2 (G : Hp) (K : Exit → Rg → Hp → Prop) (r : Rg) (h : Hp) : Prop :=
  opH Tryd.prog G (sv (Instr.indexAt 56 (r 8) (r 10))) h fun v20 h20 =>
  opH Tryd.prog G (sv (Instr.loadAt 55 v20)) h20 fun v21 h21 =>
  opH Tryd.prog G (xNil v21) h21 fun v22 h22 =>
  opH Tryd.prog G (su (Instr.storeAt 3 v22 (r 11))) h22 fun v23 h23 =>
  opH Tryd.prog G (sv (Instr.loadAt 26 (r 7))) h23 fun v24 h24 =>
  opH Tryd.prog G (callFunc 28 #[v24]) h24 fun v25 h25 =>
  opH Tryd.prog G (sv (Op.unary .not (r 2))) h25 fun v26 h26 =>
  opH Tryd.prog G (xEq .eql 4 (.tmp 0) (.tmp 0) v25 v26) h26 fun v27 h27 =>
  gd (wantB v27 true) (opH Tryd.prog G (callFunc 17 #[]) h27) h27 fun v28 h28 =>
  opH Tryd.prog G (xPick v27 v28 (.bool false)) h28 fun v29 h29 =>
  K .ret (upd (upd (upd (upd (upd (upd (upd (upd (upd (upd (upd (upd (upd (upd (upd r 40 (r 8)) 41 (r 10)) 42 v20) 43 v21) 44 (r 11)) 45 v22) 46 v24) 47 v25) 48 (r 2)) 49 v26) 50 v27) 51 v27) 52 v28) 53 v29) 6 v29) h29
def S6_k1 (G : Hp) (K : Exit → Rg → Hp → Prop) (r : Rg) (h : Hp) : Prop :=
  cond (r 2)
  (opH Tryd.prog G (sv (binOp .add 3 (r 11) (r 12))) h fun v30 h30 =>
  S6_k2 G K (upd (upd (upd (upd (upd r 36 (r 2)) 37 (r 11)) 38 (r 12)) 39 v30) 11 v30) h30)
  (S6_k2 G K (upd r 36 (r 2)) h)
def S6 (G : Hp) (K : Exit → Rg → Hp → Prop) (r : Rg) (h : Hp) : Prop :=
  opH Tryd.prog G (callFunc 29 #[]) h fun v0 h0 =>
  opH Tryd.prog G (sv (Instr.alloc 26 true (.tuple #[]))) h0 fun v1 h1 =>
  opH Tryd.prog G (su (Instr.storeAt 26 v1 v0)) h1 fun v2 h2 =>
  opH Tryd.prog G (sv (Instr.fieldAt 26 v1 0)) h2 fun v3 h3 =>
  opH Tryd.prog G (sv (Instr.fieldAt 26 v1 1)) h3 fun v4 h4 =>
  opH Tryd.prog G (sv (Instr.fieldAt 26 v1 2)) h4 fun v5 h5 =>
  opH Tryd.prog G (sv (Instr.fieldAt 26 v1 7)) h5 fun v6 h6 =>
  opH Tryd.prog G (sv (Instr.fieldAt 26 v1 8)) h6 fun v7 h7 =>
  opH Tryd.prog G (sv (Instr.fieldAt 26 v1 9)) h7 fun v8 h8 =>
  opH Tryd.prog G (sv (Instr.fieldAt 26 v1 10)) h8 fun v9 h9 =>
  opH Tryd.prog G (sv (Instr.fieldAt 26 v1 11)) h9 fun v10 h10 =>
  opH Tryd.prog G (sv (Instr.fieldAt 26 v1 13)) h10 fun v11 h11 =>
  opH Tryd.prog G (sv (Instr.fieldAt 26 v1 12)) h11 fun v12 h12 =>
  opH Tryd.prog G (sv (Instr.fieldAt 26 v1 14)) h12 fun v13 h13 =>
  opH Tryd.prog G (sv (Instr.buildSlice 56 11 #[(0, v3), (1, v4), (2, v5), (3, v6), (4, v7), (5, v8), (6, v9), (7, v10), (8, v11), (9, v12), (10, v13)])) h13 fun v14 h14 =>
  opH Tryd.prog G (sv (Instr.buildSlice 57 11 #[(0, (.int .i64 16)), (1, (.int .i64 16)), (2, (.int .i64 8)), (3, (.int .i64 1000)), (4, (.int .i64 1000)), (5, (.int .i64 1000)), (6, (.int .i64 1000)), (7, (.int .i64 1000)), (8, (.int .i64 1000)), (9, (.int .i64 16)), (10, (.int .i64 1048576))])) h14 fun v15 h15 =>
  opH Tryd.prog G (sv (Builtin.len_ #[56] 3 #[v14])) h15 fun v16 h16 =>
  opH Tryd.prog G (callFunc 30 #[(r 0), v16]) h16 fun v17 h17 =>
  opH Tryd.prog G (sv (Instr.indexAt 57 v15 v17)) h17 fun v18 h18 =>
  opH Tryd.prog G (sv (Instr.loadAt 3 v18)) h18 fun v19 h19 =>
  cond (r 1)
  (S6_k1 G K (upd (upd (upd (upd (upd (upd (upd (upd (upd (upd (upd (upd (upd (upd (upd (upd (upd (upd (upd (upd (upd (upd (upd (upd (upd (upd (upd (upd (upd (upd (upd (upd r 6 (.bool false)) 13 v0) 7 v1) 14 v3) 15 v4) 16 v5) 17 v6) 18 v7) 19 v8) 20 v9) 21 v10) 22 v11) 23 v12) 24 v13) 25 v14) 8 v14) 26 v15) 9 v15) 27 (r 0)) 28 v14) 29 v16) 30 v17) 10 v17) 31 v15) 32 v17) 33 v18) 34 v19) 11 v19) 12 (.int .i64 1)) 35 (r 1)) 11 (.int .i64 1)) 12 (.int .i64 (-1))) h19)
  (S6_k1 G K (upd (upd (upd (upd (upd (upd (upd (upd (upd (upd (upd (upd (upd (upd (upd (upd (upd (upd (upd (upd (upd (upd (upd (upd (upd (upd (upd (upd (upd (upd r 6 (.bool false)) 13 v0) 7 v1) 14 v3) 15 v4) 16 v5) 17 v6) 18 v7) 19 v8) 20 v9) 21 v10) 22 v11) 23 v12) 24 v13) 25 v14) 8 v14) 26 v15) 9 v15) 27 (r 0)) 28 v14) 29 v16) 30 v17) 10 v17) 31 v15) 32 v17) 33 v18) 34 v19) 11 v19) 12 (.int .i64 1)) 35 (r 1)) h19)
theorem S6_eq (G : Hp) (K : Exit → Rg → Hp → Prop) (r : Rg) (h : Hp) : wpC Tryd.prog G 54 md6 true (Tryd.f6.body.getD .skip) r h K = S6 G K r h := by kernel_rfl
theorem enter6 {G : Hp} {h : Hp} {args : Array Value} {R : Value → Hp → Prop} (hn : args.size ≤ 54) (H : S6 G (retK Tryd.prog G [.tmp 6] R) (regs args) h) : HCalls Tryd.prog G 6 args h R :=
  HCalls.enter (md := md6) mixed Tryd.func6 rfl hn (by rw [← S6_eq] at H; exact H)

/-! 7: skep/skeplaw07.GridCells: params #[26, 28], results #[4] -/
def md7 : Nat → Hint
  | 6 => ⟨true, [0, 0, 3, 0, 0, 31, 63, 127, 255, 255, 1023, 255, 255, 8191, 16383, 32767, 65535, 131071, 131071, 524287, 131071, 131071, 4194303, 8388607, 16777215, 33554431, 67108863, 67108863, 268435455, 67108863, 67108863, 2147483647, 4294967295, 8589934591, 17179869183, 34359738367, 68719476735, 137438953471], [.pureN, .pureM, .eff, .pureM, .pureM, .eff, .pureM, .pureN, .pureN, .pureM, .eff, .pureM, .pureM, .eff, .pureM, .pureN, .pureN, .pureN, .pureM, .eff, .pureM, .pureM, .eff, .pureM, .pureN, .pureN, .pureN, .pureM, .eff, .pureM, .pureM, .eff, .pureM, .pureN, .pureN, .eff, .pureN, .pureN], [.pureN, .pureM, .eff, .pureM, .pureM, .eff, .pureM, .pureN, .pureN, .pureM, .eff, .pureM, .pureM, .eff, .pureM, .pureN, .pureN, .pureN, .pureM, .eff, .pureM, .pureM, .eff, .pureM, .pureN, .pureN, .pureN, .pureM, .eff, .pureM, .pureM, .eff, .pureM, .pureN, .pureN, .eff, .pureN, .pureN], [false, false, true, false, false, true, false, false, false, false, true, false, false, true, false, false, false, false, false, true, false, false, true, false, false, false, false, false, true, false, false, true, false, false, false, false, false, false], false⟩
  | _ => ⟨false, [], [], [], [], false⟩
def S7_k2 (G : Hp) (K : Exit → Rg → Hp → Prop) (r : Rg) (h : Hp) : Prop :=
  pureW Tryd.prog G h (sv (Instr.loadAt 28 (r 3))) h fun v14 h14 =>
  opH Tryd.prog G (callFunc 31 #[(r 5), v14]) h14 fun v15 h15 => h.le h15 ∧
  pureW Tryd.prog G h (sv (Instr.loadAt 26 (r 2))) h15 fun v16 h16 =>
  pureW Tryd.prog G h (sv (Instr.loadAt 28 (r 3))) h16 fun v17 h17 =>
  opH Tryd.prog G (callFunc 32 #[v16, v17]) h17 fun v18 h18 => h.le h18 ∧
  pureW Tryd.prog G h (xEq .eql 4 (.tmp 0) (.tmp 0) v15 v18) h18 fun v19 h19 =>
  gd (wantB v19 true) (fun K1 => K1 (r 5) h19) h19 fun v20 h20 =>
  gd (wantB v19 true) (pureW Tryd.prog G h (sv (Instr.loadAt 28 (r 3))) h20) h20 fun v21 h21 =>
  gd (wantB v19 true) (fun K1 => opH Tryd.prog G (callFunc 33 #[v20, v21]) h21 fun v h' => h.le h' ∧ K1 v h') h21 fun v22 h22 =>
  gd (wantB v19 true) (pureW Tryd.prog G h (sv (Instr.loadAt 26 (r 2))) h22) h22 fun v23 h23 =>
  gd (wantB v19 true) (pureW Tryd.prog G h (sv (Instr.loadAt 28 (r 3))) h23) h23 fun v24 h24 =>
  gd (wantB v19 true) (fun K1 => opH Tryd.prog G (callFunc 34 #[v23, v24]) h24 fun v h' => h.le h' ∧ K1 v h') h24 fun v25 h25 =>
  gd (wantB v19 true) (pureW Tryd.prog G h (xEq .eql 3 (.tmp 0) (.tmp 0) v22 v25) h25) h25 fun v26 h26 =>
  pureW Tryd.prog noHp noHp (xPick v19 v26 (.bool false)) h26 fun v27 h27 =>
  gd (wantB v27 true) (fun K1 => K1 (r 5) h27) h27 fun v28 h28 =>
  gd (wantB v27 true) (pureW Tryd.prog G h (sv (Instr.loadAt 28 (r 3))) h28) h28 fun v29 h29 =>
  gd (wantB v27 true) (fun K1 => opH Tryd.prog G (callFunc 35 #[v28, v29]) h29 fun v h' => h.le h' ∧ K1 v h') h29 fun v30 h30 =>
  gd (wantB v27 true) (pureW Tryd.prog G h (sv (Instr.loadAt 26 (r 2))) h30) h30 fun v31 h31 =>
  gd (wantB v27 true) (pureW Tryd.prog G h (sv (Instr.loadAt 28 (r 3))) h31) h31 fun v32 h32 =>
  gd (wantB v27 true) (fun K1 => opH Tryd.prog G (callFunc 36 #[v31, v32]) h32 fun v h' => h.le h' ∧ K1 v h') h32 fun v33 h33 =>
  gd (wantB v27 true) (pureW Tryd.prog G h (xEq .eql 4 (.tmp 0) (.tmp 0) v30 v33) h33) h33 fun v34 h34 =>
  pureW Tryd.prog noHp noHp (xPick v27 v34 (.bool false)) h34 fun v35 h35 =>
  gd (wantB v35 true) (fun K1 => K1 (r 5) h35) h35 fun v36 h36 =>
  gd (wantB v35 true) (pureW Tryd.prog G h (sv (Instr.loadAt 28 (r 3))) h36) h36 fun v37 h37 =>
  gd (wantB v35 true) (fun K1 => opH Tryd.prog G (callFunc 37 #[v36, v37]) h37 fun v h' => h.le h' ∧ K1 v h') h37 fun v38 h38 =>
  gd (wantB v35 true) (pureW Tryd.prog G h (sv (Instr.loadAt 26 (r 2))) h38) h38 fun v39 h39 =>
  gd (wantB v35 true) (pureW Tryd.prog G h (sv (Instr.loadAt 28 (r 3))) h39) h39 fun v40 h40 =>
  gd (wantB v35 true) (fun K1 => opH Tryd.prog G (callFunc 38 #[v39, v40]) h40 fun v h' => h.le h' ∧ K1 v h') h40 fun v41 h41 =>
  gd (wantB v35 true) (pureW Tryd.prog G h (xEq .eql 3 (.tmp 0) (.tmp 0) v38 v41) h41) h41 fun v42 h42 =>
  pureW Tryd.prog noHp noHp (xPick v35 v42 (.bool false)) h42 fun v43 h43 =>
  gd (wantB v43 true) (opH Tryd.prog G (callFunc 17 #[]) h43) h43 fun v44 h44 =>
  pureW Tryd.prog noHp noHp (xPick v43 v44 (.bool false)) h44 fun v45 h45 =>
  K .ret (upd (upd (upd (upd (upd (upd (upd (upd (upd (upd (upd (upd (upd (upd (upd (upd (upd (upd (upd (upd (upd (upd (upd (upd (upd (upd (upd (upd (upd (upd (upd (upd (upd (upd (upd (upd (upd (upd r 27 (r 5)) 28 v14) 29 v15) 30 v16) 31 v17) 32 v18) 33 v19) 34 v19) 35 v20) 36 v21) 37 v22) 38 v23) 39 v24) 40 v25) 41 v26) 42 v27) 43 v27) 44 v28) 45 v29) 46 v30) 47 v31) 48 v32) 49 v33) 50 v34) 51 v35) 52 v35) 53 v36) 54 v37) 55 v38) 56 v39) 57 v40) 58 v41) 59 v42) 60 v43) 61 v43) 62 v44) 63 v45) 4 v45) h45
def S7_k1 (G : Hp) (K : Exit → Rg → Hp → Prop) (r : Rg) (h : Hp) : Prop :=
  opH Tryd.prog G (xEq .neq 32 (.tmp 0) (.const .nilFunc) (r 6) (.int .i64 0)) h fun v10 h10 =>
  gd (wantB v10 false) (fun K1 => K1 (r 5) h10) h10 fun v11 h11 =>
  gd (wantB v10 false) (opH Tryd.prog G (xEq .eql 31 (.tmp 0) (.const .nilFunc) v11 (.pointer none)) h11) h11 fun v12 h12 =>
  opH Tryd.prog G (xPick v10 (.bool true) v12) h12 fun v13 h13 =>
  cond v13
  (K .ret (upd (upd (upd (upd (upd (upd (upd r 21 (r 6)) 22 v10) 23 v10) 24 v11) 25 v12) 26 v13) 4 (.bool false)) h13)
  (S7_k2 G K (upd (upd (upd (upd (upd (upd r 21 (r 6)) 22 v10) 23 v10) 24 v11) 25 v12) 26 v13) h13)
def S7 (G : Hp) (K : Exit → Rg → Hp → Prop) (r : Rg) (h : Hp) : Prop :=
  opH Tryd.prog G (sv (Instr.box 26 (r 0))) h fun v0 h0 =>
  opH Tryd.prog G (sv (Instr.box 28 (r 1))) h0 fun v1 h1 =>
  opH Tryd.prog G (sv (Instr.loadAt 26 v0)) h1 fun v2 h2 =>
  opH Tryd.prog G (callFunc 15 #[v2]) h2 fun v3 h3 =>
  opH Tryd.prog G (callFunc 14 #[v3]) h3 fun v4 h4 =>
  opH Tryd.prog G (sv (Instr.extract v4 0)) h4 fun v5 h5 =>
  opH Tryd.prog G (sv (Instr.extract v4 1)) h5 fun v6 h6 =>
  opH Tryd.prog G (sv (Instr.loadAt 26 v0)) h6 fun v7 h7 =>
  opH Tryd.prog G (callFunc 16 #[v7]) h7 fun v8 h8 =>
  opH Tryd.prog G (sv (Op.unary .not v8)) h8 fun v9 h9 =>
  cond v9
  (opH Tryd.prog G (xEq .eql 32 (.tmp 0) (.const .nilFunc) v6 (.int .i64 5)) h9 fun v46 h46 =>
  gd (wantB v46 true) (opH Tryd.prog G (callFunc 17 #[]) h46) h46 fun v47 h47 =>
  opH Tryd.prog G (xPick v46 v47 (.bool false)) h47 fun v48 h48 =>
  K .ret (upd (upd (upd (upd (upd (upd (upd (upd (upd (upd (upd (upd (upd (upd (upd (upd (upd (upd (upd (upd r 2 v0) 3 v1) 4 (.bool false)) 8 v2) 9 v3) 10 v4) 7 v4) 11 v5) 12 v6) 5 v5) 6 v6) 13 v7) 14 v8) 15 v9) 16 v6) 17 v46) 18 v46) 19 v47) 20 v48) 4 v48) h48)
  (S7_k1 G K (upd (upd (upd (upd (upd (upd (upd (upd (upd (upd (upd (upd (upd (upd r 2 v0) 3 v1) 4 (.bool false)) 8 v2) 9 v3) 10 v4) 7 v4) 11 v5) 12 v6) 5 v5) 6 v6) 13 v7) 14 v8) 15 v9) h9)
theorem S7_eq (G : Hp) (K : Exit → Rg → Hp → Prop) (r : Rg) (h : Hp) : wpC Tryd.prog G 64 md7 true (Tryd.f7.body.getD .skip) r h K = S7 G K r h := by kernel_rfl
theorem enter7 {G : Hp} {h : Hp} {args : Array Value} {R : Value → Hp → Prop} (hn : args.size ≤ 64) (H : S7 G (retK Tryd.prog G [.tmp 4] R) (regs args) h) : HCalls Tryd.prog G 7 args h R :=
  HCalls.enter (md := md7) mixed Tryd.func7 rfl hn (by rw [← S7_eq] at H; exact H)

/-! 8: skep/skeplaw07.GridAway: params #[28, 28, 28], results #[4] -/
def md8 : Nat → Hint
  | 5 => ⟨false, [0, 0, 0, 6, 0, 0, 62, 126, 255, 511, 1023, 2047, 4095], [.pureN, .pureM, .pureM, .eff, .pureM, .pureM, .eff, .pureN, .pureN, .pureN, .eff, .pureN, .pureN], [.pureN, .pureM, .pureM, .eff, .pureM, .pureM, .eff, .pureN, .pureN, .pureN, .eff, .pureN, .pureN], [false, false, false, true, false, false, false, false, false, false, false, false, false], false⟩
  | _ => ⟨false, [], [], [], [], false⟩
def S8_k2 (G : Hp) (K : Exit → Rg → Hp → Prop) (r : Rg) (h : Hp) : Prop :=
  opH Tryd.prog G (callFunc 17 #[]) h fun v50 h50 =>
  K .ret (upd (upd r 71 v50) 6 v50) h50
def S8_k1 (G : Hp) (K : Exit → Rg → Hp → Prop) (r : Rg) (h : Hp) : Prop :=
  opH Tryd.prog G (sv (Instr.fieldAt 28 (r 3) 0)) h fun v21 h21 =>
  opH Tryd.prog G (sv (Instr.loadAt 3 v21)) h21 fun v22 h22 =>
  opH Tryd.prog G (sv (Instr.fieldAt 28 (r 3) 1)) h22 fun v23 h23 =>
  opH Tryd.prog G (sv (Instr.loadAt 3 v23)) h23 fun v24 h24 =>
  opH Tryd.prog G (sv (Instr.fieldAt 28 (r 4) 0)) h24 fun v25 h25 =>
  opH Tryd.prog G (sv (Instr.loadAt 3 v25)) h25 fun v26 h26 =>
  opH Tryd.prog G (sv (Instr.fieldAt 28 (r 4) 1)) h26 fun v27 h27 =>
  opH Tryd.prog G (sv (Instr.loadAt 3 v27)) h27 fun v28 h28 =>
  opH Tryd.prog G (sv (Instr.fieldAt 28 (r 5) 0)) h28 fun v29 h29 =>
  opH Tryd.prog G (sv (Instr.loadAt 3 v29)) h29 fun v30 h30 =>
  opH Tryd.prog G (sv (Instr.fieldAt 28 (r 5) 1)) h30 fun v31 h31 =>
  opH Tryd.prog G (sv (Instr.loadAt 3 v31)) h31 fun v32 h32 =>
  opH Tryd.prog G (sv (Builtin.max_ #[3, 3, 3, 3, 3, 3] 3 #[v22, v24, v26, v28, v30, v32])) h32 fun v33 h33 =>
  opH Tryd.prog G (sv (binOp .leq 3 v33 (.int .i64 1099511627776))) h33 fun v34 h34 =>
  gd (wantB v34 true) (opH Tryd.prog G (sv (Instr.fieldAt 28 (r 3) 0)) h34) h34 fun v35 h35 =>
  gd (wantB v34 true) (opH Tryd.prog G (sv (Instr.loadAt 3 v35)) h35) h35 fun v36 h36 =>
  gd (wantB v34 true) (opH Tryd.prog G (sv (Instr.fieldAt 28 (r 3) 1)) h36) h36 fun v37 h37 =>
  gd (wantB v34 true) (opH Tryd.prog G (sv (Instr.loadAt 3 v37)) h37) h37 fun v38 h38 =>
  gd (wantB v34 true) (opH Tryd.prog G (sv (Instr.fieldAt 28 (r 4) 0)) h38) h38 fun v39 h39 =>
  gd (wantB v34 true) (opH Tryd.prog G (sv (Instr.loadAt 3 v39)) h39) h39 fun v40 h40 =>
  gd (wantB v34 true) (opH Tryd.prog G (sv (Instr.fieldAt 28 (r 4) 1)) h40) h40 fun v41 h41 =>
  gd (wantB v34 true) (opH Tryd.prog G (sv (Instr.loadAt 3 v41)) h41) h41 fun v42 h42 =>
  gd (wantB v34 true) (opH Tryd.prog G (sv (Instr.fieldAt 28 (r 5) 0)) h42) h42 fun v43 h43 =>
  gd (wantB v34 true) (opH Tryd.prog G (sv (Instr.loadAt 3 v43)) h43) h43 fun v44 h44 =>
  gd (wantB v34 true) (opH Tryd.prog G (sv (Instr.fieldAt 28 (r 5) 1)) h44) h44 fun v45 h45 =>
  gd (wantB v34 true) (opH Tryd.prog G (sv (Instr.loadAt 3 v45)) h45) h45 fun v46 h46 =>
  gd (wantB v34 true) (opH Tryd.prog G (sv (Builtin.min_ #[3, 3, 3, 3, 3, 3] 3 #[v36, v38, v40, v42, v44, v46])) h46) h46 fun v47 h47 =>
  gd (wantB v34 true) (opH Tryd.prog G (sv (binOp .geq 3 v47 (.int .i64 (-1099511627776)))) h47) h47 fun v48 h48 =>
  opH Tryd.prog G (xPick v34 v48 (.bool false)) h48 fun v49 h49 =>
  cond v49
  (pureW Tryd.prog G h49 (sv (Instr.loadAt 28 (r 3))) h49 fun v51 h51 =>
  pureW Tryd.prog G h49 (sv (Instr.loadAt 28 (r 5))) h51 fun v52 h52 =>
  opH Tryd.prog G (callFunc 39 #[v51, v52]) h52 fun v53 h53 => h49.le h53 ∧
  pureW Tryd.prog G h49 (sv (Instr.loadAt 28 (r 5))) h53 fun v54 h54 =>
  pureW Tryd.prog G h49 (sv (Instr.loadAt 28 (r 4))) h54 fun v55 h55 =>
  opH Tryd.prog G (callFunc 39 #[v54, v55]) h55 fun v56 h56 =>
  pureW Tryd.prog noHp noHp (sv (binOp .add 3 v53 v56)) h56 fun v57 h57 =>
  pureW Tryd.prog noHp noHp (sv (binOp .leq 3 (r 7) v57)) h57 fun v58 h58 =>
  gd (wantB v58 true) (opH Tryd.prog G (callFunc 17 #[]) h58) h58 fun v59 h59 =>
  pureW Tryd.prog noHp noHp (xPick v58 v59 (.bool false)) h59 fun v60 h60 =>
  K .ret (upd (upd (upd (upd (upd (upd (upd (upd (upd (upd (upd (upd (upd (upd (upd (upd (upd (upd (upd (upd (upd (upd (upd (upd (upd (upd (upd (upd (upd (upd (upd (upd (upd (upd (upd (upd (upd (upd (upd (upd (upd (upd (upd r 29 v21) 30 v22) 31 v23) 32 v24) 33 v25) 34 v26) 35 v27) 36 v28) 37 v29) 38 v30) 39 v31) 40 v32) 41 v33) 42 v34) 43 v34) 44 v35) 45 v36) 46 v37) 47 v38) 48 v39) 49 v40) 50 v41) 51 v42) 52 v43) 53 v44) 54 v45) 55 v46) 56 v47) 57 v48) 58 v49) 59 (r 7)) 60 v51) 61 v52) 62 v53) 63 v54) 64 v55) 65 v56) 66 v57) 67 v58) 68 v58) 69 v59) 70 v60) 6 v60) h60)
  (S8_k2 G K (upd (upd (upd (upd (upd (upd (upd (upd (upd (upd (upd (upd (upd (upd (upd (upd (upd (upd (upd (upd (upd (upd (upd (upd (upd (upd (upd (upd (upd (upd r 29 v21) 30 v22) 31 v23) 32 v24) 33 v25) 34 v26) 35 v27) 36 v28) 37 v29) 38 v30) 39 v31) 40 v32) 41 v33) 42 v34) 43 v34) 44 v35) 45 v36) 46 v37) 47 v38) 48 v39) 49 v40) 50 v41) 51 v42) 52 v43) 53 v44) 54 v45) 55 v46) 56 v47) 57 v48) 58 v49) h49)
def S8 (G : Hp) (K : Exit → Rg → Hp → Prop) (r : Rg) (h : Hp) : Prop :=
  opH Tryd.prog G (sv (Instr.box 28 (r 0))) h fun v0 h0 =>
  opH Tryd.prog G (sv (Instr.box 28 (r 1))) h0 fun v1 h1 =>
  opH Tryd.prog G (sv (Instr.box 28 (r 2))) h1 fun v2 h2 =>
  opH Tryd.prog G (sv (Instr.loadAt 28 v0)) h2 fun v3 h3 =>
  opH Tryd.prog G (sv (Instr.loadAt 28 v1)) h3 fun v4 h4 =>
  opH Tryd.prog G (callFunc 39 #[v3, v4]) h4 fun v5 h5 =>
  opH Tryd.prog G (sv (Instr.loadAt 28 v0)) h5 fun v6 h6 =>
  opH Tryd.prog G (sv (Instr.loadAt 28 v1)) h6 fun v7 h7 =>
  opH Tryd.prog G (callFunc 40 #[v6, v7]) h7 fun v8 h8 =>
  opH Tryd.prog G (xEq .neq 3 (.tmp 0) (.tmp 0) v5 v8) h8 fun v9 h9 =>
  gd (wantB v9 false) (fun K1 => K1 v5 h9) h9 fun v10 h10 =>
  gd (wantB v9 false) (opH Tryd.prog G (sv (Instr.loadAt 28 v1)) h10) h10 fun v11 h11 =>
  gd (wantB v9 false) (opH Tryd.prog G (sv (Instr.loadAt 28 v0)) h11) h11 fun v12 h12 =>
  gd (wantB v9 false) (opH Tryd.prog G (callFunc 39 #[v11, v12]) h12) h12 fun v13 h13 =>
  gd (wantB v9 false) (opH Tryd.prog G (xEq .neq 3 (.tmp 0) (.tmp 0) v10 v13) h13) h13 fun v14 h14 =>
  opH Tryd.prog G (xPick v9 (.bool true) v14) h14 fun v15 h15 =>
  gd (wantB v15 false) (opH Tryd.prog G (sv (Instr.loadAt 28 v0)) h15) h15 fun v16 h16 =>
  gd (wantB v15 false) (opH Tryd.prog G (sv (Instr.loadAt 28 v0)) h16) h16 fun v17 h17 =>
  gd (wantB v15 false) (opH Tryd.prog G (callFunc 39 #[v16, v17]) h17) h17 fun v18 h18 =>
  gd (wantB v15 false) (opH Tryd.prog G (xEq .neq 3 (.tmp 0) (.const .nilFunc) v18 (.int .i64 0)) h18) h18 fun v19 h19 =>
  opH Tryd.prog G (xPick v15 (.bool true) v19) h19 fun v20 h20 =>
  cond v20
  (K .ret (upd (upd (upd (upd (upd (upd (upd (upd (upd (upd (upd (upd (upd (upd (upd (upd (upd (upd (upd (upd (upd (upd (upd (upd (upd (upd (upd r 3 v0) 4 v1) 5 v2) 6 (.bool false)) 8 v3) 9 v4) 10 v5) 7 v5) 11 v5) 12 v6) 13 v7) 14 v8) 15 v9) 16 v9) 17 v10) 18 v11) 19 v12) 20 v13) 21 v14) 22 v15) 23 v15) 24 v16) 25 v17) 26 v18) 27 v19) 28 v20) 6 (.bool false)) h20)
  (S8_k1 G K (upd (upd (upd (upd (upd (upd (upd (upd (upd (upd (upd (upd (upd (upd (upd (upd (upd (upd (upd (upd (upd (upd (upd (upd (upd (upd r 3 v0) 4 v1) 5 v2) 6 (.bool false)) 8 v3) 9 v4) 10 v5) 7 v5) 11 v5) 12 v6) 13 v7) 14 v8) 15 v9) 16 v9) 17 v10) 18 v11) 19 v12) 20 v13) 21 v14) 22 v15) 23 v15) 24 v16) 25 v17) 26 v18) 27 v19) 28 v20) h20)
theorem S8_eq (G : Hp) (K : Exit → Rg → Hp → Prop) (r : Rg) (h : Hp) : wpC Tryd.prog G 72 md8 true (Tryd.f8.body.getD .skip) r h K = S8 G K r h := by kernel_rfl
theorem enter8 {G : Hp} {h : Hp} {args : Array Value} {R : Value → Hp → Prop} (hn : args.size ≤ 72) (H : S8 G (retK Tryd.prog G [.tmp 6] R) (regs args) h) : HCalls Tryd.prog G 8 args h R :=
  HCalls.enter (md := md8) mixed Tryd.func8 rfl hn (by rw [← S8_eq] at H; exact H)

/-! 9: skep/skeplaw07.GridMoves: params #[26, 30, 3], results #[4] -/
def md9 : Nat → Hint
  | 11 => ⟨false, [0, 0, 3, 0, 0, 0, 32, 112, 248, 511, 1023, 2047, 4095, 8191, 4095, 32767, 65535, 131071], [.pureN, .pureN, .eff, .pureN, .pureN, .pureN, .pureM, .pureN, .pureN, .eff, .pureN, .pureN, .pureN, .eff, .pureN, .eff, .pureN, .pureN], [.pureN, .pureN, .eff, .pureN, .pureN, .pureN, .pureM, .pureN, .pureN, .eff, .pureN, .pureN, .pureN, .eff, .pureN, .eff, .pureN, .pureN], [false, false, true, false, false, false, false, false, false, false, false, false, false, false, false, false, false, false], false⟩
  | 13 => ⟨false, [0, 0, 3, 0, 0, 0, 32, 112, 248, 511, 1023, 2047, 4095, 2047, 16383, 32767, 65535, 131071, 262143, 524287], [.pureN, .pureN, .eff, .pureN, .pureN, .pureN, .pureM, .pureN, .pureN, .eff, .pureN, .pureN, .eff, .pureN, .eff, .pureN, .pureN, .eff, .pureN, .pureN], [.pureN, .pureN, .eff, .pureN, .pureN, .pureN, .pureM, .pureN, .pureN, .eff, .pureN, .pureN, .eff, .pureN, .eff, .pureN, .pureN, .eff, .pureN, .pureN], [false, false, true, false, false, false, false, false, false, false, false, false, false, false, false, false, false, false, false, false], false⟩
  | _ => ⟨false, [], [], [], [], false⟩
def S9_k3 (G : Hp) (K : Exit → Rg → Hp → Prop) (r : Rg) (h : Hp) : Prop :=
  opH Tryd.prog G (callFunc 45 #[(r 10), (r 13)]) h fun v36 h36 => h.le h36 ∧
  pureW Tryd.prog G h (sv (Builtin.len_ #[22] 3 #[(r 12)])) h36 fun v37 h37 =>
  pureW Tryd.prog noHp noHp (sv (Builtin.min_ #[3, 3] 3 #[(r 13), v37])) h37 fun v38 h38 =>
  pureW Tryd.prog noHp noHp (sv (Instr.sliceAt 22 (r 12) none (some v38) none)) h38 fun v39 h39 =>
  opH Tryd.prog G (callFunc 20 #[v36, v39]) h39 fun v40 h40 =>
  gd (wantB v40 true) (fun K1 => K1 (r 10) h40) h40 fun v41 h41 =>
  gd (wantB v40 true) (opH Tryd.prog G (callFunc 45 #[v41, (.int .i64 1000)]) h41) h41 fun v42 h42 =>
  gd (wantB v40 true) (fun K1 => K1 (r 12) h42) h42 fun v43 h43 =>
  gd (wantB v40 true) (opH Tryd.prog G (callFunc 20 #[v42, v43]) h43) h43 fun v44 h44 =>
  pureW Tryd.prog noHp noHp (xPick v40 v44 (.bool false)) h44 fun v45 h45 =>
  gd (wantB v45 true) (opH Tryd.prog G (callFunc 17 #[]) h45) h45 fun v46 h46 =>
  pureW Tryd.prog noHp noHp (xPick v45 v46 (.bool false)) h46 fun v47 h47 =>
  K .ret (upd (upd (upd (upd (upd (upd (upd (upd (upd (upd (upd (upd (upd (upd (upd (upd (upd (upd (upd (upd r 65 (r 10)) 66 (r 13)) 67 v36) 68 (r 12)) 69 (r 13)) 70 (r 12)) 71 v37) 72 v38) 73 v39) 74 v40) 75 v40) 76 v41) 77 v42) 78 v43) 79 v44) 80 v45) 81 v45) 82 v46) 83 v47) 6 v47) h47
def S9_k2 (G : Hp) (K : Exit → Rg → Hp → Prop) (r : Rg) (h : Hp) : Prop :=
  opH Tryd.prog G (sv (Instr.loadAt 30 (r 4))) h fun v14 h14 =>
  opH Tryd.prog G (callFunc 26 #[(r 7), v14]) h14 fun v15 h15 =>
  opH Tryd.prog G (callFunc 41 #[(r 7)]) h15 fun v16 h16 =>
  opH Tryd.prog G (sv (Instr.loadAt 26 (r 3))) h16 fun v17 h17 =>
  opH Tryd.prog G (sv (Instr.loadAt 30 (r 4))) h17 fun v18 h18 =>
  opH Tryd.prog G (callFunc 42 #[v17, v18]) h18 fun v19 h19 =>
  opH Tryd.prog G (sv (Instr.loadAt 26 (r 3))) h19 fun v20 h20 =>
  opH Tryd.prog G (callFunc 43 #[v20]) h20 fun v21 h21 =>
  opH Tryd.prog G (callFunc 30 #[(r 2), (.int .i64 70)]) h21 fun v22 h22 =>
  opH Tryd.prog G (sv (binOp .add 3 (.int .i64 1) v22)) h22 fun v23 h23 =>
  opH Tryd.prog G (callFunc 25 #[v15, v23]) h23 fun v24 h24 => h23.le h24 ∧
  pureW Tryd.prog G h23 (sv (Builtin.len_ #[47] 3 #[v19])) h24 fun v25 h25 =>
  pureW Tryd.prog noHp noHp (sv (Builtin.min_ #[3, 3] 3 #[v23, v25])) h25 fun v26 h26 =>
  pureW Tryd.prog noHp noHp (sv (Instr.sliceAt 47 v19 none (some v26) none)) h26 fun v27 h27 =>
  opH Tryd.prog G (callFunc 44 #[v24, v27]) h27 fun v28 h28 =>
  pureW Tryd.prog noHp noHp (sv (Op.unary .not v28)) h28 fun v29 h29 =>
  gd (wantB v29 false) (fun K1 => K1 v15 h29) h29 fun v30 h30 =>
  gd (wantB v29 false) (opH Tryd.prog G (callFunc 25 #[v30, (.int .i64 1000)]) h30) h30 fun v31 h31 =>
  gd (wantB v29 false) (fun K1 => K1 v19 h31) h31 fun v32 h32 =>
  gd (wantB v29 false) (opH Tryd.prog G (callFunc 44 #[v31, v32]) h32) h32 fun v33 h33 =>
  gd (wantB v29 false) (pureW Tryd.prog noHp noHp (sv (Op.unary .not v33)) h33) h33 fun v34 h34 =>
  pureW Tryd.prog noHp noHp (xPick v29 (.bool true) v34) h34 fun v35 h35 =>
  cond v35
  (K .ret (upd (upd (upd (upd (upd (upd (upd (upd (upd (upd (upd (upd (upd (upd (upd (upd (upd (upd (upd (upd (upd (upd (upd (upd (upd (upd (upd (upd (upd (upd (upd (upd (upd (upd (upd (upd (upd r 34 (r 7)) 35 v14) 36 v15) 9 v15) 37 (r 7)) 38 v16) 10 v16) 39 v17) 40 v18) 41 v19) 11 v19) 42 v20) 43 v21) 12 v21) 44 (r 2)) 45 v22) 46 v23) 13 v23) 47 v15) 48 v23) 49 v24) 50 v19) 51 v23) 52 v19) 53 v25) 54 v26) 55 v27) 56 v28) 57 v29) 58 v29) 59 v30) 60 v31) 61 v32) 62 v33) 63 v34) 64 v35) 6 (.bool false)) h35)
  (S9_k3 G K (upd (upd (upd (upd (upd (upd (upd (upd (upd (upd (upd (upd (upd (upd (upd (upd (upd (upd (upd (upd (upd (upd (upd (upd (upd (upd (upd (upd (upd (upd (upd (upd (upd (upd (upd (upd r 34 (r 7)) 35 v14) 36 v15) 9 v15) 37 (r 7)) 38 v16) 10 v16) 39 v17) 40 v18) 41 v19) 11 v19) 42 v20) 43 v21) 12 v21) 44 (r 2)) 45 v22) 46 v23) 13 v23) 47 v15) 48 v23) 49 v24) 50 v19) 51 v23) 52 v19) 53 v25) 54 v26) 55 v27) 56 v28) 57 v29) 58 v29) 59 v30) 60 v31) 61 v32) 62 v33) 63 v34) 64 v35) h35)
def S9_k1 (G : Hp) (K : Exit → Rg → Hp → Prop) (r : Rg) (h : Hp) : Prop :=
  opH Tryd.prog G (xEq .neq 32 (.tmp 0) (.const .nilFunc) (r 8) (.int .i64 0)) h fun v10 h10 =>
  gd (wantB v10 false) (fun K1 => K1 (r 7) h10) h10 fun v11 h11 =>
  gd (wantB v10 false) (opH Tryd.prog G (xEq .eql 31 (.tmp 0) (.const .nilFunc) v11 (.pointer none)) h11) h11 fun v12 h12 =>
  opH Tryd.prog G (xPick v10 (.bool true) v12) h12 fun v13 h13 =>
  cond v13
  (K .ret (upd (upd (upd (upd (upd (upd (upd r 28 (r 8)) 29 v10) 30 v10) 31 v11) 32 v12) 33 v13) 6 (.bool false)) h13)
  (S9_k2 G K (upd (upd (upd (upd (upd (upd r 28 (r 8)) 29 v10) 30 v10) 31 v11) 32 v12) 33 v13) h13)
def S9 (G : Hp) (K : Exit → Rg → Hp → Prop) (r : Rg) (h : Hp) : Prop :=
  opH Tryd.prog G (sv (Instr.box 26 (r 0))) h fun v0 h0 =>
  opH Tryd.prog G (sv (Instr.box 30 (r 1))) h0 fun v1 h1 =>
  opH Tryd.prog G (sv (Instr.loadAt 26 v0)) h1 fun v2 h2 =>
  opH Tryd.prog G (callFunc 15 #[v2]) h2 fun v3 h3 =>
  opH Tryd.prog G (callFunc 14 #[v3]) h3 fun v4 h4 =>
  opH Tryd.prog G (sv (Instr.extract v4 0)) h4 fun v5 h5 =>
  opH Tryd.prog G (sv (Instr.extract v4 1)) h5 fun v6 h6 =>
  opH Tryd.prog G (sv (Instr.loadAt 26 v0)) h6 fun v7 h7 =>
  opH Tryd.prog G (callFunc 16 #[v7]) h7 fun v8 h8 =>
  opH Tryd.prog G (sv (Op.unary .not v8)) h8 fun v9 h9 =>
  cond v9
  (opH Tryd.prog G (xEq .eql 32 (.tmp 0) (.const .nilFunc) v6 (.int .i64 5)) h9 fun v48 h48 =>
  gd (wantB v48 true) (opH Tryd.prog G (callFunc 17 #[]) h48) h48 fun v49 h49 =>
  opH Tryd.prog G (xPick v48 v49 (.bool false)) h49 fun v50 h50 =>
  K .ret (upd (upd (upd (upd (upd (upd (upd (upd (upd (upd (upd (upd (upd (upd (upd (upd (upd (upd (upd (upd r 3 v0) 4 v1) 6 (.bool false)) 15 v2) 16 v3) 17 v4) 14 v4) 18 v5) 19 v6) 7 v5) 8 v6) 20 v7) 21 v8) 22 v9) 23 v6) 24 v48) 25 v48) 26 v49) 27 v50) 6 v50) h50)
  (S9_k1 G K (upd (upd (upd (upd (upd (upd (upd (upd (upd (upd (upd (upd (upd (upd r 3 v0) 4 v1) 6 (.bool false)) 15 v2) 16 v3) 17 v4) 14 v4) 18 v5) 19 v6) 7 v5) 8 v6) 20 v7) 21 v8) 22 v9) h9)
theorem S9_eq (G : Hp) (K : Exit → Rg → Hp → Prop) (r : Rg) (h : Hp) : wpC Tryd.prog G 84 md9 true (Tryd.f9.body.getD .skip) r h K = S9 G K r h := by kernel_rfl
theorem enter9 {G : Hp} {h : Hp} {args : Array Value} {R : Value → Hp → Prop} (hn : args.size ≤ 84) (H : S9 G (retK Tryd.prog G [.tmp 6] R) (regs args) h) : HCalls Tryd.prog G 9 args h R :=
  HCalls.enter (md := md9) mixed Tryd.func9 rfl hn (by rw [← S9_eq] at H; exact H)

/-! 39: skep/grid.Away: params #[28, 28], results #[3] -/
def md39 : Nat → Hint
  | 8 => ⟨false, [0, 0, 2, 0, 8, 31, 0, 0, 128, 0, 512, 2047, 4095, 8191], [.pureN, .pureN, .pureM, .pureN, .pureM, .eff, .pureN, .pureN, .pureM, .pureN, .pureM, .eff, .pureN, .pureN], [.pureN, .pureN, .pureM, .pureN, .pureM, .eff, .pureN, .pureN, .pureM, .pureN, .pureM, .eff, .pureN, .pureN], [false, false, false, false, false, true, false, false, false, false, false, false, false, false], false⟩
  | _ => ⟨false, [], [], [], [], false⟩
def S39_k1 (G : Hp) (K : Exit → Rg → Hp → Prop) (r : Rg) (h : Hp) : Prop :=
  pureW Tryd.prog noHp noHp (sv (Instr.fieldAt 28 (r 2) 0)) h fun v11 h11 =>
  pureW Tryd.prog G h (sv (Instr.loadAt 3 v11)) h11 fun v12 h12 =>
  pureW Tryd.prog noHp noHp (sv (Instr.fieldAt 28 (r 3) 0)) h12 fun v13 h13 =>
  pureW Tryd.prog G h (sv (Instr.loadAt 3 v13)) h13 fun v14 h14 =>
  opH Tryd.prog G (xCallV (.func (.func 64) #[] #[]) #[v12, v14]) h14 fun v15 h15 => h.le h15 ∧
  pureW Tryd.prog noHp noHp (sv (Instr.fieldAt 28 (r 2) 1)) h15 fun v16 h16 =>
  pureW Tryd.prog G h (sv (Instr.loadAt 3 v16)) h16 fun v17 h17 =>
  pureW Tryd.prog noHp noHp (sv (Instr.fieldAt 28 (r 3) 1)) h17 fun v18 h18 =>
  pureW Tryd.prog G h (sv (Instr.loadAt 3 v18)) h18 fun v19 h19 =>
  opH Tryd.prog G (xCallV (.func (.func 64) #[] #[]) #[v17, v19]) h19 fun v20 h20 =>
  pureW Tryd.prog noHp noHp (sv (binOp .add 3 v15 v20)) h20 fun v21 h21 =>
  K .ret (upd (upd (upd (upd (upd (upd (upd (upd (upd (upd (upd (upd (upd (upd (upd r 7 (.func (.func 64) #[] #[])) 24 (.func (.func 64) #[] #[])) 25 v11) 26 v12) 27 v13) 28 v14) 29 v15) 30 (.func (.func 64) #[] #[])) 31 v16) 32 v17) 33 v18) 34 v19) 35 v20) 36 v21) 4 v21) h21
def S39_l2_k4 (G : Hp) (K : Exit → Rg → Hp → Prop) (r : Rg) (h : Hp) : Prop :=
  opH Tryd.prog G (sv (binOp .add 3 (r 17) (.int .i64 1))) h fun v23 h23 =>
  K .normal (upd (upd r 23 v23) 17 v23) h23
def S39_l2_k3 (G : Hp) (K : Exit → Rg → Hp → Prop) (r : Rg) (h : Hp) : Prop :=
  opH Tryd.prog G (sv (Instr.index 87 (r 16) (r 17))) h fun v24 h24 =>
  opH Tryd.prog G (callFunc 57 #[v24, (.int .i64 (-1099511627776)), (.int .i64 1099511627776)]) h24 fun v25 h25 =>
  opH Tryd.prog G (sv (Op.unary .not v25)) h25 fun v26 h26 =>
  cond v26
  (K .ret (upd (upd (upd (upd (upd (upd r 19 v24) 6 v24) 20 v24) 21 v25) 22 v26) 4 (.int .i64 0)) h26)
  (S39_l2_k4 G K (upd (upd (upd (upd (upd r 19 v24) 6 v24) 20 v24) 21 v25) 22 v26) h26)
def S39_l2 (G : Hp) (r : Rg) (h : Hp) (K : Exit → Rg → Hp → Prop) : Prop :=
  opH Tryd.prog G (sv (binOp .lss 3 (r 17) (.int .i64 4))) h fun v22 h22 =>
  cond v22
  (S39_l2_k3 G K (upd r 18 v22) h22)
  (K (.exit 0) (upd r 18 v22) h22)
def S39 (G : Hp) (K : Exit → Rg → Hp → Prop) (r : Rg) (h : Hp) : Prop :=
  opH Tryd.prog G (sv (Instr.box 28 (r 0))) h fun v0 h0 =>
  opH Tryd.prog G (sv (Instr.box 28 (r 1))) h0 fun v1 h1 =>
  opH Tryd.prog G (sv (Instr.fieldAt 28 v0 0)) h1 fun v2 h2 =>
  opH Tryd.prog G (sv (Instr.loadAt 3 v2)) h2 fun v3 h3 =>
  opH Tryd.prog G (sv (Instr.fieldAt 28 v0 1)) h3 fun v4 h4 =>
  opH Tryd.prog G (sv (Instr.loadAt 3 v4)) h4 fun v5 h5 =>
  opH Tryd.prog G (sv (Instr.fieldAt 28 v1 0)) h5 fun v6 h6 =>
  opH Tryd.prog G (sv (Instr.loadAt 3 v6)) h6 fun v7 h7 =>
  opH Tryd.prog G (sv (Instr.fieldAt 28 v1 1)) h7 fun v8 h8 =>
  opH Tryd.prog G (sv (Instr.loadAt 3 v8)) h8 fun v9 h9 =>
  opH Tryd.prog G (sv (Instr.build 87 #[(0, v3), (1, v5), (2, v7), (3, v9)])) h9 fun v10 h10 =>
  loopP (S39_l2 G) (upd (upd (upd (upd (upd (upd (upd (upd (upd (upd (upd (upd (upd r 2 v0) 3 v1) 4 (.int .i64 0)) 8 v2) 9 v3) 10 v4) 11 v5) 12 v6) 13 v7) 14 v8) 15 v9) 16 v10) 17 (.int .i64 0)) h10 (blockK 0 (thenK (S39_k1 G K) K))
theorem S39_eq (G : Hp) (K : Exit → Rg → Hp → Prop) (r : Rg) (h : Hp) : wpC Tryd.prog G 37 md39 true (Tryd.f39.body.getD .skip) r h K = S39 G K r h := by kernel_rfl
theorem enter39 {G : Hp} {h : Hp} {args : Array Value} {R : Value → Hp → Prop} (hn : args.size ≤ 37) (H : S39 G (retK Tryd.prog G [.tmp 4] R) (regs args) h) : HCalls Tryd.prog G 39 args h R :=
  HCalls.enter (md := md39) mixed Tryd.func39 rfl hn (by rw [← S39_eq] at H; exact H)

/-! 64: skep/grid.Away$1: params #[3, 3], results #[3] -/
def md64 : Nat → Hint
  | _ => ⟨false, [], [], [], [], false⟩
def S64 (G : Hp) (K : Exit → Rg → Hp → Prop) (r : Rg) (h : Hp) : Prop :=
  opH Tryd.prog G (sv (binOp .sub 3 (r 0) (r 1))) h fun v0 h0 =>
  opH Tryd.prog G (sv (binOp .sub 3 (r 1) (r 0))) h0 fun v1 h1 =>
  opH Tryd.prog G (sv (Builtin.max_ #[3, 3] 3 #[v0, v1])) h1 fun v2 h2 =>
  K .ret (upd (upd (upd (upd (upd (upd (upd (upd (upd r 4 (.int .i64 0)) 5 (r 0)) 6 (r 1)) 7 v0) 8 (r 1)) 9 (r 0)) 10 v1) 11 v2) 4 v2) h2
theorem S64_eq (G : Hp) (K : Exit → Rg → Hp → Prop) (r : Rg) (h : Hp) : wpC Tryd.prog G 12 md64 true (Tryd.f64.body.getD .skip) r h K = S64 G K r h := by kernel_rfl
theorem enter64 {G : Hp} {h : Hp} {args : Array Value} {R : Value → Hp → Prop} (hn : args.size ≤ 12) (H : S64 G (retK Tryd.prog G [.tmp 4] R) (regs args) h) : HCalls Tryd.prog G 64 args h R :=
  HCalls.enter (md := md64) mixed Tryd.func64 rfl hn (by rw [← S64_eq] at H; exact H)

/-! 41: (*skep/grid.Grid).Stacks: params #[31], results #[67] -/
def md41 : Nat → Hint
  | _ => ⟨false, [], [], [], [], false⟩
def S41 (G : Hp) (K : Exit → Rg → Hp → Prop) (r : Rg) (h : Hp) : Prop :=
  opH Tryd.prog G (sv (Instr.box 31 (r 0))) h fun v0 h0 =>
  K .ret (upd (upd (upd (upd r 1 v0) 2 .nilFunc) 3 (.func (.func 66) #[] #[v0])) 2 (.func (.func 66) #[] #[v0])) h0
theorem S41_eq (G : Hp) (K : Exit → Rg → Hp → Prop) (r : Rg) (h : Hp) : wpC Tryd.prog G 4 md41 true (Tryd.f41.body.getD .skip) r h K = S41 G K r h := by kernel_rfl
theorem enter41 {G : Hp} {h : Hp} {args : Array Value} {R : Value → Hp → Prop} (hn : args.size ≤ 4) (H : S41 G (retK Tryd.prog G [.tmp 2] R) (regs args) h) : HCalls Tryd.prog G 41 args h R :=
  HCalls.enter (md := md41) mixed Tryd.func41 rfl hn (by rw [← S41_eq] at H; exact H)

/-! 66: (*skep/grid.Grid).Stacks$1: params #[60], results #[] -/
def md66 : Nat → Hint
  | 4 => ⟨false, [0, 1, 3, 7, 7, 7, 39, 103, 231, 503, 7, 7, 2055, 6151, 14343, 31751, 65527, 131071, 262143, 524287], [.pureN, .pureM, .pureN, .pureN, .pureN, .pureM, .pureN, .pureN, .pureM, .pureN, .pureN, .pureM, .pureN, .pureN, .pureM, .pureN, .pureN, .eff, .pureN, .pureN], [.pureN, .pureM, .pureN, .pureN, .pureN, .pureM, .pureN, .pureN, .pureM, .pureN, .pureN, .pureM, .pureN, .pureN, .pureM, .pureN, .pureN, .eff, .pureN, .pureN], [false, false, false, false, false, false, false, false, false, false, false, false, false, false, false, false, false, false, false, false], false⟩
  | _ => ⟨false, [], [], [], [], false⟩
def S66_l2_k4 (G : Hp) (K : Exit → Rg → Hp → Prop) (r : Rg) (h : Hp) : Prop :=
  opH Tryd.prog G (sv (binOp .add 3 (r 12) (.int .i64 1))) h fun v8 h8 =>
  K .normal (upd (upd r 37 v8) 12 v8) h8
def S66_l2_k3 (G : Hp) (K : Exit → Rg → Hp → Prop) (r : Rg) (h : Hp) : Prop :=
  opH Tryd.prog G (sv (Instr.indexAt 57 (r 10) (r 12))) h fun v9 h9 =>
  opH Tryd.prog G (sv (Instr.loadAt 3 v9)) h9 fun v10 h10 =>
  pureW Tryd.prog G h10 (xEq .eql 3 (.tmp 0) (.const .nilFunc) v10 (.int .i64 0)) h10 fun v11 h11 =>
  gd (wantB v11 true) (fun K1 => K1 (r 0) h11) h11 fun v12 h12 =>
  gd (wantB v11 true) (fun K1 => K1 (r 12) h12) h12 fun v13 h13 =>
  gd (wantB v11 true) (pureW Tryd.prog G h10 (sv (Instr.loadAt 31 (r 1))) h13) h13 fun v14 h14 =>
  gd (wantB v11 true) (pureW Tryd.prog noHp noHp (xNil v14) h14) h14 fun v15 h15 =>
  gd (wantB v11 true) (pureW Tryd.prog noHp noHp (sv (Instr.fieldAt 86 v15 0)) h15) h15 fun v16 h16 =>
  gd (wantB v11 true) (pureW Tryd.prog G h10 (sv (Instr.loadAt 3 v16)) h16) h16 fun v17 h17 =>
  gd (wantB v11 true) (pureW Tryd.prog noHp noHp (sv (binOp .rem 3 v13 v17)) h17) h17 fun v18 h18 =>
  gd (wantB v11 true) (fun K1 => K1 (r 12) h18) h18 fun v19 h19 =>
  gd (wantB v11 true) (pureW Tryd.prog G h10 (sv (Instr.loadAt 31 (r 1))) h19) h19 fun v20 h20 =>
  gd (wantB v11 true) (pureW Tryd.prog noHp noHp (xNil v20) h20) h20 fun v21 h21 =>
  gd (wantB v11 true) (pureW Tryd.prog noHp noHp (sv (Instr.fieldAt 86 v21 0)) h21) h21 fun v22 h22 =>
  gd (wantB v11 true) (pureW Tryd.prog G h10 (sv (Instr.loadAt 3 v22)) h22) h22 fun v23 h23 =>
  gd (wantB v11 true) (pureW Tryd.prog noHp noHp (sv (binOp .quo 3 v19 v23)) h23) h23 fun v24 h24 =>
  gd (wantB v11 true) (pureW Tryd.prog noHp noHp (sv (Instr.build 28 #[(0, v18), (1, v24)])) h24) h24 fun v25 h25 =>
  gd (wantB v11 true) (opH Tryd.prog G (xCallV v12 #[v25]) h25) h25 fun v26 h26 =>
  gd (wantB v11 true) (pureW Tryd.prog noHp noHp (sv (Op.unary .not v26)) h26) h26 fun v27 h27 =>
  pureW Tryd.prog noHp noHp (xPick v11 v27 (.bool false)) h27 fun v28 h28 =>
  cond v28
  (K .ret (upd (upd (upd (upd (upd (upd (upd (upd (upd (upd (upd (upd (upd (upd (upd (upd (upd (upd (upd (upd (upd (upd (upd (upd (upd r 14 (r 12)) 15 v9) 16 v10) 3 (r 12)) 4 v10) 17 v10) 18 v11) 19 v11) 20 v12) 21 v13) 22 v14) 23 v15) 24 v16) 25 v17) 26 v18) 27 v19) 28 v20) 29 v21) 30 v22) 31 v23) 32 v24) 33 v25) 34 v26) 35 v27) 36 v28) h28)
  (S66_l2_k4 G K (upd (upd (upd (upd (upd (upd (upd (upd (upd (upd (upd (upd (upd (upd (upd (upd (upd (upd (upd (upd (upd (upd (upd (upd (upd r 14 (r 12)) 15 v9) 16 v10) 3 (r 12)) 4 v10) 17 v10) 18 v11) 19 v11) 20 v12) 21 v13) 22 v14) 23 v15) 24 v16) 25 v17) 26 v18) 27 v19) 28 v20) 29 v21) 30 v22) 31 v23) 32 v24) 33 v25) 34 v26) 35 v27) 36 v28) h28)
def S66_l2 (G : Hp) (r : Rg) (h : Hp) (K : Exit → Rg → Hp → Prop) : Prop :=
  opH Tryd.prog G (sv (binOp .lss 3 (r 12) (r 11))) h fun v7 h7 =>
  cond v7
  (S66_l2_k3 G K (upd r 13 v7) h7)
  (K (.exit 0) (upd r 13 v7) h7)
def S66_k1 (G : Hp) (K : Exit → Rg → Hp → Prop) (r : Rg) (h : Hp) : Prop :=
  opH Tryd.prog G (sv (Instr.loadAt 31 (r 1))) h fun v2 h2 =>
  opH Tryd.prog G (xNil v2) h2 fun v3 h3 =>
  opH Tryd.prog G (sv (Instr.fieldAt 86 v3 2)) h3 fun v4 h4 =>
  opH Tryd.prog G (sv (Instr.loadAt 57 v4)) h4 fun v5 h5 =>
  opH Tryd.prog G (sv (Builtin.len_ #[57] 3 #[v5])) h5 fun v6 h6 =>
  loopP (S66_l2 G) (upd (upd (upd (upd (upd (upd r 7 v2) 8 v3) 9 v4) 10 v5) 11 v6) 12 (.int .i64 0)) h6 (blockK 0 K)
def S66 (G : Hp) (K : Exit → Rg → Hp → Prop) (r : Rg) (h : Hp) : Prop :=
  opH Tryd.prog G (sv (Instr.loadAt 31 (r 1))) h fun v0 h0 =>
  opH Tryd.prog G (xEq .eql 31 (.tmp 0) (.const .nilFunc) v0 (.pointer none)) h0 fun v1 h1 =>
  cond v1
  (K .ret (upd (upd r 5 v0) 6 v1) h1)
  (S66_k1 G K (upd (upd r 5 v0) 6 v1) h1)
theorem S66_eq (G : Hp) (K : Exit → Rg → Hp → Prop) (r : Rg) (h : Hp) : wpC Tryd.prog G 38 md66 true (Tryd.f66.body.getD .skip) r h K = S66 G K r h := by kernel_rfl
theorem enter66 {G : Hp} {h : Hp} {args : Array Value} {R : Value → Hp → Prop} (hn : args.size ≤ 38) (H : S66 G (retK Tryd.prog G [] R) (regs args) h) : HCalls Tryd.prog G 66 args h R :=
  HCalls.enter (md := md66) mixed Tryd.func66 rfl hn (by rw [← S66_eq] at H; exact H)

/-! 45: skep/skeplaw00.Cells: params #[67, 3], results #[22] -/
def md45 : Nat → Hint
  | _ => ⟨false, [], [], [], [], false⟩
def S45_k1 (G : Hp) (K : Exit → Rg → Hp → Prop) (r : Rg) (h : Hp) : Prop :=
  opH Tryd.prog G (xCallV (r 0) #[(.func (.func 67) #[] #[(r 5), (r 3)])]) h fun v6 h6 =>
  opH Tryd.prog G (sv (Instr.loadAt 22 (r 5))) h6 fun v7 h7 =>
  K .ret (upd (upd (upd (upd (upd r 12 (r 0)) 13 (.func (.func 67) #[] #[(r 5), (r 3)])) 14 v6) 15 v7) 4 v7) h7
def S45 (G : Hp) (K : Exit → Rg → Hp → Prop) (r : Rg) (h : Hp) : Prop :=
  opH Tryd.prog G (sv (Instr.box 3 (r 1))) h fun v0 h0 =>
  opH Tryd.prog G (sv (Instr.alloc 22 true (.tuple #[]))) h0 fun v1 h1 =>
  opH Tryd.prog G (xEq .eql 67 (.tmp 0) (.const .nilFunc) (r 0) .nilFunc) h1 fun v2 h2 =>
  gd (wantB v2 false) (opH Tryd.prog G (sv (Instr.loadAt 3 v0)) h2) h2 fun v3 h3 =>
  gd (wantB v2 false) (opH Tryd.prog G (sv (binOp .lss 3 v3 (.int .i64 1))) h3) h3 fun v4 h4 =>
  opH Tryd.prog G (xPick v2 (.bool true) v4) h4 fun v5 h5 =>
  cond v5
  (K .ret (upd (upd (upd (upd (upd (upd (upd (upd (upd (upd r 3 v0) 4 (.slice none 0 0)) 5 v1) 6 (r 0)) 7 v2) 8 v2) 9 v3) 10 v4) 11 v5) 4 (.slice none 0 0)) h5)
  (S45_k1 G K (upd (upd (upd (upd (upd (upd (upd (upd (upd r 3 v0) 4 (.slice none 0 0)) 5 v1) 6 (r 0)) 7 v2) 8 v2) 9 v3) 10 v4) 11 v5) h5)
theorem S45_eq (G : Hp) (K : Exit → Rg → Hp → Prop) (r : Rg) (h : Hp) : wpC Tryd.prog G 16 md45 true (Tryd.f45.body.getD .skip) r h K = S45 G K r h := by kernel_rfl
theorem enter45 {G : Hp} {h : Hp} {args : Array Value} {R : Value → Hp → Prop} (hn : args.size ≤ 16) (H : S45 G (retK Tryd.prog G [.tmp 4] R) (regs args) h) : HCalls Tryd.prog G 45 args h R :=
  HCalls.enter (md := md45) mixed Tryd.func45 rfl hn (by rw [← S45_eq] at H; exact H)

/-! 67: skep/skeplaw00.Cells$1: params #[28], results #[4] -/
def md67 : Nat → Hint
  | _ => ⟨false, [], [], [], [], false⟩
def S67 (G : Hp) (K : Exit → Rg → Hp → Prop) (r : Rg) (h : Hp) : Prop :=
  opH Tryd.prog G (sv (Instr.box 28 (r 0))) h fun v0 h0 =>
  opH Tryd.prog G (sv (Instr.loadAt 22 (r 1))) h0 fun v1 h1 =>
  opH Tryd.prog G (sv (Instr.loadAt 28 v0)) h1 fun v2 h2 =>
  opH Tryd.prog G (sv (Instr.buildSlice 22 1 #[(0, v2)])) h2 fun v3 h3 =>
  opH Tryd.prog G (sv (Builtin.append_ #[22, 22] 22 #[v1, v3])) h3 fun v4 h4 =>
  opH Tryd.prog G (su (Instr.storeAt 22 (r 1) v4)) h4 fun v5 h5 =>
  opH Tryd.prog G (sv (Instr.loadAt 22 (r 1))) h5 fun v6 h6 =>
  opH Tryd.prog G (sv (Builtin.len_ #[22] 3 #[v6])) h6 fun v7 h7 =>
  opH Tryd.prog G (sv (Instr.loadAt 3 (r 2))) h7 fun v8 h8 =>
  opH Tryd.prog G (sv (binOp .lss 3 v7 v8)) h8 fun v9 h9 =>
  K .ret (upd (upd (upd (upd (upd (upd (upd (upd (upd (upd (upd r 3 v0) 4 (.bool false)) 5 v1) 6 v2) 7 v3) 8 v4) 9 v6) 10 v7) 11 v8) 12 v9) 4 v9) h9
theorem S67_eq (G : Hp) (K : Exit → Rg → Hp → Prop) (r : Rg) (h : Hp) : wpC Tryd.prog G 13 md67 true (Tryd.f67.body.getD .skip) r h K = S67 G K r h := by kernel_rfl
theorem enter67 {G : Hp} {h : Hp} {args : Array Value} {R : Value → Hp → Prop} (hn : args.size ≤ 13) (H : S67 G (retK Tryd.prog G [.tmp 4] R) (regs args) h) : HCalls Tryd.prog G 67 args h R :=
  HCalls.enter (md := md67) mixed Tryd.func67 rfl hn (by rw [← S67_eq] at H; exact H)

/-! 44: skep/skeplaw00.SameMoves: params #[47, 47], results #[4] -/
def md44 : Nat → Hint
  | 6 => ⟨false, [0, 0, 3, 7, 0, 0, 48, 112, 255], [.pureN, .pureN, .pureN, .pureM, .pureN, .pureN, .pureN, .pureM, .pureM], [.pureN, .pureN, .pureN, .pureM, .pureN, .pureN, .pureN, .pureM, .pureM], [false, false, false, false, false, false, false, false, false], false⟩
  | _ => ⟨false, [], [], [], [], false⟩
def S44_k2 (G : Hp) (K : Exit → Rg → Hp → Prop) (r : Rg) (h : Hp) : Prop :=
  K .ret (upd r 4 (.bool true)) h
def S44_l3_k5 (G : Hp) (K : Exit → Rg → Hp → Prop) (r : Rg) (h : Hp) : Prop :=
  opH Tryd.prog G (sv (binOp .add 3 (r 5) (.int .i64 1))) h fun v5 h5 =>
  K .normal (upd (upd (upd r 15 (r 5)) 16 v5) 5 v5) h5
def S44_l3_k4 (G : Hp) (K : Exit → Rg → Hp → Prop) (r : Rg) (h : Hp) : Prop :=
  pureW Tryd.prog noHp noHp (sv (Instr.indexAt 47 (r 0) (r 5))) h fun v6 h6 =>
  pureW Tryd.prog G h (sv (Instr.loadAt 46 v6)) h6 fun v7 h7 =>
  pureW Tryd.prog noHp noHp (sv (Instr.indexAt 47 (r 1) (r 5))) h7 fun v8 h8 =>
  pureW Tryd.prog G h (sv (Instr.loadAt 46 v8)) h8 fun v9 h9 =>
  pureW Tryd.prog G h (xEq .neq 46 (.tmp 0) (.tmp 0) v7 v9) h9 fun v10 h10 =>
  cond v10
  (K .ret (upd (upd (upd (upd (upd (upd (upd (upd (upd (upd r 17 (r 0)) 18 (r 5)) 19 v6) 20 v7) 21 (r 1)) 22 (r 5)) 23 v8) 24 v9) 25 v10) 4 (.bool false)) h10)
  (S44_l3_k5 G K (upd (upd (upd (upd (upd (upd (upd (upd (upd r 17 (r 0)) 18 (r 5)) 19 v6) 20 v7) 21 (r 1)) 22 (r 5)) 23 v8) 24 v9) 25 v10) h10)
def S44_l3 (G : Hp) (r : Rg) (h : Hp) (K : Exit → Rg → Hp → Prop) : Prop :=
  opH Tryd.prog G (sv (Builtin.len_ #[47] 3 #[(r 0)])) h fun v3 h3 =>
  opH Tryd.prog G (sv (binOp .lss 3 (r 5) v3)) h3 fun v4 h4 =>
  cond v4
  (S44_l3_k4 G K (upd (upd (upd (upd r 11 (r 5)) 12 (r 0)) 13 v3) 14 v4) h4)
  (K (.exit 0) (upd (upd (upd (upd r 11 (r 5)) 12 (r 0)) 13 v3) 14 v4) h4)
def S44_k1 (G : Hp) (K : Exit → Rg → Hp → Prop) (r : Rg) (h : Hp) : Prop :=
  loopP (S44_l3 G) (upd r 5 (.int .i64 0)) h (blockK 0 (thenK (S44_k2 G K) K))
def S44 (G : Hp) (K : Exit → Rg → Hp → Prop) (r : Rg) (h : Hp) : Prop :=
  opH Tryd.prog G (sv (Builtin.len_ #[47] 3 #[(r 0)])) h fun v0 h0 =>
  opH Tryd.prog G (sv (Builtin.len_ #[47] 3 #[(r 1)])) h0 fun v1 h1 =>
  opH Tryd.prog G (xEq .neq 3 (.tmp 0) (.tmp 0) v0 v1) h1 fun v2 h2 =>
  cond v2
  (K .ret (upd (upd (upd (upd (upd (upd (upd r 4 (.bool false)) 6 (r 0)) 7 v0) 8 (r 1)) 9 v1) 10 v2) 4 (.bool false)) h2)
  (S44_k1 G K (upd (upd (upd (upd (upd (upd r 4 (.bool false)) 6 (r 0)) 7 v0) 8 (r 1)) 9 v1) 10 v2) h2)
theorem S44_eq (G : Hp) (K : Exit → Rg → Hp → Prop) (r : Rg) (h : Hp) : wpC Tryd.prog G 26 md44 true (Tryd.f44.body.getD .skip) r h K = S44 G K r h := by kernel_rfl
theorem enter44 {G : Hp} {h : Hp} {args : Array Value} {R : Value → Hp → Prop} (hn : args.size ≤ 26) (H : S44 G (retK Tryd.prog G [.tmp 4] R) (regs args) h) : HCalls Tryd.prog G 44 args h R :=
  HCalls.enter (md := md44) mixed Tryd.func44 rfl hn (by rw [← S44_eq] at H; exact H)

end Go.Proofs.YtnpdploihlgcgaaDoor

/- A text of the proofs. -/
import Derived.Test.YtnpdploihlgcgaaDoorGI
set_option linter.unusedVariables false
set_option maxRecDepth 100000
namespace Go.Proofs.YtnpdploihlgcgaaDoor
open Go Go.HL
def md9 : Nat → Hint
  | 11 => ⟨false, [0, 0, 3, 0, 0, 0, 32, 112, 248, 511, 1023, 2047, 4095, 8191, 4095, 32767, 65535, 131071], [.pureN, .pureN, .eff, .pureN, .pureN, .pureN, .pureM, .pureN, .pureN, .eff, .pureN, .pureN, .pureN, .eff, .pureN, .eff, .pureN, .pureN], [.pureN, .pureN, .eff, .pureN, .pureN, .pureN, .pureM, .pureN, .pureN, .eff, .pureN, .pureN, .pureN, .eff, .pureN, .eff, .pureN, .pureN], [false, false, true, false, false, false, false, false, false, false, false, false, false, false, false, false, false, false], false⟩
  | 13 => ⟨false, [0, 0, 3, 0, 0, 0, 32, 112, 248, 511, 1023, 2047, 4095, 2047, 16383, 32767, 65535, 131071, 262143, 524287], [.pureN, .pureN, .eff, .pureN, .pureN, .pureN, .pureM, .pureN, .pureN, .eff, .pureN, .pureN, .eff, .pureN, .eff, .pureN, .pureN, .eff, .pureN, .pureN], [.pureN, .pureN, .eff, .pureN, .pureN, .pureN, .pureM, .pureN, .pureN, .eff, .pureN, .pureN, .eff, .pureN, .eff, .pureN, .pureN, .eff, .pureN, .pureN], [false, false, true, false, false, false, false, false, false, false, false, false, false, false, false, false, false, false, false, false], false⟩
  | _ => ⟨false, [], [], [], [], false⟩
def S9_k3 (G : Hp) (K : Exit → Rg → Hp → Prop) (r : Rg) (h : Hp) : Prop :=
  opH Tryd.prog G (callFunc 45 #[(r 10), (r 13)]) h fun v36 h36 => h.le h36 ∧
  pureW Tryd.prog G h (sv (Builtin.len_ #[22] 3 #[(r 12)])) h36 fun v37 h37 =>
  pureW Tryd.prog noHp noHp (sv (Builtin.min_ #[3, 3] 3 #[(r 13), v37])) h37 fun v38 h38 =>
  pureW Tryd.prog noHp noHp (sv (Instr.sliceAt 22 (r 12) none (some v38) none)) h38 fun v39 h39 =>
  opH Tryd.prog G (callFunc 20 #[v36, v39]) h39 fun v40 h40 =>
  gd (wantB v40 true) (fun K1 => K1 (r 10) h40) h40 fun v41 h41 =>
  gd (wantB v40 true) (opH Tryd.prog G (callFunc 45 #[v41, (.int .i64 1000)]) h41) h41 fun v42 h42 =>
  gd (wantB v40 true) (fun K1 => K1 (r 12) h42) h42 fun v43 h43 =>
  gd (wantB v40 true) (opH Tryd.prog G (callFunc 20 #[v42, v43]) h43) h43 fun v44 h44 =>
  pureW Tryd.prog noHp noHp (xPick v40 v44 (.bool false)) h44 fun v45 h45 =>
  gd (wantB v45 true) (opH Tryd.prog G (callFunc 17 #[]) h45) h45 fun v46 h46 =>
  pureW Tryd.prog noHp noHp (xPick v45 v46 (.bool false)) h46 fun v47 h47 =>
  K .ret (upd (upd (upd (upd (upd (upd (upd (upd (upd (upd (upd (upd (upd (upd (upd (upd (upd (upd (upd (upd r 65 (r 10)) 66 (r 13)) 67 v36) 68 (r 12)) 69 (r 13)) 70 (r 12)) 71 v37) 72 v38) 73 v39) 74 v40) 75 v40) 76 v41) 77 v42) 78 v43) 79 v44) 80 v45) 81 v45) 82 v46) 83 v47) 6 v47) h47
def S9_k2 (G : Hp) (K : Exit → Rg → Hp → Prop) (r : Rg) (h : Hp) : Prop :=
  opH Tryd.prog G (sv (Instr.loadAt 30 (r 4))) h fun v14 h14 =>
  opH Tryd.prog G (callFunc 26 #[(r 7), v14]) h14 fun v15 h15 =>
  opH Tryd.prog G (callFunc 41 #[(r 7)]) h15 fun v16 h16 =>
  opH Tryd.prog G (sv (Instr.loadAt 26 (r 3))) h16 fun v17 h17 =>
  opH Tryd.prog G (sv (Instr.loadAt 30 (r 4))) h17 fun v18 h18 =>
  opH Tryd.prog G (callFunc 42 #[v17, v18]) h18 fun v19 h19 =>
  opH Tryd.prog G (sv (Instr.loadAt 26 (r 3))) h19 fun v20 h20 =>
  opH Tryd.prog G (callFunc 43 #[v20]) h20 fun v21 h21 =>
  opH Tryd.prog G (callFunc 30 #[(r 2), (.int .i64 70)]) h21 fun v22 h22 =>
  opH Tryd.prog G (sv (binOp .add 3 (.int .i64 1) v22)) h22 fun v23 h23 =>
  opH Tryd.prog G (callFunc 25 #[v15, v23]) h23 fun v24 h24 => h23.le h24 ∧
  pureW Tryd.prog G h23 (sv (Builtin.len_ #[47] 3 #[v19])) h24 fun v25 h25 =>
  pureW Tryd.prog noHp noHp (sv (Builtin.min_ #[3, 3] 3 #[v23, v25])) h25 fun v26 h26 =>
  pureW Tryd.prog noHp noHp (sv (Instr.sliceAt 47 v19 none (some v26) none)) h26 fun v27 h27 =>
  opH Tryd.prog G (callFunc 44 #[v24, v27]) h27 fun v28 h28 =>
  pureW Tryd.prog noHp noHp (sv (Op.unary .not v28)) h28 fun v29 h29 =>
  gd (wantB v29 false) (fun K1 => K1 v15 h29) h29 fun v30 h30 =>
  gd (wantB v29 false) (opH Tryd.prog G (callFunc 25 #[v30, (.int .i64 1000)]) h30) h30 fun v31 h31 =>
  gd (wantB v29 false) (fun K1 => K1 v19 h31) h31 fun v32 h32 =>
  gd (wantB v29 false) (opH Tryd.prog G (callFunc 44 #[v31, v32]) h32) h32 fun v33 h33 =>
  gd (wantB v29 false) (pureW Tryd.prog noHp noHp (sv (Op.unary .not v33)) h33) h33 fun v34 h34 =>
  pureW Tryd.prog noHp noHp (xPick v29 (.bool true) v34) h34 fun v35 h35 =>
  cond v35
  (K .ret (upd (upd (upd (upd (upd (upd (upd (upd (upd (upd (upd (upd (upd (upd (upd (upd (upd (upd (upd (upd (upd (upd (upd (upd (upd (upd (upd (upd (upd (upd (upd (upd (upd (upd (upd (upd (upd r 34 (r 7)) 35 v14) 36 v15) 9 v15) 37 (r 7)) 38 v16) 10 v16) 39 v17) 40 v18) 41 v19) 11 v19) 42 v20) 43 v21) 12 v21) 44 (r 2)) 45 v22) 46 v23) 13 v23) 47 v15) 48 v23) 49 v24) 50 v19) 51 v23) 52 v19) 53 v25) 54 v26) 55 v27) 56 v28) 57 v29) 58 v29) 59 v30) 60 v31) 61 v32) 62 v33) 63 v34) 64 v35) 6 (.bool false)) h35)
  (S9_k3 G K (upd (upd (upd (upd (upd (upd (upd (upd (upd (upd (upd (upd (upd (upd (upd (upd (upd (upd (upd (upd (upd (upd (upd (upd (upd (upd (upd (upd (upd (upd (upd (upd (upd (upd (upd (upd r 34 (r 7)) 35 v14) 36 v15) 9 v15) 37 (r 7)) 38 v16) 10 v16) 39 v17) 40 v18) 41 v19) 11 v19) 42 v20) 43 v21) 12 v21) 44 (r 2)) 45 v22) 46 v23) 13 v23) 47 v15) 48 v23) 49 v24) 50 v19) 51 v23) 52 v19) 53 v25) 54 v26) 55 v27) 56 v28) 57 v29) 58 v29) 59 v30) 60 v31) 61 v32) 62 v33) 63 v34) 64 v35) h35)
def S9_k1 (G : Hp) (K : Exit → Rg → Hp → Prop) (r : Rg) (h : Hp) : Prop :=
  opH Tryd.prog G (xEq .neq 32 (.tmp 0) (.const .nilFunc) (r 8) (.int .i64 0)) h fun v10 h10 =>
  gd (wantB v10 false) (fun K1 => K1 (r 7) h10) h10 fun v11 h11 =>
  gd (wantB v10 false) (opH Tryd.prog G (xEq .eql 31 (.tmp 0) (.const .nilFunc) v11 (.pointer none)) h11) h11 fun v12 h12 =>
  opH Tryd.prog G (xPick v10 (.bool true) v12) h12 fun v13 h13 =>
  cond v13
  (K .ret (upd (upd (upd (upd (upd (upd (upd r 28 (r 8)) 29 v10) 30 v10) 31 v11) 32 v12) 33 v13) 6 (.bool false)) h13)
  (S9_k2 G K (upd (upd (upd (upd (upd (upd r 28 (r 8)) 29 v10) 30 v10) 31 v11) 32 v12) 33 v13) h13)
def S9 (G : Hp) (K : Exit → Rg → Hp → Prop) (r : Rg) (h : Hp) : Prop :=
  opH Tryd.prog G (sv (Instr.box 26 (r 0))) h fun v0 h0 =>
  opH Tryd.prog G (sv (Instr.box 30 (r 1))) h0 fun v1 h1 =>
  opH Tryd.prog G (sv (Instr.loadAt 26 v0)) h1 fun v2 h2 =>
  opH Tryd.prog G (callFunc 15 #[v2]) h2 fun v3 h3 =>
  opH Tryd.prog G (callFunc 14 #[v3]) h3 fun v4 h4 =>
  opH Tryd.prog G (sv (Instr.extract v4 0)) h4 fun v5 h5 =>
  opH Tryd.prog G (sv (Instr.extract v4 1)) h5 fun v6 h6 =>
  opH Tryd.prog G (sv (Instr.loadAt 26 v0)) h6 fun v7 h7 =>
  opH Tryd.prog G (callFunc 16 #[v7]) h7 fun v8 h8 =>
  opH Tryd.prog G (sv (Op.unary .not v8)) h8 fun v9 h9 =>
  cond v9
  (opH Tryd.prog G (xEq .eql 32 (.tmp 0) (.const .nilFunc) v6 (.int .i64 5)) h9 fun v48 h48 =>
  gd (wantB v48 true) (opH Tryd.prog G (callFunc 17 #[]) h48) h48 fun v49 h49 =>
  opH Tryd.prog G (xPick v48 v49 (.bool false)) h49 fun v50 h50 =>
  K .ret (upd (upd (upd (upd (upd (upd (upd (upd (upd (upd (upd (upd (upd (upd (upd (upd (upd (upd (upd (upd r 3 v0) 4 v1) 6 (.bool false)) 15 v2) 16 v3) 17 v4) 14 v4) 18 v5) 19 v6) 7 v5) 8 v6) 20 v7) 21 v8) 22 v9) 23 v6) 24 v48) 25 v48) 26 v49) 27 v50) 6 v50) h50)
  (S9_k1 G K (upd (upd (upd (upd (upd (upd (upd (upd (upd (upd (upd (upd (upd (upd r 3 v0) 4 v1) 6 (.bool false)) 15 v2) 16 v3) 17 v4) 14 v4) 18 v5) 19 v6) 7 v5) 8 v6) 20 v7) 21 v8) 22 v9) h9)
theorem S9_eq (G : Hp) (K : Exit → Rg → Hp → Prop) (r : Rg) (h : Hp) : wpC Tryd.prog G 84 md9 true (Tryd.f9.body.getD .skip) r h K = S9 G K r h := by kernel_rfl
theorem enter9 {G : Hp} {h : Hp} {args : Array Value} {R : Value → Hp → Prop} (hn : args.size ≤ 84) (H : S9 G (retK Tryd.prog G [.tmp 6] R) (regs args) h) : HCalls Tryd.prog G 9 args h R :=
  HCalls.enter (md := md9) mixed Tryd.func9 rfl hn (by rw [← S9_eq] at H; exact H)

def md64 : Nat → Hint
  | _ => ⟨false, [], [], [], [], false⟩
def S64 (G : Hp) (K : Exit → Rg → Hp → Prop) (r : Rg) (h : Hp) : Prop :=
  opH Tryd.prog G (sv (binOp .sub 3 (r 0) (r 1))) h fun v0 h0 =>
  opH Tryd.prog G (sv (binOp .sub 3 (r 1) (r 0))) h0 fun v1 h1 =>
  opH Tryd.prog G (sv (Builtin.max_ #[3, 3] 3 #[v0, v1])) h1 fun v2 h2 =>
  K .ret (upd (upd (upd (upd (upd (upd (upd (upd (upd r 4 (.int .i64 0)) 5 (r 0)) 6 (r 1)) 7 v0) 8 (r 1)) 9 (r 0)) 10 v1) 11 v2) 4 v2) h2
theorem S64_eq (G : Hp) (K : Exit → Rg → Hp → Prop) (r : Rg) (h : Hp) : wpC Tryd.prog G 12 md64 true (Tryd.f64.body.getD .skip) r h K = S64 G K r h := by kernel_rfl
theorem enter64 {G : Hp} {h : Hp} {args : Array Value} {R : Value → Hp → Prop} (hn : args.size ≤ 12) (H : S64 G (retK Tryd.prog G [.tmp 4] R) (regs args) h) : HCalls Tryd.prog G 64 args h R :=
  HCalls.enter (md := md64) mixed Tryd.func64 rfl hn (by rw [← S64_eq] at H; exact H)

def md41 : Nat → Hint
  | _ => ⟨false, [], [], [], [], false⟩
def S41 (G : Hp) (K : Exit → Rg → Hp → Prop) (r : Rg) (h : Hp) : Prop :=
  opH Tryd.prog G (sv (Instr.box 31 (r 0))) h fun v0 h0 =>
  K .ret (upd (upd (upd (upd r 1 v0) 2 .nilFunc) 3 (.func (.func 66) #[] #[v0])) 2 (.func (.func 66) #[] #[v0])) h0
theorem S41_eq (G : Hp) (K : Exit → Rg → Hp → Prop) (r : Rg) (h : Hp) : wpC Tryd.prog G 4 md41 true (Tryd.f41.body.getD .skip) r h K = S41 G K r h := by kernel_rfl
theorem enter41 {G : Hp} {h : Hp} {args : Array Value} {R : Value → Hp → Prop} (hn : args.size ≤ 4) (H : S41 G (retK Tryd.prog G [.tmp 2] R) (regs args) h) : HCalls Tryd.prog G 41 args h R :=
  HCalls.enter (md := md41) mixed Tryd.func41 rfl hn (by rw [← S41_eq] at H; exact H)

def md66 : Nat → Hint
  | 4 => ⟨false, [0, 1, 3, 7, 7, 7, 39, 103, 231, 503, 7, 7, 2055, 6151, 14343, 31751, 65527, 131071, 262143, 524287], [.pureN, .pureM, .pureN, .pureN, .pureN, .pureM, .pureN, .pureN, .pureM, .pureN, .pureN, .pureM, .pureN, .pureN, .pureM, .pureN, .pureN, .eff, .pureN, .pureN], [.pureN, .pureM, .pureN, .pureN, .pureN, .pureM, .pureN, .pureN, .pureM, .pureN, .pureN, .pureM, .pureN, .pureN, .pureM, .pureN, .pureN, .eff, .pureN, .pureN], [false, false, false, false, false, false, false, false, false, false, false, false, false, false, false, false, false, false, false, false], false⟩
  | _ => ⟨false, [], [], [], [], false⟩
def S66_l2_k4 (G : Hp) (K : Exit → Rg → Hp → Prop) (r : Rg) (h : Hp) : Prop :=
  opH Tryd.prog G (sv (binOp .add 3 (r 12) (.int .i64 1))) h fun v8 h8 =>
  K .normal (upd (upd r 37 v8) 12 v8) h8
def S66_l2_k3 (G : Hp) (K : Exit → Rg → Hp → Prop) (r : Rg) (h : Hp) : Prop :=
  opH Tryd.prog G (sv (Instr.indexAt 57 (r 10) (r 12))) h fun v9 h9 =>
  opH Tryd.prog G (sv (Instr.loadAt 3 v9)) h9 fun v10 h10 =>
  pureW Tryd.prog G h10 (xEq .eql 3 (.tmp 0) (.const .nilFunc) v10 (.int .i64 0)) h10 fun v11 h11 =>
  gd (wantB v11 true) (fun K1 => K1 (r 0) h11) h11 fun v12 h12 =>
  gd (wantB v11 true) (fun K1 => K1 (r 12) h12) h12 fun v13 h13 =>
  gd (wantB v11 true) (pureW Tryd.prog G h10 (sv (Instr.loadAt 31 (r 1))) h13) h13 fun v14 h14 =>
  gd (wantB v11 true) (pureW Tryd.prog noHp noHp (xNil v14) h14) h14 fun v15 h15 =>
  gd (wantB v11 true) (pureW Tryd.prog noHp noHp (sv (Instr.fieldAt 86 v15 0)) h15) h15 fun v16 h16 =>
  gd (wantB v11 true) (pureW Tryd.prog G h10 (sv (Instr.loadAt 3 v16)) h16) h16 fun v17 h17 =>
  gd (wantB v11 true) (pureW Tryd.prog noHp noHp (sv (binOp .rem 3 v13 v17)) h17) h17 fun v18 h18 =>
  gd (wantB v11 true) (fun K1 => K1 (r 12) h18) h18 fun v19 h19 =>
  gd (wantB v11 true) (pureW Tryd.prog G h10 (sv (Instr.loadAt 31 (r 1))) h19) h19 fun v20 h20 =>
  gd (wantB v11 true) (pureW Tryd.prog noHp noHp (xNil v20) h20) h20 fun v21 h21 =>
  gd (wantB v11 true) (pureW Tryd.prog noHp noHp (sv (Instr.fieldAt 86 v21 0)) h21) h21 fun v22 h22 =>
  gd (wantB v11 true) (pureW Tryd.prog G h10 (sv (Instr.loadAt 3 v22)) h22) h22 fun v23 h23 =>
  gd (wantB v11 true) (pureW Tryd.prog noHp noHp (sv (binOp .quo 3 v19 v23)) h23) h23 fun v24 h24 =>
  gd (wantB v11 true) (pureW Tryd.prog noHp noHp (sv (Instr.build 28 #[(0, v18), (1, v24)])) h24) h24 fun v25 h25 =>
  gd (wantB v11 true) (opH Tryd.prog G (xCallV v12 #[v25]) h25) h25 fun v26 h26 =>
  gd (wantB v11 true) (pureW Tryd.prog noHp noHp (sv (Op.unary .not v26)) h26) h26 fun v27 h27 =>
  pureW Tryd.prog noHp noHp (xPick v11 v27 (.bool false)) h27 fun v28 h28 =>
  cond v28
  (K .ret (upd (upd (upd (upd (upd (upd (upd (upd (upd (upd (upd (upd (upd (upd (upd (upd (upd (upd (upd (upd (upd (upd (upd (upd (upd r 14 (r 12)) 15 v9) 16 v10) 3 (r 12)) 4 v10) 17 v10) 18 v11) 19 v11) 20 v12) 21 v13) 22 v14) 23 v15) 24 v16) 25 v17) 26 v18) 27 v19) 28 v20) 29 v21) 30 v22) 31 v23) 32 v24) 33 v25) 34 v26) 35 v27) 36 v28) h28)
  (S66_l2_k4 G K (upd (upd (upd (upd (upd (upd (upd (upd (upd (upd (upd (upd (upd (upd (upd (upd (upd (upd (upd (upd (upd (upd (upd (upd (upd r 14 (r 12)) 15 v9) 16 v10) 3 (r 12)) 4 v10) 17 v10) 18 v11) 19 v11) 20 v12) 21 v13) 22 v14) 23 v15) 24 v16) 25 v17) 26 v18) 27 v19) 28 v20) 29 v21) 30 v22) 31 v23) 32 v24) 33 v25) 34 v26) 35 v27) 36 v28) h28)
def S66_l2 (G : Hp) (r : Rg) (h : Hp) (K : Exit → Rg → Hp → Prop) : Prop :=
  opH Tryd.prog G (sv (binOp .lss 3 (r 12) (r 11))) h fun v7 h7 =>
  cond v7
  (S66_l2_k3 G K (upd r 13 v7) h7)
  (K (.exit 0) (upd r 13 v7) h7)
def S66_k1 (G : Hp) (K : Exit → Rg → Hp → Prop) (r : Rg) (h : Hp) : Prop :=
  opH Tryd.prog G (sv (Instr.loadAt 31 (r 1))) h fun v2 h2 =>
  opH Tryd.prog G (xNil v2) h2 fun v3 h3 =>
  opH Tryd.prog G (sv (Instr.fieldAt 86 v3 2)) h3 fun v4 h4 =>
  opH Tryd.prog G (sv (Instr.loadAt 57 v4)) h4 fun v5 h5 =>
  opH Tryd.prog G (sv (Builtin.len_ #[57] 3 #[v5])) h5 fun v6 h6 =>
  loopP (S66_l2 G) (upd (upd (upd (upd (upd (upd r 7 v2) 8 v3) 9 v4) 10 v5) 11 v6) 12 (.int .i64 0)) h6 (blockK 0 K)
def S66 (G : Hp) (K : Exit → Rg → Hp → Prop) (r : Rg) (h : Hp) : Prop :=
  opH Tryd.prog G (sv (Instr.loadAt 31 (r 1))) h fun v0 h0 =>
  opH Tryd.prog G (xEq .eql 31 (.tmp 0) (.const .nilFunc) v0 (.pointer none)) h0 fun v1 h1 =>
  cond v1
  (K .ret (upd (upd r 5 v0) 6 v1) h1)
  (S66_k1 G K (upd (upd r 5 v0) 6 v1) h1)
theorem S66_eq (G : Hp) (K : Exit → Rg → Hp → Prop) (r : Rg) (h : Hp) : wpC Tryd.prog G 38 md66 true (Tryd.f66.body.getD .skip) r h K = S66 G K r h := by kernel_rfl
theorem enter66 {G : Hp} {h : Hp} {args : Array Value} {R : Value → Hp → Prop} (hn : args.size ≤ 38) (H : S66 G (retK Tryd.prog G [] R) (regs args) h) : HCalls Tryd.prog G 66 args h R :=
  HCalls.enter (md := md66) mixed Tryd.func66 rfl hn (by rw [← S66_eq] at H; exact H)

def md45 : Nat → Hint
  | _ => ⟨false, [], [], [], [], false⟩
def S45_k1 (G : Hp) (K : Exit → Rg → Hp → Prop) (r : Rg) (h : Hp) : Prop :=
  opH Tryd.prog G (xCallV (r 0) #[(.func (.func 67) #[] #[(r 5), (r 3)])]) h fun v6 h6 =>
  opH Tryd.prog G (sv (Instr.loadAt 22 (r 5))) h6 fun v7 h7 =>
  K .ret (upd (upd (upd (upd (upd r 12 (r 0)) 13 (.func (.func 67) #[] #[(r 5), (r 3)])) 14 v6) 15 v7) 4 v7) h7
def S45 (G : Hp) (K : Exit → Rg → Hp → Prop) (r : Rg) (h : Hp) : Prop :=
  opH Tryd.prog G (sv (Instr.box 3 (r 1))) h fun v0 h0 =>
  opH Tryd.prog G (sv (Instr.alloc 22 true (.tuple #[]))) h0 fun v1 h1 =>
  opH Tryd.prog G (xEq .eql 67 (.tmp 0) (.const .nilFunc) (r 0) .nilFunc) h1 fun v2 h2 =>
  gd (wantB v2 false) (opH Tryd.prog G (sv (Instr.loadAt 3 v0)) h2) h2 fun v3 h3 =>
  gd (wantB v2 false) (opH Tryd.prog G (sv (binOp .lss 3 v3 (.int .i64 1))) h3) h3 fun v4 h4 =>
  opH Tryd.prog G (xPick v2 (.bool true) v4) h4 fun v5 h5 =>
  cond v5
  (K .ret (upd (upd (upd (upd (upd (upd (upd (upd (upd (upd r 3 v0) 4 (.slice none 0 0)) 5 v1) 6 (r 0)) 7 v2) 8 v2) 9 v3) 10 v4) 11 v5) 4 (.slice none 0 0)) h5)
  (S45_k1 G K (upd (upd (upd (upd (upd (upd (upd (upd (upd r 3 v0) 4 (.slice none 0 0)) 5 v1) 6 (r 0)) 7 v2) 8 v2) 9 v3) 10 v4) 11 v5) h5)
theorem S45_eq (G : Hp) (K : Exit → Rg → Hp → Prop) (r : Rg) (h : Hp) : wpC Tryd.prog G 16 md45 true (Tryd.f45.body.getD .skip) r h K = S45 G K r h := by kernel_rfl
theorem enter45 {G : Hp} {h : Hp} {args : Array Value} {R : Value → Hp → Prop} (hn : args.size ≤ 16) (H : S45 G (retK Tryd.prog G [.tmp 4] R) (regs args) h) : HCalls Tryd.prog G 45 args h R :=
  HCalls.enter (md := md45) mixed Tryd.func45 rfl hn (by rw [← S45_eq] at H; exact H)

def md67 : Nat → Hint
  | _ => ⟨false, [], [], [], [], false⟩
def S67 (G : Hp) (K : Exit → Rg → Hp → Prop) (r : Rg) (h : Hp) : Prop :=
  opH Tryd.prog G (sv (Instr.box 28 (r 0))) h fun v0 h0 =>
  opH Tryd.prog G (sv (Instr.loadAt 22 (r 1))) h0 fun v1 h1 =>
  opH Tryd.prog G (sv (Instr.loadAt 28 v0)) h1 fun v2 h2 =>
  opH Tryd.prog G (sv (Instr.buildSlice 22 1 #[(0, v2)])) h2 fun v3 h3 =>
  opH Tryd.prog G (sv (Builtin.append_ #[22, 22] 22 #[v1, v3])) h3 fun v4 h4 =>
  opH Tryd.prog G (su (Instr.storeAt 22 (r 1) v4)) h4 fun v5 h5 =>
  opH Tryd.prog G (sv (Instr.loadAt 22 (r 1))) h5 fun v6 h6 =>
  opH Tryd.prog G (sv (Builtin.len_ #[22] 3 #[v6])) h6 fun v7 h7 =>
  opH Tryd.prog G (sv (Instr.loadAt 3 (r 2))) h7 fun v8 h8 =>
  opH Tryd.prog G (sv (binOp .lss 3 v7 v8)) h8 fun v9 h9 =>
  K .ret (upd (upd (upd (upd (upd (upd (upd (upd (upd (upd (upd r 3 v0) 4 (.bool false)) 5 v1) 6 v2) 7 v3) 8 v4) 9 v6) 10 v7) 11 v8) 12 v9) 4 v9) h9
theorem S67_eq (G : Hp) (K : Exit → Rg → Hp → Prop) (r : Rg) (h : Hp) : wpC Tryd.prog G 13 md67 true (Tryd.f67.body.getD .skip) r h K = S67 G K r h := by kernel_rfl
theorem enter67 {G : Hp} {h : Hp} {args : Array Value} {R : Value → Hp → Prop} (hn : args.size ≤ 13) (H : S67 G (retK Tryd.prog G [.tmp 4] R) (regs args) h) : HCalls Tryd.prog G 67 args h R :=
  HCalls.enter (md := md67) mixed Tryd.func67 rfl hn (by rw [← S67_eq] at H; exact H)

def md44 : Nat → Hint
  | 6 => ⟨false, [0, 0, 3, 7, 0, 0, 48, 112, 255], [.pureN, .pureN, .pureN, .pureM, .pureN, .pureN, .pureN, .pureM, .pureM], [.pureN, .pureN, .pureN, .pureM, .pureN, .pureN, .pureN, .pureM, .pureM], [false, false, false, false, false, false, false, false, false], false⟩
  | _ => ⟨false, [], [], [], [], false⟩
def S44_k2 (G : Hp) (K : Exit → Rg → Hp → Prop) (r : Rg) (h : Hp) : Prop :=
  K .ret (upd r 4 (.bool true)) h
def S44_l3_k5 (G : Hp) (K : Exit → Rg → Hp → Prop) (r : Rg) (h : Hp) : Prop :=
  opH Tryd.prog G (sv (binOp .add 3 (r 5) (.int .i64 1))) h fun v5 h5 =>
  K .normal (upd (upd (upd r 15 (r 5)) 16 v5) 5 v5) h5
def S44_l3_k4 (G : Hp) (K : Exit → Rg → Hp → Prop) (r : Rg) (h : Hp) : Prop :=
  pureW Tryd.prog noHp noHp (sv (Instr.indexAt 47 (r 0) (r 5))) h fun v6 h6 =>
  pureW Tryd.prog G h (sv (Instr.loadAt 46 v6)) h6 fun v7 h7 =>
  pureW Tryd.prog noHp noHp (sv (Instr.indexAt 47 (r 1) (r 5))) h7 fun v8 h8 =>
  pureW Tryd.prog G h (sv (Instr.loadAt 46 v8)) h8 fun v9 h9 =>
  pureW Tryd.prog G h (xEq .neq 46 (.tmp 0) (.tmp 0) v7 v9) h9 fun v10 h10 =>
  cond v10
  (K .ret (upd (upd (upd (upd (upd (upd (upd (upd (upd (upd r 17 (r 0)) 18 (r 5)) 19 v6) 20 v7) 21 (r 1)) 22 (r 5)) 23 v8) 24 v9) 25 v10) 4 (.bool false)) h10)
  (S44_l3_k5 G K (upd (upd (upd (upd (upd (upd (upd (upd (upd r 17 (r 0)) 18 (r 5)) 19 v6) 20 v7) 21 (r 1)) 22 (r 5)) 23 v8) 24 v9) 25 v10) h10)
def S44_l3 (G : Hp) (r : Rg) (h : Hp) (K : Exit → Rg → Hp → Prop) : Prop :=
  opH Tryd.prog G (sv (Builtin.len_ #[47] 3 #[(r 0)])) h fun v3 h3 =>
  opH Tryd.prog G (sv (binOp .lss 3 (r 5) v3)) h3 fun v4 h4 =>
  cond v4
  (S44_l3_k4 G K (upd (upd (upd (upd r 11 (r 5)) 12 (r 0)) 13 v3) 14 v4) h4)
  (K (.exit 0) (upd (upd (upd (upd r 11 (r 5)) 12 (r 0)) 13 v3) 14 v4) h4)
def S44_k1 (G : Hp) (K : Exit → Rg → Hp → Prop) (r : Rg) (h : Hp) : Prop :=
  loopP (S44_l3 G) (upd r 5 (.int .i64 0)) h (blockK 0 (thenK (S44_k2 G K) K))
def S44 (G : Hp) (K : Exit → Rg → Hp → Prop) (r : Rg) (h : Hp) : Prop :=
  opH Tryd.prog G (sv (Builtin.len_ #[47] 3 #[(r 0)])) h fun v0 h0 =>
  opH Tryd.prog G (sv (Builtin.len_ #[47] 3 #[(r 1)])) h0 fun v1 h1 =>
  opH Tryd.prog G (xEq .neq 3 (.tmp 0) (.tmp 0) v0 v1) h1 fun v2 h2 =>
  cond v2
  (K .ret (upd (upd (upd (upd (upd (upd (upd r 4 (.bool false)) 6 (r 0)) 7 v0) 8 (r 1)) 9 v1) 10 v2) 4 (.bool false)) h2)
  (S44_k1 G K (upd (upd (upd (upd (upd (upd r 4 (.bool false)) 6 (r 0)) 7 v0) 8 (r 1)) 9 v1) 10 v2) h2)
theorem S44_eq (G : Hp) (K : Exit → Rg → Hp → Prop) (r : Rg) (h : Hp) : wpC Tryd.prog G 26 md44 true (Tryd.f44.body.getD .skip) r h K = S44 G K r h := by kernel_rfl
theorem enter44 {G : Hp} {h : Hp} {args : Array Value} {R : Value → Hp → Prop} (hn : args.size ≤ 26) (H : S44 G (retK Tryd.prog G [.tmp 4] R) (regs args) h) : HCalls Tryd.prog G 44 args h R :=
  HCalls.enter (md := md44) mixed Tryd.func44 rfl hn (by rw [← S44_eq] at H; exact H)

end Go.Proofs.YtnpdploihlgcgaaDoor

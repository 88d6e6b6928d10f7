/- A text of the proofs. -/
import Derived.Test.YtnpdploihlgcgaaDoorGI
set_option linter.unusedVariables false
set_option maxRecDepth 100000
namespace Go.Proofs.YtnpdploihlgcgaaDoor
open Go Go.HL
def md59 : Nat → Hint
  | _ => ⟨false, [], [], [], [], false⟩
def S59_k1 (G : Hp) (K : Exit → Rg → Hp → Prop) (r : Rg) (h : Hp) : Prop :=
  opH Tryd.prog G (sv (Instr.loadAt 30 (r 3))) h fun v2 h2 =>
  opH Tryd.prog G (su (Instr.storeAt 30 (r 6) v2)) h2 fun v3 h3 =>
  K .ret (upd r 44 v2) h3
def S59 (G : Hp) (K : Exit → Rg → Hp → Prop) (r : Rg) (h : Hp) : Prop :=
  opH Tryd.prog G (sv (Instr.box 30 (r 0))) h fun v0 h0 =>
  opH Tryd.prog G (sv (Instr.alloc 30 true (.tuple #[]))) h0 fun v1 h1 =>
  opH Tryd.prog G (xEq .eql 3 (.tmp 0) (.const .nilFunc) (r 1) (.int .i64 0)) h1 fun v4 h4 =>
  cond v4
  (opH Tryd.prog G (sv (Instr.fieldAt 30 v0 0)) h4 fun v5 h5 =>
  opH Tryd.prog G (sv (Instr.fieldAt 28 v5 1)) h5 fun v6 h6 =>
  opH Tryd.prog G (sv (Instr.loadAt 3 v6)) h6 fun v7 h7 =>
  opH Tryd.prog G (sv (binOp .sub 3 v7 (r 2))) h7 fun v8 h8 =>
  opH Tryd.prog G (sv (Instr.fieldAt 30 v0 0)) h8 fun v9 h9 =>
  opH Tryd.prog G (sv (Instr.fieldAt 28 v9 1)) h9 fun v10 h10 =>
  opH Tryd.prog G (su (Instr.storeAt 3 v10 v8)) h10 fun v11 h11 =>
  S59_k1 G K (upd (upd (upd (upd (upd (upd (upd (upd (upd (upd (upd (upd r 3 v0) 6 v1) 7 (r 1)) 9 v4) 8 v4) 10 v5) 11 v6) 12 v7) 13 (r 2)) 14 v8) 15 v9) 16 v10) h11)
  (opH Tryd.prog G (xEq .eql 3 (.tmp 0) (.const .nilFunc) (r 1) (.int .i64 1)) h4 fun v12 h12 =>
  cond v12
  (opH Tryd.prog G (sv (Instr.fieldAt 30 v0 0)) h12 fun v13 h13 =>
  opH Tryd.prog G (sv (Instr.fieldAt 28 v13 0)) h13 fun v14 h14 =>
  opH Tryd.prog G (sv (Instr.loadAt 3 v14)) h14 fun v15 h15 =>
  opH Tryd.prog G (sv (binOp .add 3 v15 (r 2))) h15 fun v16 h16 =>
  opH Tryd.prog G (sv (Instr.fieldAt 30 v0 0)) h16 fun v17 h17 =>
  opH Tryd.prog G (sv (Instr.fieldAt 28 v17 0)) h17 fun v18 h18 =>
  opH Tryd.prog G (su (Instr.storeAt 3 v18 v16)) h18 fun v19 h19 =>
  S59_k1 G K (upd (upd (upd (upd (upd (upd (upd (upd (upd (upd (upd (upd (upd (upd r 3 v0) 6 v1) 7 (r 1)) 9 v4) 8 v4) 18 v12) 17 v12) 19 v13) 20 v14) 21 v15) 22 (r 2)) 23 v16) 24 v17) 25 v18) h19)
  (opH Tryd.prog G (xEq .eql 3 (.tmp 0) (.const .nilFunc) (r 1) (.int .i64 2)) h12 fun v20 h20 =>
  cond v20
  (opH Tryd.prog G (sv (Instr.fieldAt 30 v0 0)) h20 fun v21 h21 =>
  opH Tryd.prog G (sv (Instr.fieldAt 28 v21 1)) h21 fun v22 h22 =>
  opH Tryd.prog G (sv (Instr.loadAt 3 v22)) h22 fun v23 h23 =>
  opH Tryd.prog G (sv (binOp .add 3 v23 (r 2))) h23 fun v24 h24 =>
  opH Tryd.prog G (sv (Instr.fieldAt 30 v0 0)) h24 fun v25 h25 =>
  opH Tryd.prog G (sv (Instr.fieldAt 28 v25 1)) h25 fun v26 h26 =>
  opH Tryd.prog G (su (Instr.storeAt 3 v26 v24)) h26 fun v27 h27 =>
  S59_k1 G K (upd (upd (upd (upd (upd (upd (upd (upd (upd (upd (upd (upd (upd (upd (upd (upd r 3 v0) 6 v1) 7 (r 1)) 9 v4) 8 v4) 18 v12) 17 v12) 27 v20) 26 v20) 28 v21) 29 v22) 30 v23) 31 (r 2)) 32 v24) 33 v25) 34 v26) h27)
  (opH Tryd.prog G (xEq .eql 3 (.tmp 0) (.const .nilFunc) (r 1) (.int .i64 3)) h20 fun v28 h28 =>
  cond v28
  (opH Tryd.prog G (sv (Instr.fieldAt 30 v0 0)) h28 fun v29 h29 =>
  opH Tryd.prog G (sv (Instr.fieldAt 28 v29 0)) h29 fun v30 h30 =>
  opH Tryd.prog G (sv (Instr.loadAt 3 v30)) h30 fun v31 h31 =>
  opH Tryd.prog G (sv (binOp .sub 3 v31 (r 2))) h31 fun v32 h32 =>
  opH Tryd.prog G (sv (Instr.fieldAt 30 v0 0)) h32 fun v33 h33 =>
  opH Tryd.prog G (sv (Instr.fieldAt 28 v33 0)) h33 fun v34 h34 =>
  opH Tryd.prog G (su (Instr.storeAt 3 v34 v32)) h34 fun v35 h35 =>
  S59_k1 G K (upd (upd (upd (upd (upd (upd (upd (upd (upd (upd (upd (upd (upd (upd (upd (upd (upd (upd r 3 v0) 6 v1) 7 (r 1)) 9 v4) 8 v4) 18 v12) 17 v12) 27 v20) 26 v20) 36 v28) 35 v28) 37 v29) 38 v30) 39 v31) 40 (r 2)) 41 v32) 42 v33) 43 v34) h35)
  (S59_k1 G K (upd (upd (upd (upd (upd (upd (upd (upd (upd (upd (upd r 3 v0) 6 v1) 7 (r 1)) 9 v4) 8 v4) 18 v12) 17 v12) 27 v20) 26 v20) 36 v28) 35 v28) h28))))
theorem S59_eq (G : Hp) (K : Exit → Rg → Hp → Prop) (r : Rg) (h : Hp) : wpC Tryd.prog G 45 md59 true (Tryd.f59.body.getD .skip) r h K = S59 G K r h := by kernel_rfl
theorem enter59 {G : Hp} {h : Hp} {args : Array Value} {R : Value → Hp → Prop} (hn : args.size ≤ 45) (H : S59 G (retK Tryd.prog G [.cell 6 30] R) (regs args) h) : HCalls Tryd.prog G 59 args h R :=
  HCalls.enter (md := md59) mixed Tryd.func59 rfl hn (by rw [← S59_eq] at H; exact H)

def md46 : Nat → Hint
  | 5 => ⟨true, [0, 1, 3, 7, 15, 31, 63, 127, 255, 511, 1023, 2047, 4095, 2047, 10239, 2047, 34815, 2047, 133119, 518143, 1048575, 2097151], [.pureN, .pureM, .eff, .pureN, .pureN, .pureN, .pureM, .eff, .pureN, .pureN, .pureN, .pureN, .pureM, .pureN, .pureM, .pureN, .pureM, .pureN, .pureM, .eff, .pureM, .pureN], [.pureN, .pureM, .eff, .pureN, .pureN, .pureN, .pureM, .eff, .pureN, .pureN, .pureN, .pureN, .pureM, .pureN, .pureM, .pureN, .pureM, .pureN, .pureM, .eff, .pureM, .pureN], [false, false, true, false, false, false, false, true, false, false, false, false, false, false, false, false, false, false, false, true, false, false], true⟩
  | 10 => ⟨false, [0, 0, 2, 0, 8, 0, 62, 127, 255], [.pureM, .pureN, .pureM, .pureN, .pureM, .pureN, .eff, .eff, .pureN], [.pureM, .pureN, .pureM, .pureN, .pureM, .pureN, .eff, .eff, .pureN], [false, false, false, false, false, false, true, false, false], true⟩
  | 18 => ⟨false, [0, 0, 0, 6, 14, 31, 63], [.pureM, .pureN, .pureN, .pureN, .pureM, .eff, .pureN], [.pureM, .pureN, .pureN, .pureN, .pureM, .eff, .pureN], [false, false, false, false, false, false, false], false⟩
  | _ => ⟨false, [], [], [], [], false⟩
def S46_k2 (G : Hp) (K : Exit → Rg → Hp → Prop) (r : Rg) (h : Hp) : Prop :=
  K .ret (upd r 4 (.bool false)) h
def S46_k4 (G : Hp) (K : Exit → Rg → Hp → Prop) (r : Rg) (h : Hp) : Prop :=
  K .ret (upd r 4 (.bool true)) h
def S46_l5_k7 (G : Hp) (K : Exit → Rg → Hp → Prop) (r : Rg) (h : Hp) : Prop :=
  opH Tryd.prog G (sv (binOp .add 3 (r 5) (.int .i64 1))) h fun v34 h34 =>
  K .normal (upd (upd (upd r 43 (r 5)) 44 v34) 5 v34) h34
def S46_l5_k6 (G : Hp) (K : Exit → Rg → Hp → Prop) (r : Rg) (h : Hp) : Prop :=
  ∃ q35 : Hp, q35.le h ∧
  pureW Tryd.prog G q35 (sv (Instr.loadAt 26 (r 2))) h fun v36 h36 =>
  pureW Tryd.prog noHp noHp (sv (Instr.fieldAt 46 (r 3) 3)) h36 fun v37 h37 =>
  pureW Tryd.prog G q35 (sv (Instr.loadAt 30 v37)) h37 fun v38 h38 =>
  pureW Tryd.prog noHp noHp (sv (Instr.fieldAt 46 (r 3) 1)) h38 fun v39 h39 =>
  pureW Tryd.prog G q35 (sv (Instr.loadAt 3 v39)) h39 fun v40 h40 =>
  opH Tryd.prog G (callFunc 59 #[v38, v40, (r 5)]) h40 fun v41 h41 => q35.le h41 ∧
  opH Tryd.prog G (callFunc 24 #[v36, v41]) h41 fun v42 h42 =>
  pureW Tryd.prog noHp noHp (sv (Op.unary .not v42)) h42 fun v43 h43 =>
  cond v43
  (K .ret (upd (upd (upd (upd (upd (upd (upd (upd (upd (upd r 45 v36) 46 v37) 47 v38) 48 v39) 49 v40) 50 (r 5)) 51 v41) 52 v42) 53 v43) 4 (.bool false)) h43)
  (S46_l5_k7 G K (upd (upd (upd (upd (upd (upd (upd (upd (upd r 45 v36) 46 v37) 47 v38) 48 v39) 49 v40) 50 (r 5)) 51 v41) 52 v42) 53 v43) h43)
def S46_l5 (G : Hp) (r : Rg) (h : Hp) (K : Exit → Rg → Hp → Prop) : Prop :=
  opH Tryd.prog G (sv (Instr.fieldAt 46 (r 3) 2)) h fun v31 h31 =>
  opH Tryd.prog G (sv (Instr.loadAt 3 v31)) h31 fun v32 h32 =>
  opH Tryd.prog G (sv (binOp .leq 3 (r 5) v32)) h32 fun v33 h33 =>
  cond v33
  (S46_l5_k6 G K (upd (upd (upd (upd r 39 (r 5)) 40 v31) 41 v32) 42 v33) h33)
  (K (.exit 1) (upd (upd (upd (upd r 39 (r 5)) 40 v31) 41 v32) 42 v33) h33)
def S46_k3 (G : Hp) (K : Exit → Rg → Hp → Prop) (r : Rg) (h : Hp) : Prop :=
  loopP (S46_l5 G) (upd r 5 (.int .i64 1)) h (blockK 1 (thenK (S46_k4 G K) (blockK 0 (thenK (S46_k2 G K) K))))
def S46_k8 (G : Hp) (K : Exit → Rg → Hp → Prop) (r : Rg) (h : Hp) : Prop :=
  opH Tryd.prog G (sv (Instr.fieldAt 46 (r 3) 2)) h fun v48 h48 =>
  opH Tryd.prog G (sv (Instr.loadAt 3 v48)) h48 fun v49 h49 =>
  opH Tryd.prog G (xEq .eql 3 (.tmp 0) (.const .nilFunc) v49 (.int .i64 0)) h49 fun v50 h50 =>
  gd (wantB v50 true) (opH Tryd.prog G (sv (Instr.fieldAt 46 (r 3) 1)) h50) h50 fun v51 h51 =>
  gd (wantB v50 true) (opH Tryd.prog G (sv (Instr.loadAt 3 v51)) h51) h51 fun v52 h52 =>
  gd (wantB v50 true) (opH Tryd.prog G (xEq .eql 3 (.tmp 0) (.const .nilFunc) v52 (.int .i64 0)) h52) h52 fun v53 h53 =>
  opH Tryd.prog G (xPick v50 v53 (.bool false)) h53 fun v54 h54 =>
  gd (wantB v54 true) (opH Tryd.prog G (sv (Instr.fieldAt 46 (r 3) 4)) h54) h54 fun v55 h55 =>
  gd (wantB v54 true) (opH Tryd.prog G (sv (Instr.loadAt 30 v55)) h55) h55 fun v56 h56 =>
  gd (wantB v54 true) (opH Tryd.prog G (sv (Instr.fieldAt 46 (r 3) 3)) h56) h56 fun v57 h57 =>
  gd (wantB v54 true) (opH Tryd.prog G (sv (Instr.fieldAt 30 v57 0)) h57) h57 fun v58 h58 =>
  gd (wantB v54 true) (opH Tryd.prog G (sv (Instr.loadAt 28 v58)) h58) h58 fun v59 h59 =>
  gd (wantB v54 true) (opH Tryd.prog G (sv (Instr.fieldAt 46 (r 3) 3)) h59) h59 fun v60 h60 =>
  gd (wantB v54 true) (opH Tryd.prog G (sv (Instr.fieldAt 30 v60 1)) h60) h60 fun v61 h61 =>
  gd (wantB v54 true) (opH Tryd.prog G (sv (Instr.loadAt 4 v61)) h61) h61 fun v62 h62 =>
  gd (wantB v54 true) (opH Tryd.prog G (sv (Op.unary .not v62)) h62) h62 fun v63 h63 =>
  gd (wantB v54 true) (opH Tryd.prog G (sv (Instr.build 30 #[(0, v59), (1, v63)])) h63) h63 fun v64 h64 =>
  gd (wantB v54 true) (opH Tryd.prog G (xEq .eql 30 (.tmp 0) (.tmp 0) v56 v64) h64) h64 fun v65 h65 =>
  opH Tryd.prog G (xPick v54 v65 (.bool false)) h65 fun v66 h66 =>
  K .ret (upd (upd (upd (upd (upd (upd (upd (upd (upd (upd (upd (upd (upd (upd (upd (upd (upd (upd (upd (upd (upd (upd r 70 v48) 71 v49) 72 v50) 73 v50) 74 v51) 75 v52) 76 v53) 77 v54) 78 v54) 79 v55) 80 v56) 81 v57) 82 v58) 83 v59) 84 v60) 85 v61) 86 v62) 87 v63) 88 v64) 89 v65) 90 v66) 4 v66) h66
def S46_l9_k11 (G : Hp) (K : Exit → Rg → Hp → Prop) (r : Rg) (h : Hp) : Prop :=
  opH Tryd.prog G (sv (binOp .add 3 (r 7) (.int .i64 1))) h fun v68 h68 =>
  K .normal (upd (upd (upd r 61 (r 7)) 62 v68) 7 v68) h68
def S46_l9_k10 (G : Hp) (K : Exit → Rg → Hp → Prop) (r : Rg) (h : Hp) : Prop :=
  pureW Tryd.prog G h (sv (Instr.loadAt 26 (r 2))) h fun v69 h69 =>
  pureW Tryd.prog noHp noHp (sv (Instr.indexAt 22 (r 6) (r 7))) h69 fun v70 h70 =>
  pureW Tryd.prog G h (sv (Instr.loadAt 28 v70)) h70 fun v71 h71 =>
  opH Tryd.prog G (callFunc 32 #[v69, v71]) h71 fun v72 h72 =>
  pureW Tryd.prog noHp noHp (sv (Op.unary .not v72)) h72 fun v73 h73 =>
  cond v73
  (K .ret (upd (upd (upd (upd (upd (upd (upd (upd r 63 v69) 64 (r 6)) 65 (r 7)) 66 v70) 67 v71) 68 v72) 69 v73) 4 (.bool false)) h73)
  (S46_l9_k11 G K (upd (upd (upd (upd (upd (upd (upd r 63 v69) 64 (r 6)) 65 (r 7)) 66 v70) 67 v71) 68 v72) 69 v73) h73)
def S46_l9 (G : Hp) (r : Rg) (h : Hp) (K : Exit → Rg → Hp → Prop) : Prop :=
  opH Tryd.prog G (sv (binOp .lss 3 (r 7) (.int .i64 4))) h fun v67 h67 =>
  cond v67
  (S46_l9_k10 G K (upd (upd r 59 (r 7)) 60 v67) h67)
  (K (.exit 3) (upd (upd r 59 (r 7)) 60 v67) h67)
def S46_k12 (G : Hp) (K : Exit → Rg → Hp → Prop) (r : Rg) (h : Hp) : Prop :=
  cond (r 91)
  (opH Tryd.prog G (sv (Instr.fieldAt 46 (r 3) 2)) h fun v75 h75 =>
  opH Tryd.prog G (sv (Instr.loadAt 3 v75)) h75 fun v76 h76 =>
  opH Tryd.prog G (xEq .eql 3 (.tmp 0) (.const .nilFunc) v76 (.int .i64 0)) h76 fun v77 h77 =>
  gd (wantB v77 true) (opH Tryd.prog G (sv (Instr.fieldAt 46 (r 3) 1)) h77) h77 fun v78 h78 =>
  gd (wantB v77 true) (opH Tryd.prog G (sv (Instr.loadAt 3 v78)) h78) h78 fun v79 h79 =>
  gd (wantB v77 true) (opH Tryd.prog G (xEq .eql 3 (.tmp 0) (.const .nilFunc) v79 (.int .i64 0)) h79) h79 fun v80 h80 =>
  opH Tryd.prog G (xPick v77 v80 (.bool false)) h80 fun v81 h81 =>
  gd (wantB v81 true) (opH Tryd.prog G (sv (Instr.fieldAt 46 (r 3) 4)) h81) h81 fun v82 h82 =>
  gd (wantB v81 true) (opH Tryd.prog G (sv (Instr.loadAt 30 v82)) h82) h82 fun v83 h83 =>
  gd (wantB v81 true) (opH Tryd.prog G (sv (Instr.fieldAt 46 (r 3) 3)) h83) h83 fun v84 h84 =>
  gd (wantB v81 true) (opH Tryd.prog G (sv (Instr.loadAt 30 v84)) h84) h84 fun v85 h85 =>
  gd (wantB v81 true) (opH Tryd.prog G (xEq .eql 30 (.tmp 0) (.tmp 0) v83 v85) h85) h85 fun v86 h86 =>
  opH Tryd.prog G (xPick v81 v86 (.bool false)) h86 fun v87 h87 =>
  K .ret (upd (upd (upd (upd (upd (upd (upd (upd (upd (upd (upd (upd (upd (upd (upd (upd r 94 v75) 95 v76) 96 v77) 97 v77) 98 v78) 99 v79) 100 v80) 101 v81) 102 v81) 103 v82) 104 v83) 105 v84) 106 v85) 107 v86) 108 v87) 4 v87) h87)
  (S46_k2 G K r h)
def S46_k1 (G : Hp) (K : Exit → Rg → Hp → Prop) (r : Rg) (h : Hp) : Prop :=
  opH Tryd.prog G (sv (Instr.fieldAt 46 (r 3) 0)) h fun v7 h7 =>
  opH Tryd.prog G (sv (Instr.loadAt 3 v7)) h7 fun v8 h8 =>
  opH Tryd.prog G (xEq .eql 3 (.tmp 0) (.const .nilFunc) v8 (.int .i64 1)) h8 fun v9 h9 =>
  cond v9
  (∃ q10 : Hp, q10.le h9 ∧
  pureW Tryd.prog noHp noHp (sv (Instr.fieldAt 46 (r 3) 2)) h9 fun v11 h11 =>
  pureW Tryd.prog G q10 (sv (Instr.loadAt 3 v11)) h11 fun v12 h12 =>
  opH Tryd.prog G (callFunc 58 #[v12, (.int .i64 1), (.int .i64 16)]) h12 fun v13 h13 => q10.le h13 ∧
  pureW Tryd.prog noHp noHp (sv (Op.unary .not v13)) h13 fun v14 h14 =>
  gd (wantB v14 false) (pureW Tryd.prog noHp noHp (sv (Instr.fieldAt 46 (r 3) 1)) h14) h14 fun v15 h15 =>
  gd (wantB v14 false) (pureW Tryd.prog G q10 (sv (Instr.loadAt 3 v15)) h15) h15 fun v16 h16 =>
  gd (wantB v14 false) (fun K1 => opH Tryd.prog G (callFunc 58 #[v16, (.int .i64 0), (.int .i64 3)]) h16 fun v h' => q10.le h' ∧ K1 v h') h16 fun v17 h17 =>
  gd (wantB v14 false) (pureW Tryd.prog noHp noHp (sv (Op.unary .not v17)) h17) h17 fun v18 h18 =>
  pureW Tryd.prog noHp noHp (xPick v14 (.bool true) v18) h18 fun v19 h19 =>
  gd (wantB v19 false) (pureW Tryd.prog noHp noHp (sv (Instr.fieldAt 46 (r 3) 4)) h19) h19 fun v20 h20 =>
  gd (wantB v19 false) (pureW Tryd.prog G q10 (sv (Instr.loadAt 30 v20)) h20) h20 fun v21 h21 =>
  gd (wantB v19 false) (pureW Tryd.prog noHp noHp (sv (Instr.fieldAt 46 (r 3) 3)) h21) h21 fun v22 h22 =>
  gd (wantB v19 false) (pureW Tryd.prog G q10 (sv (Instr.loadAt 30 v22)) h22) h22 fun v23 h23 =>
  gd (wantB v19 false) (pureW Tryd.prog noHp noHp (sv (Instr.fieldAt 46 (r 3) 1)) h23) h23 fun v24 h24 =>
  gd (wantB v19 false) (pureW Tryd.prog G q10 (sv (Instr.loadAt 3 v24)) h24) h24 fun v25 h25 =>
  gd (wantB v19 false) (pureW Tryd.prog noHp noHp (sv (Instr.fieldAt 46 (r 3) 2)) h25) h25 fun v26 h26 =>
  gd (wantB v19 false) (pureW Tryd.prog G q10 (sv (Instr.loadAt 3 v26)) h26) h26 fun v27 h27 =>
  gd (wantB v19 false) (fun K1 => opH Tryd.prog G (callFunc 59 #[v23, v25, v27]) h27 fun v h' => q10.le h' ∧ K1 v h') h27 fun v28 h28 =>
  gd (wantB v19 false) (pureW Tryd.prog G q10 (xEq .neq 30 (.tmp 0) (.tmp 0) v21 v28) h28) h28 fun v29 h29 =>
  pureW Tryd.prog noHp noHp (xPick v19 (.bool true) v29) h29 fun v30 h30 =>
  cond v30
  (K .ret (upd (upd (upd (upd (upd (upd (upd (upd (upd (upd (upd (upd (upd (upd (upd (upd (upd (upd (upd (upd (upd (upd (upd (upd (upd (upd (upd r 13 v7) 14 v8) 16 v9) 15 v9) 17 v11) 18 v12) 19 v13) 20 v14) 21 v14) 22 v15) 23 v16) 24 v17) 25 v18) 26 v19) 27 v19) 28 v20) 29 v21) 30 v22) 31 v23) 32 v24) 33 v25) 34 v26) 35 v27) 36 v28) 37 v29) 38 v30) 4 (.bool false)) h30)
  (S46_k3 G K (upd (upd (upd (upd (upd (upd (upd (upd (upd (upd (upd (upd (upd (upd (upd (upd (upd (upd (upd (upd (upd (upd (upd (upd (upd (upd r 13 v7) 14 v8) 16 v9) 15 v9) 17 v11) 18 v12) 19 v13) 20 v14) 21 v14) 22 v15) 23 v16) 24 v17) 25 v18) 26 v19) 27 v19) 28 v20) 29 v21) 30 v22) 31 v23) 32 v24) 33 v25) 34 v26) 35 v27) 36 v28) 37 v29) 38 v30) h30))
  (opH Tryd.prog G (xEq .eql 3 (.tmp 0) (.const .nilFunc) v8 (.int .i64 2)) h9 fun v44 h44 =>
  cond v44
  (opH Tryd.prog G (sv (Instr.fieldAt 46 (r 3) 3)) h44 fun v45 h45 =>
  opH Tryd.prog G (sv (Instr.loadAt 30 v45)) h45 fun v46 h46 =>
  opH Tryd.prog G (callFunc 68 #[v46]) h46 fun v47 h47 =>
  loopP (S46_l9 G) (upd (upd (upd (upd (upd (upd (upd (upd (upd (upd (upd r 13 v7) 14 v8) 16 v9) 15 v9) 55 v44) 54 v44) 56 v45) 57 v46) 58 v47) 6 v47) 7 (.int .i64 0)) h47 (blockK 3 (thenK (S46_k8 G K) (blockK 0 (thenK (S46_k2 G K) K)))))
  (opH Tryd.prog G (xEq .eql 3 (.tmp 0) (.const .nilFunc) v8 (.int .i64 3)) h44 fun v74 h74 =>
  cond v74
  (S46_k12 G K (upd (upd (upd (upd (upd (upd (upd (upd r 13 v7) 14 v8) 16 v9) 15 v9) 55 v44) 54 v44) 92 v74) 91 v74) h74)
  (opH Tryd.prog G (xEq .eql 3 (.tmp 0) (.const .nilFunc) v8 (.int .i64 4)) h74 fun v88 h88 =>
  S46_k12 G K (upd (upd (upd (upd (upd (upd (upd (upd (upd (upd r 13 v7) 14 v8) 16 v9) 15 v9) 55 v44) 54 v44) 92 v74) 91 v74) 93 v88) 91 v88) h88)))
def S46 (G : Hp) (K : Exit → Rg → Hp → Prop) (r : Rg) (h : Hp) : Prop :=
  opH Tryd.prog G (sv (Instr.box 26 (r 0))) h fun v0 h0 =>
  opH Tryd.prog G (sv (Instr.box 46 (r 1))) h0 fun v1 h1 =>
  opH Tryd.prog G (sv (Instr.loadAt 26 v0)) h1 fun v2 h2 =>
  opH Tryd.prog G (sv (Instr.fieldAt 46 v1 3)) h2 fun v3 h3 =>
  opH Tryd.prog G (sv (Instr.loadAt 30 v3)) h3 fun v4 h4 =>
  opH Tryd.prog G (callFunc 24 #[v2, v4]) h4 fun v5 h5 =>
  opH Tryd.prog G (sv (Op.unary .not v5)) h5 fun v6 h6 =>
  cond v6
  (K .ret (upd (upd (upd (upd (upd (upd (upd (upd (upd r 2 v0) 3 v1) 4 (.bool false)) 8 v2) 9 v3) 10 v4) 11 v5) 12 v6) 4 (.bool false)) h6)
  (S46_k1 G K (upd (upd (upd (upd (upd (upd (upd (upd r 2 v0) 3 v1) 4 (.bool false)) 8 v2) 9 v3) 10 v4) 11 v5) 12 v6) h6)
theorem S46_eq (G : Hp) (K : Exit → Rg → Hp → Prop) (r : Rg) (h : Hp) : wpC Tryd.prog G 109 md46 true (Tryd.f46.body.getD .skip) r h K = S46 G K r h := by kernel_rfl
theorem enter46 {G : Hp} {h : Hp} {args : Array Value} {R : Value → Hp → Prop} (hn : args.size ≤ 109) (H : S46 G (retK Tryd.prog G [.tmp 4] R) (regs args) h) : HCalls Tryd.prog G 46 args h R :=
  HCalls.enter (md := md46) mixed Tryd.func46 rfl hn (by rw [← S46_eq] at H; exact H)

def md68 : Nat → Hint
  | _ => ⟨false, [], [], [], [], false⟩
def S68 (G : Hp) (K : Exit → Rg → Hp → Prop) (r : Rg) (h : Hp) : Prop :=
  opH Tryd.prog G (sv (Instr.box 30 (r 0))) h fun v0 h0 =>
  opH Tryd.prog G (sv (Instr.fieldAt 30 v0 0)) h0 fun v1 h1 =>
  opH Tryd.prog G (sv (Instr.fieldAt 28 v1 0)) h1 fun v2 h2 =>
  opH Tryd.prog G (sv (Instr.loadAt 3 v2)) h2 fun v3 h3 =>
  opH Tryd.prog G (sv (Instr.fieldAt 30 v0 0)) h3 fun v4 h4 =>
  opH Tryd.prog G (sv (Instr.fieldAt 28 v4 1)) h4 fun v5 h5 =>
  opH Tryd.prog G (sv (Instr.loadAt 3 v5)) h5 fun v6 h6 =>
  opH Tryd.prog G (sv (Instr.build 28 #[(0, v3), (1, v6)])) h6 fun v7 h7 =>
  opH Tryd.prog G (sv (binOp .add 3 v3 (.int .i64 1))) h7 fun v8 h8 =>
  opH Tryd.prog G (sv (Instr.build 28 #[(0, v8), (1, v6)])) h8 fun v9 h9 =>
  opH Tryd.prog G (sv (binOp .add 3 v6 (.int .i64 1))) h9 fun v10 h10 =>
  opH Tryd.prog G (sv (Instr.build 28 #[(0, v3), (1, v10)])) h10 fun v11 h11 =>
  opH Tryd.prog G (sv (binOp .add 3 v3 (.int .i64 1))) h11 fun v12 h12 =>
  opH Tryd.prog G (sv (binOp .add 3 v6 (.int .i64 1))) h12 fun v13 h13 =>
  opH Tryd.prog G (sv (Instr.build 28 #[(0, v12), (1, v13)])) h13 fun v14 h14 =>
  opH Tryd.prog G (sv (Instr.buildSlice 22 4 #[(0, v7), (1, v9), (2, v11), (3, v14)])) h14 fun v15 h15 =>
  K .ret (upd (upd (upd (upd (upd (upd (upd (upd (upd (upd (upd (upd (upd (upd (upd (upd (upd (upd (upd (upd (upd (upd (upd (upd (upd (upd (upd (upd r 1 v0) 2 (.slice none 0 0)) 5 v1) 6 v2) 7 v3) 3 v3) 8 v4) 9 v5) 10 v6) 4 v6) 11 v3) 12 v6) 13 v7) 14 v3) 15 v8) 16 v6) 17 v9) 18 v3) 19 v6) 20 v10) 21 v11) 22 v3) 23 v12) 24 v6) 25 v13) 26 v14) 27 v15) 2 v15) h15
theorem S68_eq (G : Hp) (K : Exit → Rg → Hp → Prop) (r : Rg) (h : Hp) : wpC Tryd.prog G 28 md68 true (Tryd.f68.body.getD .skip) r h K = S68 G K r h := by kernel_rfl
theorem enter68 {G : Hp} {h : Hp} {args : Array Value} {R : Value → Hp → Prop} (hn : args.size ≤ 28) (H : S68 G (retK Tryd.prog G [.tmp 2] R) (regs args) h) : HCalls Tryd.prog G 68 args h R :=
  HCalls.enter (md := md68) mixed Tryd.func68 rfl hn (by rw [← S68_eq] at H; exact H)

def md42 : Nat → Hint
  | 10 => ⟨false, [0, 0, 0, 0, 0, 0, 56, 127, 0, 511], [.pureN, .pureN, .pureM, .pureM, .pureN, .pureN, .eff, .pureN, .alloc, .store], [.pureN, .pureN, .pureM, .pureM, .pureN, .pureN, .eff, .pureN, .alloc, .store], [false, false, false, false, false, false, true, false, false, false], true⟩
  | _ => ⟨false, [], [], [], [], false⟩
def S42_k3 (G : Hp) (K : Exit → Rg → Hp → Prop) (r : Rg) (h : Hp) : Prop :=
  K .ret (upd (upd r 53 (r 5)) 4 (r 5)) h
def S42_k2 (G : Hp) (K : Exit → Rg → Hp → Prop) (r : Rg) (h : Hp) : Prop :=
  opH Tryd.prog G (sv (Instr.loadAt 30 (r 3))) h fun v6 h6 =>
  opH Tryd.prog G (sv (Instr.fieldAt 30 (r 3) 0)) h6 fun v7 h7 =>
  opH Tryd.prog G (sv (Instr.loadAt 28 v7)) h7 fun v8 h8 =>
  opH Tryd.prog G (sv (Instr.fieldAt 30 (r 3) 1)) h8 fun v9 h9 =>
  opH Tryd.prog G (sv (Instr.loadAt 4 v9)) h9 fun v10 h10 =>
  opH Tryd.prog G (sv (Op.unary .not v10)) h10 fun v11 h11 =>
  opH Tryd.prog G (sv (Instr.build 30 #[(0, v8), (1, v11)])) h11 fun v12 h12 =>
  opH Tryd.prog G (sv (Instr.build 46 #[(0, (.int .i64 2)), (3, v6), (4, v12)])) h12 fun v13 h13 =>
  opH Tryd.prog G (sv (Instr.alloc 46 true (.tuple #[]))) h13 fun v14 h14 =>
  opH Tryd.prog G (su (Instr.storeAt 46 v14 v13)) h14 fun v15 h15 =>
  opH Tryd.prog G (sv (Instr.loadAt 26 (r 2))) h15 fun v16 h16 =>
  opH Tryd.prog G (sv (Instr.loadAt 46 v14)) h16 fun v17 h17 =>
  opH Tryd.prog G (callFunc 46 #[v16, v17]) h17 fun v18 h18 =>
  cond v18
  (opH Tryd.prog G (sv (Instr.loadAt 46 v14)) h18 fun v19 h19 =>
  opH Tryd.prog G (sv (Instr.buildSlice 47 1 #[(0, v19)])) h19 fun v20 h20 =>
  opH Tryd.prog G (sv (Builtin.append_ #[47, 47] 47 #[(r 5), v20])) h20 fun v21 h21 =>
  S42_k3 G K (upd (upd (upd (upd (upd (upd (upd (upd (upd (upd (upd (upd (upd (upd (upd (upd (upd r 38 v6) 39 v7) 40 v8) 41 v9) 42 v10) 43 v11) 44 v12) 45 v13) 9 v14) 46 v16) 47 v17) 48 v18) 49 (r 5)) 50 v19) 51 v20) 52 v21) 5 v21) h21)
  (S42_k3 G K (upd (upd (upd (upd (upd (upd (upd (upd (upd (upd (upd (upd r 38 v6) 39 v7) 40 v8) 41 v9) 42 v10) 43 v11) 44 v12) 45 v13) 9 v14) 46 v16) 47 v17) 48 v18) h18)
def S42_l4_k6 (G : Hp) (K : Exit → Rg → Hp → Prop) (r : Rg) (h : Hp) : Prop :=
  opH Tryd.prog G (sv (binOp .add 3 (r 6) (.int .i64 1))) h fun v23 h23 =>
  K .normal (upd (upd (upd r 16 (r 6)) 17 v23) 6 v23) h23
def S42_l4_l7_k9 (G : Hp) (K : Exit → Rg → Hp → Prop) (r : Rg) (h : Hp) : Prop :=
  opH Tryd.prog G (sv (binOp .add 3 (r 7) (.int .i64 1))) h fun v25 h25 =>
  K .normal (upd (upd (upd r 20 (r 7)) 21 v25) 7 v25) h25
def S42_l4_l7_k10 (G : Hp) (K : Exit → Rg → Hp → Prop) (r : Rg) (h : Hp) : Prop :=
  opH Tryd.prog G (sv (Instr.loadAt 46 (r 8))) h fun v37 h37 =>
  opH Tryd.prog G (sv (Instr.buildSlice 47 1 #[(0, v37)])) h37 fun v38 h38 =>
  opH Tryd.prog G (sv (Builtin.append_ #[47, 47] 47 #[(r 5), v38])) h38 fun v39 h39 =>
  S42_l4_l7_k9 G K (upd (upd (upd (upd (upd r 34 (r 5)) 35 v37) 36 v38) 37 v39) 5 v39) h39
def S42_l4_l7_k8 (G : Hp) (K : Exit → Rg → Hp → Prop) (r : Rg) (h : Hp) : Prop :=
  ∃ q26 : Hp, q26.le h ∧
  pureW Tryd.prog G q26 (sv (Instr.loadAt 30 (r 3))) h fun v27 h27 =>
  pureW Tryd.prog G q26 (sv (Instr.loadAt 30 (r 3))) h27 fun v28 h28 =>
  opH Tryd.prog G (callFunc 59 #[v28, (r 6), (r 7)]) h28 fun v29 h29 => q26.le h29 ∧
  pureW Tryd.prog noHp noHp (sv (Instr.build 46 #[(0, (.int .i64 1)), (1, (r 6)), (2, (r 7)), (3, v27), (4, v29)])) h29 fun v30 h30 =>
  opH Tryd.prog G (sv (Instr.alloc 46 true (.tuple #[]))) h30 fun v31 h31 =>
  opH Tryd.prog G (su (Instr.storeAt 46 v31 v30)) h31 fun v32 h32 =>
  opH Tryd.prog G (sv (Instr.loadAt 26 (r 2))) h32 fun v33 h33 =>
  opH Tryd.prog G (sv (Instr.loadAt 46 v31)) h33 fun v34 h34 =>
  opH Tryd.prog G (callFunc 46 #[v33, v34]) h34 fun v35 h35 =>
  opH Tryd.prog G (sv (Op.unary .not v35)) h35 fun v36 h36 =>
  cond v36
  (K (.exit 2) (upd (upd (upd (upd (upd (upd (upd (upd (upd (upd (upd (upd (upd r 22 (r 6)) 23 (r 7)) 24 v27) 25 v28) 26 (r 6)) 27 (r 7)) 28 v29) 29 v30) 8 v31) 30 v33) 31 v34) 32 v35) 33 v36) h36)
  (S42_l4_l7_k10 G K (upd (upd (upd (upd (upd (upd (upd (upd (upd (upd (upd (upd (upd r 22 (r 6)) 23 (r 7)) 24 v27) 25 v28) 26 (r 6)) 27 (r 7)) 28 v29) 29 v30) 8 v31) 30 v33) 31 v34) 32 v35) 33 v36) h36)
def S42_l4_l7 (G : Hp) (r : Rg) (h : Hp) (K : Exit → Rg → Hp → Prop) : Prop :=
  opH Tryd.prog G (sv (binOp .leq 3 (r 7) (.int .i64 16))) h fun v24 h24 =>
  cond v24
  (S42_l4_l7_k8 G K (upd (upd r 18 (r 7)) 19 v24) h24)
  (K (.exit 2) (upd (upd r 18 (r 7)) 19 v24) h24)
def S42_l4_k5 (G : Hp) (K : Exit → Rg → Hp → Prop) (r : Rg) (h : Hp) : Prop :=
  loopP (S42_l4_l7 G) (upd r 7 (.int .i64 1)) h (blockK 2 (blockK 1 (thenK (S42_l4_k6 G K) K)))
def S42_l4 (G : Hp) (r : Rg) (h : Hp) (K : Exit → Rg → Hp → Prop) : Prop :=
  opH Tryd.prog G (sv (binOp .leq 3 (r 6) (.int .i64 3))) h fun v22 h22 =>
  cond v22
  (S42_l4_k5 G K (upd (upd r 14 (r 6)) 15 v22) h22)
  (K (.exit 0) (upd (upd r 14 (r 6)) 15 v22) h22)
def S42_k1 (G : Hp) (K : Exit → Rg → Hp → Prop) (r : Rg) (h : Hp) : Prop :=
  loopP (S42_l4 G) (upd (upd r 5 (.slice none 0 0)) 6 (.int .i64 0)) h (blockK 0 (thenK (S42_k2 G K) K))
def S42 (G : Hp) (K : Exit → Rg → Hp → Prop) (r : Rg) (h : Hp) : Prop :=
  opH Tryd.prog G (sv (Instr.box 26 (r 0))) h fun v0 h0 =>
  opH Tryd.prog G (sv (Instr.box 30 (r 1))) h0 fun v1 h1 =>
  opH Tryd.prog G (sv (Instr.loadAt 26 v0)) h1 fun v2 h2 =>
  opH Tryd.prog G (sv (Instr.loadAt 30 v1)) h2 fun v3 h3 =>
  opH Tryd.prog G (callFunc 24 #[v2, v3]) h3 fun v4 h4 =>
  opH Tryd.prog G (sv (Op.unary .not v4)) h4 fun v5 h5 =>
  cond v5
  (K .ret (upd (upd (upd (upd (upd (upd (upd (upd r 2 v0) 3 v1) 4 (.slice none 0 0)) 10 v2) 11 v3) 12 v4) 13 v5) 4 (.slice none 0 0)) h5)
  (S42_k1 G K (upd (upd (upd (upd (upd (upd (upd r 2 v0) 3 v1) 4 (.slice none 0 0)) 10 v2) 11 v3) 12 v4) 13 v5) h5)
theorem S42_eq (G : Hp) (K : Exit → Rg → Hp → Prop) (r : Rg) (h : Hp) : wpC Tryd.prog G 54 md42 true (Tryd.f42.body.getD .skip) r h K = S42 G K r h := by kernel_rfl
theorem enter42 {G : Hp} {h : Hp} {args : Array Value} {R : Value → Hp → Prop} (hn : args.size ≤ 54) (H : S42 G (retK Tryd.prog G [.tmp 4] R) (regs args) h) : HCalls Tryd.prog G 42 args h R :=
  HCalls.enter (md := md42) mixed Tryd.func42 rfl hn (by rw [← S42_eq] at H; exact H)

def md43 : Nat → Hint
  | _ => ⟨false, [], [], [], [], false⟩
def S43_k1 (G : Hp) (K : Exit → Rg → Hp → Prop) (r : Rg) (h : Hp) : Prop :=
  K .ret (upd (upd r 29 (r 3)) 2 (r 3)) h
def S43_l2_k4 (G : Hp) (K : Exit → Rg → Hp → Prop) (r : Rg) (h : Hp) : Prop :=
  opH Tryd.prog G (sv (binOp .add 3 (r 4) (.int .i64 1))) h fun v4 h4 =>
  K .normal (upd (upd (upd r 10 (r 4)) 11 v4) 4 v4) h4
def S43_l2_l5_k7 (G : Hp) (K : Exit → Rg → Hp → Prop) (r : Rg) (h : Hp) : Prop :=
  opH Tryd.prog G (sv (binOp .add 3 (r 5) (.int .i64 1))) h fun v8 h8 =>
  K .normal (upd (upd (upd r 16 (r 5)) 17 v8) 5 v8) h8
def S43_l2_l5_k6 (G : Hp) (K : Exit → Rg → Hp → Prop) (r : Rg) (h : Hp) : Prop :=
  opH Tryd.prog G (sv (Instr.loadAt 26 (r 1))) h fun v9 h9 =>
  opH Tryd.prog G (sv (Instr.build 28 #[(0, (r 5)), (1, (r 4))])) h9 fun v10 h10 =>
  opH Tryd.prog G (callFunc 36 #[v9, v10]) h10 fun v11 h11 =>
  cond v11
  (opH Tryd.prog G (sv (Instr.build 28 #[(0, (r 5)), (1, (r 4))])) h11 fun v12 h12 =>
  opH Tryd.prog G (sv (Instr.buildSlice 22 1 #[(0, v12)])) h12 fun v13 h13 =>
  opH Tryd.prog G (sv (Builtin.append_ #[22, 22] 22 #[(r 3), v13])) h13 fun v14 h14 =>
  S43_l2_l5_k7 G K (upd (upd (upd (upd (upd (upd (upd (upd (upd (upd (upd (upd r 18 v9) 19 (r 5)) 20 (r 4)) 21 v10) 22 v11) 23 (r 3)) 24 (r 5)) 25 (r 4)) 26 v12) 27 v13) 28 v14) 3 v14) h14)
  (S43_l2_l5_k7 G K (upd (upd (upd (upd (upd r 18 v9) 19 (r 5)) 20 (r 4)) 21 v10) 22 v11) h11)
def S43_l2_l5 (G : Hp) (r : Rg) (h : Hp) (K : Exit → Rg → Hp → Prop) : Prop :=
  opH Tryd.prog G (sv (Instr.fieldAt 26 (r 1) 0)) h fun v5 h5 =>
  opH Tryd.prog G (sv (Instr.loadAt 3 v5)) h5 fun v6 h6 =>
  opH Tryd.prog G (sv (binOp .lss 3 (r 5) v6)) h6 fun v7 h7 =>
  cond v7
  (S43_l2_l5_k6 G K (upd (upd (upd (upd r 12 (r 5)) 13 v5) 14 v6) 15 v7) h7)
  (K (.exit 2) (upd (upd (upd (upd r 12 (r 5)) 13 v5) 14 v6) 15 v7) h7)
def S43_l2_k3 (G : Hp) (K : Exit → Rg → Hp → Prop) (r : Rg) (h : Hp) : Prop :=
  loopP (S43_l2_l5 G) (upd r 5 (.int .i64 0)) h (blockK 2 (blockK 1 (thenK (S43_l2_k4 G K) K)))
def S43_l2 (G : Hp) (r : Rg) (h : Hp) (K : Exit → Rg → Hp → Prop) : Prop :=
  opH Tryd.prog G (sv (Instr.fieldAt 26 (r 1) 1)) h fun v1 h1 =>
  opH Tryd.prog G (sv (Instr.loadAt 3 v1)) h1 fun v2 h2 =>
  opH Tryd.prog G (sv (binOp .lss 3 (r 4) v2)) h2 fun v3 h3 =>
  cond v3
  (S43_l2_k3 G K (upd (upd (upd (upd r 6 (r 4)) 7 v1) 8 v2) 9 v3) h3)
  (K (.exit 0) (upd (upd (upd (upd r 6 (r 4)) 7 v1) 8 v2) 9 v3) h3)
def S43 (G : Hp) (K : Exit → Rg → Hp → Prop) (r : Rg) (h : Hp) : Prop :=
  opH Tryd.prog G (sv (Instr.box 26 (r 0))) h fun v0 h0 =>
  loopP (S43_l2 G) (upd (upd (upd (upd r 1 v0) 2 (.slice none 0 0)) 3 (.slice none 0 0)) 4 (.int .i64 0)) h0 (blockK 0 (thenK (S43_k1 G K) K))
theorem S43_eq (G : Hp) (K : Exit → Rg → Hp → Prop) (r : Rg) (h : Hp) : wpC Tryd.prog G 30 md43 true (Tryd.f43.body.getD .skip) r h K = S43 G K r h := by kernel_rfl
theorem enter43 {G : Hp} {h : Hp} {args : Array Value} {R : Value → Hp → Prop} (hn : args.size ≤ 30) (H : S43 G (retK Tryd.prog G [.tmp 2] R) (regs args) h) : HCalls Tryd.prog G 43 args h R :=
  HCalls.enter (md := md43) mixed Tryd.func43 rfl hn (by rw [← S43_eq] at H; exact H)

end Go.Proofs.YtnpdploihlgcgaaDoor

/- Texts of the proof, one behind the other. -/
import Derived.Test.YtangejiigopdaaaDoorM1
import Derived.Test.YtangejiigopdaaaDoorM2
import Derived.Test.YtangejiigopdaaaDoorH4
section
/- A text of the proofs. -/
set_option linter.unusedVariables false
set_option maxRecDepth 100000
namespace Go.Proofs.YtangejiigopdaaaDoor
open Go Go.HL
def md6 : Nat → Hint
  | 18 => ⟨false, [0, 0, 2, 6, 0, 16, 48, 0, 240, 0, 512, 1536, 3584, 8191, 16383, 32767, 32767, 65535, 262143], [.pureM, .pureN, .pureN, .alloc, .pureN, .pureN, .pureN, .pureN, .pureN, .pureN, .pureM, .pureN, .pureM, .eff, .pureN, .pureN, .pureN, .pureN, .pureN], [.pureM, .pureN, .pureN, .alloc, .pureN, .pureN, .pureN, .pureN, .pureN, .pureN, .pureM, .pureN, .pureM, .eff, .pureN, .pureN, .pureN, .pureN, .pureN], [false, false, false, false, false, false, false, false, false, false, false, false, false, false, false, false, false, false, false], false⟩
  | 26 => ⟨false, [0, 0, 3, 7, 15, 0, 0, 96, 224, 480, 1023, 2047, 4095, 4095, 16383, 32767, 65535, 4095, 135167, 397311, 4095, 1970175, 4194303, 8388607, 16777215, 33554431, 33554431, 134217727, 268435455, 536870911, 1073741823, 2147483647], [.pureN, .pureN, .pureN, .pureN, .pureM, .pureN, .pureN, .pureN, .pureN, .pureN, .pureM, .pureN, .pureN, .pureN, .pureN, .pureN, .pureM, .pureN, .pureN, .pureN, .pureN, .pureN, .pureM, .pureN, .pureN, .pureN, .pureN, .pureN, .pureN, .pureM, .pureM, .pureN], [.pureN, .pureN, .pureN, .pureN, .pureM, .pureN, .pureN, .pureN, .pureN, .pureN, .pureM, .pureN, .pureN, .pureN, .pureN, .pureN, .pureM, .pureN, .pureN, .pureN, .pureN, .pureN, .pureM, .pureN, .pureN, .pureN, .pureN, .pureN, .pureN, .pureM, .pureM, .pureN], [false, false, false, false, false, false, false, false, false, false, false, false, false, false, false, false, false, false, false, false, false, false, false, false, false, false, false, false, false, false, false, false], false⟩
  | _ => ⟨false, [], [], [], [], false⟩
def S6_k5 (G : Hp) (K : Exit → Rg → Hp → Prop) (r : Rg) (h : Hp) : Prop :=
  opH Tryd.prog G (sv (Instr.indexAt 31 (r 11) (r 1))) h fun v42 h42 =>
  opH Tryd.prog G (sv (Instr.fieldAt 45 v42 1)) h42 fun v43 h43 =>
  opH Tryd.prog G (sv (Instr.loadAt 3 v43)) h43 fun v44 h44 =>
  opH Tryd.prog G (xEq .eql 3 (.tmp 0) (.const .nilFunc) v44 (.int .i64 2)) h44 fun v45 h45 =>
  gd (wantB v45 true) (opH Tryd.prog G (callFunc 10 #[]) h45) h45 fun v46 h46 =>
  opH Tryd.prog G (xPick v45 v46 (.bool false)) h46 fun v47 h47 =>
  K .ret (upd (upd (upd (upd (upd (upd (upd (upd (upd (upd r 135 (r 11)) 136 (r 1)) 137 v42) 138 v43) 139 v44) 140 v45) 141 v45) 142 v46) 143 v47) 6 v47) h47
def S6_l6_k8 (G : Hp) (K : Exit → Rg → Hp → Prop) (r : Rg) (h : Hp) : Prop :=
  opH Tryd.prog G (sv (binOp .add 3 (r 13) (.int .i64 1))) h fun v49 h49 =>
  K .normal (upd (upd (upd r 101 (r 13)) 102 v49) 13 v49) h49
def S6_l6_k7 (G : Hp) (K : Exit → Rg → Hp → Prop) (r : Rg) (h : Hp) : Prop :=
  pureW Tryd.prog noHp noHp (sv (Instr.indexAt 31 (r 11) (r 13))) h fun v50 h50 =>
  pureW Tryd.prog noHp noHp (sv (Instr.fieldAt 45 v50 5)) h50 fun v51 h51 =>
  pureW Tryd.prog G h (sv (Instr.loadAt 28 v51)) h51 fun v52 h52 =>
  pureW Tryd.prog noHp noHp (sv (binOp .quo 3 (r 13) (r 0))) h52 fun v53 h53 =>
  pureW Tryd.prog noHp noHp (sv (binOp .add 3 (.int .i64 1) v53)) h53 fun v54 h54 =>
  pureW Tryd.prog noHp noHp (sv (Instr.build 28 #[(0, v54)])) h54 fun v55 h55 =>
  pureW Tryd.prog G h (xEq .neq 28 (.tmp 0) (.tmp 0) v52 v55) h55 fun v56 h56 =>
  gd (wantB v56 false) (fun K1 => K1 (r 11) h56) h56 fun v57 h57 =>
  gd (wantB v56 false) (fun K1 => K1 (r 13) h57) h57 fun v58 h58 =>
  gd (wantB v56 false) (pureW Tryd.prog noHp noHp (sv (Instr.indexAt 31 v57 v58)) h58) h58 fun v59 h59 =>
  gd (wantB v56 false) (pureW Tryd.prog noHp noHp (sv (Instr.fieldAt 45 v59 3)) h59) h59 fun v60 h60 =>
  gd (wantB v56 false) (pureW Tryd.prog G h (sv (Instr.loadAt 3 v60)) h60) h60 fun v61 h61 =>
  gd (wantB v56 false) (fun K1 => K1 (r 0) h61) h61 fun v62 h62 =>
  gd (wantB v56 false) (pureW Tryd.prog noHp noHp (sv (binOp .add 3 (.int .i64 100) v62)) h62) h62 fun v63 h63 =>
  gd (wantB v56 false) (pureW Tryd.prog noHp noHp (sv (binOp .sub 3 v63 (.int .i64 1))) h63) h63 fun v64 h64 =>
  gd (wantB v56 false) (fun K1 => K1 (r 13) h64) h64 fun v65 h65 =>
  gd (wantB v56 false) (pureW Tryd.prog noHp noHp (sv (binOp .sub 3 v64 v65)) h65) h65 fun v66 h66 =>
  gd (wantB v56 false) (pureW Tryd.prog G h (xEq .neq 3 (.tmp 0) (.tmp 0) v61 v66) h66) h66 fun v67 h67 =>
  pureW Tryd.prog noHp noHp (xPick v56 (.bool true) v67) h67 fun v68 h68 =>
  gd (wantB v68 false) (fun K1 => K1 (r 11) h68) h68 fun v69 h69 =>
  gd (wantB v68 false) (fun K1 => K1 (r 13) h69) h69 fun v70 h70 =>
  gd (wantB v68 false) (pureW Tryd.prog noHp noHp (sv (Instr.indexAt 31 v69 v70)) h70) h70 fun v71 h71 =>
  gd (wantB v68 false) (pureW Tryd.prog noHp noHp (sv (Instr.fieldAt 45 v71 1)) h71) h71 fun v72 h72 =>
  gd (wantB v68 false) (pureW Tryd.prog G h (sv (Instr.loadAt 3 v72)) h72) h72 fun v73 h73 =>
  gd (wantB v68 false) (pureW Tryd.prog G h (xEq .neq 3 (.tmp 0) (.const .nilFunc) v73 (.int .i64 1)) h73) h73 fun v74 h74 =>
  pureW Tryd.prog noHp noHp (xPick v68 (.bool true) v74) h74 fun v75 h75 =>
  cond v75
  (K .ret (upd (upd (upd (upd (upd (upd (upd (upd (upd (upd (upd (upd (upd (upd (upd (upd (upd (upd (upd (upd (upd (upd (upd (upd (upd (upd (upd (upd (upd (upd (upd (upd (upd r 103 (r 11)) 104 (r 13)) 105 v50) 106 v51) 107 v52) 108 (r 13)) 109 (r 0)) 110 v53) 111 v54) 112 v55) 113 v56) 114 v56) 115 v57) 116 v58) 117 v59) 118 v60) 119 v61) 120 v62) 121 v63) 122 v64) 123 v65) 124 v66) 125 v67) 126 v68) 127 v68) 128 v69) 129 v70) 130 v71) 131 v72) 132 v73) 133 v74) 134 v75) 6 (.bool false)) h75)
  (S6_l6_k8 G K (upd (upd (upd (upd (upd (upd (upd (upd (upd (upd (upd (upd (upd (upd (upd (upd (upd (upd (upd (upd (upd (upd (upd (upd (upd (upd (upd (upd (upd (upd (upd (upd r 103 (r 11)) 104 (r 13)) 105 v50) 106 v51) 107 v52) 108 (r 13)) 109 (r 0)) 110 v53) 111 v54) 112 v55) 113 v56) 114 v56) 115 v57) 116 v58) 117 v59) 118 v60) 119 v61) 120 v62) 121 v63) 122 v64) 123 v65) 124 v66) 125 v67) 126 v68) 127 v68) 128 v69) 129 v70) 130 v71) 131 v72) 132 v73) 133 v74) 134 v75) h75)
def S6_l6 (G : Hp) (r : Rg) (h : Hp) (K : Exit → Rg → Hp → Prop) : Prop :=
  opH Tryd.prog G (sv (binOp .lss 3 (r 13) (r 1))) h fun v48 h48 =>
  cond v48
  (S6_l6_k7 G K (upd (upd (upd r 98 (r 13)) 99 (r 1)) 100 v48) h48)
  (K (.exit 4) (upd (upd (upd r 98 (r 13)) 99 (r 1)) 100 v48) h48)
def S6_k4 (G : Hp) (K : Exit → Rg → Hp → Prop) (r : Rg) (h : Hp) : Prop :=
  loopP (S6_l6 G) (upd r 13 (.int .i64 0)) h (blockK 4 (thenK (S6_k5 G K) K))
def S6_k3 (G : Hp) (K : Exit → Rg → Hp → Prop) (r : Rg) (h : Hp) : Prop :=
  opH Tryd.prog G (xEq .neq 32 (.tmp 0) (.const .nilFunc) (r 12) (.int .i64 0)) h fun v35 h35 =>
  gd (wantB v35 false) (fun K1 => K1 (r 11) h35) h35 fun v36 h36 =>
  gd (wantB v35 false) (opH Tryd.prog G (sv (Builtin.len_ #[31] 3 #[v36])) h36) h36 fun v37 h37 =>
  gd (wantB v35 false) (fun K1 => K1 (r 1) h37) h37 fun v38 h38 =>
  gd (wantB v35 false) (opH Tryd.prog G (sv (binOp .add 3 v38 (.int .i64 1))) h38) h38 fun v39 h39 =>
  gd (wantB v35 false) (opH Tryd.prog G (xEq .neq 3 (.tmp 0) (.tmp 0) v37 v39) h39) h39 fun v40 h40 =>
  opH Tryd.prog G (xPick v35 (.bool true) v40) h40 fun v41 h41 =>
  cond v41
  (K .ret (upd (upd (upd (upd (upd (upd (upd (upd (upd (upd r 89 (r 12)) 90 v35) 91 v35) 92 v36) 93 v37) 94 v38) 95 v39) 96 v40) 97 v41) 6 (.bool false)) h41)
  (S6_k4 G K (upd (upd (upd (upd (upd (upd (upd (upd (upd r 89 (r 12)) 90 v35) 91 v35) 92 v36) 93 v37) 94 v38) 95 v39) 96 v40) 97 v41) h41)
def S6_k2 (G : Hp) (K : Exit → Rg → Hp → Prop) (r : Rg) (h : Hp) : Prop :=
  pureW Tryd.prog G h (sv (Instr.loadAt 26 (r 7))) h fun v20 h20 =>
  pureW Tryd.prog noHp noHp (sv (Instr.build 49 #[(1, (r 9))])) h20 fun v21 h21 =>
  opH Tryd.prog G (sv (Instr.buildSlice 24 1 #[(0, v21)])) h21 fun v22 h22 =>
  pureW Tryd.prog noHp noHp (sv (binOp .add 3 (.int .i64 100) (r 0))) h22 fun v23 h23 =>
  pureW Tryd.prog noHp noHp (sv (binOp .sub 3 v23 (.int .i64 1))) h23 fun v24 h24 =>
  pureW Tryd.prog noHp noHp (sv (binOp .sub 3 v24 (r 1))) h24 fun v25 h25 =>
  pureW Tryd.prog noHp noHp (sv (Instr.fieldAt 26 (r 7) 4)) h25 fun v26 h26 =>
  pureW Tryd.prog G h (sv (Instr.loadAt 22 v26)) h26 fun v27 h27 =>
  pureW Tryd.prog noHp noHp (sv (Instr.indexAt 22 v27 (.int .i64 0))) h27 fun v28 h28 =>
  pureW Tryd.prog G h (sv (Instr.loadAt 28 v28)) h28 fun v29 h29 =>
  opH Tryd.prog G (callFunc 12 #[v20, v22, (.slice none 0 0), v25, v29]) h29 fun v30 h30 =>
  pureW Tryd.prog noHp noHp (sv (Instr.extract v30 0)) h30 fun v31 h31 =>
  pureW Tryd.prog noHp noHp (sv (Instr.extract v30 1)) h31 fun v32 h32 =>
  opH Tryd.prog G (sv (binOp .mul 3 (r 2) (r 0))) h32 fun v33 h33 =>
  opH Tryd.prog G (sv (binOp .gtr 3 (r 1) v33)) h33 fun v34 h34 =>
  cond v34
  (opH Tryd.prog G (xEq .eql 32 (.tmp 0) (.const .nilFunc) v32 (.int .i64 14)) h34 fun v76 h76 =>
  gd (wantB v76 true) (fun K1 => K1 v31 h76) h76 fun v77 h77 =>
  gd (wantB v76 true) (opH Tryd.prog G (sv (Builtin.len_ #[31] 3 #[v77])) h77) h77 fun v78 h78 =>
  gd (wantB v76 true) (opH Tryd.prog G (xEq .eql 3 (.tmp 0) (.const .nilFunc) v78 (.int .i64 0)) h78) h78 fun v79 h79 =>
  opH Tryd.prog G (xPick v76 v79 (.bool false)) h79 fun v80 h80 =>
  gd (wantB v80 true) (opH Tryd.prog G (callFunc 10 #[]) h80) h80 fun v81 h81 =>
  opH Tryd.prog G (xPick v80 v81 (.bool false)) h81 fun v82 h82 =>
  K .ret (upd (upd (upd (upd (upd (upd (upd (upd (upd (upd (upd (upd (upd (upd (upd (upd (upd (upd (upd (upd (upd (upd (upd (upd (upd (upd (upd (upd (upd (upd (upd (upd (upd (upd (upd r 58 v20) 59 (r 9)) 60 v21) 61 v22) 62 (r 0)) 63 v23) 64 v24) 65 (r 1)) 66 v25) 67 v26) 68 v27) 69 v28) 70 v29) 71 v30) 57 v30) 72 v31) 73 v32) 11 v31) 12 v32) 74 (r 1)) 75 (r 2)) 76 (r 0)) 77 v33) 78 v34) 79 v32) 80 v76) 81 v76) 82 v77) 83 v78) 84 v79) 85 v80) 86 v80) 87 v81) 88 v82) 6 v82) h82)
  (S6_k3 G K (upd (upd (upd (upd (upd (upd (upd (upd (upd (upd (upd (upd (upd (upd (upd (upd (upd (upd (upd (upd (upd (upd (upd (upd r 58 v20) 59 (r 9)) 60 v21) 61 v22) 62 (r 0)) 63 v23) 64 v24) 65 (r 1)) 66 v25) 67 v26) 68 v27) 69 v28) 70 v29) 71 v30) 57 v30) 72 v31) 73 v32) 11 v31) 12 v32) 74 (r 1)) 75 (r 2)) 76 (r 0)) 77 v33) 78 v34) h34)
def S6_l9_k11 (G : Hp) (K : Exit → Rg → Hp → Prop) (r : Rg) (h : Hp) : Prop :=
  opH Tryd.prog G (sv (binOp .add 3 (r 10) (.int .i64 1))) h fun v84 h84 =>
  K .normal (upd (upd (upd r 50 (r 10)) 51 v84) 10 v84) h84
def S6_l9_k10 (G : Hp) (K : Exit → Rg → Hp → Prop) (r : Rg) (h : Hp) : Prop :=
  opH Tryd.prog G (sv (binOp .add 3 (.int .i64 100) (r 10))) h fun v85 h85 =>
  opH Tryd.prog G (sv (Instr.buildSlice 42 1 #[(0, v85)])) h85 fun v86 h86 =>
  opH Tryd.prog G (sv (Builtin.append_ #[42, 42] 42 #[(r 9), v86])) h86 fun v87 h87 =>
  S6_l9_k11 G K (upd (upd (upd (upd (upd (upd r 52 (r 9)) 53 (r 10)) 54 v85) 55 v86) 56 v87) 9 v87) h87
def S6_l9 (G : Hp) (r : Rg) (h : Hp) (K : Exit → Rg → Hp → Prop) : Prop :=
  opH Tryd.prog G (sv (binOp .lss 3 (r 10) (r 0))) h fun v83 h83 =>
  cond v83
  (S6_l9_k10 G K (upd (upd (upd r 47 (r 10)) 48 (r 0)) 49 v83) h83)
  (K (.exit 2) (upd (upd (upd r 47 (r 10)) 48 (r 0)) 49 v83) h83)
def S6_k1 (G : Hp) (K : Exit → Rg → Hp → Prop) (r : Rg) (h : Hp) : Prop :=
  opH Tryd.prog G (sv (Instr.fieldAt 26 (r 7) 2)) h fun v11 h11 =>
  opH Tryd.prog G (su (Instr.storeAt 3 v11 (r 0))) h11 fun v12 h12 =>
  opH Tryd.prog G (sv (Instr.fieldAt 26 (r 7) 15)) h12 fun v13 h13 =>
  opH Tryd.prog G (su (Instr.storeAt 4 v13 (.bool false))) h13 fun v14 h14 =>
  opH Tryd.prog G (sv (binOp .add 3 (r 2) (.int .i64 1))) h14 fun v15 h15 =>
  opH Tryd.prog G (sv (Instr.build 28 #[(0, v15)])) h15 fun v16 h16 =>
  opH Tryd.prog G (sv (Instr.buildSlice 22 1 #[(0, v16)])) h16 fun v17 h17 =>
  opH Tryd.prog G (sv (Instr.fieldAt 26 (r 7) 4)) h17 fun v18 h18 =>
  opH Tryd.prog G (su (Instr.storeAt 22 v18 v17)) h18 fun v19 h19 =>
  loopP (S6_l9 G) (upd (upd (upd (upd (upd (upd (upd (upd (upd (upd r 39 (r 0)) 40 v11) 41 v13) 42 (r 2)) 43 v15) 44 v16) 45 v17) 46 v18) 9 (.slice none 0 0)) 10 (.int .i64 0)) h19 (blockK 2 (thenK (S6_k2 G K) K))
def S6_l12_k14 (G : Hp) (K : Exit → Rg → Hp → Prop) (r : Rg) (h : Hp) : Prop :=
  opH Tryd.prog G (sv (binOp .add 3 (r 8) (.int .i64 1))) h fun v89 h89 =>
  K .normal (upd (upd (upd r 30 (r 8)) 31 v89) 8 v89) h89
def S6_l12_k13 (G : Hp) (K : Exit → Rg → Hp → Prop) (r : Rg) (h : Hp) : Prop :=
  opH Tryd.prog G (sv (Instr.fieldAt 26 (r 7) 3)) h fun v90 h90 =>
  opH Tryd.prog G (sv (Instr.loadAt 22 v90)) h90 fun v91 h91 =>
  opH Tryd.prog G (sv (Instr.build 28 #[(0, (r 8)), (1, (.int .i64 1))])) h91 fun v92 h92 =>
  opH Tryd.prog G (sv (Instr.buildSlice 22 1 #[(0, v92)])) h92 fun v93 h93 =>
  opH Tryd.prog G (sv (Builtin.append_ #[22, 22] 22 #[v91, v93])) h93 fun v94 h94 =>
  opH Tryd.prog G (sv (Instr.fieldAt 26 (r 7) 3)) h94 fun v95 h95 =>
  opH Tryd.prog G (su (Instr.storeAt 22 v95 v94)) h95 fun v96 h96 =>
  S6_l12_k14 G K (upd (upd (upd (upd (upd (upd (upd r 32 v90) 33 v91) 34 (r 8)) 35 v92) 36 v93) 37 v94) 38 v95) h96
def S6_l12 (G : Hp) (r : Rg) (h : Hp) (K : Exit → Rg → Hp → Prop) : Prop :=
  opH Tryd.prog G (sv (binOp .leq 3 (r 8) (r 2))) h fun v88 h88 =>
  cond v88
  (S6_l12_k13 G K (upd (upd (upd r 27 (r 8)) 28 (r 2)) 29 v88) h88)
  (K (.exit 0) (upd (upd (upd r 27 (r 8)) 28 (r 2)) 29 v88) h88)
def S6 (G : Hp) (K : Exit → Rg → Hp → Prop) (r : Rg) (h : Hp) : Prop :=
  opH Tryd.prog G (callFunc 20 #[(r 0), (.int .i64 8)]) h fun v0 h0 =>
  opH Tryd.prog G (sv (binOp .add 3 (.int .i64 1) v0)) h0 fun v1 h1 =>
  opH Tryd.prog G (callFunc 20 #[(r 1), v1]) h1 fun v2 h2 =>
  opH Tryd.prog G (callFunc 20 #[(r 2), (.int .i64 8)]) h2 fun v3 h3 =>
  opH Tryd.prog G (sv (binOp .add 3 (.int .i64 1) v3)) h3 fun v4 h4 =>
  opH Tryd.prog G (callFunc 25 #[]) h4 fun v5 h5 =>
  opH Tryd.prog G (sv (Instr.alloc 26 true (.tuple #[]))) h5 fun v6 h6 =>
  opH Tryd.prog G (su (Instr.storeAt 26 v6 v5)) h6 fun v7 h7 =>
  opH Tryd.prog G (sv (binOp .add 3 v4 (.int .i64 2))) h7 fun v8 h8 =>
  opH Tryd.prog G (sv (Instr.fieldAt 26 v6 0)) h8 fun v9 h9 =>
  opH Tryd.prog G (su (Instr.storeAt 3 v9 v8)) h9 fun v10 h10 =>
  loopP (S6_l12 G) (upd (upd (upd (upd (upd (upd (upd (upd (upd (upd (upd (upd (upd (upd (upd (upd (upd (upd (upd r 6 (.bool false)) 14 (r 0)) 15 v0) 16 v1) 0 v1) 17 (r 1)) 18 v1) 19 v2) 1 v2) 20 (r 2)) 21 v3) 22 v4) 2 v4) 23 v5) 7 v6) 24 v4) 25 v8) 26 v9) 8 (.int .i64 0)) h10 (blockK 0 (thenK (S6_k1 G K) K))
theorem S6_eq (G : Hp) (K : Exit → Rg → Hp → Prop) (r : Rg) (h : Hp) : wpC Tryd.prog G 144 md6 true (Tryd.f6.body.getD .skip) r h K = S6 G K r h := by kernel_rfl
theorem enter6 {G : Hp} {h : Hp} {args : Array Value} {R : Value → Hp → Prop} (hn : args.size ≤ 144) (H : S6 G (retK Tryd.prog G [.tmp 6] R) (regs args) h) : HCalls Tryd.prog G 6 args h R :=
  HCalls.enter (md := md6) mixed Tryd.func6 rfl hn (by rw [← S6_eq] at H; exact H)

def md10 : Nat → Hint
  | _ => ⟨false, [], [], [], [], false⟩
def S10 (G : Hp) (K : Exit → Rg → Hp → Prop) (r : Rg) (h : Hp) : Prop :=
  opH Tryd.prog G (callFunc 25 #[]) h fun v0 h0 =>
  opH Tryd.prog G (sv (Instr.buildSlice 42 3 #[(0, (.int .i64 7)), (1, (.int .i64 8)), (2, (.int .i64 9))])) h0 fun v1 h1 =>
  opH Tryd.prog G (sv (Instr.build 49 #[(1, v1)])) h1 fun v2 h2 =>
  opH Tryd.prog G (sv (Instr.buildSlice 24 1 #[(0, v2)])) h2 fun v3 h3 =>
  opH Tryd.prog G (sv (Instr.build 28 #[(0, (.int .i64 2))])) h3 fun v4 h4 =>
  opH Tryd.prog G (callFunc 12 #[v0, v3, (.slice none 0 0), (.int .i64 7), v4]) h4 fun v5 h5 =>
  opH Tryd.prog G (sv (Instr.extract v5 0)) h5 fun v6 h6 =>
  opH Tryd.prog G (sv (Instr.extract v5 1)) h6 fun v7 h7 =>
  opH Tryd.prog G (xEq .eql 32 (.tmp 0) (.const .nilFunc) v7 (.int .i64 0)) h7 fun v8 h8 =>
  gd (wantB v8 true) (fun K1 => K1 v6 h8) h8 fun v9 h9 =>
  gd (wantB v8 true) (opH Tryd.prog G (sv (Builtin.len_ #[31] 3 #[v9])) h9) h9 fun v10 h10 =>
  gd (wantB v8 true) (opH Tryd.prog G (xEq .eql 3 (.tmp 0) (.const .nilFunc) v10 (.int .i64 5)) h10) h10 fun v11 h11 =>
  opH Tryd.prog G (xPick v8 v11 (.bool false)) h11 fun v12 h12 =>
  gd (wantB v12 true) (fun K1 => K1 v6 h12) h12 fun v13 h13 =>
  gd (wantB v12 true) (opH Tryd.prog G (sv (Instr.indexAt 31 v13 (.int .i64 0))) h13) h13 fun v14 h14 =>
  gd (wantB v12 true) (opH Tryd.prog G (sv (Instr.fieldAt 45 v14 1)) h14) h14 fun v15 h15 =>
  gd (wantB v12 true) (opH Tryd.prog G (sv (Instr.loadAt 3 v15)) h15) h15 fun v16 h16 =>
  gd (wantB v12 true) (opH Tryd.prog G (xEq .eql 3 (.tmp 0) (.const .nilFunc) v16 (.int .i64 1)) h16) h16 fun v17 h17 =>
  opH Tryd.prog G (xPick v12 v17 (.bool false)) h17 fun v18 h18 =>
  gd (wantB v18 true) (fun K1 => K1 v6 h18) h18 fun v19 h19 =>
  gd (wantB v18 true) (opH Tryd.prog G (sv (Instr.indexAt 31 v19 (.int .i64 0))) h19) h19 fun v20 h20 =>
  gd (wantB v18 true) (opH Tryd.prog G (sv (Instr.fieldAt 45 v20 3)) h20) h20 fun v21 h21 =>
  gd (wantB v18 true) (opH Tryd.prog G (sv (Instr.loadAt 3 v21)) h21) h21 fun v22 h22 =>
  gd (wantB v18 true) (opH Tryd.prog G (xEq .eql 3 (.tmp 0) (.const .nilFunc) v22 (.int .i64 9)) h22) h22 fun v23 h23 =>
  opH Tryd.prog G (xPick v18 v23 (.bool false)) h23 fun v24 h24 =>
  gd (wantB v24 true) (fun K1 => K1 v6 h24) h24 fun v25 h25 =>
  gd (wantB v24 true) (opH Tryd.prog G (sv (Instr.indexAt 31 v25 (.int .i64 1))) h25) h25 fun v26 h26 =>
  gd (wantB v24 true) (opH Tryd.prog G (sv (Instr.fieldAt 45 v26 3)) h26) h26 fun v27 h27 =>
  gd (wantB v24 true) (opH Tryd.prog G (sv (Instr.loadAt 3 v27)) h27) h27 fun v28 h28 =>
  gd (wantB v24 true) (opH Tryd.prog G (xEq .eql 3 (.tmp 0) (.const .nilFunc) v28 (.int .i64 8)) h28) h28 fun v29 h29 =>
  opH Tryd.prog G (xPick v24 v29 (.bool false)) h29 fun v30 h30 =>
  gd (wantB v30 true) (fun K1 => K1 v6 h30) h30 fun v31 h31 =>
  gd (wantB v30 true) (opH Tryd.prog G (sv (Instr.indexAt 31 v31 (.int .i64 2))) h31) h31 fun v32 h32 =>
  gd (wantB v30 true) (opH Tryd.prog G (sv (Instr.fieldAt 45 v32 1)) h32) h32 fun v33 h33 =>
  gd (wantB v30 true) (opH Tryd.prog G (sv (Instr.loadAt 3 v33)) h33) h33 fun v34 h34 =>
  gd (wantB v30 true) (opH Tryd.prog G (xEq .eql 3 (.tmp 0) (.const .nilFunc) v34 (.int .i64 2)) h34) h34 fun v35 h35 =>
  opH Tryd.prog G (xPick v30 v35 (.bool false)) h35 fun v36 h36 =>
  gd (wantB v36 true) (fun K1 => K1 v6 h36) h36 fun v37 h37 =>
  gd (wantB v36 true) (opH Tryd.prog G (sv (Instr.indexAt 31 v37 (.int .i64 2))) h37) h37 fun v38 h38 =>
  gd (wantB v36 true) (opH Tryd.prog G (sv (Instr.fieldAt 45 v38 3)) h38) h38 fun v39 h39 =>
  gd (wantB v36 true) (opH Tryd.prog G (sv (Instr.loadAt 3 v39)) h39) h39 fun v40 h40 =>
  gd (wantB v36 true) (opH Tryd.prog G (xEq .eql 3 (.tmp 0) (.const .nilFunc) v40 (.int .i64 7)) h40) h40 fun v41 h41 =>
  opH Tryd.prog G (xPick v36 v41 (.bool false)) h41 fun v42 h42 =>
  gd (wantB v42 true) (fun K1 => K1 v6 h42) h42 fun v43 h43 =>
  gd (wantB v42 true) (opH Tryd.prog G (sv (Instr.indexAt 31 v43 (.int .i64 3))) h43) h43 fun v44 h44 =>
  gd (wantB v42 true) (opH Tryd.prog G (sv (Instr.fieldAt 45 v44 1)) h44) h44 fun v45 h45 =>
  gd (wantB v42 true) (opH Tryd.prog G (sv (Instr.loadAt 3 v45)) h45) h45 fun v46 h46 =>
  gd (wantB v42 true) (opH Tryd.prog G (xEq .eql 3 (.tmp 0) (.const .nilFunc) v46 (.int .i64 3)) h46) h46 fun v47 h47 =>
  opH Tryd.prog G (xPick v42 v47 (.bool false)) h47 fun v48 h48 =>
  gd (wantB v48 true) (fun K1 => K1 v6 h48) h48 fun v49 h49 =>
  gd (wantB v48 true) (opH Tryd.prog G (sv (Instr.indexAt 31 v49 (.int .i64 3))) h49) h49 fun v50 h50 =>
  gd (wantB v48 true) (opH Tryd.prog G (sv (Instr.fieldAt 45 v50 3)) h50) h50 fun v51 h51 =>
  gd (wantB v48 true) (opH Tryd.prog G (sv (Instr.loadAt 3 v51)) h51) h51 fun v52 h52 =>
  gd (wantB v48 true) (opH Tryd.prog G (xEq .eql 3 (.tmp 0) (.const .nilFunc) v52 (.int .i64 8)) h52) h52 fun v53 h53 =>
  opH Tryd.prog G (xPick v48 v53 (.bool false)) h53 fun v54 h54 =>
  gd (wantB v54 true) (fun K1 => K1 v6 h54) h54 fun v55 h55 =>
  gd (wantB v54 true) (opH Tryd.prog G (sv (Instr.indexAt 31 v55 (.int .i64 4))) h55) h55 fun v56 h56 =>
  gd (wantB v54 true) (opH Tryd.prog G (sv (Instr.fieldAt 45 v56 3)) h56) h56 fun v57 h57 =>
  gd (wantB v54 true) (opH Tryd.prog G (sv (Instr.loadAt 3 v57)) h57) h57 fun v58 h58 =>
  gd (wantB v54 true) (opH Tryd.prog G (xEq .eql 3 (.tmp 0) (.const .nilFunc) v58 (.int .i64 9)) h58) h58 fun v59 h59 =>
  opH Tryd.prog G (xPick v54 v59 (.bool false)) h59 fun v60 h60 =>
  K .ret (upd (upd (upd (upd (upd (upd (upd (upd (upd (upd (upd (upd (upd (upd (upd (upd (upd (upd (upd (upd (upd (upd (upd (upd (upd (upd (upd (upd (upd (upd (upd (upd (upd (upd (upd (upd (upd (upd (upd (upd (upd (upd (upd (upd (upd (upd (upd (upd (upd (upd (upd (upd (upd (upd (upd (upd (upd (upd (upd (upd (upd (upd (upd (upd (upd (upd (upd (upd (upd (upd (upd (upd (upd (upd (upd (upd r 0 (.bool false)) 4 v0) 5 v1) 6 v2) 7 v3) 8 v4) 9 v5) 3 v5) 10 v6) 11 v7) 1 v6) 2 v7) 12 v7) 13 v8) 14 v8) 15 v9) 16 v10) 17 v11) 18 v12) 19 v12) 20 v13) 21 v14) 22 v15) 23 v16) 24 v17) 25 v18) 26 v18) 27 v19) 28 v20) 29 v21) 30 v22) 31 v23) 32 v24) 33 v24) 34 v25) 35 v26) 36 v27) 37 v28) 38 v29) 39 v30) 40 v30) 41 v31) 42 v32) 43 v33) 44 v34) 45 v35) 46 v36) 47 v36) 48 v37) 49 v38) 50 v39) 51 v40) 52 v41) 53 v42) 54 v42) 55 v43) 56 v44) 57 v45) 58 v46) 59 v47) 60 v48) 61 v48) 62 v49) 63 v50) 64 v51) 65 v52) 66 v53) 67 v54) 68 v54) 69 v55) 70 v56) 71 v57) 72 v58) 73 v59) 74 v60) 0 v60) h60
theorem S10_eq (G : Hp) (K : Exit → Rg → Hp → Prop) (r : Rg) (h : Hp) : wpC Tryd.prog G 75 md10 true (Tryd.f10.body.getD .skip) r h K = S10 G K r h := by kernel_rfl
theorem enter10 {G : Hp} {h : Hp} {args : Array Value} {R : Value → Hp → Prop} (hn : args.size ≤ 75) (H : S10 G (retK Tryd.prog G [.tmp 0] R) (regs args) h) : HCalls Tryd.prog G 10 args h R :=
  HCalls.enter (md := md10) mixed Tryd.func10 rfl hn (by rw [← S10_eq] at H; exact H)

def md31 : Nat → Hint
  | 8 => ⟨false, [0, 0, 2, 0, 8, 31, 0, 0, 128, 0, 512, 2047, 4095, 8191], [.pureN, .pureN, .pureM, .pureN, .pureM, .eff, .pureN, .pureN, .pureM, .pureN, .pureM, .eff, .pureN, .pureN], [.pureN, .pureN, .pureM, .pureN, .pureM, .eff, .pureN, .pureN, .pureM, .pureN, .pureM, .eff, .pureN, .pureN], [false, false, false, false, false, true, false, false, false, false, false, false, false, false], false⟩
  | _ => ⟨false, [], [], [], [], false⟩
def S31_k1 (G : Hp) (K : Exit → Rg → Hp → Prop) (r : Rg) (h : Hp) : Prop :=
  pureW Tryd.prog noHp noHp (sv (Instr.fieldAt 28 (r 2) 0)) h fun v11 h11 =>
  pureW Tryd.prog G h (sv (Instr.loadAt 3 v11)) h11 fun v12 h12 =>
  pureW Tryd.prog noHp noHp (sv (Instr.fieldAt 28 (r 3) 0)) h12 fun v13 h13 =>
  pureW Tryd.prog G h (sv (Instr.loadAt 3 v13)) h13 fun v14 h14 =>
  opH Tryd.prog G (xCallV (.func (.func 57) #[] #[]) #[v12, v14]) h14 fun v15 h15 => h.le h15 ∧
  pureW Tryd.prog noHp noHp (sv (Instr.fieldAt 28 (r 2) 1)) h15 fun v16 h16 =>
  pureW Tryd.prog G h (sv (Instr.loadAt 3 v16)) h16 fun v17 h17 =>
  pureW Tryd.prog noHp noHp (sv (Instr.fieldAt 28 (r 3) 1)) h17 fun v18 h18 =>
  pureW Tryd.prog G h (sv (Instr.loadAt 3 v18)) h18 fun v19 h19 =>
  opH Tryd.prog G (xCallV (.func (.func 57) #[] #[]) #[v17, v19]) h19 fun v20 h20 =>
  pureW Tryd.prog noHp noHp (sv (binOp .add 3 v15 v20)) h20 fun v21 h21 =>
  K .ret (upd (upd (upd (upd (upd (upd (upd (upd (upd (upd (upd (upd (upd (upd (upd r 7 (.func (.func 57) #[] #[])) 24 (.func (.func 57) #[] #[])) 25 v11) 26 v12) 27 v13) 28 v14) 29 v15) 30 (.func (.func 57) #[] #[])) 31 v16) 32 v17) 33 v18) 34 v19) 35 v20) 36 v21) 4 v21) h21
def S31_l2_k4 (G : Hp) (K : Exit → Rg → Hp → Prop) (r : Rg) (h : Hp) : Prop :=
  opH Tryd.prog G (sv (binOp .add 3 (r 17) (.int .i64 1))) h fun v23 h23 =>
  K .normal (upd (upd r 23 v23) 17 v23) h23
def S31_l2_k3 (G : Hp) (K : Exit → Rg → Hp → Prop) (r : Rg) (h : Hp) : Prop :=
  opH Tryd.prog G (sv (Instr.index 94 (r 16) (r 17))) h fun v24 h24 =>
  opH Tryd.prog G (callFunc 56 #[v24, (.int .i64 (-1099511627776)), (.int .i64 1099511627776)]) h24 fun v25 h25 =>
  opH Tryd.prog G (sv (Op.unary .not v25)) h25 fun v26 h26 =>
  cond v26
  (K .ret (upd (upd (upd (upd (upd (upd r 19 v24) 6 v24) 20 v24) 21 v25) 22 v26) 4 (.int .i64 0)) h26)
  (S31_l2_k4 G K (upd (upd (upd (upd (upd r 19 v24) 6 v24) 20 v24) 21 v25) 22 v26) h26)
def S31_l2 (G : Hp) (r : Rg) (h : Hp) (K : Exit → Rg → Hp → Prop) : Prop :=
  opH Tryd.prog G (sv (binOp .lss 3 (r 17) (.int .i64 4))) h fun v22 h22 =>
  cond v22
  (S31_l2_k3 G K (upd r 18 v22) h22)
  (K (.exit 0) (upd r 18 v22) h22)
def S31 (G : Hp) (K : Exit → Rg → Hp → Prop) (r : Rg) (h : Hp) : Prop :=
  opH Tryd.prog G (sv (Instr.box 28 (r 0))) h fun v0 h0 =>
  opH Tryd.prog G (sv (Instr.box 28 (r 1))) h0 fun v1 h1 =>
  opH Tryd.prog G (sv (Instr.fieldAt 28 v0 0)) h1 fun v2 h2 =>
  opH Tryd.prog G (sv (Instr.loadAt 3 v2)) h2 fun v3 h3 =>
  opH Tryd.prog G (sv (Instr.fieldAt 28 v0 1)) h3 fun v4 h4 =>
  opH Tryd.prog G (sv (Instr.loadAt 3 v4)) h4 fun v5 h5 =>
  opH Tryd.prog G (sv (Instr.fieldAt 28 v1 0)) h5 fun v6 h6 =>
  opH Tryd.prog G (sv (Instr.loadAt 3 v6)) h6 fun v7 h7 =>
  opH Tryd.prog G (sv (Instr.fieldAt 28 v1 1)) h7 fun v8 h8 =>
  opH Tryd.prog G (sv (Instr.loadAt 3 v8)) h8 fun v9 h9 =>
  opH Tryd.prog G (sv (Instr.build 94 #[(0, v3), (1, v5), (2, v7), (3, v9)])) h9 fun v10 h10 =>
  loopP (S31_l2 G) (upd (upd (upd (upd (upd (upd (upd (upd (upd (upd (upd (upd (upd r 2 v0) 3 v1) 4 (.int .i64 0)) 8 v2) 9 v3) 10 v4) 11 v5) 12 v6) 13 v7) 14 v8) 15 v9) 16 v10) 17 (.int .i64 0)) h10 (blockK 0 (thenK (S31_k1 G K) K))
theorem S31_eq (G : Hp) (K : Exit → Rg → Hp → Prop) (r : Rg) (h : Hp) : wpC Tryd.prog G 37 md31 true (Tryd.f31.body.getD .skip) r h K = S31 G K r h := by kernel_rfl
theorem enter31 {G : Hp} {h : Hp} {args : Array Value} {R : Value → Hp → Prop} (hn : args.size ≤ 37) (H : S31 G (retK Tryd.prog G [.tmp 4] R) (regs args) h) : HCalls Tryd.prog G 31 args h R :=
  HCalls.enter (md := md31) mixed Tryd.func31 rfl hn (by rw [← S31_eq] at H; exact H)

def md57 : Nat → Hint
  | _ => ⟨false, [], [], [], [], false⟩
def S57 (G : Hp) (K : Exit → Rg → Hp → Prop) (r : Rg) (h : Hp) : Prop :=
  opH Tryd.prog G (sv (binOp .sub 3 (r 0) (r 1))) h fun v0 h0 =>
  opH Tryd.prog G (sv (binOp .sub 3 (r 1) (r 0))) h0 fun v1 h1 =>
  opH Tryd.prog G (sv (Builtin.max_ #[3, 3] 3 #[v0, v1])) h1 fun v2 h2 =>
  K .ret (upd (upd (upd (upd (upd (upd (upd (upd (upd r 4 (.int .i64 0)) 5 (r 0)) 6 (r 1)) 7 v0) 8 (r 1)) 9 (r 0)) 10 v1) 11 v2) 4 v2) h2
theorem S57_eq (G : Hp) (K : Exit → Rg → Hp → Prop) (r : Rg) (h : Hp) : wpC Tryd.prog G 12 md57 true (Tryd.f57.body.getD .skip) r h K = S57 G K r h := by kernel_rfl
theorem enter57 {G : Hp} {h : Hp} {args : Array Value} {R : Value → Hp → Prop} (hn : args.size ≤ 12) (H : S57 G (retK Tryd.prog G [.tmp 4] R) (regs args) h) : HCalls Tryd.prog G 57 args h R :=
  HCalls.enter (md := md57) mixed Tryd.func57 rfl hn (by rw [← S57_eq] at H; exact H)

def md30 : Nat → Hint
  | _ => ⟨false, [], [], [], [], false⟩
def S30 (G : Hp) (K : Exit → Rg → Hp → Prop) (r : Rg) (h : Hp) : Prop :=
  opH Tryd.prog G (sv (Instr.box 58 (r 0))) h fun v0 h0 =>
  K .ret (upd (upd (upd (upd r 1 v0) 2 .nilFunc) 3 (.func (.func 55) #[] #[v0])) 2 (.func (.func 55) #[] #[v0])) h0
theorem S30_eq (G : Hp) (K : Exit → Rg → Hp → Prop) (r : Rg) (h : Hp) : wpC Tryd.prog G 4 md30 true (Tryd.f30.body.getD .skip) r h K = S30 G K r h := by kernel_rfl
theorem enter30 {G : Hp} {h : Hp} {args : Array Value} {R : Value → Hp → Prop} (hn : args.size ≤ 4) (H : S30 G (retK Tryd.prog G [.tmp 2] R) (regs args) h) : HCalls Tryd.prog G 30 args h R :=
  HCalls.enter (md := md30) mixed Tryd.func30 rfl hn (by rw [← S30_eq] at H; exact H)

def md55 : Nat → Hint
  | 4 => ⟨false, [0, 1, 3, 7, 7, 7, 39, 103, 231, 503, 7, 7, 2055, 6151, 14343, 31751, 65527, 131071, 262143, 524287], [.pureN, .pureM, .pureN, .pureN, .pureN, .pureM, .pureN, .pureN, .pureM, .pureN, .pureN, .pureM, .pureN, .pureN, .pureM, .pureN, .pureN, .eff, .pureN, .pureN], [.pureN, .pureM, .pureN, .pureN, .pureN, .pureM, .pureN, .pureN, .pureM, .pureN, .pureN, .pureM, .pureN, .pureN, .pureM, .pureN, .pureN, .eff, .pureN, .pureN], [false, false, false, false, false, false, false, false, false, false, false, false, false, false, false, false, false, false, false, false], false⟩
  | _ => ⟨false, [], [], [], [], false⟩
def S55_l2_k4 (G : Hp) (K : Exit → Rg → Hp → Prop) (r : Rg) (h : Hp) : Prop :=
  opH Tryd.prog G (sv (binOp .add 3 (r 12) (.int .i64 1))) h fun v8 h8 =>
  K .normal (upd (upd r 37 v8) 12 v8) h8
def S55_l2_k3 (G : Hp) (K : Exit → Rg → Hp → Prop) (r : Rg) (h : Hp) : Prop :=
  opH Tryd.prog G (sv (Instr.indexAt 42 (r 10) (r 12))) h fun v9 h9 =>
  opH Tryd.prog G (sv (Instr.loadAt 3 v9)) h9 fun v10 h10 =>
  pureW Tryd.prog G h10 (xEq .eql 3 (.tmp 0) (.const .nilFunc) v10 (.int .i64 0)) h10 fun v11 h11 =>
  gd (wantB v11 true) (fun K1 => K1 (r 0) h11) h11 fun v12 h12 =>
  gd (wantB v11 true) (fun K1 => K1 (r 12) h12) h12 fun v13 h13 =>
  gd (wantB v11 true) (pureW Tryd.prog G h10 (sv (Instr.loadAt 58 (r 1))) h13) h13 fun v14 h14 =>
  gd (wantB v11 true) (pureW Tryd.prog noHp noHp (xNil v14) h14) h14 fun v15 h15 =>
  gd (wantB v11 true) (pureW Tryd.prog noHp noHp (sv (Instr.fieldAt 93 v15 0)) h15) h15 fun v16 h16 =>
  gd (wantB v11 true) (pureW Tryd.prog G h10 (sv (Instr.loadAt 3 v16)) h16) h16 fun v17 h17 =>
  gd (wantB v11 true) (pureW Tryd.prog noHp noHp (sv (binOp .rem 3 v13 v17)) h17) h17 fun v18 h18 =>
  gd (wantB v11 true) (fun K1 => K1 (r 12) h18) h18 fun v19 h19 =>
  gd (wantB v11 true) (pureW Tryd.prog G h10 (sv (Instr.loadAt 58 (r 1))) h19) h19 fun v20 h20 =>
  gd (wantB v11 true) (pureW Tryd.prog noHp noHp (xNil v20) h20) h20 fun v21 h21 =>
  gd (wantB v11 true) (pureW Tryd.prog noHp noHp (sv (Instr.fieldAt 93 v21 0)) h21) h21 fun v22 h22 =>
  gd (wantB v11 true) (pureW Tryd.prog G h10 (sv (Instr.loadAt 3 v22)) h22) h22 fun v23 h23 =>
  gd (wantB v11 true) (pureW Tryd.prog noHp noHp (sv (binOp .quo 3 v19 v23)) h23) h23 fun v24 h24 =>
  gd (wantB v11 true) (pureW Tryd.prog noHp noHp (sv (Instr.build 28 #[(0, v18), (1, v24)])) h24) h24 fun v25 h25 =>
  gd (wantB v11 true) (opH Tryd.prog G (xCallV v12 #[v25]) h25) h25 fun v26 h26 =>
  gd (wantB v11 true) (pureW Tryd.prog noHp noHp (sv (Op.unary .not v26)) h26) h26 fun v27 h27 =>
  pureW Tryd.prog noHp noHp (xPick v11 v27 (.bool false)) h27 fun v28 h28 =>
  cond v28
  (K .ret (upd (upd (upd (upd (upd (upd (upd (upd (upd (upd (upd (upd (upd (upd (upd (upd (upd (upd (upd (upd (upd (upd (upd (upd (upd r 14 (r 12)) 15 v9) 16 v10) 3 (r 12)) 4 v10) 17 v10) 18 v11) 19 v11) 20 v12) 21 v13) 22 v14) 23 v15) 24 v16) 25 v17) 26 v18) 27 v19) 28 v20) 29 v21) 30 v22) 31 v23) 32 v24) 33 v25) 34 v26) 35 v27) 36 v28) h28)
  (S55_l2_k4 G K (upd (upd (upd (upd (upd (upd (upd (upd (upd (upd (upd (upd (upd (upd (upd (upd (upd (upd (upd (upd (upd (upd (upd (upd (upd r 14 (r 12)) 15 v9) 16 v10) 3 (r 12)) 4 v10) 17 v10) 18 v11) 19 v11) 20 v12) 21 v13) 22 v14) 23 v15) 24 v16) 25 v17) 26 v18) 27 v19) 28 v20) 29 v21) 30 v22) 31 v23) 32 v24) 33 v25) 34 v26) 35 v27) 36 v28) h28)
def S55_l2 (G : Hp) (r : Rg) (h : Hp) (K : Exit → Rg → Hp → Prop) : Prop :=
  opH Tryd.prog G (sv (binOp .lss 3 (r 12) (r 11))) h fun v7 h7 =>
  cond v7
  (S55_l2_k3 G K (upd r 13 v7) h7)
  (K (.exit 0) (upd r 13 v7) h7)
def S55_k1 (G : Hp) (K : Exit → Rg → Hp → Prop) (r : Rg) (h : Hp) : Prop :=
  opH Tryd.prog G (sv (Instr.loadAt 58 (r 1))) h fun v2 h2 =>
  opH Tryd.prog G (xNil v2) h2 fun v3 h3 =>
  opH Tryd.prog G (sv (Instr.fieldAt 93 v3 2)) h3 fun v4 h4 =>
  opH Tryd.prog G (sv (Instr.loadAt 42 v4)) h4 fun v5 h5 =>
  opH Tryd.prog G (sv (Builtin.len_ #[42] 3 #[v5])) h5 fun v6 h6 =>
  loopP (S55_l2 G) (upd (upd (upd (upd (upd (upd r 7 v2) 8 v3) 9 v4) 10 v5) 11 v6) 12 (.int .i64 0)) h6 (blockK 0 K)
def S55 (G : Hp) (K : Exit → Rg → Hp → Prop) (r : Rg) (h : Hp) : Prop :=
  opH Tryd.prog G (sv (Instr.loadAt 58 (r 1))) h fun v0 h0 =>
  opH Tryd.prog G (xEq .eql 58 (.tmp 0) (.const .nilFunc) v0 (.pointer none)) h0 fun v1 h1 =>
  cond v1
  (K .ret (upd (upd r 5 v0) 6 v1) h1)
  (S55_k1 G K (upd (upd r 5 v0) 6 v1) h1)
theorem S55_eq (G : Hp) (K : Exit → Rg → Hp → Prop) (r : Rg) (h : Hp) : wpC Tryd.prog G 38 md55 true (Tryd.f55.body.getD .skip) r h K = S55 G K r h := by kernel_rfl
theorem enter55 {G : Hp} {h : Hp} {args : Array Value} {R : Value → Hp → Prop} (hn : args.size ≤ 38) (H : S55 G (retK Tryd.prog G [] R) (regs args) h) : HCalls Tryd.prog G 55 args h R :=
  HCalls.enter (md := md55) mixed Tryd.func55 rfl hn (by rw [← S55_eq] at H; exact H)

def md12 : Nat → Hint
  | 4 => ⟨false, [0, 1, 3, 7, 0, 31, 63], [.pureN, .pureN, .pureN, .pureM, .pureM, .eff, .pureN], [.pureN, .pureN, .pureN, .pureM, .pureM, .eff, .pureN], [false, false, false, false, false, false, false], false⟩
  | 18 => ⟨false, [0, 1, 3, 7, 0, 31, 63, 31, 159, 511], [.pureN, .pureN, .pureN, .pureM, .pureM, .pureM, .pureN, .eff, .pureN, .eff], [.pureN, .pureN, .pureN, .pureM, .pureM, .pureM, .pureN, .eff, .pureN, .eff], [false, false, false, false, false, false, false, true, false, false, true], true⟩
  | _ => ⟨false, [], [], [], [], false⟩
def S12_k5 (G : Hp) (K : Exit → Rg → Hp → Prop) (r : Rg) (h : Hp) : Prop :=
  K .ret (upd (upd (upd r 108 (r 23)) 10 (r 23)) 11 (.int .i64 0)) h
def S12_k4 (G : Hp) (K : Exit → Rg → Hp → Prop) (r : Rg) (h : Hp) : Prop :=
  opH Tryd.prog G (sv (Instr.loadAt 28 (r 14))) h fun v20 h20 =>
  opH Tryd.prog G (sv (Instr.loadAt 28 (r 9))) h20 fun v21 h21 =>
  opH Tryd.prog G (sv (Instr.build 45 #[(1, (.int .i64 2)), (3, (r 3)), (4, v20), (5, v21), (6, (.int .i64 (-1)))])) h21 fun v22 h22 =>
  opH Tryd.prog G (sv (Instr.buildSlice 31 1 #[(0, v22)])) h22 fun v23 h23 =>
  opH Tryd.prog G (sv (Builtin.append_ #[31, 31] 31 #[(r 17), v23])) h23 fun v24 h24 =>
  opH Tryd.prog G (sv (Instr.fieldAt 26 (r 5) 15)) h24 fun v25 h25 =>
  opH Tryd.prog G (sv (Instr.loadAt 4 v25)) h25 fun v26 h26 =>
  cond v26
  (opH Tryd.prog G (callFunc 38 #[(r 18)]) h26 fun v27 h27 =>
  opH Tryd.prog G (sv (Builtin.append_ #[31, 31] 31 #[v24, (r 18)])) h27 fun v28 h28 =>
  S12_k5 G K (upd (upd (upd (upd (upd (upd (upd (upd (upd (upd (upd (upd (upd (upd (upd (upd r 94 (r 17)) 95 (r 3)) 96 v20) 97 v21) 98 v22) 99 v23) 100 v24) 23 v24) 101 v25) 102 v26) 103 (r 18)) 104 v27) 105 v24) 106 (r 18)) 107 v28) 23 v28) h28)
  (S12_k5 G K (upd (upd (upd (upd (upd (upd (upd (upd (upd (upd r 94 (r 17)) 95 (r 3)) 96 v20) 97 v21) 98 v22) 99 v23) 100 v24) 23 v24) 101 v25) 102 v26) h26)
def S12_l6_k8 (G : Hp) (K : Exit → Rg → Hp → Prop) (r : Rg) (h : Hp) : Prop :=
  opH Tryd.prog G (sv (binOp .add 3 (r 58) (.int .i64 1))) h fun v30 h30 =>
  K .normal (upd (upd r 93 v30) 58 v30) h30
def S12_l6_k9 (G : Hp) (K : Exit → Rg → Hp → Prop) (r : Rg) (h : Hp) : Prop :=
  ∃ (q40 : Hp) (Rd : Sem Next → Prop), q40.le h ∧
  pureW Tryd.prog noHp noHp (xNil (r 12)) h fun v41 h41 =>
  pureW Tryd.prog noHp noHp (sv (Instr.fieldAt 74 v41 2)) h41 fun v42 h42 =>
  Rd (sv (Instr.loadAt 72 v42)) ∧ pureW Tryd.prog G q40 (sv (Instr.loadAt 72 v42)) h42 fun v43 h43 =>
  Rd (sv (Instr.loadAt 28 (r 21))) ∧ pureW Tryd.prog G q40 (sv (Instr.loadAt 28 (r 21))) h43 fun v44 h44 =>
  Rd (sv (Instr.lookup 72 v43 v44 false)) ∧ pureW Tryd.prog G q40 (sv (Instr.lookup 72 v43 v44 false)) h44 fun v45 h45 =>
  pureW Tryd.prog noHp noHp (sv (binOp .add 3 v45 (.int .i64 1))) h45 fun v46 h46 =>
  opH Tryd.prog G (sv (Instr.mapEntry 72 v43 v44)) h46 fun v47 h47 => Kp Tryd.prog G q40 Rd h47 ∧
  pureW Tryd.prog noHp noHp (sv (Instr.extract v47 1)) h47 fun v48 h48 =>
  opH Tryd.prog G (su (Instr.entryStore 72 v43 v48 v46)) h48 fun v49 h49 =>
  opH Tryd.prog G (sv (Instr.loadAt 28 (r 14))) h49 fun v50 h50 =>
  opH Tryd.prog G (sv (Instr.loadAt 28 (r 21))) h50 fun v51 h51 =>
  opH Tryd.prog G (sv (Instr.build 45 #[(1, (.int .i64 1)), (3, (r 20)), (4, v50), (5, v51), (6, (.int .i64 (-1)))])) h51 fun v52 h52 =>
  opH Tryd.prog G (sv (Instr.buildSlice 31 1 #[(0, v52)])) h52 fun v53 h53 =>
  opH Tryd.prog G (sv (Builtin.append_ #[31, 31] 31 #[(r 17), v53])) h53 fun v54 h54 =>
  opH Tryd.prog G (sv (Instr.loadAt 28 (r 21))) h54 fun v55 h55 =>
  opH Tryd.prog G (sv (Instr.loadAt 28 (r 14))) h55 fun v56 h56 =>
  opH Tryd.prog G (sv (Instr.build 45 #[(1, (.int .i64 3)), (3, (r 20)), (4, v55), (5, v56), (6, (.int .i64 (-1)))])) h56 fun v57 h57 =>
  opH Tryd.prog G (sv (Instr.buildSlice 31 1 #[(0, v57)])) h57 fun v58 h58 =>
  opH Tryd.prog G (sv (Builtin.append_ #[31, 31] 31 #[(r 18), v58])) h58 fun v59 h59 =>
  S12_l6_k8 G K (upd (upd (upd (upd (upd (upd (upd (upd (upd (upd (upd (upd (upd (upd (upd (upd (upd (upd (upd (upd (upd (upd (upd (upd (upd r 70 (r 12)) 71 v41) 72 v42) 73 v43) 74 v44) 75 v45) 76 v46) 77 v47) 78 v48) 79 (r 17)) 80 (r 20)) 81 v50) 82 v51) 83 v52) 84 v53) 85 v54) 17 v54) 86 (r 18)) 87 (r 20)) 88 v55) 89 v56) 90 v57) 91 v58) 92 v59) 18 v59) h59
def S12_l6_k7 (G : Hp) (K : Exit → Rg → Hp → Prop) (r : Rg) (h : Hp) : Prop :=
  opH Tryd.prog G (sv (Instr.indexAt 42 (r 56) (r 58))) h fun v31 h31 =>
  opH Tryd.prog G (sv (Instr.loadAt 3 v31)) h31 fun v32 h32 =>
  opH Tryd.prog G (sv (Instr.loadAt 28 (r 14))) h32 fun v33 h33 =>
  opH Tryd.prog G (callFunc 37 #[(r 12), v33]) h33 fun v34 h34 =>
  opH Tryd.prog G (sv (Instr.extract v34 0)) h34 fun v35 h35 =>
  opH Tryd.prog G (sv (Instr.extract v34 1)) h35 fun v36 h36 =>
  opH Tryd.prog G (sv (Instr.alloc 28 true (.tuple #[]))) h36 fun v37 h37 =>
  opH Tryd.prog G (su (Instr.storeAt 28 v37 v35)) h37 fun v38 h38 =>
  opH Tryd.prog G (sv (Op.unary .not v36)) h38 fun v39 h39 =>
  cond v39
  (K .ret (upd (upd (upd (upd (upd (upd (upd (upd (upd (upd (upd (upd (upd (upd (upd r 60 v31) 61 v32) 20 v32) 63 (r 12)) 64 v33) 65 v34) 62 v34) 66 v35) 67 v36) 21 v37) 22 v36) 68 v36) 69 v39) 10 (.slice none 0 0)) 11 (.int .i64 14)) h39)
  (S12_l6_k9 G K (upd (upd (upd (upd (upd (upd (upd (upd (upd (upd (upd (upd (upd r 60 v31) 61 v32) 20 v32) 63 (r 12)) 64 v33) 65 v34) 62 v34) 66 v35) 67 v36) 21 v37) 22 v36) 68 v36) 69 v39) h39)
def S12_l6 (G : Hp) (r : Rg) (h : Hp) (K : Exit → Rg → Hp → Prop) : Prop :=
  opH Tryd.prog G (sv (binOp .lss 3 (r 58) (r 57))) h fun v29 h29 =>
  cond v29
  (S12_l6_k7 G K (upd r 59 v29) h29)
  (K (.exit 1) (upd r 59 v29) h29)
def S12_k3 (G : Hp) (K : Exit → Rg → Hp → Prop) (r : Rg) (h : Hp) : Prop :=
  opH Tryd.prog G (sv (Builtin.len_ #[42] 3 #[(r 15)])) h fun v19 h19 =>
  loopP (S12_l6 G) (upd (upd (upd (upd (upd r 17 (.slice none 0 0)) 18 (.slice none 0 0)) 56 (r 15)) 57 v19) 58 (.int .i64 0)) h19 (blockK 1 (thenK (S12_k4 G K) K))
def S12_k2 (G : Hp) (K : Exit → Rg → Hp → Prop) (r : Rg) (h : Hp) : Prop :=
  opH Tryd.prog G (callFunc 35 #[(r 12), (r 1), (r 3)]) h fun v13 h13 =>
  opH Tryd.prog G (sv (Instr.extract v13 0)) h13 fun v14 h14 =>
  opH Tryd.prog G (sv (Instr.extract v13 1)) h14 fun v15 h15 =>
  opH Tryd.prog G (sv (Instr.extract v13 2)) h15 fun v16 h16 =>
  opH Tryd.prog G (sv (Instr.alloc 28 true (.tuple #[]))) h16 fun v17 h17 =>
  opH Tryd.prog G (su (Instr.storeAt 28 v17 v14)) h17 fun v18 h18 =>
  opH Tryd.prog G (sv (Op.unary .not v16)) h18 fun v60 h60 =>
  cond v60
  (K .ret (upd (upd (upd (upd (upd (upd (upd (upd (upd (upd (upd (upd (upd (upd (upd (upd r 42 (r 12)) 43 (r 1)) 44 (r 3)) 45 v13) 41 v13) 46 v14) 47 v15) 48 v16) 14 v17) 15 v15) 16 v16) 50 v16) 51 v60) 49 v60) 10 (.slice none 0 0)) 11 (.int .i64 9)) h60)
  (opH Tryd.prog G (sv (Instr.loadAt 28 v17)) h60 fun v61 h61 =>
  opH Tryd.prog G (callFunc 36 #[(r 2), v61]) h61 fun v62 h62 =>
  cond v62
  (K .ret (upd (upd (upd (upd (upd (upd (upd (upd (upd (upd (upd (upd (upd (upd (upd (upd (upd (upd (upd (upd r 42 (r 12)) 43 (r 1)) 44 (r 3)) 45 v13) 41 v13) 46 v14) 47 v15) 48 v16) 14 v17) 15 v15) 16 v16) 50 v16) 51 v60) 49 v60) 53 (r 2)) 54 v61) 55 v62) 52 v62) 10 (.slice none 0 0)) 11 (.int .i64 8)) h62)
  (S12_k3 G K (upd (upd (upd (upd (upd (upd (upd (upd (upd (upd (upd (upd (upd (upd (upd (upd (upd (upd r 42 (r 12)) 43 (r 1)) 44 (r 3)) 45 v13) 41 v13) 46 v14) 47 v15) 48 v16) 14 v17) 15 v15) 16 v16) 50 v16) 51 v60) 49 v60) 53 (r 2)) 54 v61) 55 v62) 52 v62) h62))
def S12_k1 (G : Hp) (K : Exit → Rg → Hp → Prop) (r : Rg) (h : Hp) : Prop :=
  pureW Tryd.prog noHp noHp (xNil (r 12)) h fun v7 h7 =>
  pureW Tryd.prog noHp noHp (sv (Instr.fieldAt 74 v7 1)) h7 fun v8 h8 =>
  pureW Tryd.prog G h (sv (Instr.loadAt 58 v8)) h8 fun v9 h9 =>
  pureW Tryd.prog G h (sv (Instr.loadAt 28 (r 9))) h9 fun v10 h10 =>
  opH Tryd.prog G (callFunc 34 #[v9, v10]) h10 fun v11 h11 =>
  pureW Tryd.prog noHp noHp (sv (binOp .lss 3 v11 (.int .i64 0))) h11 fun v12 h12 =>
  cond v12
  (K .ret (upd (upd (upd (upd (upd (upd (upd (upd (upd r 34 (r 12)) 35 v7) 36 v8) 37 v9) 38 v10) 39 v11) 40 v12) 10 (.slice none 0 0)) 11 (.int .i64 10)) h12)
  (S12_k2 G K (upd (upd (upd (upd (upd (upd (upd r 34 (r 12)) 35 v7) 36 v8) 37 v9) 38 v10) 39 v11) 40 v12) h12)
def S12 (G : Hp) (K : Exit → Rg → Hp → Prop) (r : Rg) (h : Hp) : Prop :=
  opH Tryd.prog G (sv (Instr.box 26 (r 0))) h fun v0 h0 =>
  opH Tryd.prog G (sv (Instr.box 28 (r 4))) h0 fun v1 h1 =>
  opH Tryd.prog G (sv (Instr.loadAt 26 v0)) h1 fun v2 h2 =>
  opH Tryd.prog G (callFunc 33 #[v2, (r 1), (r 2)]) h2 fun v3 h3 =>
  opH Tryd.prog G (sv (Instr.extract v3 0)) h3 fun v4 h4 =>
  opH Tryd.prog G (sv (Instr.extract v3 1)) h4 fun v5 h5 =>
  opH Tryd.prog G (xEq .neq 32 (.tmp 0) (.const .nilFunc) v5 (.int .i64 0)) h5 fun v6 h6 =>
  cond v6
  (K .ret (upd (upd (upd (upd (upd (upd (upd (upd (upd (upd (upd (upd (upd (upd (upd (upd (upd (upd r 5 v0) 9 v1) 10 (.slice none 0 0)) 11 (.int .i64 0)) 25 v2) 26 (r 1)) 27 (r 2)) 28 v3) 24 v3) 29 v4) 30 v5) 12 v4) 13 v5) 31 v5) 32 v6) 33 v5) 10 (.slice none 0 0)) 11 v5) h6)
  (S12_k1 G K (upd (upd (upd (upd (upd (upd (upd (upd (upd (upd (upd (upd (upd (upd (upd r 5 v0) 9 v1) 10 (.slice none 0 0)) 11 (.int .i64 0)) 25 v2) 26 (r 1)) 27 (r 2)) 28 v3) 24 v3) 29 v4) 30 v5) 12 v4) 13 v5) 31 v5) 32 v6) h6)
theorem S12_eq (G : Hp) (K : Exit → Rg → Hp → Prop) (r : Rg) (h : Hp) : wpC Tryd.prog G 109 md12 true (Tryd.f12.body.getD .skip) r h K = S12 G K r h := by kernel_rfl
theorem enter12 {G : Hp} {h : Hp} {args : Array Value} {R : Value → Hp → Prop} (hn : args.size ≤ 109) (H : S12 G (retK Tryd.prog G [.tmp 10, .tmp 11] R) (regs args) h) : HCalls Tryd.prog G 12 args h R :=
  HCalls.enter (md := md12) mixed Tryd.func12 rfl hn (by rw [← S12_eq] at H; exact H)

def md33 : Nat → Hint
  | 8 => ⟨false, [0, 1, 3, 7, 0, 16, 63, 127, 255, 255, 511, 2047], [.pureN, .pureN, .pureN, .pureM, .pureN, .pureM, .pureM, .pureN, .pureN, .pureN, .pureN, .pureN], [.pureN, .pureN, .pureN, .pureM, .pureN, .pureM, .pureM, .pureN, .pureN, .pureN, .pureN, .pureN], [false, false, false, false, false, false, false, false, false, false, false, false], false⟩
  | 10 => ⟨false, [0, 1, 3, 7, 0, 16, 0, 64, 192, 511], [.pureN, .pureN, .pureN, .pureM, .pureN, .pureM, .pureN, .pureM, .pureM, .eff], [.pureN, .pureN, .pureN, .pureM, .pureN, .pureM, .pureN, .pureM, .pureM, .eff], [false, false, false, false, false, false, false, false, false, false], false⟩
  | _ => ⟨false, [], [], [], [], false⟩
def S33_k2 (G : Hp) (K : Exit → Rg → Hp → Prop) (r : Rg) (h : Hp) : Prop :=
  K .ret (upd (upd (upd r 57 (r 10)) 6 (r 10)) 7 (.int .i64 0)) h
def S33_l3_k5 (G : Hp) (K : Exit → Rg → Hp → Prop) (r : Rg) (h : Hp) : Prop :=
  opH Tryd.prog G (sv (binOp .add 3 (r 31) (.int .i64 1))) h fun v12 h12 =>
  K .normal (upd (upd r 56 v12) 31 v12) h12
def S33_l3_k4 (G : Hp) (K : Exit → Rg → Hp → Prop) (r : Rg) (h : Hp) : Prop :=
  opH Tryd.prog G (sv (Instr.indexAt 24 (r 29) (r 31))) h fun v13 h13 =>
  opH Tryd.prog G (sv (Instr.loadAt 49 v13)) h13 fun v14 h14 =>
  opH Tryd.prog G (sv (Instr.alloc 49 true (.tuple #[]))) h14 fun v15 h15 =>
  opH Tryd.prog G (su (Instr.storeAt 49 v15 v14)) h15 fun v16 h16 =>
  pureW Tryd.prog noHp noHp (xNil (r 10)) h16 fun v17 h17 =>
  pureW Tryd.prog noHp noHp (sv (Instr.fieldAt 74 v17 2)) h17 fun v18 h18 =>
  pureW Tryd.prog G h16 (sv (Instr.loadAt 72 v18)) h18 fun v19 h19 =>
  pureW Tryd.prog noHp noHp (sv (Instr.fieldAt 49 v15 0)) h19 fun v20 h20 =>
  pureW Tryd.prog G h16 (sv (Instr.loadAt 28 v20)) h20 fun v21 h21 =>
  pureW Tryd.prog G h16 (sv (Instr.lookup 72 v19 v21 true)) h21 fun v22 h22 =>
  pureW Tryd.prog noHp noHp (sv (Instr.extract v22 0)) h22 fun v23 h23 =>
  pureW Tryd.prog noHp noHp (sv (Instr.extract v22 1)) h23 fun v24 h24 =>
  opH Tryd.prog G (sv (Op.unary .not v24)) h24 fun v25 h25 =>
  cond v25
  (pureW Tryd.prog noHp noHp (xNil (r 10)) h25 fun v26 h26 =>
  pureW Tryd.prog noHp noHp (sv (Instr.fieldAt 74 v26 2)) h26 fun v27 h27 =>
  pureW Tryd.prog G h25 (sv (Instr.loadAt 72 v27)) h27 fun v28 h28 =>
  pureW Tryd.prog noHp noHp (sv (Instr.fieldAt 49 v15 0)) h28 fun v29 h29 =>
  pureW Tryd.prog G h25 (sv (Instr.loadAt 28 v29)) h29 fun v30 h30 =>
  pureW Tryd.prog noHp noHp (sv (Instr.fieldAt 49 v15 1)) h30 fun v31 h31 =>
  pureW Tryd.prog G h25 (sv (Instr.loadAt 42 v31)) h31 fun v32 h32 =>
  pureW Tryd.prog G h25 (sv (Builtin.len_ #[42] 3 #[v32])) h32 fun v33 h33 =>
  opH Tryd.prog G (su (Instr.mapUpdate 72 v28 v30 v33)) h33 fun v34 h34 =>
  S33_l3_k5 G K (upd (upd (upd (upd (upd (upd (upd (upd (upd (upd (upd (upd (upd (upd (upd (upd (upd (upd (upd (upd (upd (upd (upd (upd (upd (upd r 33 v13) 34 v14) 12 v15) 36 (r 10)) 37 v17) 38 v18) 39 v19) 40 v20) 41 v21) 42 v22) 35 v22) 43 v23) 44 v24) 13 v23) 14 v24) 45 v24) 46 v25) 47 (r 10)) 48 v26) 49 v27) 50 v28) 51 v29) 52 v30) 53 v31) 54 v32) 55 v33) h34)
  (S33_l3_k5 G K (upd (upd (upd (upd (upd (upd (upd (upd (upd (upd (upd (upd (upd (upd (upd (upd (upd r 33 v13) 34 v14) 12 v15) 36 (r 10)) 37 v17) 38 v18) 39 v19) 40 v20) 41 v21) 42 v22) 35 v22) 43 v23) 44 v24) 13 v23) 14 v24) 45 v24) 46 v25) h25)
def S33_l3 (G : Hp) (r : Rg) (h : Hp) (K : Exit → Rg → Hp → Prop) : Prop :=
  opH Tryd.prog G (sv (binOp .lss 3 (r 31) (r 30))) h fun v11 h11 =>
  cond v11
  (S33_l3_k4 G K (upd r 32 v11) h11)
  (K (.exit 0) (upd r 32 v11) h11)
def S33_k1 (G : Hp) (K : Exit → Rg → Hp → Prop) (r : Rg) (h : Hp) : Prop :=
  opH Tryd.prog G (sv (Instr.loadAt 26 (r 3))) h fun v6 h6 =>
  opH Tryd.prog G (sv (Instr.makeMap 72 none)) h6 fun v7 h7 =>
  opH Tryd.prog G (sv (Instr.build 74 #[(0, v6), (1, (r 8)), (2, v7), (3, (r 2))])) h7 fun v8 h8 =>
  opH Tryd.prog G (sv (Instr.box 74 v8)) h8 fun v9 h9 =>
  opH Tryd.prog G (sv (Builtin.len_ #[24] 3 #[(r 1)])) h9 fun v10 h10 =>
  loopP (S33_l3 G) (upd (upd (upd (upd (upd (upd (upd (upd (upd (upd r 23 v6) 24 (r 8)) 25 v7) 26 (r 2)) 27 v8) 28 v9) 10 v9) 29 (r 1)) 30 v10) 31 (.int .i64 0)) h10 (blockK 0 (thenK (S33_k2 G K) K))
def S33 (G : Hp) (K : Exit → Rg → Hp → Prop) (r : Rg) (h : Hp) : Prop :=
  opH Tryd.prog G (sv (Instr.box 26 (r 0))) h fun v0 h0 =>
  opH Tryd.prog G (sv (Instr.loadAt 26 v0)) h0 fun v1 h1 =>
  opH Tryd.prog G (callFunc 28 #[v1]) h1 fun v2 h2 =>
  opH Tryd.prog G (sv (Instr.extract v2 0)) h2 fun v3 h3 =>
  opH Tryd.prog G (sv (Instr.extract v2 1)) h3 fun v4 h4 =>
  opH Tryd.prog G (xEq .neq 32 (.tmp 0) (.const .nilFunc) v4 (.int .i64 0)) h4 fun v5 h5 =>
  cond v5
  (K .ret (upd (upd (upd (upd (upd (upd (upd (upd (upd (upd (upd (upd (upd (upd (upd r 3 v0) 6 (.pointer none)) 7 (.int .i64 0)) 16 v1) 17 v2) 15 v2) 18 v3) 19 v4) 8 v3) 9 v4) 20 v4) 21 v5) 22 v4) 6 (.pointer none)) 7 v4) h5)
  (S33_k1 G K (upd (upd (upd (upd (upd (upd (upd (upd (upd (upd (upd (upd r 3 v0) 6 (.pointer none)) 7 (.int .i64 0)) 16 v1) 17 v2) 15 v2) 18 v3) 19 v4) 8 v3) 9 v4) 20 v4) 21 v5) h5)
theorem S33_eq (G : Hp) (K : Exit → Rg → Hp → Prop) (r : Rg) (h : Hp) : wpC Tryd.prog G 58 md33 true (Tryd.f33.body.getD .skip) r h K = S33 G K r h := by kernel_rfl
theorem enter33 {G : Hp} {h : Hp} {args : Array Value} {R : Value → Hp → Prop} (hn : args.size ≤ 58) (H : S33 G (retK Tryd.prog G [.tmp 6, .tmp 7] R) (regs args) h) : HCalls Tryd.prog G 33 args h R :=
  HCalls.enter (md := md33) mixed Tryd.func33 rfl hn (by rw [← S33_eq] at H; exact H)

def md35 : Nat → Hint
  | 5 => ⟨false, [0, 0, 3, 7, 15, 0, 63, 127], [.pureM, .pureN, .pureN, .pureN, .pureM, .pureM, .eff, .pureN], [.pureM, .pureN, .pureN, .pureN, .pureM, .pureM, .eff, .pureN], [false, false, false, false, false, false, false, false], false⟩
  | _ => ⟨false, [], [], [], [], false⟩
def S35_k1 (G : Hp) (K : Exit → Rg → Hp → Prop) (r : Rg) (h : Hp) : Prop :=
  opH Tryd.prog G (sv (Instr.build 28 #[])) h fun v9 h9 =>
  opH Tryd.prog G (su (Instr.storeAt 28 (r 6) v9)) h9 fun v10 h10 =>
  opH Tryd.prog G (su (Instr.storeAt 42 (r 7) (.slice none 0 0))) h10 fun v11 h11 =>
  opH Tryd.prog G (su (Instr.storeAt 4 (r 8) (.bool false))) h11 fun v12 h12 =>
  K .ret (upd r 46 v9) h12
def S35_b2_k4 (G : Hp) (K : Exit → Rg → Hp → Prop) (r : Rg) (h : Hp) : Prop :=
  opH Tryd.prog G (sv (Instr.loadAt 24 (r 4))) h fun v25 h25 =>
  opH Tryd.prog G (sv (Instr.indexAt 24 v25 (r 10))) h25 fun v26 h26 =>
  opH Tryd.prog G (sv (Instr.fieldAt 49 v26 1)) h26 fun v27 h27 =>
  opH Tryd.prog G (sv (Instr.loadAt 42 v27)) h27 fun v28 h28 =>
  opH Tryd.prog G (sv (binOp .add 3 (r 11) (.int .i64 1))) h28 fun v29 h29 =>
  opH Tryd.prog G (sv (Instr.sliceAt 42 v28 (some v29) none none)) h29 fun v30 h30 =>
  opH Tryd.prog G (callFunc 62 #[v30]) h30 fun v31 h31 =>
  opH Tryd.prog G (callFunc 63 #[v31]) h31 fun v32 h32 =>
  opH Tryd.prog G (sv (Instr.loadAt 28 (r 9))) h32 fun v33 h33 =>
  opH Tryd.prog G (su (Instr.storeAt 28 (r 6) v33)) h33 fun v34 h34 =>
  opH Tryd.prog G (su (Instr.storeAt 42 (r 7) v31)) h34 fun v35 h35 =>
  opH Tryd.prog G (su (Instr.storeAt 4 (r 8) (.bool true))) h35 fun v36 h36 =>
  K .ret (upd (upd (upd (upd (upd (upd (upd (upd (upd (upd (upd (upd (upd (upd r 33 v25) 34 (r 10)) 35 v26) 36 v27) 37 v28) 38 (r 11)) 39 v29) 40 v30) 41 v31) 12 v31) 42 v31) 43 v32) 44 v33) 45 v31) h36
def S35_b2_k3 (G : Hp) (K : Exit → Rg → Hp → Prop) (r : Rg) (h : Hp) : Prop :=
  pureW Tryd.prog G h (sv (Instr.loadAt 24 (r 4))) h fun v18 h18 =>
  pureW Tryd.prog noHp noHp (sv (Instr.indexAt 24 v18 (r 10))) h18 fun v19 h19 =>
  pureW Tryd.prog noHp noHp (sv (Instr.fieldAt 49 v19 1)) h19 fun v20 h20 =>
  pureW Tryd.prog G h (sv (Instr.loadAt 42 v20)) h20 fun v21 h21 =>
  pureW Tryd.prog G h (sv (Instr.loadAt 3 (r 5))) h21 fun v22 h22 =>
  opH Tryd.prog G (callFunc 61 #[v21, v22]) h22 fun v23 h23 =>
  opH Tryd.prog G (sv (binOp .lss 3 v23 (.int .i64 0))) h23 fun v24 h24 =>
  cond v24
  (K .normal (upd (upd (upd (upd (upd (upd (upd (upd (upd (upd r 24 v18) 25 (r 10)) 26 v19) 27 v20) 28 v21) 29 v22) 30 v23) 11 v23) 31 v23) 32 v24) h24)
  (S35_b2_k4 G K (upd (upd (upd (upd (upd (upd (upd (upd (upd (upd r 24 v18) 25 (r 10)) 26 v19) 27 v20) 28 v21) 29 v22) 30 v23) 11 v23) 31 v23) 32 v24) h24)
def S35_a2 (G : Hp) (r : Rg) (h : Hp) (K : Exit → Rg → Hp → Prop) : Prop :=
  opH Tryd.prog G (sv (Instr.alloc 28 true (.tuple #[]))) h fun v13 h13 =>
  opH Tryd.prog G (su (Instr.storeAt 28 v13 (r 18))) h13 fun v14 h14 =>
  K .normal (upd r 9 v13) h14
def S35_b2 (G : Hp) (r : Rg) (h : Hp) (K : Exit → Rg → Hp → Prop) : Prop :=
  opH Tryd.prog G (sv (Instr.loadAt 24 (r 4))) h fun v15 h15 =>
  opH Tryd.prog G (callFunc 59 #[v15, (.func (.func 60) #[] #[(r 9)])]) h15 fun v16 h16 =>
  opH Tryd.prog G (sv (binOp .lss 3 v16 (.int .i64 0))) h16 fun v17 h17 =>
  cond v17
  (K .normal (upd (upd (upd (upd (upd (upd r 19 v15) 20 (.func (.func 60) #[] #[(r 9)])) 21 v16) 10 v16) 22 v16) 23 v17) h17)
  (S35_b2_k3 G K (upd (upd (upd (upd (upd (upd r 19 v15) 20 (.func (.func 60) #[] #[(r 9)])) 21 v16) 10 v16) 22 v16) 23 v17) h17)
def S35 (G : Hp) (K : Exit → Rg → Hp → Prop) (r : Rg) (h : Hp) : Prop :=
  opH Tryd.prog G (sv (Instr.box 24 (r 1))) h fun v0 h0 =>
  opH Tryd.prog G (sv (Instr.box 3 (r 2))) h0 fun v1 h1 =>
  opH Tryd.prog G (sv (Instr.alloc 28 true (.tuple #[]))) h1 fun v2 h2 =>
  opH Tryd.prog G (sv (Instr.alloc 42 true (.tuple #[]))) h2 fun v3 h3 =>
  opH Tryd.prog G (sv (Instr.alloc 4 true (.tuple #[]))) h3 fun v4 h4 =>
  opH Tryd.prog G (xNil (r 0)) h4 fun v5 h5 =>
  opH Tryd.prog G (sv (Instr.fieldAt 74 v5 1)) h5 fun v6 h6 =>
  opH Tryd.prog G (sv (Instr.loadAt 58 v6)) h6 fun v7 h7 =>
  opH Tryd.prog G (callFunc 30 #[v7]) h7 fun v8 h8 =>
  RangeW Tryd.prog G 1 (S35_a2 G) (S35_b2 G) (setR 47 #[18]) v8 (upd (upd (upd (upd (upd (upd (upd (upd (upd (upd r 4 v0) 5 v1) 6 v2) 7 v3) 8 v4) 13 (r 0)) 14 v5) 15 v6) 16 v7) 17 v8) h8 (blockK 0 (thenK (S35_k1 G K) K))
theorem S35_eq (G : Hp) (K : Exit → Rg → Hp → Prop) (r : Rg) (h : Hp) : wpC Tryd.prog G 47 md35 true (Tryd.f35.body.getD .skip) r h K = S35 G K r h := by kernel_rfl
theorem enter35 {G : Hp} {h : Hp} {args : Array Value} {R : Value → Hp → Prop} (hn : args.size ≤ 47) (H : S35 G (retK Tryd.prog G [.cell 6 28, .cell 7 42, .cell 8 4] R) (regs args) h) : HCalls Tryd.prog G 35 args h R :=
  HCalls.enter (md := md35) mixed Tryd.func35 rfl hn (by rw [← S35_eq] at H; exact H)

def md37 : Nat → Hint
  | 4 => ⟨false, [0, 0, 3, 7, 15, 31, 63, 127, 15, 511, 15, 1039, 3087, 7183, 15375, 32767, 65535, 131071, 262143, 524287, 1048575, 2097151, 262143, 8388607, 16777215], [.pureM, .pureM, .pureM, .pureN, .pureM, .pureN, .pureN, .pureM, .pureM, .pureM, .pureM, .pureN, .pureN, .pureN, .pureM, .pureN, .pureN, .pureN, .pureM, .pureN, .pureN, .pureM, .pureM, .eff, .pureN], [.pureM, .pureM, .pureM, .pureN, .pureM, .pureN, .pureN, .pureM, .pureM, .pureM, .pureM, .pureN, .pureN, .pureN, .pureM, .pureN, .pureN, .pureN, .pureM, .pureN, .pureN, .pureM, .pureM, .eff, .pureN], [false, false, false, false, false, false, false, false, false, false, false, false, false, false, false, false, false, false, false, false, false, false, false, false, false], false⟩
  | 5 => ⟨false, [0, 1, 3, 7, 7, 31, 7, 7, 255, 511, 1023], [.pureM, .pureN, .pureN, .pureM, .pureM, .eff, .pureM, .pureM, .eff, .pureN, .pureN], [.pureM, .pureN, .pureN, .pureM, .pureM, .eff, .pureM, .pureM, .eff, .pureN, .pureN], [false, false, false, false, false, true, false, false, false, false, false], true⟩
  | 7 => ⟨false, [0, 0, 1, 7], [.pureM, .pureM, .store, .pureN], [.pureM, .pureM, .store, .pureN], [false, false, true, false], true⟩
  | _ => ⟨false, [], [], [], [], false⟩
def S37_k1 (G : Hp) (K : Exit → Rg → Hp → Prop) (r : Rg) (h : Hp) : Prop :=
  ∃ q13 : Hp, q13.le h ∧
  pureW Tryd.prog G q13 (sv (Instr.loadAt 28 (r 6))) h fun v14 h14 =>
  pureW Tryd.prog G q13 (sv (Instr.loadAt 4 (r 7))) h14 fun v15 h15 =>
  opH Tryd.prog G (su (Instr.storeAt 28 (r 4) v14)) h15 fun v16 h16 => q13.le h16 ∧
  K .ret (upd (upd (upd r 53 v14) 54 v15) 5 v15) h16
def S37_b2_k3 (G : Hp) (K : Exit → Rg → Hp → Prop) (r : Rg) (h : Hp) : Prop :=
  ∃ q42 : Hp, q42.le h ∧
  pureW Tryd.prog G q42 (sv (Instr.loadAt 4 (r 7))) h fun v43 h43 =>
  pureW Tryd.prog noHp noHp (sv (Op.unary .not v43)) h43 fun v44 h44 =>
  gd (wantB v44 false) (pureW Tryd.prog G q42 (sv (Instr.loadAt 28 (r 3))) h44) h44 fun v45 h45 =>
  gd (wantB v44 false) (pureW Tryd.prog G q42 (sv (Instr.loadAt 28 (r 8))) h45) h45 fun v46 h46 =>
  gd (wantB v44 false) (fun K1 => opH Tryd.prog G (callFunc 31 #[v45, v46]) h46 fun v h' => q42.le h' ∧ K1 v h') h46 fun v47 h47 =>
  gd (wantB v44 false) (pureW Tryd.prog G q42 (sv (Instr.loadAt 28 (r 3))) h47) h47 fun v48 h48 =>
  gd (wantB v44 false) (pureW Tryd.prog G q42 (sv (Instr.loadAt 28 (r 6))) h48) h48 fun v49 h49 =>
  gd (wantB v44 false) (opH Tryd.prog G (callFunc 31 #[v48, v49]) h49) h49 fun v50 h50 =>
  gd (wantB v44 false) (pureW Tryd.prog noHp noHp (sv (binOp .lss 3 v47 v50)) h50) h50 fun v51 h51 =>
  pureW Tryd.prog noHp noHp (xPick v44 (.bool true) v51) h51 fun v52 h52 =>
  cond v52
  (opH Tryd.prog G (sv (Instr.loadAt 28 (r 8))) h52 fun v53 h53 =>
  opH Tryd.prog G (su (Instr.storeAt 28 (r 6) v53)) h53 fun v54 h54 =>
  opH Tryd.prog G (su (Instr.storeAt 4 (r 7) (.bool true))) h54 fun v55 h55 =>
  K .normal (upd (upd (upd (upd (upd (upd (upd (upd (upd (upd (upd (upd r 41 v43) 42 v44) 43 v44) 44 v45) 45 v46) 46 v47) 47 v48) 48 v49) 49 v50) 50 v51) 51 v52) 52 v53) h55)
  (K .normal (upd (upd (upd (upd (upd (upd (upd (upd (upd (upd (upd r 41 v43) 42 v44) 43 v44) 44 v45) 45 v46) 46 v47) 47 v48) 48 v49) 49 v50) 50 v51) 51 v52) h52)
def S37_a2 (G : Hp) (r : Rg) (h : Hp) (K : Exit → Rg → Hp → Prop) : Prop :=
  opH Tryd.prog G (sv (Instr.alloc 28 true (.tuple #[]))) h fun v17 h17 =>
  opH Tryd.prog G (su (Instr.storeAt 28 v17 (r 15))) h17 fun v18 h18 =>
  K .normal (upd r 8 v17) h18
def S37_b2 (G : Hp) (r : Rg) (h : Hp) (K : Exit → Rg → Hp → Prop) : Prop :=
  pureW Tryd.prog G h (sv (Instr.loadAt 28 (r 8))) h fun v19 h19 =>
  pureW Tryd.prog G h (sv (Instr.loadAt 28 (r 3))) h19 fun v20 h20 =>
  pureW Tryd.prog G h (xEq .eql 28 (.tmp 0) (.tmp 0) v19 v20) h20 fun v21 h21 =>
  gd (wantB v21 false) (pureW Tryd.prog G h (sv (Instr.loadAt 69 (r 2))) h21) h21 fun v22 h22 =>
  gd (wantB v21 false) (pureW Tryd.prog noHp noHp (xNil v22) h22) h22 fun v23 h23 =>
  gd (wantB v21 false) (pureW Tryd.prog noHp noHp (sv (Instr.fieldAt 74 v23 2)) h23) h23 fun v24 h24 =>
  gd (wantB v21 false) (pureW Tryd.prog G h (sv (Instr.loadAt 72 v24)) h24) h24 fun v25 h25 =>
  gd (wantB v21 false) (pureW Tryd.prog G h (sv (Instr.loadAt 28 (r 8))) h25) h25 fun v26 h26 =>
  gd (wantB v21 false) (pureW Tryd.prog G h (sv (Instr.lookup 72 v25 v26 false)) h26) h26 fun v27 h27 =>
  gd (wantB v21 false) (pureW Tryd.prog G h (sv (Instr.loadAt 69 (r 2))) h27) h27 fun v28 h28 =>
  gd (wantB v21 false) (pureW Tryd.prog noHp noHp (xNil v28) h28) h28 fun v29 h29 =>
  gd (wantB v21 false) (pureW Tryd.prog noHp noHp (sv (Instr.fieldAt 74 v29 0)) h29) h29 fun v30 h30 =>
  gd (wantB v21 false) (pureW Tryd.prog noHp noHp (sv (Instr.fieldAt 26 v30 2)) h30) h30 fun v31 h31 =>
  gd (wantB v21 false) (pureW Tryd.prog G h (sv (Instr.loadAt 3 v31)) h31) h31 fun v32 h32 =>
  gd (wantB v21 false) (pureW Tryd.prog noHp noHp (sv (binOp .geq 3 v27 v32)) h32) h32 fun v33 h33 =>
  pureW Tryd.prog noHp noHp (xPick v21 (.bool true) v33) h33 fun v34 h34 =>
  gd (wantB v34 false) (pureW Tryd.prog G h (sv (Instr.loadAt 69 (r 2))) h34) h34 fun v35 h35 =>
  gd (wantB v34 false) (pureW Tryd.prog noHp noHp (xNil v35) h35) h35 fun v36 h36 =>
  gd (wantB v34 false) (pureW Tryd.prog noHp noHp (sv (Instr.fieldAt 74 v36 3)) h36) h36 fun v37 h37 =>
  gd (wantB v34 false) (pureW Tryd.prog G h (sv (Instr.loadAt 22 v37)) h37) h37 fun v38 h38 =>
  gd (wantB v34 false) (pureW Tryd.prog G h (sv (Instr.loadAt 28 (r 8))) h38) h38 fun v39 h39 =>
  gd (wantB v34 false) (opH Tryd.prog G (callFunc 36 #[v38, v39]) h39) h39 fun v40 h40 =>
  pureW Tryd.prog noHp noHp (xPick v34 (.bool true) v40) h40 fun v41 h41 =>
  cond v41
  (K .normal (upd (upd (upd (upd (upd (upd (upd (upd (upd (upd (upd (upd (upd (upd (upd (upd (upd (upd (upd (upd (upd (upd (upd (upd (upd r 16 v19) 17 v20) 18 v21) 19 v21) 20 v22) 21 v23) 22 v24) 23 v25) 24 v26) 25 v27) 26 v28) 27 v29) 28 v30) 29 v31) 30 v32) 31 v33) 32 v34) 33 v34) 34 v35) 35 v36) 36 v37) 37 v38) 38 v39) 39 v40) 40 v41) h41)
  (S37_b2_k3 G K (upd (upd (upd (upd (upd (upd (upd (upd (upd (upd (upd (upd (upd (upd (upd (upd (upd (upd (upd (upd (upd (upd (upd (upd (upd r 16 v19) 17 v20) 18 v21) 19 v21) 20 v22) 21 v23) 22 v24) 23 v25) 24 v26) 25 v27) 26 v28) 27 v29) 28 v30) 29 v31) 30 v32) 31 v33) 32 v34) 33 v34) 34 v35) 35 v36) 36 v37) 37 v38) 38 v39) 39 v40) 40 v41) h41)
def S37 (G : Hp) (K : Exit → Rg → Hp → Prop) (r : Rg) (h : Hp) : Prop :=
  opH Tryd.prog G (sv (Instr.box 69 (r 0))) h fun v0 h0 =>
  opH Tryd.prog G (sv (Instr.box 28 (r 1))) h0 fun v1 h1 =>
  opH Tryd.prog G (sv (Instr.alloc 28 true (.tuple #[]))) h1 fun v2 h2 =>
  opH Tryd.prog G (sv (Instr.build 28 #[])) h2 fun v3 h3 =>
  opH Tryd.prog G (sv (Instr.alloc 28 true (.tuple #[]))) h3 fun v4 h4 =>
  opH Tryd.prog G (sv (Instr.alloc 4 true (.tuple #[]))) h4 fun v5 h5 =>
  opH Tryd.prog G (su (Instr.storeAt 28 v4 v3)) h5 fun v6 h6 =>
  opH Tryd.prog G (su (Instr.storeAt 4 v5 (.bool false))) h6 fun v7 h7 =>
  opH Tryd.prog G (sv (Instr.loadAt 69 v0)) h7 fun v8 h8 =>
  opH Tryd.prog G (xNil v8) h8 fun v9 h9 =>
  opH Tryd.prog G (sv (Instr.fieldAt 74 v9 1)) h9 fun v10 h10 =>
  opH Tryd.prog G (sv (Instr.loadAt 58 v10)) h10 fun v11 h11 =>
  opH Tryd.prog G (callFunc 30 #[v11]) h11 fun v12 h12 =>
  RangeW Tryd.prog G 1 (S37_a2 G) (S37_b2 G) (setR 55 #[15]) v12 (upd (upd (upd (upd (upd (upd (upd (upd (upd (upd (upd (upd r 2 v0) 3 v1) 4 v2) 5 (.bool false)) 9 v3) 6 v4) 7 v5) 10 v8) 11 v9) 12 v10) 13 v11) 14 v12) h12 (blockK 0 (thenK (S37_k1 G K) (scopeK K)))
theorem S37_eq (G : Hp) (K : Exit → Rg → Hp → Prop) (r : Rg) (h : Hp) : wpC Tryd.prog G 55 md37 true (Tryd.f37.body.getD .skip) r h K = S37 G K r h := by kernel_rfl
theorem enter37 {G : Hp} {h : Hp} {args : Array Value} {R : Value → Hp → Prop} (hn : args.size ≤ 55) (H : S37 G (retK Tryd.prog G [.cell 4 28, .tmp 5] R) (regs args) h) : HCalls Tryd.prog G 37 args h R :=
  HCalls.enter (md := md37) mixed Tryd.func37 rfl hn (by rw [← S37_eq] at H; exact H)

def md60 : Nat → Hint
  | _ => ⟨false, [], [], [], [], false⟩
def S60 (G : Hp) (K : Exit → Rg → Hp → Prop) (r : Rg) (h : Hp) : Prop :=
  opH Tryd.prog G (sv (Instr.box 49 (r 0))) h fun v0 h0 =>
  opH Tryd.prog G (sv (Instr.fieldAt 49 v0 0)) h0 fun v1 h1 =>
  opH Tryd.prog G (sv (Instr.loadAt 28 v1)) h1 fun v2 h2 =>
  opH Tryd.prog G (sv (Instr.loadAt 28 (r 1))) h2 fun v3 h3 =>
  opH Tryd.prog G (xEq .eql 28 (.tmp 0) (.tmp 0) v2 v3) h3 fun v4 h4 =>
  K .ret (upd (upd (upd (upd (upd (upd (upd r 2 v0) 3 (.bool false)) 4 v1) 5 v2) 6 v3) 7 v4) 3 v4) h4
theorem S60_eq (G : Hp) (K : Exit → Rg → Hp → Prop) (r : Rg) (h : Hp) : wpC Tryd.prog G 8 md60 true (Tryd.f60.body.getD .skip) r h K = S60 G K r h := by kernel_rfl
theorem enter60 {G : Hp} {h : Hp} {args : Array Value} {R : Value → Hp → Prop} (hn : args.size ≤ 8) (H : S60 G (retK Tryd.prog G [.tmp 3] R) (regs args) h) : HCalls Tryd.prog G 60 args h R :=
  HCalls.enter (md := md60) mixed Tryd.func60 rfl hn (by rw [← S60_eq] at H; exact H)

def md59 : Nat → Hint
  | _ => ⟨false, [], [], [], [], false⟩
def S59_k1 (G : Hp) (K : Exit → Rg → Hp → Prop) (r : Rg) (h : Hp) : Prop :=
  K .ret (upd r 4 (.int .i64 (-1))) h
def S59_l2_k4 (G : Hp) (K : Exit → Rg → Hp → Prop) (r : Rg) (h : Hp) : Prop :=
  opH Tryd.prog G (sv (binOp .add 3 (r 8) (.int .i64 1))) h fun v2 h2 =>
  K .normal (upd (upd r 18 v2) 8 v2) h2
def S59_l2_k3 (G : Hp) (K : Exit → Rg → Hp → Prop) (r : Rg) (h : Hp) : Prop :=
  opH Tryd.prog G (sv (Instr.indexAt 24 (r 0) (r 8))) h fun v3 h3 =>
  opH Tryd.prog G (sv (Instr.loadAt 49 v3)) h3 fun v4 h4 =>
  opH Tryd.prog G (xCallV (r 1) #[v4]) h4 fun v5 h5 =>
  cond v5
  (K .ret (upd (upd (upd (upd (upd (upd (upd (upd (upd (upd r 10 (r 8)) 5 (r 8)) 11 (r 1)) 12 (r 0)) 13 (r 8)) 14 v3) 15 v4) 16 v5) 17 (r 8)) 4 (r 8)) h5)
  (S59_l2_k4 G K (upd (upd (upd (upd (upd (upd (upd (upd r 10 (r 8)) 5 (r 8)) 11 (r 1)) 12 (r 0)) 13 (r 8)) 14 v3) 15 v4) 16 v5) h5)
def S59_l2 (G : Hp) (r : Rg) (h : Hp) (K : Exit → Rg → Hp → Prop) : Prop :=
  opH Tryd.prog G (sv (binOp .lss 3 (r 8) (r 7))) h fun v1 h1 =>
  cond v1
  (S59_l2_k3 G K (upd r 9 v1) h1)
  (K (.exit 0) (upd r 9 v1) h1)
def S59 (G : Hp) (K : Exit → Rg → Hp → Prop) (r : Rg) (h : Hp) : Prop :=
  opH Tryd.prog G (sv (Builtin.len_ #[24] 3 #[(r 0)])) h fun v0 h0 =>
  loopP (S59_l2 G) (upd (upd (upd (upd r 4 (.int .i64 0)) 6 (r 0)) 7 v0) 8 (.int .i64 0)) h0 (blockK 0 (thenK (S59_k1 G K) K))
theorem S59_eq (G : Hp) (K : Exit → Rg → Hp → Prop) (r : Rg) (h : Hp) : wpC Tryd.prog G 19 md59 true (Tryd.f59.body.getD .skip) r h K = S59 G K r h := by kernel_rfl
theorem enter59 {G : Hp} {h : Hp} {args : Array Value} {R : Value → Hp → Prop} (hn : args.size ≤ 19) (H : S59 G (retK Tryd.prog G [.tmp 4] R) (regs args) h) : HCalls Tryd.prog G 59 args h R :=
  HCalls.enter (md := md59) mixed Tryd.func59 rfl hn (by rw [← S59_eq] at H; exact H)

def md61 : Nat → Hint
  | _ => ⟨false, [], [], [], [], false⟩
def S61_k1 (G : Hp) (K : Exit → Rg → Hp → Prop) (r : Rg) (h : Hp) : Prop :=
  K .ret (upd r 4 (.int .i64 (-1))) h
def S61_l2_k4 (G : Hp) (K : Exit → Rg → Hp → Prop) (r : Rg) (h : Hp) : Prop :=
  opH Tryd.prog G (sv (binOp .add 3 (r 8) (.int .i64 1))) h fun v2 h2 =>
  K .normal (upd (upd r 18 v2) 8 v2) h2
def S61_l2_k3 (G : Hp) (K : Exit → Rg → Hp → Prop) (r : Rg) (h : Hp) : Prop :=
  opH Tryd.prog G (sv (Instr.indexAt 42 (r 0) (r 8))) h fun v3 h3 =>
  opH Tryd.prog G (sv (Instr.loadAt 3 v3)) h3 fun v4 h4 =>
  opH Tryd.prog G (xEq .eql 3 (.tmp 0) (.tmp 0) (r 1) v4) h4 fun v5 h5 =>
  cond v5
  (K .ret (upd (upd (upd (upd (upd (upd (upd (upd (upd (upd r 10 (r 8)) 5 (r 8)) 11 (r 1)) 12 (r 0)) 13 (r 8)) 14 v3) 15 v4) 16 v5) 17 (r 8)) 4 (r 8)) h5)
  (S61_l2_k4 G K (upd (upd (upd (upd (upd (upd (upd (upd r 10 (r 8)) 5 (r 8)) 11 (r 1)) 12 (r 0)) 13 (r 8)) 14 v3) 15 v4) 16 v5) h5)
def S61_l2 (G : Hp) (r : Rg) (h : Hp) (K : Exit → Rg → Hp → Prop) : Prop :=
  opH Tryd.prog G (sv (binOp .lss 3 (r 8) (r 7))) h fun v1 h1 =>
  cond v1
  (S61_l2_k3 G K (upd r 9 v1) h1)
  (K (.exit 0) (upd r 9 v1) h1)
def S61 (G : Hp) (K : Exit → Rg → Hp → Prop) (r : Rg) (h : Hp) : Prop :=
  opH Tryd.prog G (sv (Builtin.len_ #[42] 3 #[(r 0)])) h fun v0 h0 =>
  loopP (S61_l2 G) (upd (upd (upd (upd r 4 (.int .i64 0)) 6 (r 0)) 7 v0) 8 (.int .i64 0)) h0 (blockK 0 (thenK (S61_k1 G K) K))
theorem S61_eq (G : Hp) (K : Exit → Rg → Hp → Prop) (r : Rg) (h : Hp) : wpC Tryd.prog G 19 md61 true (Tryd.f61.body.getD .skip) r h K = S61 G K r h := by kernel_rfl
theorem enter61 {G : Hp} {h : Hp} {args : Array Value} {R : Value → Hp → Prop} (hn : args.size ≤ 19) (H : S61 G (retK Tryd.prog G [.tmp 4] R) (regs args) h) : HCalls Tryd.prog G 61 args h R :=
  HCalls.enter (md := md61) mixed Tryd.func61 rfl hn (by rw [← S61_eq] at H; exact H)

def md64 : Nat → Hint
  | 4 => ⟨false, [0, 0, 0, 6, 14, 31], [.pureM, .pureN, .pureN, .pureN, .pureM, .pureM], [.pureM, .pureN, .pureN, .pureN, .pureM, .pureM], [false, false, false, false, false, false], false⟩
  | _ => ⟨false, [], [], [], [], false⟩
def S64_k1 (G : Hp) (K : Exit → Rg → Hp → Prop) (r : Rg) (h : Hp) : Prop :=
  K .ret (upd r 4 (.int .i64 (-1))) h
def S64_l2_k4 (G : Hp) (K : Exit → Rg → Hp → Prop) (r : Rg) (h : Hp) : Prop :=
  opH Tryd.prog G (sv (binOp .add 3 (r 8) (.int .i64 1))) h fun v3 h3 =>
  K .normal (upd (upd r 18 v3) 8 v3) h3
def S64_l2_k3 (G : Hp) (K : Exit → Rg → Hp → Prop) (r : Rg) (h : Hp) : Prop :=
  pureW Tryd.prog G h (sv (Instr.loadAt 28 (r 3))) h fun v4 h4 =>
  pureW Tryd.prog noHp noHp (sv (Instr.indexAt 22 (r 0) (r 8))) h4 fun v5 h5 =>
  pureW Tryd.prog G h (sv (Instr.loadAt 28 v5)) h5 fun v6 h6 =>
  pureW Tryd.prog G h (xEq .eql 28 (.tmp 0) (.tmp 0) v4 v6) h6 fun v7 h7 =>
  cond v7
  (K .ret (upd (upd (upd (upd (upd (upd (upd (upd (upd (upd r 10 (r 8)) 5 (r 8)) 11 v4) 12 (r 0)) 13 (r 8)) 14 v5) 15 v6) 16 v7) 17 (r 8)) 4 (r 8)) h7)
  (S64_l2_k4 G K (upd (upd (upd (upd (upd (upd (upd (upd r 10 (r 8)) 5 (r 8)) 11 v4) 12 (r 0)) 13 (r 8)) 14 v5) 15 v6) 16 v7) h7)
def S64_l2 (G : Hp) (r : Rg) (h : Hp) (K : Exit → Rg → Hp → Prop) : Prop :=
  opH Tryd.prog G (sv (binOp .lss 3 (r 8) (r 7))) h fun v2 h2 =>
  cond v2
  (S64_l2_k3 G K (upd r 9 v2) h2)
  (K (.exit 0) (upd r 9 v2) h2)
def S64 (G : Hp) (K : Exit → Rg → Hp → Prop) (r : Rg) (h : Hp) : Prop :=
  opH Tryd.prog G (sv (Instr.box 28 (r 1))) h fun v0 h0 =>
  opH Tryd.prog G (sv (Builtin.len_ #[22] 3 #[(r 0)])) h0 fun v1 h1 =>
  loopP (S64_l2 G) (upd (upd (upd (upd (upd r 3 v0) 4 (.int .i64 0)) 6 (r 0)) 7 v1) 8 (.int .i64 0)) h1 (blockK 0 (thenK (S64_k1 G K) K))
theorem S64_eq (G : Hp) (K : Exit → Rg → Hp → Prop) (r : Rg) (h : Hp) : wpC Tryd.prog G 19 md64 true (Tryd.f64.body.getD .skip) r h K = S64 G K r h := by kernel_rfl
theorem enter64 {G : Hp} {h : Hp} {args : Array Value} {R : Value → Hp → Prop} (hn : args.size ≤ 19) (H : S64 G (retK Tryd.prog G [.tmp 4] R) (regs args) h) : HCalls Tryd.prog G 64 args h R :=
  HCalls.enter (md := md64) mixed Tryd.func64 rfl hn (by rw [← S64_eq] at H; exact H)

def md36 : Nat → Hint
  | _ => ⟨false, [], [], [], [], false⟩
def S36 (G : Hp) (K : Exit → Rg → Hp → Prop) (r : Rg) (h : Hp) : Prop :=
  opH Tryd.prog G (sv (Instr.box 28 (r 1))) h fun v0 h0 =>
  opH Tryd.prog G (sv (Instr.loadAt 28 v0)) h0 fun v1 h1 =>
  opH Tryd.prog G (callFunc 64 #[(r 0), v1]) h1 fun v2 h2 =>
  opH Tryd.prog G (sv (binOp .geq 3 v2 (.int .i64 0))) h2 fun v3 h3 =>
  K .ret (upd (upd (upd (upd (upd (upd (upd r 3 v0) 4 (.bool false)) 5 (r 0)) 6 v1) 7 v2) 8 v3) 4 v3) h3
theorem S36_eq (G : Hp) (K : Exit → Rg → Hp → Prop) (r : Rg) (h : Hp) : wpC Tryd.prog G 9 md36 true (Tryd.f36.body.getD .skip) r h K = S36 G K r h := by kernel_rfl
theorem enter36 {G : Hp} {h : Hp} {args : Array Value} {R : Value → Hp → Prop} (hn : args.size ≤ 9) (H : S36 G (retK Tryd.prog G [.tmp 4] R) (regs args) h) : HCalls Tryd.prog G 36 args h R :=
  HCalls.enter (md := md36) mixed Tryd.func36 rfl hn (by rw [← S36_eq] at H; exact H)

def md62 : Nat → Hint
  | _ => ⟨false, [], [], [], [], false⟩
def S62_k1 (G : Hp) (K : Exit → Rg → Hp → Prop) (r : Rg) (h : Hp) : Prop :=
  opH Tryd.prog G (sv (Instr.buildSlice 42 0 #[])) h fun v1 h1 =>
  opH Tryd.prog G (sv (Builtin.append_ #[42, 42] 42 #[v1, (r 0)])) h1 fun v2 h2 =>
  K .ret (upd (upd (upd (upd r 5 v1) 6 (r 0)) 7 v2) 2 v2) h2
def S62 (G : Hp) (K : Exit → Rg → Hp → Prop) (r : Rg) (h : Hp) : Prop :=
  opH Tryd.prog G (xEq .eql 42 (.tmp 0) (.const .nilFunc) (r 0) (.slice none 0 0)) h fun v0 h0 =>
  cond v0
  (K .ret (upd (upd (upd (upd r 2 (.slice none 0 0)) 3 (r 0)) 4 v0) 2 (.slice none 0 0)) h0)
  (S62_k1 G K (upd (upd (upd r 2 (.slice none 0 0)) 3 (r 0)) 4 v0) h0)
theorem S62_eq (G : Hp) (K : Exit → Rg → Hp → Prop) (r : Rg) (h : Hp) : wpC Tryd.prog G 8 md62 true (Tryd.f62.body.getD .skip) r h K = S62 G K r h := by kernel_rfl
theorem enter62 {G : Hp} {h : Hp} {args : Array Value} {R : Value → Hp → Prop} (hn : args.size ≤ 8) (H : S62 G (retK Tryd.prog G [.tmp 2] R) (regs args) h) : HCalls Tryd.prog G 62 args h R :=
  HCalls.enter (md := md62) mixed Tryd.func62 rfl hn (by rw [← S62_eq] at H; exact H)

def md38 : Nat → Hint
  | 3 => ⟨false, [0, 0, 0, 0, 0, 0, 48, 112, 0, 0, 768, 1792, 4083, 8179, 16383, 32767], [.pureN, .pureN, .pureN, .pureN, .pureN, .pureN, .pureN, .pureM, .pureN, .pureN, .pureN, .pureM, .pureN, .store, .pureN, .store], [.pureN, .pureN, .pureN, .pureN, .pureN, .pureN, .pureN, .pureM, .pureN, .pureN, .pureN, .pureM, .pureN, .store, .pureN, .store], [false, false, false, false, false, false, false, false, false, false, false, false, false, false, false, false], false⟩
  | _ => ⟨false, [], [], [], [], false⟩
def S38_l1_k3 (G : Hp) (K : Exit → Rg → Hp → Prop) (r : Rg) (h : Hp) : Prop :=
  opH Tryd.prog G (sv (binOp .add 3 (r 2) (.int .i64 1))) h fun v3 h3 =>
  opH Tryd.prog G (sv (binOp .sub 3 (r 3) (.int .i64 1))) h3 fun v4 h4 =>
  K .normal (upd (upd (upd (upd (upd (upd r 10 (r 2)) 11 v3) 12 (r 3)) 13 v4) 2 v3) 3 v4) h4
def S38_l1_k2 (G : Hp) (K : Exit → Rg → Hp → Prop) (r : Rg) (h : Hp) : Prop :=
  pureW Tryd.prog noHp noHp (sv (Instr.indexAt 31 (r 0) (r 3))) h fun v5 h5 =>
  pureW Tryd.prog G h (sv (Instr.loadAt 45 v5)) h5 fun v6 h6 =>
  pureW Tryd.prog noHp noHp (sv (Instr.indexAt 31 (r 0) (r 2))) h6 fun v7 h7 =>
  pureW Tryd.prog G h (sv (Instr.loadAt 45 v7)) h7 fun v8 h8 =>
  pureW Tryd.prog noHp noHp (sv (Instr.indexAt 31 (r 0) (r 2))) h8 fun v9 h9 =>
  opH Tryd.prog G (su (Instr.storeAt 45 v9 v6)) h9 fun v10 h10 =>
  pureW Tryd.prog noHp noHp (sv (Instr.indexAt 31 (r 0) (r 3))) h10 fun v11 h11 =>
  opH Tryd.prog G (su (Instr.storeAt 45 v11 v8)) h11 fun v12 h12 =>
  S38_l1_k3 G K (upd (upd (upd (upd (upd (upd (upd (upd (upd (upd (upd (upd (upd (upd r 14 (r 0)) 15 (r 2)) 16 (r 0)) 17 (r 3)) 18 (r 0)) 19 (r 3)) 20 v5) 21 v6) 22 (r 0)) 23 (r 2)) 24 v7) 25 v8) 26 v9) 27 v11) h12
def S38_l1 (G : Hp) (r : Rg) (h : Hp) (K : Exit → Rg → Hp → Prop) : Prop :=
  opH Tryd.prog G (sv (binOp .lss 3 (r 2) (r 3))) h fun v2 h2 =>
  cond v2
  (S38_l1_k2 G K (upd (upd (upd r 7 (r 2)) 8 (r 3)) 9 v2) h2)
  (K (.exit 0) (upd (upd (upd r 7 (r 2)) 8 (r 3)) 9 v2) h2)
def S38 (G : Hp) (K : Exit → Rg → Hp → Prop) (r : Rg) (h : Hp) : Prop :=
  opH Tryd.prog G (sv (Builtin.len_ #[31] 3 #[(r 0)])) h fun v0 h0 =>
  opH Tryd.prog G (sv (binOp .sub 3 v0 (.int .i64 1))) h0 fun v1 h1 =>
  loopP (S38_l1 G) (upd (upd (upd (upd (upd r 4 (r 0)) 5 v0) 6 v1) 2 (.int .i64 0)) 3 v1) h1 (blockK 0 K)
theorem S38_eq (G : Hp) (K : Exit → Rg → Hp → Prop) (r : Rg) (h : Hp) : wpC Tryd.prog G 28 md38 true (Tryd.f38.body.getD .skip) r h K = S38 G K r h := by kernel_rfl
theorem enter38 {G : Hp} {h : Hp} {args : Array Value} {R : Value → Hp → Prop} (hn : args.size ≤ 28) (H : S38 G (retK Tryd.prog G [] R) (regs args) h) : HCalls Tryd.prog G 38 args h R :=
  HCalls.enter (md := md38) mixed Tryd.func38 rfl hn (by rw [← S38_eq] at H; exact H)

def md63 : Nat → Hint
  | 3 => ⟨false, [0, 0, 0, 0, 0, 0, 48, 112, 0, 0, 768, 1792, 4083, 8179, 16383, 32767], [.pureN, .pureN, .pureN, .pureN, .pureN, .pureN, .pureN, .pureM, .pureN, .pureN, .pureN, .pureM, .pureN, .store, .pureN, .store], [.pureN, .pureN, .pureN, .pureN, .pureN, .pureN, .pureN, .pureM, .pureN, .pureN, .pureN, .pureM, .pureN, .store, .pureN, .store], [false, false, false, false, false, false, false, false, false, false, false, false, false, false, false, false], false⟩
  | _ => ⟨false, [], [], [], [], false⟩
def S63_l1_k3 (G : Hp) (K : Exit → Rg → Hp → Prop) (r : Rg) (h : Hp) : Prop :=
  opH Tryd.prog G (sv (binOp .add 3 (r 2) (.int .i64 1))) h fun v3 h3 =>
  opH Tryd.prog G (sv (binOp .sub 3 (r 3) (.int .i64 1))) h3 fun v4 h4 =>
  K .normal (upd (upd (upd (upd (upd (upd r 10 (r 2)) 11 v3) 12 (r 3)) 13 v4) 2 v3) 3 v4) h4
def S63_l1_k2 (G : Hp) (K : Exit → Rg → Hp → Prop) (r : Rg) (h : Hp) : Prop :=
  pureW Tryd.prog noHp noHp (sv (Instr.indexAt 42 (r 0) (r 3))) h fun v5 h5 =>
  pureW Tryd.prog G h (sv (Instr.loadAt 3 v5)) h5 fun v6 h6 =>
  pureW Tryd.prog noHp noHp (sv (Instr.indexAt 42 (r 0) (r 2))) h6 fun v7 h7 =>
  pureW Tryd.prog G h (sv (Instr.loadAt 3 v7)) h7 fun v8 h8 =>
  pureW Tryd.prog noHp noHp (sv (Instr.indexAt 42 (r 0) (r 2))) h8 fun v9 h9 =>
  opH Tryd.prog G (su (Instr.storeAt 3 v9 v6)) h9 fun v10 h10 =>
  pureW Tryd.prog noHp noHp (sv (Instr.indexAt 42 (r 0) (r 3))) h10 fun v11 h11 =>
  opH Tryd.prog G (su (Instr.storeAt 3 v11 v8)) h11 fun v12 h12 =>
  S63_l1_k3 G K (upd (upd (upd (upd (upd (upd (upd (upd (upd (upd (upd (upd (upd (upd r 14 (r 0)) 15 (r 2)) 16 (r 0)) 17 (r 3)) 18 (r 0)) 19 (r 3)) 20 v5) 21 v6) 22 (r 0)) 23 (r 2)) 24 v7) 25 v8) 26 v9) 27 v11) h12
def S63_l1 (G : Hp) (r : Rg) (h : Hp) (K : Exit → Rg → Hp → Prop) : Prop :=
  opH Tryd.prog G (sv (binOp .lss 3 (r 2) (r 3))) h fun v2 h2 =>
  cond v2
  (S63_l1_k2 G K (upd (upd (upd r 7 (r 2)) 8 (r 3)) 9 v2) h2)
  (K (.exit 0) (upd (upd (upd r 7 (r 2)) 8 (r 3)) 9 v2) h2)
def S63 (G : Hp) (K : Exit → Rg → Hp → Prop) (r : Rg) (h : Hp) : Prop :=
  opH Tryd.prog G (sv (Builtin.len_ #[42] 3 #[(r 0)])) h fun v0 h0 =>
  opH Tryd.prog G (sv (binOp .sub 3 v0 (.int .i64 1))) h0 fun v1 h1 =>
  loopP (S63_l1 G) (upd (upd (upd (upd (upd r 4 (r 0)) 5 v0) 6 v1) 2 (.int .i64 0)) 3 v1) h1 (blockK 0 K)
theorem S63_eq (G : Hp) (K : Exit → Rg → Hp → Prop) (r : Rg) (h : Hp) : wpC Tryd.prog G 28 md63 true (Tryd.f63.body.getD .skip) r h K = S63 G K r h := by kernel_rfl
theorem enter63 {G : Hp} {h : Hp} {args : Array Value} {R : Value → Hp → Prop} (hn : args.size ≤ 28) (H : S63 G (retK Tryd.prog G [] R) (regs args) h) : HCalls Tryd.prog G 63 args h R :=
  HCalls.enter (md := md63) mixed Tryd.func63 rfl hn (by rw [← S63_eq] at H; exact H)

end Go.Proofs.YtangejiigopdaaaDoor
end

section
/- GridMay: the walk. -/
set_option linter.unusedSimpArgs false
set_option linter.unusedVariables false
set_option maxRecDepth 100000
namespace Go.Proofs.YtangejiigopdaaaDoor
open Go Go.HL

theorem CV.box {G h : Hp} {v : Value} {C : Conf} (hv : CV G h v C) : ∃ a1 n1 a2 n2 a3 n3 a4 n4, v = confV C a1 n1 a2 n2 a3 n3 a4 n4 := by
  obtain ⟨ab, cb, ap, cp, ar, cr, az, cs, rfl, ca⟩ := hv
  exact ⟨_, _, _, _, _, _, _, _, rfl⟩

end Go.Proofs.YtangejiigopdaaaDoor
end

section
/- How far two cells are apart; GridAway: the walk. -/
set_option linter.unusedSimpArgs false
set_option linter.unusedVariables false
set_option maxRecDepth 100000
namespace Go.Proofs.YtangejiigopdaaaDoor
open Go Go.HL

def mx (a b : Int) : Int := if b > a then b else a
theorem max_two {P : Program} {G h : Hp} {a b : Int} {K : Value → Hp → Prop} : wpH P G (Builtin.max_ #[3, 3] 3 #[.int .i64 a, .int .i64 b]) h K = K (.int .i64 (mx a b)) h := rfl
theorem index87_0 {G h : Hp} {a b c d : Int} {K : Value → Hp → Prop} : wpH Tryd.prog G (Instr.index 94 (.agg #[.int .i64 a, .int .i64 b, .int .i64 c, .int .i64 d]) (.int .i64 0)) h K = K (.int .i64 a) h := by kernel_rfl
theorem index87_1 {G h : Hp} {a b c d : Int} {K : Value → Hp → Prop} : wpH Tryd.prog G (Instr.index 94 (.agg #[.int .i64 a, .int .i64 b, .int .i64 c, .int .i64 d]) (.int .i64 1)) h K = K (.int .i64 b) h := by kernel_rfl
theorem index87_2 {G h : Hp} {a b c d : Int} {K : Value → Hp → Prop} : wpH Tryd.prog G (Instr.index 94 (.agg #[.int .i64 a, .int .i64 b, .int .i64 c, .int .i64 d]) (.int .i64 2)) h K = K (.int .i64 c) h := by kernel_rfl
theorem index87_3 {G h : Hp} {a b c d : Int} {K : Value → Hp → Prop} : wpH Tryd.prog G (Instr.index 94 (.agg #[.int .i64 a, .int .i64 b, .int .i64 c, .int .i64 d]) (.int .i64 3)) h K = K (.int .i64 d) h := by kernel_rfl
theorem index87 {G h : Hp} {a b c d x : Int} {j : Nat} {K : Value → Hp → Prop} (hx : [a, b, c, d][j]? = some x) : wpH Tryd.prog G (Instr.index 94 (.agg #[.int .i64 a, .int .i64 b, .int .i64 c, .int .i64 d]) (.int .i64 (j : Int))) h K = K (.int .i64 x) h := by
  match j, hx with
  | 0, hx => cases hx; exact index87_0
  | 1, hx => cases hx; exact index87_1
  | 2, hx => cases hx; exact index87_2
  | 3, hx => cases hx; exact index87_3
  | n + 4, hx => simp at hx

def gapI (a b : Int) : Int := if a > b then a - b else b - a
def farB (n : Int) : Bool := withinB n (-1099511627776) 1099511627776
def awayI (a b : Cell) : Int := if [a.1, a.2, b.1, b.2].all farB = true then gapI a.1 b.1 + gapI a.2 b.2 else 0

theorem far_iff {n : Int} : farB n = true ↔ -1099511627776 ≤ n ∧ n ≤ 1099511627776 := withinB_iff

theorem apart_spec {G h : Hp} {a b : Int} (ha : farB a = true) (hb : farB b = true) : HCalls Tryd.prog G 57 #[.int .i64 a, .int .i64 b] h (fun u h' => u = .int .i64 (gapI a b) ∧ h' = h) := by
  obtain ⟨a1, a2⟩ := far_iff.1 ha
  obtain ⟨b1, b2⟩ := far_iff.1 hb
  refine quietly (enter57 (by simp) ?_)
  unfold S57
  simp -implicitDefEqProofs (maxSteps := 2000000) (disch := first | with_reducible exact Nat.ne_of_beq_eq_false rfl | exact oneCell_int | exact oneCell_bool | omega | rfl | (simp; done) | fail) only [regs0, regs1, retK_ret, resL_tmp, upd_eq, resL_nil1, opH_sv, bin_sub, wrap_in, max_two]
  refine ⟨?_, Hp.le.refl h⟩
  unfold gapI mx
  congr 1
  split <;> split <;> omega
set_option maxHeartbeats 2000000 in
theorem away_spec {G h : Hp} {a b : Cell} : HCalls Tryd.prog G 31 #[cellV a, cellV b] h (fun u h' => u = .int .i64 (awayI a b) ∧ h' = h) := by
  refine HCalls.assume fun d => quietly (enter31 (by simp) ?_)
  unfold S31
  simp -implicitDefEqProofs (maxSteps := 2000000) (disch := first | with_reducible exact Nat.ne_of_beq_eq_false rfl | exact oneCell_int | exact oneCell_bool | omega | rfl | (simp; done) | fail) only [regs0, regs1, opH_sv, box_new, cells_agg, fa28_1, add_mk, Nat.zero_add, ld3, fa28_0, Nat.add_zero, cell_set_self, List.getElem?_cons_zero, Option.some.injEq, List.getElem?_cons_succ, exists_eq_left']
  intro x hx gx
  generalize e1 : Hp.set h x _ = h1
  obtain ⟨l1, d1, b1⟩ := boxed e1 hx d gx
  intro y hy gy
  generalize e2 : Hp.set h1 y _ = h2
  obtain ⟨l2, d2, b2⟩ := boxed e2 hy d1 gy
  have cx : ∀ j, cellIn G h2 ⟨x, j, none⟩ = _ := fun j => cell_of (look_own (l2 _ _ b1))
  have cy : ∀ j, cellIn G h2 ⟨y, j, none⟩ = _ := fun j => cell_of (look_own b2)
  try simp -implicitDefEqProofs (maxSteps := 2000000) (disch := first | with_reducible exact Nat.ne_of_beq_eq_false rfl | exact oneCell_int | exact oneCell_bool | omega | rfl | (simp; done) | fail) only [cx, List.getElem?_cons_zero, Option.some.injEq, List.getElem?_cons_succ, exists_eq_left', bd94_0_1_2_3]
  refine loop_I (fun m r h3 => ∃ j : Nat, m = 4 - j ∧ j ≤ 4 ∧ r 2 = .pointer (some ⟨x, 0, none⟩) ∧ r 3 = .pointer (some ⟨y, 0, none⟩) ∧ r 16 = .agg #[.int .i64 a.1, .int .i64 a.2, .int .i64 b.1, .int .i64 b.2] ∧ r 17 = .int .i64 j ∧ h3 = h2 ∧ ∀ n ∈ [a.1, a.2, b.1, b.2].take j, farB n = true) ?_
    (m := 4) ⟨0, rfl, by decide, by simp -implicitDefEqProofs (maxSteps := 2000000) (disch := first | with_reducible exact Nat.ne_of_beq_eq_false rfl | exact oneCell_int | exact oneCell_bool | omega | rfl | (simp; done) | fail) only [upd_ne, upd_eq], by simp -implicitDefEqProofs (maxSteps := 2000000) (disch := first | with_reducible exact Nat.ne_of_beq_eq_false rfl | exact oneCell_int | exact oneCell_bool | omega | rfl | (simp; done) | fail) only [upd_ne, upd_eq], by simp -implicitDefEqProofs (maxSteps := 2000000) (disch := first | with_reducible exact Nat.ne_of_beq_eq_false rfl | exact oneCell_int | exact oneCell_bool | omega | rfl | (simp; done) | fail) only [upd_ne, upd_eq] <;> rfl, by simp -implicitDefEqProofs (maxSteps := 2000000) (disch := first | with_reducible exact Nat.ne_of_beq_eq_false rfl | exact oneCell_int | exact oneCell_bool | omega | rfl | (simp; done) | fail) only [upd_eq] <;> rfl, rfl, by simp⟩
  rintro m r h3 ⟨j, rfl, hj, g2, g3, g16, g17, rfl, hw⟩ X HX
  unfold S31_l2
  simp -implicitDefEqProofs (maxSteps := 2000000) (disch := first | with_reducible exact Nat.ne_of_beq_eq_false rfl | exact oneCell_int | exact oneCell_bool | omega | rfl | (simp; done) | fail) only [g17, thenK_exit, blockK_exit, thenK_normal, if_true, opH_sv, bin_lss]
  refine cond_dec (fun hlt => ?_) (fun hge => ?_)
  · have hlt' : j < 4 := by omega
    obtain ⟨n, hn⟩ : ∃ n, [a.1, a.2, b.1, b.2][j]? = some n := ⟨_, List.getElem?_eq_getElem (by simpa using hlt')⟩
    unfold S31_l2_k3
    simp -implicitDefEqProofs (maxSteps := 2000000) (disch := first | with_reducible exact Nat.ne_of_beq_eq_false rfl | exact oneCell_int | exact oneCell_bool | omega | rfl | (simp; done) | fail) only [upd_ne, g16, g17, thenK_ret, blockK_ret, retK_ret, resL_tmp, upd_eq, resL_nil1, opH_sv, cf56, index87 hn]
    refine (within_spec (n := n) (a := -1099511627776) (b := 1099511627776)).mono ?_
    rintro _ h3 ⟨rfl, rfl⟩
    cases hb : withinB n (-1099511627776) 1099511627776 with
    | false =>
      try simp -implicitDefEqProofs (maxSteps := 2000000) (disch := first | with_reducible exact Nat.ne_of_beq_eq_false rfl | exact oneCell_int | exact oneCell_bool | omega | rfl | (simp; done) | fail) only [un_not, Bool.not_false, HL.cond_true]
      refine ⟨?_, l1.trans l2⟩
      unfold awayI
      rw [if_neg]
      intro q
      have := List.all_eq_true.1 q n (List.mem_of_getElem? hn)
      unfold farB at this
      rw [hb] at this; cases this
    | true =>
      try simp -implicitDefEqProofs (maxSteps := 2000000) (disch := first | with_reducible exact Nat.ne_of_beq_eq_false rfl | exact oneCell_int | exact oneCell_bool | omega | rfl | (simp; done) | fail) only [un_not, Bool.not_true, HL.cond_false]
      unfold S31_l2_k4
      simp -implicitDefEqProofs (maxSteps := 2000000) (disch := first | with_reducible exact Nat.ne_of_beq_eq_false rfl | exact oneCell_int | exact oneCell_bool | omega | rfl | (simp; done) | fail) only [upd_ne, g17, thenK_normal, opH_sv, bin_add, wrap_in]
      refine HX (4 - (j + 1)) _ _ (by omega) ⟨j + 1, rfl, hlt', by simp -implicitDefEqProofs (maxSteps := 2000000) (disch := first | with_reducible exact Nat.ne_of_beq_eq_false rfl | exact oneCell_int | exact oneCell_bool | omega | rfl | (simp; done) | fail) only [upd_ne, g2], by simp -implicitDefEqProofs (maxSteps := 2000000) (disch := first | with_reducible exact Nat.ne_of_beq_eq_false rfl | exact oneCell_int | exact oneCell_bool | omega | rfl | (simp; done) | fail) only [upd_ne, g3], by simp -implicitDefEqProofs (maxSteps := 2000000) (disch := first | with_reducible exact Nat.ne_of_beq_eq_false rfl | exact oneCell_int | exact oneCell_bool | omega | rfl | (simp; done) | fail) only [upd_ne, g16], by simp -implicitDefEqProofs (maxSteps := 2000000) (disch := first | with_reducible exact Nat.ne_of_beq_eq_false rfl | exact oneCell_int | exact oneCell_bool | omega | rfl | (simp; done) | fail) only [upd_eq] <;> rfl, rfl, ?_⟩
      rw [take_get hn]
      intro c hc
      rcases List.mem_append.1 hc with q | q
      · exact hw c q
      · simp at q; rw [q]; exact hb
  · obtain rfl : j = 4 := by omega
    rw [List.take_of_length_le (show [a.1, a.2, b.1, b.2].length ≤ 4 from Nat.le_refl 4)] at hw
    have f1 := hw a.1 (by simp)
    have f2 := hw a.2 (by simp)
    have f3 := hw b.1 (by simp)
    have f4 := hw b.2 (by simp)
    try simp -implicitDefEqProofs (maxSteps := 2000000) (disch := first | with_reducible exact Nat.ne_of_beq_eq_false rfl | exact oneCell_int | exact oneCell_bool | omega | rfl | (simp; done) | fail) only [opH_sv, opH_su, pureW_sv, opH_nil, pureW_nil, pick_t, pick_f, pick_tp, pick_fp, gd_tt, gd_ft, gd_tf, gd_ff, box_new, regs0, regs1, regs2, regs3, regs4, regs5, regs6, cells_agg, cells_int, cells_bool, cells_ptr, cells_slice, cells_string, cells_func, cells_nilFunc, cells_map, retK_ret, retK_normal, resL_tmp, resL_cell, resL_nil0, resL_nil1, resL_nil2, resL_nil3, resC_ptr, ex0, ex1, ex2, ex0p, ex1p, ex2p, HL.cond_true, HL.cond_false, thenK_normal, thenK_ret, thenK_exit, blockK_normal, blockK_ret, blockK_exit, scopeK_normal, scopeK_ret, scopeK_exit, wpH_pure, bin_add, bin_sub, bin_mul, bin_lss, bin_leq, bin_gtr, bin_geq, bin_quo, bin_rem, bin_quop, bin_remp, wrap_in, bin_addp, bin_subp, bin_mulp, bin_lssp, bin_leqp, bin_gtrp, bin_geqp, un_not, un_notp, un_neg, eq_int, ne_int, eq_intp, ne_intp, callV_fn, add_mk, upd_eq, upd_ne, cell_set_self, Nat.zero_add, Nat.add_zero, Option.some.injEq, exists_eq_left', List.getElem?_cons_succ, List.getElem?_cons_zero, true_and, and_true, bne_self_eq_false, beq_self_eq_true, Bool.not_true, Bool.not_false, Bool.and_true, Bool.and_self, Bool.and_false, Bool.true_and, List.length_cons, List.length_nil, ne_eq, not_false_eq_true, Nat.reduceAdd, Nat.reduceMul, if_true, if_false, oneCell_int, oneCell_bool, oneCell_ptr, oneCell_slice, oneCell_string, oneCell_func, oneCell_map, Int.toNat_natCast, List.set_cons_zero, List.set_cons_succ, Nat.lt_irrefl, Nat.zero_lt_succ, Nat.succ_lt_succ_iff, fa26_0, fa26_0p, fa26_1, fa26_1p, fa26_10, fa26_10p, fa26_11, fa26_11p, fa26_12, fa26_12p, fa26_13, fa26_13p, fa26_14, fa26_14p, fa26_15, fa26_15p, fa26_2, fa26_2p, fa26_3, fa26_3p, fa26_4, fa26_4p, fa26_5, fa26_5p, fa26_6, fa26_6p, fa26_7, fa26_7p, fa26_8, fa26_8p, fa26_9, fa26_9p, fa28_0, fa28_0p, fa28_1, fa28_1p, fa45_0, fa45_0p, fa45_1, fa45_1p, fa45_2, fa45_2p, fa45_3, fa45_3p, fa45_4, fa45_4p, fa45_5, fa45_5p, fa45_6, fa45_6p, fa49_0, fa49_0p, fa49_1, fa49_1p, fa74_0, fa74_0p, fa74_1, fa74_1p, fa74_2, fa74_2p, fa74_3, fa74_3p, fa85_0, fa85_0p, fa85_1, fa85_1p, fa93_0, fa93_0p, fa93_1, fa93_1p, fa93_2, fa93_2p, ld3, ld3p, ld4, ld4p, ld22, ld22p, ld23, ld23p, ld24, ld24p, ld26, ld26p, ld28, ld28p, ld42, ld42p, ld45, ld45p, ld49, ld49p, ld58, ld58p, ld69, ld69p, ld72, ld72p, ld85, ld85p, st3s, st4s, st22s, st23s, st24s, st26w, st28w, st42s, st45w, st49w, st85w, ix22, ix22p, ix23, ix23p, ix24, ix24p, ix31, ix31p, ix42, ix42p, ix104, ix104p, ln22, ln22p, ln23, ln23p, ln24, ln24p, ln31, ln31p, ln42, ln42p, al4, al22, al26, al28, al42, al49, al85, cf10, cf11, cf12, cf13, cf14, cf15, cf16, cf17, cf18, cf19, cf20, cf21, cf22, cf23, cf24, cf25, cf26, cf27, cf28, cf29, cf30, cf31, cf32, cf33, cf34, cf35, cf36, cf37, cf38, cf39, cf40, cf41, cf42, cf43, cf44, cf45, cf46, cf47, cf48, cf49, cf50, cf51, cf52, cf53, cf54, cf55, cf56, cf57, cf58, cf59, cf60, cf61, cf62, cf63, cf64, cf65, cf66, cf67, cf68, cf69, cf70, cf71, cf72, cf73, cf74, cf75, bd26_0_1_2_7_8_9_10_11_12_13_14_4_15, bd26_0_1_2_7_8_9_10_11_12_13_14_4_15p, bd28_, bd28_p, bd28_0, bd28_0p, bd28_0_1, bd28_0_1p, bd45_1_3_4_5_6, bd45_1_3_4_5_6p, bd49_0_1, bd49_0_1p, bd49_1, bd49_1p, bd74_0_1_2_3, bd74_0_1_2_3p, bd85_0, bd85_0p, bd85_0_1, bd85_0_1p, bd93_0_1_2, bd93_0_1_2p, bd94_0_1_2_3, bd94_0_1_2_3p, bs42_1_0, bs22_1_0, bs24_1_0, bs42_3_0_1_2, bs31_1_0, bs22_2_0_1, bs42_6_0_1_2_3_4_5, bs42_0_, eq4, eq4p, eq28, eq28p, eq42n, eq42np, eq42s, eq42sp, eq58n, eq58np, eq58s, eq58sp, eq63n, eq63np, eq63s, eq63sp, ne28, ne28p, ne45, ne45p]
    unfold S31_k1
    try simp -implicitDefEqProofs (maxSteps := 2000000) (disch := first | with_reducible exact Nat.ne_of_beq_eq_false rfl | exact oneCell_int | exact oneCell_bool | omega | rfl | (simp; done) | fail) only [upd_ne, g2, g3, callV_fn, retK_ret, resL_tmp, upd_eq, resL_nil1, pureW_sv, cf57, fa28_1p, add_mk, Nat.zero_add, ld3p, cy, List.getElem?_cons_succ, List.getElem?_cons_zero, Option.some.injEq, exists_eq_left', cx, fa28_0p, Nat.add_zero]
    refine (apart_spec f1 f3).mono ?_
    rintro _ h3 ⟨rfl, rfl⟩
    refine ⟨Hp.le.refl _, ?_⟩
    try simp -implicitDefEqProofs (maxSteps := 2000000) (disch := first | with_reducible exact Nat.ne_of_beq_eq_false rfl | exact oneCell_int | exact oneCell_bool | omega | rfl | (simp; done) | fail) only [opH_sv, opH_su, pureW_sv, opH_nil, pureW_nil, pick_t, pick_f, pick_tp, pick_fp, gd_tt, gd_ft, gd_tf, gd_ff, box_new, regs0, regs1, regs2, regs3, regs4, regs5, regs6, cells_agg, cells_int, cells_bool, cells_ptr, cells_slice, cells_string, cells_func, cells_nilFunc, cells_map, retK_ret, retK_normal, resL_tmp, resL_cell, resL_nil0, resL_nil1, resL_nil2, resL_nil3, resC_ptr, ex0, ex1, ex2, ex0p, ex1p, ex2p, HL.cond_true, HL.cond_false, thenK_normal, thenK_ret, thenK_exit, blockK_normal, blockK_ret, blockK_exit, scopeK_normal, scopeK_ret, scopeK_exit, wpH_pure, bin_add, bin_sub, bin_mul, bin_lss, bin_leq, bin_gtr, bin_geq, bin_quo, bin_rem, bin_quop, bin_remp, wrap_in, bin_addp, bin_subp, bin_mulp, bin_lssp, bin_leqp, bin_gtrp, bin_geqp, un_not, un_notp, un_neg, eq_int, ne_int, eq_intp, ne_intp, callV_fn, add_mk, upd_eq, upd_ne, cell_set_self, Nat.zero_add, Nat.add_zero, Option.some.injEq, exists_eq_left', List.getElem?_cons_succ, List.getElem?_cons_zero, true_and, and_true, bne_self_eq_false, beq_self_eq_true, Bool.not_true, Bool.not_false, Bool.and_true, Bool.and_self, Bool.and_false, Bool.true_and, List.length_cons, List.length_nil, ne_eq, not_false_eq_true, Nat.reduceAdd, Nat.reduceMul, if_true, if_false, oneCell_int, oneCell_bool, oneCell_ptr, oneCell_slice, oneCell_string, oneCell_func, oneCell_map, Int.toNat_natCast, List.set_cons_zero, List.set_cons_succ, Nat.lt_irrefl, Nat.zero_lt_succ, Nat.succ_lt_succ_iff, fa26_0, fa26_0p, fa26_1, fa26_1p, fa26_10, fa26_10p, fa26_11, fa26_11p, fa26_12, fa26_12p, fa26_13, fa26_13p, fa26_14, fa26_14p, fa26_15, fa26_15p, fa26_2, fa26_2p, fa26_3, fa26_3p, fa26_4, fa26_4p, fa26_5, fa26_5p, fa26_6, fa26_6p, fa26_7, fa26_7p, fa26_8, fa26_8p, fa26_9, fa26_9p, fa28_0, fa28_0p, fa28_1, fa28_1p, fa45_0, fa45_0p, fa45_1, fa45_1p, fa45_2, fa45_2p, fa45_3, fa45_3p, fa45_4, fa45_4p, fa45_5, fa45_5p, fa45_6, fa45_6p, fa49_0, fa49_0p, fa49_1, fa49_1p, fa74_0, fa74_0p, fa74_1, fa74_1p, fa74_2, fa74_2p, fa74_3, fa74_3p, fa85_0, fa85_0p, fa85_1, fa85_1p, fa93_0, fa93_0p, fa93_1, fa93_1p, fa93_2, fa93_2p, ld3, ld3p, ld4, ld4p, ld22, ld22p, ld23, ld23p, ld24, ld24p, ld26, ld26p, ld28, ld28p, ld42, ld42p, ld45, ld45p, ld49, ld49p, ld58, ld58p, ld69, ld69p, ld72, ld72p, ld85, ld85p, st3s, st4s, st22s, st23s, st24s, st26w, st28w, st42s, st45w, st49w, st85w, ix22, ix22p, ix23, ix23p, ix24, ix24p, ix31, ix31p, ix42, ix42p, ix104, ix104p, ln22, ln22p, ln23, ln23p, ln24, ln24p, ln31, ln31p, ln42, ln42p, al4, al22, al26, al28, al42, al49, al85, cf10, cf11, cf12, cf13, cf14, cf15, cf16, cf17, cf18, cf19, cf20, cf21, cf22, cf23, cf24, cf25, cf26, cf27, cf28, cf29, cf30, cf31, cf32, cf33, cf34, cf35, cf36, cf37, cf38, cf39, cf40, cf41, cf42, cf43, cf44, cf45, cf46, cf47, cf48, cf49, cf50, cf51, cf52, cf53, cf54, cf55, cf56, cf57, cf58, cf59, cf60, cf61, cf62, cf63, cf64, cf65, cf66, cf67, cf68, cf69, cf70, cf71, cf72, cf73, cf74, cf75, bd26_0_1_2_7_8_9_10_11_12_13_14_4_15, bd26_0_1_2_7_8_9_10_11_12_13_14_4_15p, bd28_, bd28_p, bd28_0, bd28_0p, bd28_0_1, bd28_0_1p, bd45_1_3_4_5_6, bd45_1_3_4_5_6p, bd49_0_1, bd49_0_1p, bd49_1, bd49_1p, bd74_0_1_2_3, bd74_0_1_2_3p, bd85_0, bd85_0p, bd85_0_1, bd85_0_1p, bd93_0_1_2, bd93_0_1_2p, bd94_0_1_2_3, bd94_0_1_2_3p, bs42_1_0, bs22_1_0, bs24_1_0, bs42_3_0_1_2, bs31_1_0, bs22_2_0_1, bs42_6_0_1_2_3_4_5, bs42_0_, eq4, eq4p, eq28, eq28p, eq42n, eq42np, eq42s, eq42sp, eq58n, eq58np, eq58s, eq58sp, eq63n, eq63np, eq63s, eq63sp, ne28, ne28p, ne45, ne45p, g2, g3, cx, cy]
    refine (apart_spec f2 f4).mono ?_
    rintro _ h3 ⟨rfl, rfl⟩
    obtain ⟨a1, a2⟩ := far_iff.1 f1
    obtain ⟨a3, a4⟩ := far_iff.1 f2
    obtain ⟨a5, a6⟩ := far_iff.1 f3
    obtain ⟨a7, a8⟩ := far_iff.1 f4
    have g1 : 0 ≤ gapI a.1 b.1 ∧ gapI a.1 b.1 ≤ 2199023255552 := by unfold gapI; split <;> omega
    have g2 : 0 ≤ gapI a.2 b.2 ∧ gapI a.2 b.2 ≤ 2199023255552 := by unfold gapI; split <;> omega
    try simp -implicitDefEqProofs (maxSteps := 2000000) (disch := first | with_reducible exact Nat.ne_of_beq_eq_false rfl | exact oneCell_int | exact oneCell_bool | omega | rfl | (simp; done) | fail) only [bin_addp, wrap_in]
    refine ⟨?_, l1.trans l2⟩
    unfold awayI
    rw [if_pos (List.all_eq_true.2 hw)]

end Go.Proofs.YtangejiigopdaaaDoor
end

section
/- The stack cells, told to any yield; cells gathered in a row. -/
set_option linter.unusedSimpArgs false
set_option linter.unusedVariables false
set_option maxRecDepth 100000
namespace Go.Proofs.YtangejiigopdaaaDoor
open Go Go.HL

abbrev cellO (c : Cell) : Obj := .cells #[.int .i64 c.1, .int .i64 c.2] 28 (0, 0)

def pickFrom {α : Type} (p : Nat → Bool) (mk : Nat → α) : Nat → Nat → List α
  | _, 0 => []
  | n, k + 1 => if p n = true then mk n :: pickFrom p mk (n + 1) k else pickFrom p mk (n + 1) k
def stP (w : Nat) (f : Nat → Nat → Int) (n : Nat) : Bool := f (n % w) (n / w) == 0
def stM (w : Nat) (n : Nat) : Cell := (((n % w : Nat) : Int), ((n / w : Nat) : Int))
def stacksW (w k : Nat) (f : Nat → Nat → Int) : List Cell := pickFrom (stP w f) (stM w) 0 (w * k)

def CellsR (G q : Hp) (Y Z : List Cell → Hp → Prop) (T : List Cell × Bool) (h' : Hp) : Prop := ∃ a', Sep [a', q] h' ∧ Dis G h' ∧ Fin T Y Z a'

set_option maxHeartbeats 2000000 in
theorem stacks1_spec {G h a q : Hp} {y g : Value} {Y Z : List Cell → Hp → Prop} {c : List Cell → Bool} {L : List Cell} {gb w k : Nat} {f : Nat → Nat → Int}
    (yl : Yl cellV G y Y Z c) (ya : Y L a) (s : Sep [a, q] h) (hg : q gb = some (.cells #[g] 58 (0, 0))) (gs : GS G q g w k f) :
    HCalls Tryd.prog G 55 #[y, .pointer (some ⟨gb, 0, none⟩)] h (fun _ h' => CellsR G q Y Z (feed c L (stacksW w k f)) h') := by
  refine HCalls.assume fun d => enter55 (by simp) ?_
  unfold S55
  have gsq := gs
  obtain ⟨⟨gp, kb, rfl, g1, g2⟩, w1, w2, k1, k2⟩ := gs
  have cg : ∀ {h3 : Hp} {a : Hp}, Sep [a, q] h3 → ∀ j, cellIn G h3 ⟨gb, j, none⟩ = _ := fun s j => cell_of (look_own (s.at 1 rfl hg))
  have cw : ∀ {h3 : Hp} {a : Hp}, Sep [a, q] h3 → Dis G h3 → cellIn G h3 ⟨gp, 0, none⟩ = some (.int .i64 w) := fun s d => cell_up (s.in 1 rfl) d (g1 0 (by decide))
  have ck : cellIn G h ⟨gp, 2, none⟩ = some (.slice (some ⟨kb, 0, none⟩) (w * k) (w * k)) := cell_up (s.in 1 rfl) d (g1 2 (by decide))
  try simp -implicitDefEqProofs only [regs1, retK_ret, resL_nil0, opH_sv, ld58, cg s, List.getElem?_cons_zero, Option.some.injEq, exists_eq_left', eq58s, HL.cond_false]
  unfold S55_k1
  try simp -implicitDefEqProofs (disch := first | with_reducible exact Nat.ne_of_beq_eq_false rfl | omega) only [upd_ne, regs1, opH_sv, ld58, cg s, List.getElem?_cons_zero, Option.some.injEq, exists_eq_left', opH_nil, fa93_2, add_mk, Nat.zero_add, ld42, ck, ln42]
  generalize hT : feed c L (stacksW w k f) = T
  refine loop_I (fun m r h3 => ∃ (i : Nat) (a : Hp) (L : List Cell), m = w * k - i ∧ i ≤ w * k ∧ r 0 = y ∧ r 1 = .pointer (some ⟨gb, 0, none⟩) ∧ r 10 = .slice (some ⟨kb, 0, none⟩) (w * k) (w * k) ∧ r 11 = .int .i64 ((w * k : Nat) : Int) ∧ r 12 = .int .i64 i ∧ Sep [a, q] h3 ∧ Dis G h3 ∧ Y L a ∧ feed c L (pickFrom (stP w f) (stM w) i (w * k - i)) = T) ?_
    (m := w * k) ⟨0, a, L, rfl, Nat.zero_le _, by simp -implicitDefEqProofs (maxSteps := 2000000) (disch := first | with_reducible exact Nat.ne_of_beq_eq_false rfl | exact oneCell_int | exact oneCell_bool | omega | rfl | (simp; done) | fail) only [upd_ne, regs0], by simp -implicitDefEqProofs (maxSteps := 2000000) (disch := first | with_reducible exact Nat.ne_of_beq_eq_false rfl | exact oneCell_int | exact oneCell_bool | omega | rfl | (simp; done) | fail) only [upd_ne, regs1], by simp -implicitDefEqProofs (maxSteps := 2000000) (disch := first | with_reducible exact Nat.ne_of_beq_eq_false rfl | exact oneCell_int | exact oneCell_bool | omega | rfl | (simp; done) | fail) only [upd_ne, upd_eq], by simp -implicitDefEqProofs (maxSteps := 2000000) (disch := first | with_reducible exact Nat.ne_of_beq_eq_false rfl | exact oneCell_int | exact oneCell_bool | omega | rfl | (simp; done) | fail) only [upd_ne, upd_eq], by simp -implicitDefEqProofs (maxSteps := 2000000) (disch := first | with_reducible exact Nat.ne_of_beq_eq_false rfl | exact oneCell_int | exact oneCell_bool | omega | rfl | (simp; done) | fail) only [upd_eq] <;> rfl, s, d, ya, hT⟩
  rintro m r h3 ⟨i, a, L, rfl, hi, q0, q1, q10, q11, q12, s, d, ya, hT⟩ X HX
  unfold S55_l2
  simp -implicitDefEqProofs only [q12, q11, thenK_exit, blockK_exit, retK_normal, resL_nil0, if_true, opH_sv, bin_lss]
  refine cond_dec (fun hlt => ?_) (fun hge => ?_)
  rotate_left
  · obtain rfl : i = w * k := by omega
    rw [Nat.sub_self] at hT
    try simp -implicitDefEqProofs only [opH_sv, opH_su, pureW_sv, opH_nil, pureW_nil, pick_t, pick_f, pick_tp, pick_fp, gd_tt, gd_ft, gd_tf, gd_ff, box_new, regs0, regs1, regs2, regs3, regs4, regs5, regs6, cells_agg, cells_int, cells_bool, cells_ptr, cells_slice, cells_string, cells_func, cells_nilFunc, cells_map, retK_ret, retK_normal, resL_tmp, resL_cell, resL_nil0, resL_nil1, resL_nil2, resL_nil3, resC_ptr, ex0, ex1, ex2, ex0p, ex1p, ex2p, HL.cond_true, HL.cond_false, thenK_normal, thenK_ret, thenK_exit, blockK_normal, blockK_ret, blockK_exit, scopeK_normal, scopeK_ret, scopeK_exit, wpH_pure, bin_add, bin_sub, bin_mul, bin_lss, bin_leq, bin_gtr, bin_geq, bin_quo, bin_rem, bin_quop, bin_remp, wrap_in, bin_addp, bin_subp, bin_mulp, bin_lssp, bin_leqp, bin_gtrp, bin_geqp, un_not, un_notp, un_neg, eq_int, ne_int, eq_intp, ne_intp, callV_fn, add_mk, upd_eq, upd_ne, cell_set_self, Nat.zero_add, Nat.add_zero, Option.some.injEq, exists_eq_left', List.getElem?_cons_succ, List.getElem?_cons_zero, true_and, and_true, bne_self_eq_false, beq_self_eq_true, Bool.not_true, Bool.not_false, Bool.and_true, Bool.and_self, Bool.and_false, Bool.true_and, List.length_cons, List.length_nil, ne_eq, not_false_eq_true, Nat.reduceAdd, Nat.reduceMul, if_true, if_false, oneCell_int, oneCell_bool, oneCell_ptr, oneCell_slice, oneCell_string, oneCell_func, oneCell_map, Int.toNat_natCast, List.set_cons_zero, List.set_cons_succ, Nat.lt_irrefl, Nat.zero_lt_succ, Nat.succ_lt_succ_iff, fa26_0, fa26_0p, fa26_1, fa26_1p, fa26_10, fa26_10p, fa26_11, fa26_11p, fa26_12, fa26_12p, fa26_13, fa26_13p, fa26_14, fa26_14p, fa26_15, fa26_15p, fa26_2, fa26_2p, fa26_3, fa26_3p, fa26_4, fa26_4p, fa26_5, fa26_5p, fa26_6, fa26_6p, fa26_7, fa26_7p, fa26_8, fa26_8p, fa26_9, fa26_9p, fa28_0, fa28_0p, fa28_1, fa28_1p, fa45_0, fa45_0p, fa45_1, fa45_1p, fa45_2, fa45_2p, fa45_3, fa45_3p, fa45_4, fa45_4p, fa45_5, fa45_5p, fa45_6, fa45_6p, fa49_0, fa49_0p, fa49_1, fa49_1p, fa74_0, fa74_0p, fa74_1, fa74_1p, fa74_2, fa74_2p, fa74_3, fa74_3p, fa85_0, fa85_0p, fa85_1, fa85_1p, fa93_0, fa93_0p, fa93_1, fa93_1p, fa93_2, fa93_2p, ld3, ld3p, ld4, ld4p, ld22, ld22p, ld23, ld23p, ld24, ld24p, ld26, ld26p, ld28, ld28p, ld42, ld42p, ld45, ld45p, ld49, ld49p, ld58, ld58p, ld69, ld69p, ld72, ld72p, ld85, ld85p, st3s, st4s, st22s, st23s, st24s, st26w, st28w, st42s, st45w, st49w, st85w, ix22, ix22p, ix23, ix23p, ix24, ix24p, ix31, ix31p, ix42, ix42p, ix104, ix104p, ln22, ln22p, ln23, ln23p, ln24, ln24p, ln31, ln31p, ln42, ln42p, al4, al22, al26, al28, al42, al49, al85, cf10, cf11, cf12, cf13, cf14, cf15, cf16, cf17, cf18, cf19, cf20, cf21, cf22, cf23, cf24, cf25, cf26, cf27, cf28, cf29, cf30, cf31, cf32, cf33, cf34, cf35, cf36, cf37, cf38, cf39, cf40, cf41, cf42, cf43, cf44, cf45, cf46, cf47, cf48, cf49, cf50, cf51, cf52, cf53, cf54, cf55, cf56, cf57, cf58, cf59, cf60, cf61, cf62, cf63, cf64, cf65, cf66, cf67, cf68, cf69, cf70, cf71, cf72, cf73, cf74, cf75, bd26_0_1_2_7_8_9_10_11_12_13_14_4_15, bd26_0_1_2_7_8_9_10_11_12_13_14_4_15p, bd28_, bd28_p, bd28_0, bd28_0p, bd28_0_1, bd28_0_1p, bd45_1_3_4_5_6, bd45_1_3_4_5_6p, bd49_0_1, bd49_0_1p, bd49_1, bd49_1p, bd74_0_1_2_3, bd74_0_1_2_3p, bd85_0, bd85_0p, bd85_0_1, bd85_0_1p, bd93_0_1_2, bd93_0_1_2p, bd94_0_1_2_3, bd94_0_1_2_3p, bs42_1_0, bs22_1_0, bs24_1_0, bs42_3_0_1_2, bs31_1_0, bs22_2_0_1, bs42_6_0_1_2_3_4_5, bs42_0_, eq4, eq4p, eq28, eq28p, eq42n, eq42np, eq42s, eq42sp, eq58n, eq58np, eq58s, eq58sp, eq63n, eq63np, eq63s, eq63sp, ne28, ne28p, ne45, ne45p]
    refine ⟨a, s, d, ?_⟩
    rw [← hT]
    exact ya
  have hlt' : i < w * k := by omega
  have hwk : w * k ≤ 16 * 16 := Nat.mul_le_mul w2 k2
  have kk : cellIn G h3 ⟨kb, i, none⟩ = some (.int .i64 (f (i % w) (i / w))) := cell_up (s.in 1 rfl) d (g2 i _ (gridL_at hlt'))
  have erest : pickFrom (stP w f) (stM w) i (w * k - i) = if stP w f i = true then stM w i :: pickFrom (stP w f) (stM w) (i + 1) (w * k - (i + 1)) else pickFrom (stP w f) (stM w) (i + 1) (w * k - (i + 1)) := by
    rw [show w * k - i = (w * k - (i + 1)) + 1 by omega]
    rfl
  rw [erest] at hT
  unfold S55_l2_k3
  simp -implicitDefEqProofs (disch := first | with_reducible exact Nat.ne_of_beq_eq_false rfl | omega) only [upd_ne, q10, q12, q0, q1, thenK_ret, blockK_ret, retK_ret, resL_nil0, opH_sv, ix57n hlt', ld3, kk, Option.some.injEq, exists_eq_left', eq_intp]
  have next : ∀ (r3 : Rg) h5 (a : Hp) (L : List Cell), r3 0 = r 0 → r3 1 = r 1 → r3 10 = r 10 → r3 11 = r 11 → r3 12 = r 12 → Sep [a, q] h5 → Dis G h5 → Y L a → feed c L (pickFrom (stP w f) (stM w) (i + 1) (w * k - (i + 1))) = T →
      S55_l2_k4 G (thenK X (blockK 0 (retK Tryd.prog G [] fun x h' => CellsR G q Y Z T h'))) r3 h5 := by
    intro r3 h5 a L v0 v1 v10 v11 v12 s5 d5 ya5 hT5
    unfold S55_l2_k4
    have v12' := v12.trans q12
    simp -implicitDefEqProofs (disch := first | with_reducible exact Nat.ne_of_beq_eq_false rfl | omega) only [v12', thenK_normal, opH_sv, bin_add, wrap_in]
    refine HX (w * k - (i + 1)) _ _ (by omega) ⟨i + 1, a, L, rfl, hlt', by simp -implicitDefEqProofs (disch := first | with_reducible exact Nat.ne_of_beq_eq_false rfl | omega) only [upd_ne, v0, q0], by simp -implicitDefEqProofs (disch := first | with_reducible exact Nat.ne_of_beq_eq_false rfl | omega) only [upd_ne, v1, q1], by simp -implicitDefEqProofs (disch := first | with_reducible exact Nat.ne_of_beq_eq_false rfl | omega) only [upd_ne, v10, q10], by simp -implicitDefEqProofs (disch := first | with_reducible exact Nat.ne_of_beq_eq_false rfl | omega) only [upd_ne, v11, q11], by simp -implicitDefEqProofs (disch := first | with_reducible exact Nat.ne_of_beq_eq_false rfl | omega) only [upd_eq] <;> rfl, s5, d5, ya5, hT5⟩
  by_cases hz : f (i % w) (i / w) = 0
  · have hp : stP w f i = true := by unfold stP; rw [hz]; rfl
    rw [hp, if_pos rfl] at hT
    have e1 : ((i : Int)).tmod (w : Int) = ((i % w : Nat) : Int) := by rw [Int.tmod_eq_emod_of_nonneg (by omega)]; rfl
    have e2 : ((i : Int)).tdiv (w : Int) = ((i / w : Nat) : Int) := by rw [Int.tdiv_eq_ediv_of_nonneg (by omega)]; rfl
    have hdiv : i / w ≤ i := Nat.div_le_self _ _
    have ew : IntKind.i64.wrap ((i / w : Nat) : Int) = ((i / w : Nat) : Int) := by
      generalize i / w = z at hdiv ⊢
      exact wrap_in (by omega) (by omega)
    try simp -implicitDefEqProofs (maxSteps := 2000000) (disch := first | with_reducible exact Nat.ne_of_beq_eq_false rfl | exact oneCell_int | exact oneCell_bool | omega | rfl | (simp; done) | fail) only [hz, beq_self_eq_true, pick_tp, gd_tt, pureW_sv, ld58p, cg s, List.getElem?_cons_zero, Option.some.injEq, exists_eq_left', pureW_nil, fa93_0p, add_mk, Nat.add_zero, ld3p, cw s d, bin_quop, e2, ew, bin_remp, e1, bd28_0_1p]
    refine opH_mono (fun v h6 H => ?_) (yl L (stM w i) a q h3 ya s d)
    obtain ⟨a6, rfl, s6, d6, z6⟩ := H
    cases hc : c (L ++ [stM w i]) with
    | false =>
      try simp -implicitDefEqProofs (disch := first | with_reducible exact Nat.ne_of_beq_eq_false rfl | omega) only [un_notp, Bool.not_false, HL.cond_true]
      rw [hc] at z6
      rw [feed_f hc] at hT
      refine ⟨a6, s6, d6, ?_⟩
      rw [← hT]
      exact z6
    | true =>
      try simp -implicitDefEqProofs (disch := first | with_reducible exact Nat.ne_of_beq_eq_false rfl | omega) only [un_notp, Bool.not_true, HL.cond_false]
      rw [hc] at z6
      rw [feed_t hc] at hT
      exact next _ _ a6 _ (by simp -implicitDefEqProofs (disch := first | with_reducible exact Nat.ne_of_beq_eq_false rfl | omega) only [upd_ne]) (by simp -implicitDefEqProofs (disch := first | with_reducible exact Nat.ne_of_beq_eq_false rfl | omega) only [upd_ne]) (by simp -implicitDefEqProofs (disch := first | with_reducible exact Nat.ne_of_beq_eq_false rfl | omega) only [upd_ne]) (by simp -implicitDefEqProofs (disch := first | with_reducible exact Nat.ne_of_beq_eq_false rfl | omega) only [upd_ne]) (by simp -implicitDefEqProofs (disch := first | with_reducible exact Nat.ne_of_beq_eq_false rfl | omega) only [upd_ne]) s6 d6 z6 hT
  · have hp : stP w f i = false := by unfold stP; simpa using hz
    rw [hp, if_neg (by simp)] at hT
    try simp -implicitDefEqProofs (disch := first | with_reducible exact Nat.ne_of_beq_eq_false rfl | omega) only [show (f (i % w) (i / w) == 0) = false by simpa using hz, pick_fp, HL.cond_false, gd_ft]
    exact next _ _ a L (by simp -implicitDefEqProofs (disch := first | with_reducible exact Nat.ne_of_beq_eq_false rfl | omega) only [upd_ne]) (by simp -implicitDefEqProofs (disch := first | with_reducible exact Nat.ne_of_beq_eq_false rfl | omega) only [upd_ne]) (by simp -implicitDefEqProofs (disch := first | with_reducible exact Nat.ne_of_beq_eq_false rfl | omega) only [upd_ne]) (by simp -implicitDefEqProofs (disch := first | with_reducible exact Nat.ne_of_beq_eq_false rfl | omega) only [upd_ne]) (by simp -implicitDefEqProofs (disch := first | with_reducible exact Nat.ne_of_beq_eq_false rfl | omega) only [upd_ne]) s d ya hT

end Go.Proofs.YtangejiigopdaaaDoor
end

section
/- The program's grid answers as the reference's. -/
set_option linter.unusedSimpArgs false
set_option linter.unusedVariables false
namespace Go.Proofs.YtangejiigopdaaaDoor
open Go Go.HL

variable {C : Conf}

theorem stacked3_eq (m : MadeOk C) (c : Cell) : (inW (wC C) (kC C) c && (fAt (f3C C) c == 0)) = stackedB C c := by
  rw [Bool.eq_iff_iff, ← stacked_eq m.laid.w m.laid.h]
  simp
theorem port3_eq (m : MadeOk C) (c : Cell) : (if inW (wC C) (kC C) c = true ∧ 1 ≤ fAt (f3C C) c then fAt (f3C C) c - 1 else -1) = portI C c := by
  have mm := made_may.1 m
  have hw := m.laid.w
  have hk := m.laid.h
  rw [inW_inB hw hk]
  unfold portI
  by_cases hp : c ∈ C.po
  · obtain ⟨h1, _, h2, h3⟩ := mm.prt c hp
    have hb : c ∉ C.bl := fun hb => by
      have := (mm.blk c hb).2.2
      exact (List.count_eq_zero.1 this) hp
    have e : fAt (f3C C) c = (C.po.idxOf c : Int) + 1 := by
      rw [f3_at hw hk h1, h2]
      simp [hb, h3, hp]
    rw [if_pos hp, e, if_pos ⟨h1, by omega⟩]
    omega
  · rw [if_neg hp]
    by_cases hi : inB C c = true
    · have e : fAt (f3C C) c ≤ 0 := by
        rw [f3_at hw hk hi]
        simp only [hp, if_false]
        repeat' split
        all_goals omega
      rw [if_neg (by omega)]
    · rw [if_neg (fun h => hi h.1)]

theorem f3_bd (m : MadeOk C) (x y : Nat) : -10 ≤ f3C C x y ∧ f3C C x y ≤ 1000 := by
  have h8 := m.laid.po8
  have hb : -2 ≤ f0C C x y ∧ f0C C x y ≤ 1000 := by
    unfold f0C kd
    split
    · rename_i h
      have := List.idxOf_lt_length_of_mem h
      rw [List.length_append] at this
      split <;> omega
    · omega
  unfold f3C f2 f1
  split
  · omega
  · split <;> omega

end Go.Proofs.YtangejiigopdaaaDoor
end

section
/- The reference: which moves are legal. -/
set_option linter.unusedSimpArgs false
set_option linter.unusedVariables false
set_option maxRecDepth 100000
namespace Go.Proofs.YtangejiigopdaaaDoor
open Go Go.HL

end Go.Proofs.YtangejiigopdaaaDoor
end

section
/- The program's moves, stack cells as the reference's. -/
set_option linter.unusedSimpArgs false
set_option linter.unusedVariables false
namespace Go.Proofs.YtangejiigopdaaaDoor
open Go Go.HL

variable {C : Conf}

theorem dirsL_congr {α : Type} {D E : Nat → List α} : ∀ {k i : Nat}, (∀ j, i ≤ j → j < i + k → D j = E j) → dirsL D i k = dirsL E i k
  | 0, i, _ => rfl
  | k + 1, i, h => by
    unfold dirsL
    rw [h i (Nat.le_refl _) (by omega), dirsL_congr fun j h1 h2 => h j (by omega) (by omega)]

def rstacksL (C : Conf) : List Cell := dirsL (fun y => pickFrom (fun x => stackedB C ((x : Int), (y : Int))) (fun x => (((x : Nat) : Int), ((y : Nat) : Int))) 0 (wC C)) 0 (kC C)

theorem pick_succ {α : Type} {p : Nat → Bool} {mk : Nat → α} {n k : Nat} : pickFrom p mk n (k + 1) = if p n = true then mk n :: pickFrom p mk (n + 1) k else pickFrom p mk (n + 1) k := rfl
theorem pick_add {α : Type} {p : Nat → Bool} {mk : Nat → α} : ∀ {a b n : Nat}, pickFrom p mk n (a + b) = pickFrom p mk n a ++ pickFrom p mk (n + a) b
  | 0, b, n => by rw [Nat.zero_add, Nat.add_zero]; rfl
  | a + 1, b, n => by
    rw [show a + 1 + b = (a + b) + 1 by omega, pick_succ, pick_succ, pick_add, show n + 1 + a = n + (a + 1) by omega]
    split <;> simp
theorem pick_congr {α : Type} {p q : Nat → Bool} {mk ml : Nat → α} : ∀ {k n m : Nat}, (∀ j, j < k → p (n + j) = q (m + j) ∧ mk (n + j) = ml (m + j)) → pickFrom p mk n k = pickFrom q ml m k
  | 0, n, m, _ => rfl
  | k + 1, n, m, h => by
    obtain ⟨h1, h2⟩ := h 0 (by omega)
    rw [Nat.add_zero, Nat.add_zero] at h1 h2
    rw [pick_succ, pick_succ, h1, h2, pick_congr (m := m + 1) fun j hj => by
      have := h (j + 1) (by omega)
      rw [show n + 1 + j = n + (j + 1) by omega, show m + 1 + j = m + (j + 1) by omega]
      exact this]

theorem pick_rows {α : Type} {p : Nat → Bool} {mk : Nat → α} {w : Nat} : ∀ {k y : Nat}, pickFrom p mk (y * w) (k * w) = dirsL (fun y => pickFrom p mk (y * w) w) y k
  | 0, y => by rw [Nat.zero_mul]; rfl
  | k + 1, y => by
    rw [Nat.succ_mul, Nat.add_comm, pick_add, show y * w + w = (y + 1) * w by rw [Nat.succ_mul], pick_rows]
    rfl

theorem stacks_eq (m : MadeOk C) : stacksW (wC C) (kC C) (f3C C) = rstacksL C := by
  obtain ⟨e1, e2, w1, w2, k1, k2⟩ := within_wk m.laid.w m.laid.h
  unfold stacksW rstacksL
  have := pick_rows (p := stP (wC C) (f3C C)) (mk := stM (wC C)) (w := wC C) (k := kC C) (y := 0)
  rw [Nat.zero_mul, Nat.mul_comm] at this
  rw [this]
  refine dirsL_congr fun y _ hy => pick_congr fun x hx => ?_
  rw [Nat.zero_add]
  have hm : (y * wC C + x) % wC C = x := by rw [Nat.mul_comm, Nat.mul_add_mod, Nat.mod_eq_of_lt hx]
  have hd : (y * wC C + x) / wC C = y := by rw [Nat.mul_comm, Nat.mul_add_div (by omega), Nat.div_eq_of_lt hx, Nat.add_zero]
  refine ⟨?_, ?_⟩
  · unfold stP
    rw [hm, hd]
    have := stacked3_eq m ((x : Int), (y : Int))
    rw [← this, show inW (wC C) (kC C) ((x : Int), (y : Int)) = true from inW_iff.2 (by refine ⟨?_, ?_, ?_, ?_⟩ <;> simp <;> omega)]
    rfl
  · unfold stM
    rw [hm, hd]

end Go.Proofs.YtangejiigopdaaaDoor
end

section
/- The reference's moves and stack cells: the walks. -/
set_option linter.unusedSimpArgs false
set_option linter.unusedVariables false
set_option maxRecDepth 100000
namespace Go.Proofs.YtangejiigopdaaaDoor
open Go Go.HL

theorem dirsL_len {α : Type} {D : Nat → List α} {b : Nat} (h : ∀ i, (D i).length ≤ b) : ∀ {k i : Nat}, (dirsL D i k).length ≤ k * b
  | 0, i => by simp [dirsL]
  | k + 1, i => by
    unfold dirsL
    have := dirsL_len h (k := k) (i := i + 1)
    have := h i
    rw [List.length_append, Nat.succ_mul]
    omega

theorem pickFrom_len {α : Type} {p : Nat → Bool} {mk : Nat → α} : ∀ {k n : Nat}, (pickFrom p mk n k).length ≤ k
  | 0, n => Nat.le_refl _
  | k + 1, n => by
    rw [pick_succ]
    have := pickFrom_len (p := p) (mk := mk) (k := k) (n := n + 1)
    split <;> (try simp only [List.length_cons]) <;> omega

end Go.Proofs.YtangejiigopdaaaDoor
end

section
/- Each legal run and turn is among the moves of its pose, just once. -/
set_option linter.unusedSimpArgs false
set_option linter.unusedVariables false
namespace Go.Proofs.YtangejiigopdaaaDoor
open Go Go.HL

variable {C : Conf}

end Go.Proofs.YtangejiigopdaaaDoor
end

section
/- The yard: a map by cells. -/
set_option linter.unusedSimpArgs false
set_option linter.unusedVariables false
set_option maxRecDepth 100000
namespace Go.Proofs.YtangejiigopdaaaDoor
open Go Go.HL

theorem cell_key : KeyOk Tryd.prog 28 (fun c : Cell => cellV c) := by
  refine ⟨⟨_, Tryd.underlying28⟩, fun a b => ?_, fun b a => ⟨by intro G h K; kernel_rfl, by intro G h K; kernel_rfl⟩, fun a => ?_⟩
  · have := deq28 9998 (x0 := a.1) (x1 := a.2) (y0 := b.1) (y1 := b.2)
    rw [Bool.and_true] at this
    exact this
  · rw [show (10000 : Nat) = 9999 + 1 from rfl]
    simp [Instr.sameBits]

theorem indexc_spec {G h : Hp} {v : Value} {L : List Cell} {c : Cell} (hv : Sees cellC G h v L) (hL : L.length ≤ 100000000000000) : HCalls Tryd.prog G 64 #[v, cellV c] h (fun u h' => (∃ n : Int, u = .int .i64 n ∧ (n ≥ 0 ↔ c ∈ L)) ∧ h' = h) := by
  obtain ⟨sa, cap, rfl⟩ := hv.len
  refine HCalls.assume fun d => quietly (enter64 (by simp) ?_)
  unfold S64
  simp -implicitDefEqProofs only [regs1, regs0, opH_sv, ln22, box_new, cells_agg]
  intro x hx gx
  generalize ex : Hp.set h x _ = h2
  obtain ⟨l2, d2, b2⟩ := boxed ex hx d gx
  have hs := hv.up l2 d2
  have cx : ∀ k, cellIn G h2 ⟨x, k, none⟩ = _ := fun k => cell_of (look_own b2)
  clear ex
  generalize hKK : retK Tryd.prog G _ _ = KK
  refine loop_I (fun m r h3 => ∃ i : Nat, m = L.length - i ∧ i ≤ L.length ∧ r 0 = .slice sa L.length cap ∧ r 3 = .pointer (some ⟨x, 0, none⟩) ∧ r 7 = .int .i64 L.length ∧ r 8 = .int .i64 i ∧ h3 = h2 ∧ c ∉ L.take i) ?_
    (m := L.length) ⟨0, rfl, Nat.zero_le _, by simp -implicitDefEqProofs (disch := first | with_reducible exact Nat.ne_of_beq_eq_false rfl | omega) only [upd_ne, regs0], by simp -implicitDefEqProofs (disch := first | with_reducible exact Nat.ne_of_beq_eq_false rfl | omega) only [upd_ne, upd_eq], by simp -implicitDefEqProofs (disch := first | with_reducible exact Nat.ne_of_beq_eq_false rfl | omega) only [upd_ne, upd_eq], by simp -implicitDefEqProofs only [upd_eq] <;> rfl, rfl, by simp⟩
  rintro m r h3 ⟨i, rfl, hi, g0, g3, g7, g8, rfl, hn⟩ X HX
  unfold S64_l2
  simp -implicitDefEqProofs only [g8, g7, thenK_exit, blockK_exit, thenK_normal, if_true, opH_sv, bin_lss]
  refine cond_dec (fun hlt => ?_) (fun hge => ?_)
  · obtain ⟨y, hy⟩ : ∃ x, L[i]? = some x := ⟨_, List.getElem?_eq_getElem (by omega)⟩
    obtain ⟨b, o, rfl, y0, y1⟩ := Sees.cell hs hy
    unfold S64_l2_k3
    simp -implicitDefEqProofs (disch := first | with_reducible exact Nat.ne_of_beq_eq_false rfl | omega) only [upd_ne, g3, g0, g8, thenK_ret, blockK_ret, pureW_sv, ix22p (Int.natCast_nonneg i) hlt, Int.toNat_natCast, add_mk, ld28p, Nat.add_zero, y0, Option.some.injEq, y1, exists_eq_left', cx, List.getElem?_cons_zero, Nat.zero_add, List.getElem?_cons_succ, eq28p, Bool.and_true, cell_beq]
    refine cond_bool (fun hb => ?_) (fun hb => ?_)
    · have : c = y := eq_of_beq hb
      subst this
      rw [← hKK]
      simp -implicitDefEqProofs only [beq_self_eq_true, retK_ret, resL_tmp, upd_eq, resL_nil1]
      exact ⟨⟨_, rfl, ⟨fun _ => List.mem_of_getElem? hy, fun _ => Int.natCast_nonneg i⟩⟩, l2⟩
    · unfold S64_l2_k4
      simp -implicitDefEqProofs (disch := first | with_reducible exact Nat.ne_of_beq_eq_false rfl | omega) only [upd_ne, g8, thenK_normal, opH_sv, bin_add, wrap_in]
      refine HX (L.length - (i + 1)) _ _ (by omega) ⟨i + 1, rfl, by omega, by simp -implicitDefEqProofs (disch := first | with_reducible exact Nat.ne_of_beq_eq_false rfl | omega) only [upd_ne, g0], by simp -implicitDefEqProofs (disch := first | with_reducible exact Nat.ne_of_beq_eq_false rfl | omega) only [upd_ne, g3], by simp -implicitDefEqProofs (disch := first | with_reducible exact Nat.ne_of_beq_eq_false rfl | omega) only [upd_ne, g7], by simp -implicitDefEqProofs (disch := first | with_reducible exact Nat.ne_of_beq_eq_false rfl | omega) only [upd_eq] <;> rfl, rfl, ?_⟩
      rw [List.take_add_one, hy, List.mem_append]
      rintro (h | h)
      · exact hn h
      · simp at h
        subst h
        rw [beq_self_eq_true] at hb
        cases hb
  · obtain rfl : i = L.length := by omega
    rw [List.take_of_length_le (Nat.le_refl _)] at hn
    try simp -implicitDefEqProofs only [opH_sv, opH_su, pureW_sv, opH_nil, pureW_nil, pick_t, pick_f, pick_tp, pick_fp, gd_tt, gd_ft, gd_tf, gd_ff, box_new, regs0, regs1, regs2, regs3, regs4, regs5, regs6, cells_agg, cells_int, cells_bool, cells_ptr, cells_slice, cells_string, cells_func, cells_nilFunc, cells_map, retK_ret, retK_normal, resL_tmp, resL_cell, resL_nil0, resL_nil1, resL_nil2, resL_nil3, resC_ptr, ex0, ex1, ex2, ex0p, ex1p, ex2p, HL.cond_true, HL.cond_false, thenK_normal, thenK_ret, thenK_exit, blockK_normal, blockK_ret, blockK_exit, scopeK_normal, scopeK_ret, scopeK_exit, wpH_pure, bin_add, bin_sub, bin_mul, bin_lss, bin_leq, bin_gtr, bin_geq, bin_quo, bin_rem, bin_quop, bin_remp, wrap_in, bin_addp, bin_subp, bin_mulp, bin_lssp, bin_leqp, bin_gtrp, bin_geqp, un_not, un_notp, un_neg, eq_int, ne_int, eq_intp, ne_intp, callV_fn, add_mk, upd_eq, upd_ne, cell_set_self, Nat.zero_add, Nat.add_zero, Option.some.injEq, exists_eq_left', List.getElem?_cons_succ, List.getElem?_cons_zero, true_and, and_true, bne_self_eq_false, beq_self_eq_true, Bool.not_true, Bool.not_false, Bool.and_true, Bool.and_self, Bool.and_false, Bool.true_and, List.length_cons, List.length_nil, ne_eq, not_false_eq_true, Nat.reduceAdd, Nat.reduceMul, if_true, if_false, oneCell_int, oneCell_bool, oneCell_ptr, oneCell_slice, oneCell_string, oneCell_func, oneCell_map, Int.toNat_natCast, List.set_cons_zero, List.set_cons_succ, Nat.lt_irrefl, Nat.zero_lt_succ, Nat.succ_lt_succ_iff, fa26_0, fa26_0p, fa26_1, fa26_1p, fa26_10, fa26_10p, fa26_11, fa26_11p, fa26_12, fa26_12p, fa26_13, fa26_13p, fa26_14, fa26_14p, fa26_15, fa26_15p, fa26_2, fa26_2p, fa26_3, fa26_3p, fa26_4, fa26_4p, fa26_5, fa26_5p, fa26_6, fa26_6p, fa26_7, fa26_7p, fa26_8, fa26_8p, fa26_9, fa26_9p, fa28_0, fa28_0p, fa28_1, fa28_1p, fa45_0, fa45_0p, fa45_1, fa45_1p, fa45_2, fa45_2p, fa45_3, fa45_3p, fa45_4, fa45_4p, fa45_5, fa45_5p, fa45_6, fa45_6p, fa49_0, fa49_0p, fa49_1, fa49_1p, fa74_0, fa74_0p, fa74_1, fa74_1p, fa74_2, fa74_2p, fa74_3, fa74_3p, fa85_0, fa85_0p, fa85_1, fa85_1p, fa93_0, fa93_0p, fa93_1, fa93_1p, fa93_2, fa93_2p, ld3, ld3p, ld4, ld4p, ld22, ld22p, ld23, ld23p, ld24, ld24p, ld26, ld26p, ld28, ld28p, ld42, ld42p, ld45, ld45p, ld49, ld49p, ld58, ld58p, ld69, ld69p, ld72, ld72p, ld85, ld85p, st3s, st4s, st22s, st23s, st24s, st26w, st28w, st42s, st45w, st49w, st85w, ix22, ix22p, ix23, ix23p, ix24, ix24p, ix31, ix31p, ix42, ix42p, ix104, ix104p, ln22, ln22p, ln23, ln23p, ln24, ln24p, ln31, ln31p, ln42, ln42p, al4, al22, al26, al28, al42, al49, al85, cf10, cf11, cf12, cf13, cf14, cf15, cf16, cf17, cf18, cf19, cf20, cf21, cf22, cf23, cf24, cf25, cf26, cf27, cf28, cf29, cf30, cf31, cf32, cf33, cf34, cf35, cf36, cf37, cf38, cf39, cf40, cf41, cf42, cf43, cf44, cf45, cf46, cf47, cf48, cf49, cf50, cf51, cf52, cf53, cf54, cf55, cf56, cf57, cf58, cf59, cf60, cf61, cf62, cf63, cf64, cf65, cf66, cf67, cf68, cf69, cf70, cf71, cf72, cf73, cf74, cf75, bd26_0_1_2_7_8_9_10_11_12_13_14_4_15, bd26_0_1_2_7_8_9_10_11_12_13_14_4_15p, bd28_, bd28_p, bd28_0, bd28_0p, bd28_0_1, bd28_0_1p, bd45_1_3_4_5_6, bd45_1_3_4_5_6p, bd49_0_1, bd49_0_1p, bd49_1, bd49_1p, bd74_0_1_2_3, bd74_0_1_2_3p, bd85_0, bd85_0p, bd85_0_1, bd85_0_1p, bd93_0_1_2, bd93_0_1_2p, bd94_0_1_2_3, bd94_0_1_2_3p, bs42_1_0, bs22_1_0, bs24_1_0, bs42_3_0_1_2, bs31_1_0, bs22_2_0_1, bs42_6_0_1_2_3_4_5, bs42_0_, eq4, eq4p, eq28, eq28p, eq42n, eq42np, eq42s, eq42sp, eq58n, eq58np, eq58s, eq58sp, eq63n, eq63np, eq63s, eq63sp, ne28, ne28p, ne45, ne45p]
    unfold S64_k1
    rw [← hKK]
    simp -implicitDefEqProofs only [retK_ret, resL_tmp, upd_eq, resL_nil1]
    exact ⟨⟨_, rfl, ⟨fun h => absurd h (by decide), fun h => absurd h hn⟩⟩, l2⟩

theorem contains_spec {G h : Hp} {v : Value} {L : List Cell} {c : Cell} (hv : Sees cellC G h v L) (hL : L.length ≤ 100000000000000) : HCalls Tryd.prog G 36 #[v, cellV c] h (fun u h' => u = .bool (decide (c ∈ L)) ∧ h' = h) := by
  refine HCalls.assume fun d => quietly (enter36 (by simp) ?_)
  unfold S36
  simp -implicitDefEqProofs only [regs1, regs0, retK_ret, resL_tmp, upd_eq, resL_nil1, opH_sv, cf64, box_new, cells_agg, ld28, add_mk, Nat.add_zero, cell_set_self, List.getElem?_cons_zero, Option.some.injEq, Nat.zero_add, List.getElem?_cons_succ, exists_eq_left']
  intro x hx gx
  generalize ex : Hp.set h x _ = h2
  obtain ⟨l2, d2, b2⟩ := boxed ex hx d gx
  have cx : ∀ k, cellIn G h2 ⟨x, k, none⟩ = _ := fun k => cell_of (look_own b2)
  refine (indexc_spec (c := c) (hv.up l2 d2) hL).mono ?_
  rintro _ h2 ⟨⟨n, rfl, hn⟩, rfl⟩
  simp -implicitDefEqProofs only [bin_geq]
  exact ⟨by rw [decide_eq_decide.2 hn], l2⟩

end Go.Proofs.YtangejiigopdaaaDoor
end

section
/- The yard laid. -/
set_option linter.unusedSimpArgs false
set_option linter.unusedVariables false
set_option maxRecDepth 100000
namespace Go.Proofs.YtangejiigopdaaaDoor
open Go Go.HL

theorem pack2 {x y h : Hp} {R : List Hp} (s : HL.Sep (x :: y :: R) h) : ∃ b, HL.Sep (b :: R) h ∧ HL.Sep [x, y] b := by
  obtain ⟨s1, ap⟩ := s.join
  exact ⟨_, s1, ⟨fun a ha => by
    simp only [List.mem_cons, List.not_mem_nil, or_false] at ha
    rcases ha with rfl | rfl
    · exact Hp.le_join
    · exact Hp.le_join2 ap, by simp [ap]⟩⟩

abbrev Stk := Cell × List Int
/-- Stacks as they lie. -/
def StS (G h : Hp) (v : Value) (S : List Stk) : Prop := ∃ a cap, v = .slice a S.length cap ∧ ∃ raw : List Raw, Sees rawC G h (.slice a S.length cap) raw ∧ ∀ (i : Nat) (r : Raw) (s : Stk), raw[i]? = some r → S[i]? = some s → (r.x, r.y) = s.1 ∧ r.n = s.2.length ∧ Sees icC G h (.slice r.a s.2.length r.c) s.2
theorem StS.up {G h h' : Hp} {v : Value} {S : List Stk} (s : StS G h v S) (l : h.le h') (d : Dis G h') : StS G h' v S := by
  obtain ⟨a, cap, e, raw, e1, e2⟩ := s
  exact ⟨a, cap, e, raw, e1.up l d, fun i r s h1 h2 => let ⟨k1, k2, k3⟩ := e2 i r s h1 h2; ⟨k1, k2, k3.up l d⟩⟩

/-- The first stack of a cell. -/
def binsL : List Stk → Cell → List Int
  | [], _ => []
  | s :: S, c => if s.1 == c then s.2 else binsL S c
def hgt (S : List Stk) (c : Cell) : Int := (binsL S c).length
theorem binsL_take {S : List Stk} {c : Cell} : ∀ {i : Nat} {s : Stk}, S[i]? = some s → binsL (S.take (i + 1)) c = if (S.take i).any (fun x => x.1 == c) = true then binsL (S.take i) c else if (s.1 == c) = true then s.2 else [] := by
  induction S with
  | nil => intro i s h; simp at h
  | cons x S ih =>
    intro i s h
    cases i with
    | zero =>
      simp at h
      subst h
      simp [binsL]
    | succ i =>
      simp at h
      have := ih h
      rw [List.take_succ_cons, List.take_succ_cons, binsL, binsL, List.any_cons]
      cases hx : (x.1 == c) with
      | true => simp
      | false => rw [Bool.false_or]; simpa using this
theorem binsL_not {S : List Stk} {c : Cell} (h : S.any (fun x => x.1 == c) = false) : binsL S c = [] := by
  induction S with
  | nil => rfl
  | cons x S ih =>
    rw [List.any_cons, Bool.or_eq_false_iff] at h
    rw [binsL, h.1]
    exact ih h.2

abbrev CMap := KMap (fun c : Cell => cellV c)
/-- A map of numbers by cells: those that were set, the number. -/
def MapIs (o : Obj) (hv : Cell → Int) (is : Cell → Bool) : Prop := ∃ M : List (Cell × Value), CMap o M ∧ ∀ c, kget M c = if is c = true then some (.int .i64 (hv c)) else none

theorem unm : Tryd.prog.underlying 72 = some (.map 28 3) := by kernel_rfl
theorem zmi : zeroOf Tryd.prog 3 = some (.int .i64 0) := by kernel_rfl

theorem mkmap {T : TypeId} {G h : Hp} {K : Value → Hp → Prop} : wpH Tryd.prog G (Instr.makeMap T none) h K = ∀ x, h x = none → G x = none → K (.map (some x)) (h.set x (.map #[] 0)) := by
  simp [Instr.makeMap, bind, Sem.bind, pure, wpH, newObj]
theorem MapIs.new {hv : Cell → Int} : MapIs (.map #[] 0) hv (fun _ => false) := ⟨[], KMap.empty, fun c => rfl⟩
theorem lk2 {G h : Hp} {mb : Nat} {o : Obj} {hv : Cell → Int} {is : Cell → Bool} {x y : Int} {K : Value → Prop} (hb : HL.look G h mb = some o) (m : MapIs o hv is) :
    pw Tryd.prog G h (Instr.lookup 72 (.map (some mb)) (.agg #[.int .i64 x, .int .i64 y]) true) K = K (.tuple #[.int .i64 (if is (x, y) = true then hv (x, y) else 0), .bool (is (x, y))]) := by
  obtain ⟨M, hm, hg⟩ := m
  have := lookup2_keyp (k := ((x, y) : Cell)) (K := K) cell_key unm zmi hb hm
  rw [hg] at this
  refine this.trans ?_
  cases is (x, y) <;> rfl
theorem lk1 {G h : Hp} {mb : Nat} {o : Obj} {hv : Cell → Int} {is : Cell → Bool} {x y : Int} {K : Value → Prop} (hb : HL.look G h mb = some o) (m : MapIs o hv is) :
    pw Tryd.prog G h (Instr.lookup 72 (.map (some mb)) (.agg #[.int .i64 x, .int .i64 y]) false) K = K (.int .i64 (if is (x, y) = true then hv (x, y) else 0)) := by
  obtain ⟨M, hm, hg⟩ := m
  have := lookup_keyp (k := ((x, y) : Cell)) (K := K) cell_key unm zmi hb hm
  rw [hg] at this
  refine this.trans ?_
  cases is (x, y) <;> rfl
theorem mpu {G h : Hp} {mb : Nat} {o : Obj} {hv : Cell → Int} {is : Cell → Bool} {x y n : Int} {K : Unit → Hp → Prop} (hb : h mb = some o) (m : MapIs o hv is)
    (H : ∀ o', MapIs o' (fun c => if ((x, y) == c) = true then n else hv c) (fun c => (x, y) == c || is c) → K () (h.set mb o')) :
    wpH Tryd.prog G (Instr.mapUpdate 72 (.map (some mb)) (.agg #[.int .i64 x, .int .i64 y]) (.int .i64 n)) h K := by
  obtain ⟨M, hm, hg⟩ := m
  refine mapput_key (k := ((x, y) : Cell)) cell_key unm hb hm fun o' hm' => H o' ⟨_, hm', fun c => ?_⟩
  rw [kget_put, hg]
  show (if (((x, y) : Cell) == c) = true then some (Value.int .i64 n) else _) = if ((((x, y) : Cell) == c) || is c) = true then some (Value.int .i64 (if (((x, y) : Cell) == c) = true then n else hv c)) else none
  cases (((x, y) : Cell) == c) <;> rfl

theorem MapIs.congr {o : Obj} {hv hv' : Cell → Int} {is is' : Cell → Bool} (m : MapIs o hv is) (h1 : ∀ c, is' c = is c) (h2 : ∀ c, is c = true → hv' c = hv c) : MapIs o hv' is' := by
  obtain ⟨M, hm, hg⟩ := m
  refine ⟨M, hm, fun c => ?_⟩
  rw [hg, h1]
  by_cases h : is c = true
  · rw [if_pos h, if_pos h, h2 c h]
  · rw [if_neg h, if_neg h]
theorem hgt_step {S : List Stk} {i : Nat} {s : Stk} (hs : S[i]? = some s) (c : Cell) : hgt (S.take (i + 1)) c = if (S.take i).any (fun x => x.1 == c) = true then hgt (S.take i) c else if (s.1 == c) = true then (s.2.length : Int) else 0 := by
  unfold hgt
  rw [binsL_take hs]
  split
  · rfl
  · split <;> rfl
theorem any_step {S : List Stk} {i : Nat} {s : Stk} (hs : S[i]? = some s) (c : Cell) : (S.take (i + 1)).any (fun x => x.1 == c) = ((S.take i).any (fun x => x.1 == c) || s.1 == c) := by
  rw [List.take_add_one, hs, List.any_append]
  simp

def YardO (a : Hp) (yp gp mb : Nat) (ht : Int) (tv : Value) (hv : Cell → Int) (is : Cell → Bool) : Prop := ∃ (o : Obj) (C : Conf) (ab : Option Addr) (cb : Nat) (ap : Option Addr) (cp : Nat) (ar : Option Addr) (cr : Nat) (az : Option Addr) (cs : Nat),
  HL.Sep [noHp.set yp (.cells #[.int .i64 C.w, .int .i64 C.h, .int .i64 ht, .slice ab C.bl.length cb, .slice ap C.po.length cp, .slice ar C.ro.length cr, .slice az C.st.length cs, .int .i64 C.un, .int .i64 C.ac, .int .i64 C.sp, .int .i64 C.tu, .int .i64 C.ho, .int .i64 C.qu, .int .i64 C.re, .int .i64 C.bu, .bool C.back, .pointer (some ⟨gp, 0, none⟩), .map (some mb), tv] 74 (0, 0)), noHp.set mb o] a ∧ MapIs o hv is

set_option maxHeartbeats 4000000 in
theorem dlaid_spec {G h : Hp} {v sv tv : Value} {C : Conf} {S : List Stk} {TL : List Cell} (hv : CV G h v C) (hss : StS G h sv S) (ht : Sees cellC G h tv TL) (st : Steps G) (hp : ∀ p ∈ C.ro, PB p) (hsl : C.st.length ≤ 100000000000000) (hS : S.length ≤ 100000000000000) :
    HCalls Tryd.prog G 33 #[v, sv, tv] h (fun u h' => h.le h' ∧ Dis G h' ∧ ((MadeOk C ∧ ∃ ya ga yp gp kb mb is, u = .tuple #[.pointer (some ⟨yp, 0, none⟩), .int .i64 0] ∧ HL.Sep [ya, ga, h] h' ∧ GO ga gp kb (wC C) (kC C) (f3C C) ∧ YardO ya yp gp mb C.ht tv (hgt S) is ∧ (∀ c, is c = false → hgt S c = 0)) ∨ (¬ MadeOk C ∧ u = .tuple #[.pointer none, .int .i64 5]))) := by
  obtain ⟨ta, tc, rfl⟩ := ht.len
  obtain ⟨sa, sc, rfl, raw, sr, srr⟩ := id hss
  obtain ⟨ab, cb, ap, cp, ar, cr, az, cs, rfl, ca⟩ := hv
  refine HCalls.assume fun d => enter33 (by simp) ?_
  unfold S33
  simp -implicitDefEqProofs only [regs0, retK_ret, resL_tmp, upd_ne, upd_eq, resL_nil2, opH_sv, cf28, box_new, cells_agg, ld26, add_mk, Nat.add_zero, cell_set_self, List.getElem?_cons_zero, Option.some.injEq, Nat.zero_add, List.getElem?_cons_succ, exists_eq_left']
  intro x hx gx
  generalize e1 : Hp.set h x _ = h1
  obtain ⟨l1, d1, b1⟩ := boxed e1 hx d gx
  have cx : ∀ j, cellIn G h1 ⟨x, j, none⟩ = _ := fun j => cell_of (look_own b1)
  try simp -implicitDefEqProofs (disch := first | with_reducible exact Nat.ne_of_beq_eq_false rfl | omega) only [opH_sv, opH_su, pureW_sv, opH_nil, pureW_nil, pick_t, pick_f, pick_tp, pick_fp, gd_tt, gd_ft, gd_tf, gd_ff, box_new, regs0, regs1, regs2, regs3, regs4, regs5, regs6, cells_agg, cells_int, cells_bool, cells_ptr, cells_slice, cells_string, cells_func, cells_nilFunc, cells_map, retK_ret, retK_normal, resL_tmp, resL_cell, resL_nil0, resL_nil1, resL_nil2, resL_nil3, resC_ptr, ex0, ex1, ex2, ex0p, ex1p, ex2p, HL.cond_true, HL.cond_false, thenK_normal, thenK_ret, thenK_exit, blockK_normal, blockK_ret, blockK_exit, scopeK_normal, scopeK_ret, scopeK_exit, wpH_pure, bin_add, bin_sub, bin_mul, bin_lss, bin_leq, bin_gtr, bin_geq, bin_quo, bin_rem, bin_quop, bin_remp, wrap_in, bin_addp, bin_subp, bin_mulp, bin_lssp, bin_leqp, bin_gtrp, bin_geqp, un_not, un_notp, un_neg, eq_int, ne_int, eq_intp, ne_intp, callV_fn, add_mk, upd_eq, upd_ne, cell_set_self, Nat.zero_add, Nat.add_zero, Option.some.injEq, exists_eq_left', List.getElem?_cons_succ, List.getElem?_cons_zero, true_and, and_true, bne_self_eq_false, beq_self_eq_true, Bool.not_true, Bool.not_false, Bool.and_true, Bool.and_self, Bool.and_false, Bool.true_and, List.length_cons, List.length_nil, ne_eq, not_false_eq_true, Nat.reduceAdd, Nat.reduceMul, if_true, if_false, oneCell_int, oneCell_bool, oneCell_ptr, oneCell_slice, oneCell_string, oneCell_func, oneCell_map, Int.toNat_natCast, List.set_cons_zero, List.set_cons_succ, Nat.lt_irrefl, Nat.zero_lt_succ, Nat.succ_lt_succ_iff, fa26_0, fa26_0p, fa26_1, fa26_1p, fa26_10, fa26_10p, fa26_11, fa26_11p, fa26_12, fa26_12p, fa26_13, fa26_13p, fa26_14, fa26_14p, fa26_15, fa26_15p, fa26_2, fa26_2p, fa26_3, fa26_3p, fa26_4, fa26_4p, fa26_5, fa26_5p, fa26_6, fa26_6p, fa26_7, fa26_7p, fa26_8, fa26_8p, fa26_9, fa26_9p, fa28_0, fa28_0p, fa28_1, fa28_1p, fa45_0, fa45_0p, fa45_1, fa45_1p, fa45_2, fa45_2p, fa45_3, fa45_3p, fa45_4, fa45_4p, fa45_5, fa45_5p, fa45_6, fa45_6p, fa49_0, fa49_0p, fa49_1, fa49_1p, fa74_0, fa74_0p, fa74_1, fa74_1p, fa74_2, fa74_2p, fa74_3, fa74_3p, fa85_0, fa85_0p, fa85_1, fa85_1p, fa93_0, fa93_0p, fa93_1, fa93_1p, fa93_2, fa93_2p, ld3, ld3p, ld4, ld4p, ld22, ld22p, ld23, ld23p, ld24, ld24p, ld26, ld26p, ld28, ld28p, ld42, ld42p, ld45, ld45p, ld49, ld49p, ld58, ld58p, ld69, ld69p, ld72, ld72p, ld85, ld85p, st3s, st4s, st22s, st23s, st24s, st26w, st28w, st42s, st45w, st49w, st85w, ix22, ix22p, ix23, ix23p, ix24, ix24p, ix31, ix31p, ix42, ix42p, ix104, ix104p, ln22, ln22p, ln23, ln23p, ln24, ln24p, ln31, ln31p, ln42, ln42p, al4, al22, al26, al28, al42, al49, al85, cf10, cf11, cf12, cf13, cf14, cf15, cf16, cf17, cf18, cf19, cf20, cf21, cf22, cf23, cf24, cf25, cf26, cf27, cf28, cf29, cf30, cf31, cf32, cf33, cf34, cf35, cf36, cf37, cf38, cf39, cf40, cf41, cf42, cf43, cf44, cf45, cf46, cf47, cf48, cf49, cf50, cf51, cf52, cf53, cf54, cf55, cf56, cf57, cf58, cf59, cf60, cf61, cf62, cf63, cf64, cf65, cf66, cf67, cf68, cf69, cf70, cf71, cf72, cf73, cf74, cf75, bd26_0_1_2_7_8_9_10_11_12_13_14_4_15, bd26_0_1_2_7_8_9_10_11_12_13_14_4_15p, bd28_, bd28_p, bd28_0, bd28_0p, bd28_0_1, bd28_0_1p, bd45_1_3_4_5_6, bd45_1_3_4_5_6p, bd49_0_1, bd49_0_1p, bd49_1, bd49_1p, bd74_0_1_2_3, bd74_0_1_2_3p, bd85_0, bd85_0p, bd85_0_1, bd85_0_1p, bd93_0_1_2, bd93_0_1_2p, bd94_0_1_2_3, bd94_0_1_2_3p, bs42_1_0, bs22_1_0, bs24_1_0, bs42_3_0_1_2, bs31_1_0, bs22_2_0_1, bs42_6_0_1_2_3_4_5, bs42_0_, eq4, eq4p, eq28, eq28p, eq42n, eq42np, eq42s, eq42sp, eq58n, eq58np, eq58s, eq58sp, eq63n, eq63np, eq63s, eq63sp, ne28, ne28p, ne45, ne45p, cx]
  refine (new_spec (ca.up l1 d1).cv st hp hsl).mono ?_
  rintro _ h2 ⟨l2, d2, ⟨hm, ga, gp, kb, rfl, go, s2⟩ | ⟨hm, rfl⟩⟩
  rotate_left
  · try simp -implicitDefEqProofs (maxSteps := 2000000) (disch := first | with_reducible exact Nat.ne_of_beq_eq_false rfl | exact oneCell_int | exact oneCell_bool | omega | rfl | (simp; done) | fail) only [ex1, and_true, ne_int, ex0]
    exact ⟨l1.trans l2, d2, .inr hm⟩
  have b2 := l2 _ _ b1
  have cx2 : ∀ j, cellIn G h2 ⟨x, j, none⟩ = _ := fun j => cell_of (look_own b2)
  try simp -implicitDefEqProofs only [ex1, ne_int, bne_self_eq_false, HL.cond_false, ex0]
  unfold S33_k1
  try simp -implicitDefEqProofs (disch := first | with_reducible exact Nat.ne_of_beq_eq_false rfl | omega) only [upd_ne, upd_eq, regs2, regs1, opH_sv, ln24, box_new, ld26, add_mk, Nat.add_zero, cx2, List.getElem?_cons_zero, Option.some.injEq, Nat.zero_add, List.getElem?_cons_succ, exists_eq_left']
  rw [mkmap]
  intro mb hmb gmb
  try simp -implicitDefEqProofs (disch := first | with_reducible exact Nat.ne_of_beq_eq_false rfl | omega) only [bd74_0_1_2_3, cells_agg]
  intro yp hyp gyp
  have hr : h.le h2 := l1.trans l2
  have sA : HL.Sep [ga, h] h2 := (s2.swap.cut l1).swap
  have sB := (sA.new (o := .map #[] 0) hmb)
  have dB := d2.set (o := .map #[] 0) gmb
  generalize eB : Hp.set h2 mb _ = hB at hyp sB dB ⊢
  have sC := sB.new (o := .cells #[.int .i64 C.w, .int .i64 C.h, .int .i64 C.ht, .slice ab C.bl.length cb, .slice ap C.po.length cp, .slice ar C.ro.length cr, .slice az C.st.length cs, .int .i64 C.un, .int .i64 C.ac, .int .i64 C.sp, .int .i64 C.tu, .int .i64 C.ho, .int .i64 C.qu, .int .i64 C.re, .int .i64 C.bu, .bool C.back, .pointer (some ⟨gp, 0, none⟩), .map (some mb), .slice ta TL.length tc] 74 (0, 0)) hyp
  have dC := dB.set (o := .cells #[.int .i64 C.w, .int .i64 C.h, .int .i64 C.ht, .slice ab C.bl.length cb, .slice ap C.po.length cp, .slice ar C.ro.length cr, .slice az C.st.length cs, .int .i64 C.un, .int .i64 C.ac, .int .i64 C.sp, .int .i64 C.tu, .int .i64 C.ho, .int .i64 C.qu, .int .i64 C.re, .int .i64 C.bu, .bool C.back, .pointer (some ⟨gp, 0, none⟩), .map (some mb), .slice ta TL.length tc] 74 (0, 0)) gyp
  generalize Hp.set hB yp _ = hC at sC dC ⊢
  have hrl : raw.length = S.length := by
    obtain ⟨s', cap', e⟩ := sr.len
    simp at e
    omega
  generalize hKK : retK Tryd.prog G _ _ = KK
  refine loop_I (fun m q h3 => ∃ (i : Nat) (o : Obj) (is : Cell → Bool), m = S.length - i ∧ i ≤ S.length ∧ q 10 = .pointer (some ⟨yp, 0, none⟩) ∧ q 29 = .slice sa S.length sc ∧ q 30 = .int .i64 S.length ∧ q 31 = .int .i64 i ∧ MapIs o (hgt (S.take i)) is ∧ (∀ c, is c = (S.take i).any (fun x => x.1 == c)) ∧ HL.Sep [noHp.set yp (.cells #[.int .i64 C.w, .int .i64 C.h, .int .i64 C.ht, .slice ab C.bl.length cb, .slice ap C.po.length cp, .slice ar C.ro.length cr, .slice az C.st.length cs, .int .i64 C.un, .int .i64 C.ac, .int .i64 C.sp, .int .i64 C.tu, .int .i64 C.ho, .int .i64 C.qu, .int .i64 C.re, .int .i64 C.bu, .bool C.back, .pointer (some ⟨gp, 0, none⟩), .map (some mb), .slice ta TL.length tc] 74 (0, 0)), noHp.set mb o, ga, h] h3 ∧ Dis G h3) ?_
    (m := S.length) ⟨0, _, _, rfl, Nat.zero_le _, by simp -implicitDefEqProofs (disch := first | with_reducible exact Nat.ne_of_beq_eq_false rfl | omega) only [upd_ne, upd_eq], by simp -implicitDefEqProofs (disch := first | with_reducible exact Nat.ne_of_beq_eq_false rfl | omega) only [upd_ne, upd_eq], by simp -implicitDefEqProofs (disch := first | with_reducible exact Nat.ne_of_beq_eq_false rfl | omega) only [upd_ne, upd_eq], by simp -implicitDefEqProofs only [upd_eq] <;> rfl, MapIs.new, fun c => rfl, sC, dC⟩
  clear sC dC hC sB dB eB hyp gyp hmb gmb hB sA s2 d2 l2 b2 cx2 hr
  clear h2 e1 l1 d1 b1 cx hx gx
  clear h1 x
  rintro m q h3 ⟨i, o, is, rfl, hi, q10, q29, q30, q31, mi, his, s3, d3⟩ X HX
  unfold S33_l3
  simp -implicitDefEqProofs only [q31, q30, thenK_exit, blockK_exit, thenK_normal, if_true, opH_sv, bin_lss]
  refine cond_dec (fun hlt => ?_) (fun hge => ?_)
  rotate_left
  · obtain rfl : i = S.length := by omega
    rw [List.take_of_length_le (Nat.le_refl _)] at mi his
    try simp -implicitDefEqProofs (disch := first | with_reducible exact Nat.ne_of_beq_eq_false rfl | omega) only [opH_sv, opH_su, pureW_sv, opH_nil, pureW_nil, pick_t, pick_f, pick_tp, pick_fp, gd_tt, gd_ft, gd_tf, gd_ff, box_new, regs0, regs1, regs2, regs3, regs4, regs5, regs6, cells_agg, cells_int, cells_bool, cells_ptr, cells_slice, cells_string, cells_func, cells_nilFunc, cells_map, retK_ret, retK_normal, resL_tmp, resL_cell, resL_nil0, resL_nil1, resL_nil2, resL_nil3, resC_ptr, ex0, ex1, ex2, ex0p, ex1p, ex2p, HL.cond_true, HL.cond_false, thenK_normal, thenK_ret, thenK_exit, blockK_normal, blockK_ret, blockK_exit, scopeK_normal, scopeK_ret, scopeK_exit, wpH_pure, bin_add, bin_sub, bin_mul, bin_lss, bin_leq, bin_gtr, bin_geq, bin_quo, bin_rem, bin_quop, bin_remp, wrap_in, bin_addp, bin_subp, bin_mulp, bin_lssp, bin_leqp, bin_gtrp, bin_geqp, un_not, un_notp, un_neg, eq_int, ne_int, eq_intp, ne_intp, callV_fn, add_mk, upd_eq, upd_ne, cell_set_self, Nat.zero_add, Nat.add_zero, Option.some.injEq, exists_eq_left', List.getElem?_cons_succ, List.getElem?_cons_zero, true_and, and_true, bne_self_eq_false, beq_self_eq_true, Bool.not_true, Bool.not_false, Bool.and_true, Bool.and_self, Bool.and_false, Bool.true_and, List.length_cons, List.length_nil, ne_eq, not_false_eq_true, Nat.reduceAdd, Nat.reduceMul, if_true, if_false, oneCell_int, oneCell_bool, oneCell_ptr, oneCell_slice, oneCell_string, oneCell_func, oneCell_map, Int.toNat_natCast, List.set_cons_zero, List.set_cons_succ, Nat.lt_irrefl, Nat.zero_lt_succ, Nat.succ_lt_succ_iff, fa26_0, fa26_0p, fa26_1, fa26_1p, fa26_10, fa26_10p, fa26_11, fa26_11p, fa26_12, fa26_12p, fa26_13, fa26_13p, fa26_14, fa26_14p, fa26_15, fa26_15p, fa26_2, fa26_2p, fa26_3, fa26_3p, fa26_4, fa26_4p, fa26_5, fa26_5p, fa26_6, fa26_6p, fa26_7, fa26_7p, fa26_8, fa26_8p, fa26_9, fa26_9p, fa28_0, fa28_0p, fa28_1, fa28_1p, fa45_0, fa45_0p, fa45_1, fa45_1p, fa45_2, fa45_2p, fa45_3, fa45_3p, fa45_4, fa45_4p, fa45_5, fa45_5p, fa45_6, fa45_6p, fa49_0, fa49_0p, fa49_1, fa49_1p, fa74_0, fa74_0p, fa74_1, fa74_1p, fa74_2, fa74_2p, fa74_3, fa74_3p, fa85_0, fa85_0p, fa85_1, fa85_1p, fa93_0, fa93_0p, fa93_1, fa93_1p, fa93_2, fa93_2p, ld3, ld3p, ld4, ld4p, ld22, ld22p, ld23, ld23p, ld24, ld24p, ld26, ld26p, ld28, ld28p, ld42, ld42p, ld45, ld45p, ld49, ld49p, ld58, ld58p, ld69, ld69p, ld72, ld72p, ld85, ld85p, st3s, st4s, st22s, st23s, st24s, st26w, st28w, st42s, st45w, st49w, st85w, ix22, ix22p, ix23, ix23p, ix24, ix24p, ix31, ix31p, ix42, ix42p, ix104, ix104p, ln22, ln22p, ln23, ln23p, ln24, ln24p, ln31, ln31p, ln42, ln42p, al4, al22, al26, al28, al42, al49, al85, cf10, cf11, cf12, cf13, cf14, cf15, cf16, cf17, cf18, cf19, cf20, cf21, cf22, cf23, cf24, cf25, cf26, cf27, cf28, cf29, cf30, cf31, cf32, cf33, cf34, cf35, cf36, cf37, cf38, cf39, cf40, cf41, cf42, cf43, cf44, cf45, cf46, cf47, cf48, cf49, cf50, cf51, cf52, cf53, cf54, cf55, cf56, cf57, cf58, cf59, cf60, cf61, cf62, cf63, cf64, cf65, cf66, cf67, cf68, cf69, cf70, cf71, cf72, cf73, cf74, cf75, bd26_0_1_2_7_8_9_10_11_12_13_14_4_15, bd26_0_1_2_7_8_9_10_11_12_13_14_4_15p, bd28_, bd28_p, bd28_0, bd28_0p, bd28_0_1, bd28_0_1p, bd45_1_3_4_5_6, bd45_1_3_4_5_6p, bd49_0_1, bd49_0_1p, bd49_1, bd49_1p, bd74_0_1_2_3, bd74_0_1_2_3p, bd85_0, bd85_0p, bd85_0_1, bd85_0_1p, bd93_0_1_2, bd93_0_1_2p, bd94_0_1_2_3, bd94_0_1_2_3p, bs42_1_0, bs22_1_0, bs24_1_0, bs42_3_0_1_2, bs31_1_0, bs22_2_0_1, bs42_6_0_1_2_3_4_5, bs42_0_, eq4, eq4p, eq28, eq28p, eq42n, eq42np, eq42s, eq42sp, eq58n, eq58np, eq58s, eq58sp, eq63n, eq63np, eq63s, eq63sp, ne28, ne28p, ne45, ne45p]
    unfold S33_k2
    rw [← hKK]
    obtain ⟨ya, s4, t4⟩ := pack2 s3
    simp -implicitDefEqProofs (disch := first | with_reducible exact Nat.ne_of_beq_eq_false rfl | omega) only [upd_ne, q10, retK_ret, resL_tmp, upd_eq, resL_nil2]
    exact ⟨s4.in 2 rfl, d3, .inl ⟨hm, ya, ga, yp, gp, kb, mb, is, rfl, s4, go, ⟨o, C, ab, cb, ap, cp, ar, cr, az, cs, t4, mi⟩, fun c hc => by
      rw [his] at hc
      unfold hgt
      rw [binsL_not hc]
      rfl⟩⟩
  obtain ⟨s, hs⟩ : ∃ s, S[i]? = some s := ⟨_, List.getElem?_eq_getElem (by omega)⟩
  obtain ⟨r, hr⟩ : ∃ r, raw[i]? = some r := ⟨_, List.getElem?_eq_getElem (by omega)⟩
  obtain ⟨er, en, _⟩ := srr i r s hr hs
  obtain ⟨b, of, cc, e3, e4⟩ := (sr.up (s3.in 3 rfl) d3).get hr
  simp only [Value.slice.injEq] at e3
  obtain ⟨rfl, -, -⟩ := e3
  have z0 := e4 0 (by decide)
  have z1 := e4 1 (by decide)
  have z2 := e4 2 (by decide)
  simp only [rawC, Nat.add_zero, List.getElem?_cons_zero, List.getElem?_cons_succ] at z0 z1 z2
  unfold S33_l3_k4
  simp -implicitDefEqProofs (maxSteps := 2000000) (disch := first | with_reducible exact Nat.ne_of_beq_eq_false rfl | exact oneCell_int | exact oneCell_bool | omega | rfl | (simp; done) | fail) only [upd_ne, q29, q31, q10, opH_su, pureW_sv, pureW_nil, fa74_2p, add_mk, Nat.zero_add, ld72p, opH_sv, al49, fa49_1p, ld42p, fa49_0p, Nat.add_zero, ld28p, ix24 (Int.natCast_nonneg i) hlt, Int.toNat_natCast, ld49, z0, Option.some.injEq, z1, z2, exists_eq_left', st49w, cell_set_self, List.getElem?_cons_zero, List.getElem?_cons_succ]
  intro y hy gy
  generalize eh : Hp.set h3 y _ = h4
  obtain ⟨l4, d4, b4⟩ := boxed eh hy d3 gy
  have s4 := s3.past (o := .cells #[.int .i64 r.x, .int .i64 r.y, .slice r.a r.n r.c] 49 (0, 0)) hy
  rw [eh] at s4
  have cy : ∀ j, cellIn G h4 ⟨y, j, none⟩ = _ := fun j => cell_of (look_own b4)
  have cyp : ∀ j, cellIn G h4 ⟨yp, j, none⟩ = _ := fun j => cell_of (look_own (s4.at 0 rfl set_self))
  have lm : HL.look G h4 mb = some o := look_own (s4.at 1 rfl set_self)
  have next : ∀ (K0 : Exit → Rg → Hp → Prop) (r1 : Rg) (h5 : Hp) (o' : Obj) (is' : Cell → Bool), r1 10 = q 10 → r1 29 = q 29 → r1 30 = q 30 → r1 31 = q 31 → MapIs o' (hgt (S.take (i + 1))) is' → (∀ c, is' c = (S.take (i + 1)).any (fun x => x.1 == c)) → HL.Sep [noHp.set yp (.cells #[.int .i64 C.w, .int .i64 C.h, .int .i64 C.ht, .slice ab C.bl.length cb, .slice ap C.po.length cp, .slice ar C.ro.length cr, .slice az C.st.length cs, .int .i64 C.un, .int .i64 C.ac, .int .i64 C.sp, .int .i64 C.tu, .int .i64 C.ho, .int .i64 C.qu, .int .i64 C.re, .int .i64 C.bu, .bool C.back, .pointer (some ⟨gp, 0, none⟩), .map (some mb), .slice ta TL.length tc] 74 (0, 0)), noHp.set mb o', ga, h] h5 → Dis G h5 → S33_l3_k5 G (thenK X K0) r1 h5 := by
    intro K0 r1 h5 o' is' k10 k29 k30 k31 m' i' s5 d5
    unfold S33_l3_k5
    simp -implicitDefEqProofs (disch := first | with_reducible exact Nat.ne_of_beq_eq_false rfl | omega) only [k31, q31, thenK_normal, opH_sv, bin_add, wrap_in]
    exact HX (S.length - (i + 1)) _ _ (by omega) ⟨i + 1, o', is', rfl, by omega, by simp -implicitDefEqProofs (disch := first | with_reducible exact Nat.ne_of_beq_eq_false rfl | omega) only [upd_ne, k10, q10], by simp -implicitDefEqProofs (disch := first | with_reducible exact Nat.ne_of_beq_eq_false rfl | omega) only [upd_ne, k29, q29], by simp -implicitDefEqProofs (disch := first | with_reducible exact Nat.ne_of_beq_eq_false rfl | omega) only [upd_ne, k30, q30], by simp -implicitDefEqProofs (disch := first | with_reducible exact Nat.ne_of_beq_eq_false rfl | omega) only [upd_eq] <;> rfl, m', i', s5, d5⟩
  have es : s.1 = (r.x, r.y) := er.symm
  try simp -implicitDefEqProofs (disch := first | with_reducible exact Nat.ne_of_beq_eq_false rfl | omega) only [cyp, List.getElem?_cons_succ, List.getElem?_cons_zero, Option.some.injEq, exists_eq_left', lk2 lm mi, ex1p, un_not, cy, ln42p, ex0p]
  refine cond_bool (fun hb => ?_) (fun hb => ?_)
  · have hn : is (r.x, r.y) = false := by simpa using hb
    try simp -implicitDefEqProofs (disch := first | with_reducible exact Nat.ne_of_beq_eq_false rfl | omega) only [opH_sv, opH_su, pureW_sv, opH_nil, pureW_nil, pick_t, pick_f, pick_tp, pick_fp, gd_tt, gd_ft, gd_tf, gd_ff, box_new, regs0, regs1, regs2, regs3, regs4, regs5, regs6, cells_agg, cells_int, cells_bool, cells_ptr, cells_slice, cells_string, cells_func, cells_nilFunc, cells_map, retK_ret, retK_normal, resL_tmp, resL_cell, resL_nil0, resL_nil1, resL_nil2, resL_nil3, resC_ptr, ex0, ex1, ex2, ex0p, ex1p, ex2p, HL.cond_true, HL.cond_false, thenK_normal, thenK_ret, thenK_exit, blockK_normal, blockK_ret, blockK_exit, scopeK_normal, scopeK_ret, scopeK_exit, wpH_pure, bin_add, bin_sub, bin_mul, bin_lss, bin_leq, bin_gtr, bin_geq, bin_quo, bin_rem, bin_quop, bin_remp, wrap_in, bin_addp, bin_subp, bin_mulp, bin_lssp, bin_leqp, bin_gtrp, bin_geqp, un_not, un_notp, un_neg, eq_int, ne_int, eq_intp, ne_intp, callV_fn, add_mk, upd_eq, upd_ne, cell_set_self, Nat.zero_add, Nat.add_zero, Option.some.injEq, exists_eq_left', List.getElem?_cons_succ, List.getElem?_cons_zero, true_and, and_true, bne_self_eq_false, beq_self_eq_true, Bool.not_true, Bool.not_false, Bool.and_true, Bool.and_self, Bool.and_false, Bool.true_and, List.length_cons, List.length_nil, ne_eq, not_false_eq_true, Nat.reduceAdd, Nat.reduceMul, if_true, if_false, oneCell_int, oneCell_bool, oneCell_ptr, oneCell_slice, oneCell_string, oneCell_func, oneCell_map, Int.toNat_natCast, List.set_cons_zero, List.set_cons_succ, Nat.lt_irrefl, Nat.zero_lt_succ, Nat.succ_lt_succ_iff, fa26_0, fa26_0p, fa26_1, fa26_1p, fa26_10, fa26_10p, fa26_11, fa26_11p, fa26_12, fa26_12p, fa26_13, fa26_13p, fa26_14, fa26_14p, fa26_15, fa26_15p, fa26_2, fa26_2p, fa26_3, fa26_3p, fa26_4, fa26_4p, fa26_5, fa26_5p, fa26_6, fa26_6p, fa26_7, fa26_7p, fa26_8, fa26_8p, fa26_9, fa26_9p, fa28_0, fa28_0p, fa28_1, fa28_1p, fa45_0, fa45_0p, fa45_1, fa45_1p, fa45_2, fa45_2p, fa45_3, fa45_3p, fa45_4, fa45_4p, fa45_5, fa45_5p, fa45_6, fa45_6p, fa49_0, fa49_0p, fa49_1, fa49_1p, fa74_0, fa74_0p, fa74_1, fa74_1p, fa74_2, fa74_2p, fa74_3, fa74_3p, fa85_0, fa85_0p, fa85_1, fa85_1p, fa93_0, fa93_0p, fa93_1, fa93_1p, fa93_2, fa93_2p, ld3, ld3p, ld4, ld4p, ld22, ld22p, ld23, ld23p, ld24, ld24p, ld26, ld26p, ld28, ld28p, ld42, ld42p, ld45, ld45p, ld49, ld49p, ld58, ld58p, ld69, ld69p, ld72, ld72p, ld85, ld85p, st3s, st4s, st22s, st23s, st24s, st26w, st28w, st42s, st45w, st49w, st85w, ix22, ix22p, ix23, ix23p, ix24, ix24p, ix31, ix31p, ix42, ix42p, ix104, ix104p, ln22, ln22p, ln23, ln23p, ln24, ln24p, ln31, ln31p, ln42, ln42p, al4, al22, al26, al28, al42, al49, al85, cf10, cf11, cf12, cf13, cf14, cf15, cf16, cf17, cf18, cf19, cf20, cf21, cf22, cf23, cf24, cf25, cf26, cf27, cf28, cf29, cf30, cf31, cf32, cf33, cf34, cf35, cf36, cf37, cf38, cf39, cf40, cf41, cf42, cf43, cf44, cf45, cf46, cf47, cf48, cf49, cf50, cf51, cf52, cf53, cf54, cf55, cf56, cf57, cf58, cf59, cf60, cf61, cf62, cf63, cf64, cf65, cf66, cf67, cf68, cf69, cf70, cf71, cf72, cf73, cf74, cf75, bd26_0_1_2_7_8_9_10_11_12_13_14_4_15, bd26_0_1_2_7_8_9_10_11_12_13_14_4_15p, bd28_, bd28_p, bd28_0, bd28_0p, bd28_0_1, bd28_0_1p, bd45_1_3_4_5_6, bd45_1_3_4_5_6p, bd49_0_1, bd49_0_1p, bd49_1, bd49_1p, bd74_0_1_2_3, bd74_0_1_2_3p, bd85_0, bd85_0p, bd85_0_1, bd85_0_1p, bd93_0_1_2, bd93_0_1_2p, bd94_0_1_2_3, bd94_0_1_2_3p, bs42_1_0, bs22_1_0, bs24_1_0, bs42_3_0_1_2, bs31_1_0, bs22_2_0_1, bs42_6_0_1_2_3_4_5, bs42_0_, eq4, eq4p, eq28, eq28p, eq42n, eq42np, eq42s, eq42sp, eq58n, eq58np, eq58s, eq58sp, eq63n, eq63np, eq63s, eq63sp, ne28, ne28p, ne45, ne45p, q10, cyp, cy]
    refine mpu (s4.at 1 rfl set_self) mi fun o' m' => ?_
    have s5 := ((s4.pick 1 rfl rfl).put (o := o') set_self)
    rw [set_set] at s5
    refine next _ _ _ o' (fun c => ((r.x, r.y) : Cell) == c || is c) (by simp -implicitDefEqProofs (disch := first | with_reducible exact Nat.ne_of_beq_eq_false rfl | omega) only [upd_ne]) (by simp -implicitDefEqProofs (disch := first | with_reducible exact Nat.ne_of_beq_eq_false rfl | omega) only [upd_ne]) (by simp -implicitDefEqProofs (disch := first | with_reducible exact Nat.ne_of_beq_eq_false rfl | omega) only [upd_ne]) (by simp -implicitDefEqProofs (disch := first | with_reducible exact Nat.ne_of_beq_eq_false rfl | omega) only [upd_ne]) (m'.congr (fun c => rfl) fun c hc => ?_) (fun c => ?_) (s5.pick 1 rfl rfl) (d4.set (d4 _ _ (s4.at 1 rfl set_self)))
    · rw [hgt_step hs, ← his, es]
      cases h1 : is c with
      | true =>
        have : ((((r.x, r.y) : Cell) == c)) = false := by
          cases h2 : (((r.x, r.y) : Cell) == c) with
          | false => rfl
          | true => rw [eq_of_beq h2, h1] at hn; cases hn
        rw [if_pos rfl, this]
        rfl
      | false =>
        rw [h1, Bool.or_false] at hc
        rw [if_neg (by decide), if_pos hc, if_pos hc, en]
    · rw [any_step hs, ← his, es, Bool.or_comm]
  · have hn : is (r.x, r.y) = true := by simpa using hb
    refine next _ _ h4 o is (by simp -implicitDefEqProofs (disch := first | with_reducible exact Nat.ne_of_beq_eq_false rfl | omega) only [upd_ne]) (by simp -implicitDefEqProofs (disch := first | with_reducible exact Nat.ne_of_beq_eq_false rfl | omega) only [upd_ne]) (by simp -implicitDefEqProofs (disch := first | with_reducible exact Nat.ne_of_beq_eq_false rfl | omega) only [upd_ne]) (by simp -implicitDefEqProofs (disch := first | with_reducible exact Nat.ne_of_beq_eq_false rfl | omega) only [upd_ne]) (mi.congr (fun c => rfl) fun c hc => ?_) (fun c => ?_) s4 d4
    · rw [hgt_step hs, ← his, hc, if_pos rfl]
    · rw [any_step hs, ← his, es]
      cases h2 : (((r.x, r.y) : Cell) == c) with
      | false => rw [Bool.or_false]
      | true => rw [← eq_of_beq h2, hn]; rfl

end Go.Proofs.YtangejiigopdaaaDoor
end

section
/- The place for a bin. -/
set_option linter.unusedSimpArgs false
set_option linter.unusedVariables false
set_option maxRecDepth 100000
namespace Go.Proofs.YtangejiigopdaaaDoor
open Go Go.HL

theorem opE55 {G : Hp} {a y : Value} {h : Hp} {K : Value → Hp → Prop} : opE Tryd.prog G (xCallV (.func (.func 55) #[] #[a]) #[y]) h K = HCalls Tryd.prog G 55 #[y, a] h K := by kernel_rfl

theorem permute {L L' : List Hp} {h : Hp} (s : HL.Sep L h) (p : L.Perm L') : HL.Sep L' h := ⟨fun a ha => s.1 a (p.mem_iff.2 ha), (List.Perm.pairwise_iff (fun h => h.symm) p).1 s.2⟩
theorem packs {q h : Hp} : ∀ {L : List Hp} {A : List Hp} {b : Hp}, HL.Sep (b :: (L ++ [q])) h → HL.Sep A b → ∃ a, HL.Sep [a, q] h ∧ HL.Sep (A ++ L) a
  | [], A, b, s, t => ⟨b, s, by rw [List.append_nil]; exact t⟩
  | x :: L, A, b, s, t => by
    obtain ⟨b', s1, t1⟩ := pack2 s
    have t2 := HL.Sep.split t1.swap t
    rw [List.append_nil] at t2
    obtain ⟨a, s3, t3⟩ := packs (A := A ++ [x]) s1 (permute t2 (List.perm_append_comm (l₁ := [x])))
    exact ⟨a, s3, by simpa using t3⟩
theorem packAll {q h : Hp} {L : List Hp} (s : HL.Sep (L ++ [q]) h) : ∃ a, HL.Sep [a, q] h ∧ HL.Sep L a := by
  obtain ⟨a, s1, t1⟩ := packs (A := []) (b := noHp) (L := L) s.none ⟨(fun _ h => by cases h), List.Pairwise.nil⟩
  exact ⟨a, s1, t1⟩

theorem stacks_new {G h : Hp} {gp : Nat} : HCalls Tryd.prog G 30 #[.pointer (some ⟨gp, 0, none⟩)] h (fun u h' => ∃ b1, u = .func (.func 55) #[] #[.pointer (some ⟨b1, 0, none⟩)] ∧ h b1 = none ∧ G b1 = none ∧ h' = h.set b1 (.cells #[.pointer (some ⟨gp, 0, none⟩)] 58 (0, 0))) := by
  refine HCalls.assume fun d => enter30 (by simp) ?_
  unfold S30
  simp -implicitDefEqProofs only [regs0, retK_ret, resL_tmp, upd_eq, resL_nil1, opH_sv, box_new, cells_ptr]
  intro x hx gx
  exact ⟨x, rfl, hx, gx, rfl⟩

/-- The best of a row, in its order. -/
def nearer (from_ : Cell) (b : Option Cell) (c : Cell) : Bool := match b with
  | none => true
  | some x => decide (awayI from_ c < awayI from_ x)
def bestL (from_ : Cell) (skip : Cell → Bool) : Option Cell → List Cell → Option Cell
  | b, [] => b
  | b, c :: L => bestL from_ skip (if skip c = true then b else if nearer from_ b c = true then some c else b) L
theorem bestL_app {f : Cell} {sk : Cell → Bool} : ∀ {L M : List Cell} {b : Option Cell}, bestL f sk b (L ++ M) = bestL f sk (bestL f sk b L) M
  | [], M, b => rfl
  | c :: L, M, b => by rw [List.cons_append, bestL, bestL, bestL_app]
def skipB (from_ : Cell) (ht : Int) (hv : Cell → Int) (is : Cell → Bool) (TL : List Cell) (c : Cell) : Bool := c == from_ || (decide ((if is c = true then hv c else 0) ≥ ht) || decide (c ∈ TL))

def bCell (b : Option Cell) : Cell := b.getD (0, 0)
abbrev boolO (b : Bool) : Obj := .cells #[.bool b] 4 (0, 0)

theorem st_cell {G h : Hp} {b : Nat} {c m : Cell} {K : Unit → Hp → Prop} (hb : h b = some (cellO c)) : wpH Tryd.prog G (Instr.storeAt 28 (.pointer (some ⟨b, 0, none⟩)) (.agg #[.int .i64 m.1, .int .i64 m.2])) h K = K () (h.set b (cellO m)) := by
  rw [store_eq (n := 2) sz28 hb rfl (by simp) (by intro v hv; simp [Value.cells] at hv; rcases hv with rfl | rfl <;> rfl)]
  rfl
theorem szb : (Tryd.prog.info? 4).map (·.size) = some 1 := by kernel_rfl
theorem st_bool {G h : Hp} {b : Nat} {c m : Bool} {K : Unit → Hp → Prop} (hb : h b = some (boolO c)) : wpH Tryd.prog G (Instr.storeAt 4 (.pointer (some ⟨b, 0, none⟩)) (.bool m)) h K = K () (h.set b (boolO m)) := by
  rw [store1_eq szb rfl hb (by simp)]
  rfl

/-- What the round has: the loop's record, the best yet, what it reads. -/
def PY (ya w : Hp) (l xb xo v0 v1 yp : Nat) (o : Obj) (from_ : Cell) (sk : Cell → Bool) (L : List Cell) (a : Hp) : Prop :=
  HL.Sep [noHp.set l o, noHp.set xb (cellO (bCell (bestL from_ sk none L))), noHp.set xo (boolO (bestL from_ sk none L).isSome), ya, w, noHp.set v0 (.cells #[.pointer (some ⟨yp, 0, none⟩)] 69 (0, 0)), noHp.set v1 (cellO from_)] a

set_option maxHeartbeats 4000000 in
theorem place_yield {G : Hp} {y' : Value} {ya w : Hp} {l xb xo v0 v1 yp gp mb : Nat} {o : Option Exit → Obj} {from_ : Cell} {ht : Int} {hv : Cell → Int} {is : Cell → Bool} {TL : List Cell} {tv : Value} {r : Rg} (gl : G l = none) (ho : ∀ e, isCells (o e) = false)
    (yo : YardO ya yp gp mb ht tv hv is) (tw : ∀ G, Sees cellC G w tv TL) (hTL : TL.length ≤ 100000000000000)
    (r2 : r 2 = .pointer (some ⟨v0, 0, none⟩)) (r3 : r 3 = .pointer (some ⟨v1, 0, none⟩)) (r6 : r 6 = .pointer (some ⟨xb, 0, none⟩)) (r7 : r 7 = .pointer (some ⟨xo, 0, none⟩))
    (hy : ∀ (args : Array Value) (h1 : Hp) (K1 : Value → Hp → Prop), args.size = 1 → h1 l = some (o none) →
      S37_a2 G (setR 55 #[15] args r) h1 (fun e r2 h2 => e = .normal ∧ h2 l = some (o none) ∧ ∀ ob, isCells ob = false → S37_b2 G r2 (h2.set l ob) (fun e _ h3 => h3 l = some ob ∧ match e with
        | .normal => K1 (.bool true) (h3.set l (o none))
        | .panic _ => False
        | .outgrown => False
        | e => K1 (.bool false) (h3.set l (o (some e))))) →
      opH Tryd.prog G (xCallV y' args) h1 K1) :
    Yl cellV G y' (PY ya w l xb xo v0 v1 yp (o none) from_ (skipB from_ ht hv is TL)) (fun _ _ => False) (fun _ => true) := by
  rintro L m a q h pa s d
  have s1 := s.swap.split pa
  simp only [List.append_nil] at s1
  refine hy #[cellV m] h _ rfl (s1.at 1 rfl set_self) ?_
  rw [setR1 (by decide)]
  unfold S37_a2
  simp -implicitDefEqProofs only [upd_eq, if_true, true_and, opH_su, opH_sv, al28, st28w]
  intro x hx gx
  try simp -implicitDefEqProofs only [opH_sv, opH_su, pureW_sv, opH_nil, pureW_nil, pick_t, pick_f, pick_tp, pick_fp, gd_tt, gd_ft, gd_tf, gd_ff, box_new, regs0, regs1, regs2, regs3, regs4, regs5, regs6, cells_agg, cells_int, cells_bool, cells_ptr, cells_slice, cells_string, cells_func, cells_nilFunc, cells_map, retK_ret, retK_normal, resL_tmp, resL_cell, resL_nil0, resL_nil1, resL_nil2, resL_nil3, resC_ptr, ex0, ex1, ex2, ex0p, ex1p, ex2p, HL.cond_true, HL.cond_false, thenK_normal, thenK_ret, thenK_exit, blockK_normal, blockK_ret, blockK_exit, scopeK_normal, scopeK_ret, scopeK_exit, wpH_pure, bin_add, bin_sub, bin_mul, bin_lss, bin_leq, bin_gtr, bin_geq, bin_quo, bin_rem, bin_quop, bin_remp, wrap_in, bin_addp, bin_subp, bin_mulp, bin_lssp, bin_leqp, bin_gtrp, bin_geqp, un_not, un_notp, un_neg, eq_int, ne_int, eq_intp, ne_intp, callV_fn, add_mk, upd_eq, upd_ne, cell_set_self, Nat.zero_add, Nat.add_zero, Option.some.injEq, exists_eq_left', List.getElem?_cons_succ, List.getElem?_cons_zero, true_and, and_true, bne_self_eq_false, beq_self_eq_true, Bool.not_true, Bool.not_false, Bool.and_true, Bool.and_self, Bool.and_false, Bool.true_and, List.length_cons, List.length_nil, ne_eq, not_false_eq_true, Nat.reduceAdd, Nat.reduceMul, if_true, if_false, oneCell_int, oneCell_bool, oneCell_ptr, oneCell_slice, oneCell_string, oneCell_func, oneCell_map, Int.toNat_natCast, List.set_cons_zero, List.set_cons_succ, Nat.lt_irrefl, Nat.zero_lt_succ, Nat.succ_lt_succ_iff, fa26_0, fa26_0p, fa26_1, fa26_1p, fa26_10, fa26_10p, fa26_11, fa26_11p, fa26_12, fa26_12p, fa26_13, fa26_13p, fa26_14, fa26_14p, fa26_15, fa26_15p, fa26_2, fa26_2p, fa26_3, fa26_3p, fa26_4, fa26_4p, fa26_5, fa26_5p, fa26_6, fa26_6p, fa26_7, fa26_7p, fa26_8, fa26_8p, fa26_9, fa26_9p, fa28_0, fa28_0p, fa28_1, fa28_1p, fa45_0, fa45_0p, fa45_1, fa45_1p, fa45_2, fa45_2p, fa45_3, fa45_3p, fa45_4, fa45_4p, fa45_5, fa45_5p, fa45_6, fa45_6p, fa49_0, fa49_0p, fa49_1, fa49_1p, fa74_0, fa74_0p, fa74_1, fa74_1p, fa74_2, fa74_2p, fa74_3, fa74_3p, fa85_0, fa85_0p, fa85_1, fa85_1p, fa93_0, fa93_0p, fa93_1, fa93_1p, fa93_2, fa93_2p, ld3, ld3p, ld4, ld4p, ld22, ld22p, ld23, ld23p, ld24, ld24p, ld26, ld26p, ld28, ld28p, ld42, ld42p, ld45, ld45p, ld49, ld49p, ld58, ld58p, ld69, ld69p, ld72, ld72p, ld85, ld85p, st3s, st4s, st22s, st23s, st24s, st26w, st28w, st42s, st45w, st49w, st85w, ix22, ix22p, ix23, ix23p, ix24, ix24p, ix31, ix31p, ix42, ix42p, ix104, ix104p, ln22, ln22p, ln23, ln23p, ln24, ln24p, ln31, ln31p, ln42, ln42p, al4, al22, al26, al28, al42, al49, al85, cf10, cf11, cf12, cf13, cf14, cf15, cf16, cf17, cf18, cf19, cf20, cf21, cf22, cf23, cf24, cf25, cf26, cf27, cf28, cf29, cf30, cf31, cf32, cf33, cf34, cf35, cf36, cf37, cf38, cf39, cf40, cf41, cf42, cf43, cf44, cf45, cf46, cf47, cf48, cf49, cf50, cf51, cf52, cf53, cf54, cf55, cf56, cf57, cf58, cf59, cf60, cf61, cf62, cf63, cf64, cf65, cf66, cf67, cf68, cf69, cf70, cf71, cf72, cf73, cf74, cf75, bd26_0_1_2_7_8_9_10_11_12_13_14_4_15, bd26_0_1_2_7_8_9_10_11_12_13_14_4_15p, bd28_, bd28_p, bd28_0, bd28_0p, bd28_0_1, bd28_0_1p, bd45_1_3_4_5_6, bd45_1_3_4_5_6p, bd49_0_1, bd49_0_1p, bd49_1, bd49_1p, bd74_0_1_2_3, bd74_0_1_2_3p, bd85_0, bd85_0p, bd85_0_1, bd85_0_1p, bd93_0_1_2, bd93_0_1_2p, bd94_0_1_2_3, bd94_0_1_2_3p, bs42_1_0, bs22_1_0, bs24_1_0, bs42_3_0_1_2, bs31_1_0, bs22_2_0_1, bs42_6_0_1_2_3_4_5, bs42_0_, eq4, eq4p, eq28, eq28p, eq42n, eq42np, eq42s, eq42sp, eq58n, eq58np, eq58s, eq58sp, eq63n, eq63np, eq63s, eq63sp, ne28, ne28p, ne45, ne45p]
  have sx := s1.new (o := cellO m) hx
  have d2 := d.set (o := cellO m) gx
  have nlx : l ≠ x := fun e => by rw [← e, s1.at 1 rfl set_self] at hx; cases hx
  refine ⟨by rw [set_other nlx]; exact s1.at 1 rfl set_self, fun ob hob => ?_⟩
  generalize Hp.set h x _ = h2 at sx d2 ⊢
  have s3 := (sx.pick 2 rfl rfl).put (o := ob) set_self
  rw [set_set] at s3
  have d3 : Dis G (h2.set l ob) := d2.set gl
  generalize Hp.set h2 l ob = h3 at s3 d3 ⊢
  generalize hbb : bestL from_ (skipB from_ ht hv is TL) none L = bb at s3
  have s4 : HL.Sep [noHp.set l ob, noHp.set x (cellO m), q, noHp.set xb (cellO (bCell bb)), noHp.set xo (boolO bb.isSome), ya, w, noHp.set v0 (.cells #[.pointer (some ⟨yp, 0, none⟩)] 69 (0, 0)), noHp.set v1 (cellO from_)] h3 := s3
  clear s3 sx s1 d2 d
  obtain ⟨om, C, ab, cb, ap, cp, ar, cr, az, cs, ty, mi⟩ := yo
  have cyp : ∀ j, cellIn G h3 ⟨yp, j, none⟩ = _ := fun j => cell_of (look_own (s4.in 5 rfl _ _ (ty.at 0 rfl set_self)))
  have lm : HL.look G h3 mb = some om := look_own (s4.in 5 rfl _ _ (ty.at 1 rfl set_self))
  have cx : ∀ j, cellIn G h3 ⟨x, j, none⟩ = _ := fun j => cell_of (look_own (s4.at 1 rfl set_self))
  have cxb : ∀ j, cellIn G h3 ⟨xb, j, none⟩ = _ := fun j => cell_of (look_own (s4.at 3 rfl set_self))
  have cxo : ∀ j, cellIn G h3 ⟨xo, j, none⟩ = _ := fun j => cell_of (look_own (s4.at 4 rfl set_self))
  have cv0 : ∀ j, cellIn G h3 ⟨v0, j, none⟩ = _ := fun j => cell_of (look_own (s4.at 7 rfl set_self))
  have cv1 : ∀ j, cellIn G h3 ⟨v1, j, none⟩ = _ := fun j => cell_of (look_own (s4.at 8 rfl set_self))
  have hl3 : h3 l = some ob := s4.at 0 rfl set_self
  have estep : bestL from_ (skipB from_ ht hv is TL) none (L ++ [m]) = if skipB from_ ht hv is TL m = true then bb else if nearer from_ bb m = true then some m else bb := by rw [bestL_app, hbb]; rfl
  have done : ∀ b2 : Option Cell, bestL from_ (skipB from_ ht hv is TL) none (L ++ [m]) = b2 → ∀ h5 : Hp, HL.Sep [noHp.set l ob, noHp.set x (cellO m), q, noHp.set xb (cellO (bCell b2)), noHp.set xo (boolO b2.isSome), ya, w, noHp.set v0 (.cells #[.pointer (some ⟨yp, 0, none⟩)] 69 (0, 0)), noHp.set v1 (cellO from_)] h5 → Dis G h5 →
      h5 l = some ob ∧ ∃ a', HL.Sep [a', q] (h5.set l (o none)) ∧ Dis G (h5.set l (o none)) ∧ PY ya w l xb xo v0 v1 yp (o none) from_ (skipB from_ ht hv is TL) (L ++ [m]) a' := by
    intro b2 eb h5 s5 d5
    refine ⟨s5.at 0 rfl set_self, ?_⟩
    have s6 := s5.put (o := o none) set_self
    rw [set_set] at s6
    have s7 := (s6.pick 1 rfl rfl).drop
    have s8 : HL.Sep ([noHp.set l (o none), noHp.set xb (cellO (bCell b2)), noHp.set xo (boolO b2.isSome), ya, w, noHp.set v0 (.cells #[.pointer (some ⟨yp, 0, none⟩)] 69 (0, 0)), noHp.set v1 (cellO from_)] ++ [q]) (h5.set l (o none)) := permute s7 (by
      refine List.Perm.cons _ ?_
      exact List.perm_append_comm (l₁ := [q]))
    obtain ⟨a', s9, t9⟩ := packAll s8
    exact ⟨a', s9, d5.set gl, by unfold PY; rw [eb]; exact t9⟩
  unfold S37_b2
  cases hb1 : (m == from_) with
  | true =>
    try simp -implicitDefEqProofs (disch := first | with_reducible exact Nat.ne_of_beq_eq_false rfl | omega) only [upd_eq, upd_ne, r3, r2, pureW_sv, ld28p, add_mk, Nat.add_zero, cv1, List.getElem?_cons_zero, Option.some.injEq, Nat.zero_add, List.getElem?_cons_succ, exists_eq_left', cx, eq28p, Bool.and_true, cell_beq, hb1, pick_tp, HL.cond_true, gd_tf]
    have hsk : skipB from_ ht hv is TL m = true := by unfold skipB; rw [hb1]; rfl
    rw [if_pos hsk] at estep
    exact done bb estep h3 s4 d3
  | false =>
  try simp -implicitDefEqProofs (disch := first | with_reducible exact Nat.ne_of_beq_eq_false rfl | omega) only [upd_eq, upd_ne, r3, r2, pureW_sv, ld28p, add_mk, Nat.add_zero, cv1, List.getElem?_cons_zero, Option.some.injEq, Nat.zero_add, List.getElem?_cons_succ, exists_eq_left', cx, eq28p, Bool.and_true, cell_beq, hb1, pick_fp, gd_ff, ld69p, cv0, pureW_nil, fa74_0p, fa26_2p, ld3p, cyp, fa74_2p, ld72p, lk1 lm mi, bin_geqp]
  by_cases hb2 : (if is (m.1, m.2) = true then hv (m.1, m.2) else 0) ≥ ht
  · try simp -implicitDefEqProofs (maxSteps := 2000000) (disch := first | with_reducible exact Nat.ne_of_beq_eq_false rfl | exact oneCell_int | exact oneCell_bool | omega | rfl | (simp; done) | fail) only [show decide ((if is (m.1, m.2) = true then hv (m.1, m.2) else 0) ≥ ht) = true from decide_eq_true hb2, pick_tp, HL.cond_true, gd_tf]
    have hsk : skipB from_ ht hv is TL m = true := by unfold skipB; rw [show decide ((if is m = true then hv m else 0) ≥ ht) = true from decide_eq_true hb2, Bool.true_or, Bool.or_true]
    rw [if_pos hsk] at estep
    exact done bb estep h3 s4 d3
  try simp -implicitDefEqProofs (maxSteps := 2000000) (disch := first | with_reducible exact Nat.ne_of_beq_eq_false rfl | exact oneCell_int | exact oneCell_bool | omega | rfl | (simp; done) | fail) only [show decide ((if is (m.1, m.2) = true then hv (m.1, m.2) else 0) ≥ ht) = false from decide_eq_false hb2, pick_fp, gd_ff, cf36, pureW_sv, ld28p, add_mk, Nat.add_zero, cx, List.getElem?_cons_zero, Option.some.injEq, Nat.zero_add, List.getElem?_cons_succ, exists_eq_left', ld69p, cv0, pureW_nil, fa74_3p, ld22p, cyp]
  refine (contains_spec (c := m) ((tw G).up (s4.in 6 rfl) d3) hTL).mono ?_
  rintro _ h3 ⟨rfl, rfl⟩
  by_cases hb3 : m ∈ TL
  · try simp -implicitDefEqProofs (disch := first | with_reducible exact Nat.ne_of_beq_eq_false rfl | omega) only [decide_eq_true hb3, HL.cond_true]
    have hsk : skipB from_ ht hv is TL m = true := by unfold skipB; rw [decide_eq_true hb3, Bool.or_true, Bool.or_true]
    rw [if_pos hsk] at estep
    exact done bb estep h3 s4 d3
  have hsk : skipB from_ ht hv is TL m = false := by
    unfold skipB
    rw [hb1, decide_eq_false hb3, show decide ((if is m = true then hv m else 0) ≥ ht) = false from decide_eq_false hb2]
    rfl
  rw [if_neg (by rw [hsk]; decide)] at estep
  try simp -implicitDefEqProofs (disch := first | with_reducible exact Nat.ne_of_beq_eq_false rfl | omega) only [decide_eq_false hb3, HL.cond_false]
  unfold S37_b2_k3
  have store : ∀ (K2 : Hp → Prop), nearer from_ bb m = true → (∀ h5, (h5 l = some ob ∧ ∃ a', HL.Sep [a', q] (h5.set l (o none)) ∧ Dis G (h5.set l (o none)) ∧ PY ya w l xb xo v0 v1 yp (o none) from_ (skipB from_ ht hv is TL) (L ++ [m]) a') → K2 h5) → K2 ((h3.set xb (cellO m)).set xo (boolO true)) := by
    intro K2 hn H
    rw [if_pos hn] at estep
    refine H _ (done (some m) estep _ ?_ ((d3.set (d3 _ _ (s4.at 3 rfl set_self))).set (d3 _ _ (s4.at 4 rfl set_self))))
    have s5 := (s4.pick 3 rfl rfl).put (o := cellO m) set_self
    rw [set_set] at s5
    have s6 := (s5.pick 4 rfl rfl).put (o := boolO true) set_self
    rw [set_set] at s6
    exact (((s6.pick 1 rfl rfl).pick 4 rfl rfl).pick 4 rfl rfl).pick 4 rfl rfl
  have nbo : xo ≠ xb := fun e => by
    rcases (s4.pick 3 rfl rfl).apart (b := noHp.set xo (boolO bb.isSome)) (by simp) xb with k | k
    · rw [set_self] at k; cases k
    · rw [← e, set_self] at k; cases k
  have hxb : h3 xb = some (cellO (bCell bb)) := s4.at 3 rfl set_self
  have hxo : h3 xo = some (boolO bb.isSome) := s4.at 4 rfl set_self
  have hxo' : (h3.set xb (cellO m)) xo = some (boolO bb.isSome) := by rw [set_other nbo]; exact hxo
  cases hbb' : bb with
  | none =>
    subst hbb'
    refine ⟨h3, Hp.le.refl h3, ?_⟩
    try simp -implicitDefEqProofs (disch := first | with_reducible exact Nat.ne_of_beq_eq_false rfl | omega) only [upd_ne, r7, upd_eq, cf31, r6, opH_su, opH_sv, ld28, add_mk, Nat.add_zero, Nat.zero_add, pureW_sv, ld4p, cxo, Option.isSome_none, List.getElem?_cons_zero, Option.some.injEq, exists_eq_left', un_notp, Bool.not_false, pick_tp, HL.cond_true, gd_tf, cx, List.getElem?_cons_succ]
    rw [st_cell hxb, st_bool hxo']
    exact store _ rfl fun h5 H => H
  | some z =>
    subst hbb'
    refine ⟨h3, Hp.le.refl h3, ?_⟩
    try simp -implicitDefEqProofs (disch := first | with_reducible exact Nat.ne_of_beq_eq_false rfl | omega) only [upd_ne, r7, r3, upd_eq, cf31, r6, opH_su, opH_sv, ld28, add_mk, Nat.add_zero, Nat.zero_add, pureW_sv, ld4p, cxo, Option.isSome_some, List.getElem?_cons_zero, Option.some.injEq, exists_eq_left', un_notp, Bool.not_true, pick_fp, gd_ff, ld28p, cxb, List.getElem?_cons_succ, cv1, cx]
    refine (away_spec (a := from_) (b := m)).mono ?_
    rintro _ h3 ⟨rfl, rfl⟩
    refine ⟨Hp.le.refl h3, ?_⟩
    try simp -implicitDefEqProofs only [opH_sv, opH_su, pureW_sv, opH_nil, pureW_nil, pick_t, pick_f, pick_tp, pick_fp, gd_tt, gd_ft, gd_tf, gd_ff, box_new, regs0, regs1, regs2, regs3, regs4, regs5, regs6, cells_agg, cells_int, cells_bool, cells_ptr, cells_slice, cells_string, cells_func, cells_nilFunc, cells_map, retK_ret, retK_normal, resL_tmp, resL_cell, resL_nil0, resL_nil1, resL_nil2, resL_nil3, resC_ptr, ex0, ex1, ex2, ex0p, ex1p, ex2p, HL.cond_true, HL.cond_false, thenK_normal, thenK_ret, thenK_exit, blockK_normal, blockK_ret, blockK_exit, scopeK_normal, scopeK_ret, scopeK_exit, wpH_pure, bin_add, bin_sub, bin_mul, bin_lss, bin_leq, bin_gtr, bin_geq, bin_quo, bin_rem, bin_quop, bin_remp, wrap_in, bin_addp, bin_subp, bin_mulp, bin_lssp, bin_leqp, bin_gtrp, bin_geqp, un_not, un_notp, un_neg, eq_int, ne_int, eq_intp, ne_intp, callV_fn, add_mk, upd_eq, upd_ne, cell_set_self, Nat.zero_add, Nat.add_zero, Option.some.injEq, exists_eq_left', List.getElem?_cons_succ, List.getElem?_cons_zero, true_and, and_true, bne_self_eq_false, beq_self_eq_true, Bool.not_true, Bool.not_false, Bool.and_true, Bool.and_self, Bool.and_false, Bool.true_and, List.length_cons, List.length_nil, ne_eq, not_false_eq_true, Nat.reduceAdd, Nat.reduceMul, if_true, if_false, oneCell_int, oneCell_bool, oneCell_ptr, oneCell_slice, oneCell_string, oneCell_func, oneCell_map, Int.toNat_natCast, List.set_cons_zero, List.set_cons_succ, Nat.lt_irrefl, Nat.zero_lt_succ, Nat.succ_lt_succ_iff, fa26_0, fa26_0p, fa26_1, fa26_1p, fa26_10, fa26_10p, fa26_11, fa26_11p, fa26_12, fa26_12p, fa26_13, fa26_13p, fa26_14, fa26_14p, fa26_15, fa26_15p, fa26_2, fa26_2p, fa26_3, fa26_3p, fa26_4, fa26_4p, fa26_5, fa26_5p, fa26_6, fa26_6p, fa26_7, fa26_7p, fa26_8, fa26_8p, fa26_9, fa26_9p, fa28_0, fa28_0p, fa28_1, fa28_1p, fa45_0, fa45_0p, fa45_1, fa45_1p, fa45_2, fa45_2p, fa45_3, fa45_3p, fa45_4, fa45_4p, fa45_5, fa45_5p, fa45_6, fa45_6p, fa49_0, fa49_0p, fa49_1, fa49_1p, fa74_0, fa74_0p, fa74_1, fa74_1p, fa74_2, fa74_2p, fa74_3, fa74_3p, fa85_0, fa85_0p, fa85_1, fa85_1p, fa93_0, fa93_0p, fa93_1, fa93_1p, fa93_2, fa93_2p, ld3, ld3p, ld4, ld4p, ld22, ld22p, ld23, ld23p, ld24, ld24p, ld26, ld26p, ld28, ld28p, ld42, ld42p, ld45, ld45p, ld49, ld49p, ld58, ld58p, ld69, ld69p, ld72, ld72p, ld85, ld85p, st3s, st4s, st22s, st23s, st24s, st26w, st28w, st42s, st45w, st49w, st85w, ix22, ix22p, ix23, ix23p, ix24, ix24p, ix31, ix31p, ix42, ix42p, ix104, ix104p, ln22, ln22p, ln23, ln23p, ln24, ln24p, ln31, ln31p, ln42, ln42p, al4, al22, al26, al28, al42, al49, al85, cf10, cf11, cf12, cf13, cf14, cf15, cf16, cf17, cf18, cf19, cf20, cf21, cf22, cf23, cf24, cf25, cf26, cf27, cf28, cf29, cf30, cf31, cf32, cf33, cf34, cf35, cf36, cf37, cf38, cf39, cf40, cf41, cf42, cf43, cf44, cf45, cf46, cf47, cf48, cf49, cf50, cf51, cf52, cf53, cf54, cf55, cf56, cf57, cf58, cf59, cf60, cf61, cf62, cf63, cf64, cf65, cf66, cf67, cf68, cf69, cf70, cf71, cf72, cf73, cf74, cf75, bd26_0_1_2_7_8_9_10_11_12_13_14_4_15, bd26_0_1_2_7_8_9_10_11_12_13_14_4_15p, bd28_, bd28_p, bd28_0, bd28_0p, bd28_0_1, bd28_0_1p, bd45_1_3_4_5_6, bd45_1_3_4_5_6p, bd49_0_1, bd49_0_1p, bd49_1, bd49_1p, bd74_0_1_2_3, bd74_0_1_2_3p, bd85_0, bd85_0p, bd85_0_1, bd85_0_1p, bd93_0_1_2, bd93_0_1_2p, bd94_0_1_2_3, bd94_0_1_2_3p, bs42_1_0, bs22_1_0, bs24_1_0, bs42_3_0_1_2, bs31_1_0, bs22_2_0_1, bs42_6_0_1_2_3_4_5, bs42_0_, eq4, eq4p, eq28, eq28p, eq42n, eq42np, eq42s, eq42sp, eq58n, eq58np, eq58s, eq58sp, eq63n, eq63np, eq63s, eq63sp, ne28, ne28p, ne45, ne45p, r3, r6, r7, cxo, cxb, cv1, cx]
    refine (away_spec (a := from_) (b := z)).mono ?_
    rintro _ h3 ⟨rfl, rfl⟩
    try simp -implicitDefEqProofs only [bin_lssp]
    refine cond_dec (fun hlt => ?_) (fun hge => ?_)
    · try simp -implicitDefEqProofs only [cx, List.getElem?_cons_zero, Option.some.injEq, List.getElem?_cons_succ, exists_eq_left']
      rw [st_cell hxb, st_bool hxo']
      exact store _ (by unfold nearer; exact decide_eq_true hlt) fun h5 H => H
    · try simp -implicitDefEqProofs only [opH_sv, opH_su, pureW_sv, opH_nil, pureW_nil, pick_t, pick_f, pick_tp, pick_fp, gd_tt, gd_ft, gd_tf, gd_ff, box_new, regs0, regs1, regs2, regs3, regs4, regs5, regs6, cells_agg, cells_int, cells_bool, cells_ptr, cells_slice, cells_string, cells_func, cells_nilFunc, cells_map, retK_ret, retK_normal, resL_tmp, resL_cell, resL_nil0, resL_nil1, resL_nil2, resL_nil3, resC_ptr, ex0, ex1, ex2, ex0p, ex1p, ex2p, HL.cond_true, HL.cond_false, thenK_normal, thenK_ret, thenK_exit, blockK_normal, blockK_ret, blockK_exit, scopeK_normal, scopeK_ret, scopeK_exit, wpH_pure, bin_add, bin_sub, bin_mul, bin_lss, bin_leq, bin_gtr, bin_geq, bin_quo, bin_rem, bin_quop, bin_remp, wrap_in, bin_addp, bin_subp, bin_mulp, bin_lssp, bin_leqp, bin_gtrp, bin_geqp, un_not, un_notp, un_neg, eq_int, ne_int, eq_intp, ne_intp, callV_fn, add_mk, upd_eq, upd_ne, cell_set_self, Nat.zero_add, Nat.add_zero, Option.some.injEq, exists_eq_left', List.getElem?_cons_succ, List.getElem?_cons_zero, true_and, and_true, bne_self_eq_false, beq_self_eq_true, Bool.not_true, Bool.not_false, Bool.and_true, Bool.and_self, Bool.and_false, Bool.true_and, List.length_cons, List.length_nil, ne_eq, not_false_eq_true, Nat.reduceAdd, Nat.reduceMul, if_true, if_false, oneCell_int, oneCell_bool, oneCell_ptr, oneCell_slice, oneCell_string, oneCell_func, oneCell_map, Int.toNat_natCast, List.set_cons_zero, List.set_cons_succ, Nat.lt_irrefl, Nat.zero_lt_succ, Nat.succ_lt_succ_iff, fa26_0, fa26_0p, fa26_1, fa26_1p, fa26_10, fa26_10p, fa26_11, fa26_11p, fa26_12, fa26_12p, fa26_13, fa26_13p, fa26_14, fa26_14p, fa26_15, fa26_15p, fa26_2, fa26_2p, fa26_3, fa26_3p, fa26_4, fa26_4p, fa26_5, fa26_5p, fa26_6, fa26_6p, fa26_7, fa26_7p, fa26_8, fa26_8p, fa26_9, fa26_9p, fa28_0, fa28_0p, fa28_1, fa28_1p, fa45_0, fa45_0p, fa45_1, fa45_1p, fa45_2, fa45_2p, fa45_3, fa45_3p, fa45_4, fa45_4p, fa45_5, fa45_5p, fa45_6, fa45_6p, fa49_0, fa49_0p, fa49_1, fa49_1p, fa74_0, fa74_0p, fa74_1, fa74_1p, fa74_2, fa74_2p, fa74_3, fa74_3p, fa85_0, fa85_0p, fa85_1, fa85_1p, fa93_0, fa93_0p, fa93_1, fa93_1p, fa93_2, fa93_2p, ld3, ld3p, ld4, ld4p, ld22, ld22p, ld23, ld23p, ld24, ld24p, ld26, ld26p, ld28, ld28p, ld42, ld42p, ld45, ld45p, ld49, ld49p, ld58, ld58p, ld69, ld69p, ld72, ld72p, ld85, ld85p, st3s, st4s, st22s, st23s, st24s, st26w, st28w, st42s, st45w, st49w, st85w, ix22, ix22p, ix23, ix23p, ix24, ix24p, ix31, ix31p, ix42, ix42p, ix104, ix104p, ln22, ln22p, ln23, ln23p, ln24, ln24p, ln31, ln31p, ln42, ln42p, al4, al22, al26, al28, al42, al49, al85, cf10, cf11, cf12, cf13, cf14, cf15, cf16, cf17, cf18, cf19, cf20, cf21, cf22, cf23, cf24, cf25, cf26, cf27, cf28, cf29, cf30, cf31, cf32, cf33, cf34, cf35, cf36, cf37, cf38, cf39, cf40, cf41, cf42, cf43, cf44, cf45, cf46, cf47, cf48, cf49, cf50, cf51, cf52, cf53, cf54, cf55, cf56, cf57, cf58, cf59, cf60, cf61, cf62, cf63, cf64, cf65, cf66, cf67, cf68, cf69, cf70, cf71, cf72, cf73, cf74, cf75, bd26_0_1_2_7_8_9_10_11_12_13_14_4_15, bd26_0_1_2_7_8_9_10_11_12_13_14_4_15p, bd28_, bd28_p, bd28_0, bd28_0p, bd28_0_1, bd28_0_1p, bd45_1_3_4_5_6, bd45_1_3_4_5_6p, bd49_0_1, bd49_0_1p, bd49_1, bd49_1p, bd74_0_1_2_3, bd74_0_1_2_3p, bd85_0, bd85_0p, bd85_0_1, bd85_0_1p, bd93_0_1_2, bd93_0_1_2p, bd94_0_1_2_3, bd94_0_1_2_3p, bs42_1_0, bs22_1_0, bs24_1_0, bs42_3_0_1_2, bs31_1_0, bs22_2_0_1, bs42_6_0_1_2_3_4_5, bs42_0_, eq4, eq4p, eq28, eq28p, eq42n, eq42np, eq42s, eq42sp, eq58n, eq58np, eq58s, eq58sp, eq63n, eq63np, eq63s, eq63sp, ne28, ne28p, ne45, ne45p]
      rw [if_neg (by unfold nearer; simpa using hge)] at estep
      exact done (some z) estep h3 s4 d3

end Go.Proofs.YtangejiigopdaaaDoor
end

section
/- The place for a bin: the walk. -/
set_option linter.unusedSimpArgs false
set_option linter.unusedVariables false
set_option maxRecDepth 100000
namespace Go.Proofs.YtangejiigopdaaaDoor
open Go Go.HL

theorem feed_all {α : Type} : ∀ {M L : List α}, feed (fun _ => true) L M = (L ++ M, true)
  | [], L => by simp [feed]
  | m :: M, L => by rw [feed_t rfl, feed_all]; simp

set_option maxHeartbeats 4000000 in
theorem place_in {G h ya ga w : Hp} {yp gp kb mb wn k : Nat} {f : Nat → Nat → Int} {from_ : Cell} {ht : Int} {hv : Cell → Int} {is : Cell → Bool} {TL : List Cell} {tv : Value} (s : HL.Sep [ya, ga, w] h) (yo : YardO ya yp gp mb ht tv hv is) (go : GO ga gp kb wn k f) (tw : ∀ G, Sees cellC G w tv TL) (hTL : TL.length ≤ 100000000000000) :
    HCalls Tryd.prog G 37 #[.pointer (some ⟨yp, 0, none⟩), cellV from_] h (fun u h' => u = .tuple #[cellV (bCell (bestL from_ (skipB from_ ht hv is TL) none (stacksW wn k f))), .bool (bestL from_ (skipB from_ ht hv is TL) none (stacksW wn k f)).isSome] ∧ HL.Sep [ya, ga, w] h' ∧ Dis G h') := by
  refine HCalls.assume fun d => enter37 (by simp) ?_
  unfold S37
  simp -implicitDefEqProofs only [regs0, regs1, cf30, opH_sv, opH_su, al4, al28, bd28_, box_new, cells_agg, cells_ptr, ld69]
  intro v0 hv0 gv0 v1 hv1 gv1 v2 hv2 gv2 xb hxb gxb xo hxo gxo
  have s1 := s.new (o := .cells #[.pointer (some ⟨yp, 0, none⟩)] 69 (0, 0)) hv0
  have d1 := d.set (o := .cells #[.pointer (some ⟨yp, 0, none⟩)] 69 (0, 0)) gv0
  generalize Hp.set h v0 _ = h1 at s1 d1 hv1 hv2 hxb hxo ⊢
  have s2 := s1.new (o := cellO from_) hv1
  have d2 := d1.set (o := cellO from_) gv1
  generalize Hp.set h1 v1 _ = h2 at s2 d2 hv2 hxb hxo ⊢
  have s3 := s2.new (o := cellO (0, 0)) hv2
  have d3 := d2.set (o := cellO (0, 0)) gv2
  generalize Hp.set h2 v2 _ = h3 at s3 d3 hxb hxo ⊢
  have s4 := s3.new (o := cellO (0, 0)) hxb
  have d4 := d3.set (o := cellO (0, 0)) gxb
  generalize Hp.set h3 xb _ = h4 at s4 d4 hxo ⊢
  have s5 := s4.new (o := boolO false) hxo
  have d5 := d4.set (o := boolO false) gxo
  generalize Hp.set h4 xo _ = h5 at s5 d5 ⊢
  have hxb5 : h5 xb = some (cellO (0, 0)) := s5.at 1 rfl set_self
  have nbo : xo ≠ xb := fun e => by
    rcases s5.apart (b := noHp.set xb (cellO (0, 0))) (by simp) xb with k | k
    · rw [← e, set_self] at k; cases k
    · rw [set_self] at k; cases k
  have hxo5 : (h5.set xb (cellO (0, 0))) xo = some (boolO false) := by rw [set_other nbo]; exact s5.at 0 rfl set_self
  rw [st_cell (m := (0, 0)) hxb5, st_bool hxo5]
  have s6 := (s5.pick 1 rfl rfl).put (o := cellO (0, 0)) set_self
  rw [set_set] at s6
  have s7 := (s6.pick 1 rfl rfl).put (o := boolO false) set_self
  rw [set_set] at s7
  have d7 := (d5.set (o := cellO (0, 0)) gxb).set (o := boolO false) gxo
  generalize Hp.set (Hp.set h5 xb _) xo _ = h7 at s7 d7 ⊢
  have s8 : HL.Sep [noHp.set xo (boolO false), noHp.set xb (cellO (0, 0)), noHp.set v2 (cellO (0, 0)), noHp.set v1 (cellO from_), noHp.set v0 (.cells #[.pointer (some ⟨yp, 0, none⟩)] 69 (0, 0)), ya, ga, w] h7 := s7
  clear s7 s6 s5 s4 s3 s2 s1 d5 d4 d3 d2 d1 hxb5 hxo5 hxo hxb hv2 hv1 hv0
  obtain ⟨om, C, ab, cb, ap, cp, ar, cr, az, cs, ty, mi⟩ := id yo
  have cyp : ∀ j, cellIn G h7 ⟨yp, j, none⟩ = _ := fun j => cell_of (look_own (s8.in 5 rfl _ _ (ty.at 0 rfl set_self)))
  have cv0 : ∀ j, cellIn G h7 ⟨v0, j, none⟩ = _ := fun j => cell_of (look_own (s8.at 4 rfl set_self))
  try simp -implicitDefEqProofs only [cv0, List.getElem?_cons_zero, Option.some.injEq, exists_eq_left', opH_nil, fa74_1, add_mk, Nat.zero_add, ld58, cyp, List.getElem?_cons_succ]
  refine stacks_new.mono ?_
  rintro _ _ ⟨b1, rfl, hb1, gb1, rfl⟩
  have s9 := s8.new (o := .cells #[.pointer (some ⟨gp, 0, none⟩)] 58 (0, 0)) hb1
  have d9 := d7.set (o := .cells #[.pointer (some ⟨gp, 0, none⟩)] 58 (0, 0)) gb1
  generalize Hp.set h7 b1 _ = h9 at s9 d9 ⊢
  intro y' l o hl gl ho HY
  rw [opE55]
  have s10 := s9.new (o := o none) hl
  have d10 := d9.set (o := o none) gl
  generalize Hp.set h9 l _ = h10 at s10 d10 ⊢
  -- what the rounds have, and what the telling has
  have s11 : HL.Sep [ga, noHp.set b1 (.cells #[.pointer (some ⟨gp, 0, none⟩)] 58 (0, 0)), noHp.set v2 (cellO (0, 0)), noHp.set l (o none), noHp.set xo (boolO false), noHp.set xb (cellO (0, 0)), noHp.set v1 (cellO from_), noHp.set v0 (.cells #[.pointer (some ⟨yp, 0, none⟩)] 69 (0, 0)), ya, w] h10 := ((s10.pick 4 rfl rfl).pick 2 rfl rfl).pick 8 rfl rfl
  obtain ⟨qq, s12, tq⟩ := s11.pack3
  have s13 : HL.Sep ([noHp.set l (o none), noHp.set xo (boolO false), noHp.set xb (cellO (0, 0)), noHp.set v1 (cellO from_), noHp.set v0 (.cells #[.pointer (some ⟨yp, 0, none⟩)] 69 (0, 0)), ya, w] ++ [qq]) h10 := permute s12 (List.perm_append_comm (l₁ := [qq]))
  obtain ⟨aa, s14, ta⟩ := packAll s13
  have py : PY ya w l xb xo v0 v1 yp (o none) from_ (skipB from_ ht hv is TL) [] aa := by
    exact ((((((ta.pick 3 rfl rfl).pick 4 rfl rfl).pick 6 rfl rfl).pick 6 rfl rfl).pick 5 rfl rfl).pick 6 rfl rfl).pick 6 rfl rfl
  refine (stacks1_spec (place_yield gl ho yo tw hTL (by simp -implicitDefEqProofs (disch := first | with_reducible exact Nat.ne_of_beq_eq_false rfl | omega) only [upd_ne, upd_eq]) (by simp -implicitDefEqProofs (disch := first | with_reducible exact Nat.ne_of_beq_eq_false rfl | omega) only [upd_ne, upd_eq]) (by simp -implicitDefEqProofs (disch := first | with_reducible exact Nat.ne_of_beq_eq_false rfl | omega) only [upd_ne, upd_eq]) (by simp -implicitDefEqProofs (disch := first | with_reducible exact Nat.ne_of_beq_eq_false rfl | omega) only [upd_ne, upd_eq]) HY) py s14 (tq.at 1 rfl set_self) ((go.gs (G := G)).up (tq.in 0 rfl) (fun b o e => d10 b o (s14.in 1 rfl _ _ e)))).mono ?_
  rintro _ h12 ⟨a12, s15, d15, z⟩
  rw [feed_all, List.nil_append] at z
  have py2 : PY ya w l xb xo v0 v1 yp (o none) from_ (skipB from_ ht hv is TL) (stacksW wn k f) a12 := z
  unfold PY at py2
  clear z
  generalize bestL from_ (skipB from_ ht hv is TL) none (stacksW wn k f) = bb at py2 ⊢
  have s16 := HL.Sep.split s15.swap py2
  have s17 : HL.Sep (noHp.set l (o none) :: ([ga, noHp.set b1 (.cells #[.pointer (some ⟨gp, 0, none⟩)] 58 (0, 0)), noHp.set v2 (cellO (0, 0))] ++ [noHp.set xb (cellO (bCell bb)), noHp.set xo (boolO bb.isSome), ya, w, noHp.set v0 (.cells #[.pointer (some ⟨yp, 0, none⟩)] 69 (0, 0)), noHp.set v1 (cellO from_)])) h12 := HL.Sep.split (s16.swap) tq
  have s18 : HL.Sep ([ga, noHp.set b1 (.cells #[.pointer (some ⟨gp, 0, none⟩)] 58 (0, 0)), noHp.set v2 (cellO (0, 0)), noHp.set xb (cellO (bCell bb)), noHp.set xo (boolO bb.isSome), ya, w, noHp.set v0 (.cells #[.pointer (some ⟨yp, 0, none⟩)] 69 (0, 0)), noHp.set v1 (cellO from_)] ++ [noHp.set l (o none)]) h12 := permute s17 (List.perm_append_comm (l₁ := [noHp.set l (o none)]))
  obtain ⟨a20, s20, t20⟩ := packAll s18
  refine ⟨a20, s20.in 0 rfl, ?_, .inl ⟨s20.at 1 rfl set_self, ?_⟩⟩
  · rcases s20.apart (b := noHp.set l (o none)) (by simp) l with e | e
    · exact e
    · rw [set_self] at e; cases e
  have d20 : Dis G a20 := fun b o e => d15 b o (s20.in 0 rfl _ _ e)
  have t21 := (t20.pick 4 rfl rfl).pick 4 rfl rfl
  obtain ⟨qx, t22, tx⟩ := pack2 t21
  have t23 : HL.Sep [qx, ga, noHp.set b1 (.cells #[.pointer (some ⟨gp, 0, none⟩)] 58 (0, 0)), noHp.set v2 (cellO (0, 0)), ya, w, noHp.set v0 (.cells #[.pointer (some ⟨yp, 0, none⟩)] 69 (0, 0)), noHp.set v1 (cellO from_)] a20 := t22
  try simp -implicitDefEqProofs only [blockK_normal, thenK_normal]
  unfold S37_k1
  refine ⟨qx, t23.in 0 rfl, ?_⟩
  have cb : ∀ j, cellIn G qx ⟨xb, j, none⟩ = _ := fun j => cell_of (look_own (tx.at 0 rfl set_self))
  have co : ∀ j, cellIn G qx ⟨xo, j, none⟩ = _ := fun j => cell_of (look_own (tx.at 1 rfl set_self))
  have hv2 : a20 v2 = some (cellO (0, 0)) := t23.at 3 rfl set_self
  try simp -implicitDefEqProofs (disch := first | with_reducible exact Nat.ne_of_beq_eq_false rfl | omega) only [upd_ne, upd_eq, retK_ret, resL_cell, resC_ptr, resL_tmp, resL_nil2, ld28, add_mk, Nat.add_zero, Nat.zero_add, opH_su, pureW_sv, ld4p, co, List.getElem?_cons_zero, Option.some.injEq, exists_eq_left', ld28p, cb, List.getElem?_cons_succ]
  rw [st_cell (m := bCell bb) hv2]
  have t24 := (t23.pick 3 rfl rfl).put (o := cellO (bCell bb)) set_self
  rw [set_set] at t24
  have d24 := d20.set (o := cellO (bCell bb)) (d20 _ _ hv2)
  generalize Hp.set a20 v2 _ = h24 at t24 d24 ⊢
  have t25 : HL.Sep [noHp.set v2 (cellO (bCell bb)), qx, ga, noHp.set b1 (.cells #[.pointer (some ⟨gp, 0, none⟩)] 58 (0, 0)), ya, w, noHp.set v0 (.cells #[.pointer (some ⟨yp, 0, none⟩)] 69 (0, 0)), noHp.set v1 (cellO from_)] h24 := t24
  refine ⟨t25.in 1 rfl, ?_⟩
  have c2 : ∀ j, cellIn G h24 ⟨v2, j, none⟩ = _ := fun j => cell_of (look_own (t25.at 0 rfl set_self))
  try simp -implicitDefEqProofs only [c2, List.getElem?_cons_zero, Option.some.injEq, List.getElem?_cons_succ, exists_eq_left', true_and]
  exact ⟨(((t25.pick 5 rfl rfl).pick 3 rfl rfl).pick 5 rfl rfl).take 3 rfl, d24⟩

/-- The place, among other pieces. -/
theorem place_walk {G h ya ga w : Hp} {R : List Hp} {yp gp kb mb wn k : Nat} {f : Nat → Nat → Int} {from_ : Cell} {ht : Int} {hv : Cell → Int} {is : Cell → Bool} {TL : List Cell} {tv : Value} (s : HL.Sep (ya :: ga :: w :: R) h) (yo : YardO ya yp gp mb ht tv hv is) (go : GO ga gp kb wn k f) (tw : ∀ G, Sees cellC G w tv TL) (hTL : TL.length ≤ 100000000000000) :
    HCalls Tryd.prog G 37 #[.pointer (some ⟨yp, 0, none⟩), cellV from_] h (fun u h' => u = .tuple #[cellV (bCell (bestL from_ (skipB from_ ht hv is TL) none (stacksW wn k f))), .bool (bestL from_ (skipB from_ ht hv is TL) none (stacksW wn k f)).isSome] ∧ HL.Sep (ya :: ga :: w :: R) h' ∧ Dis G h') := by
  obtain ⟨b, s1, t1⟩ := s.pack3
  refine (s1.on (place_in t1 yo go tw hTL)).mono ?_
  rintro _ h' ⟨b', ⟨rfl, t2, _⟩, s2, d2⟩
  refine ⟨rfl, ?_, d2⟩
  cases R with
  | nil =>
    have := HL.Sep.split (s2.none) t2
    rw [List.append_nil] at this
    exact this.drop
  | cons c R =>
    have := HL.Sep.split s2.swap t2
    exact permute this (by
      refine List.Perm.trans (List.Perm.cons _ (List.perm_append_comm (l₁ := [ya, ga, w]))) ?_
      exact List.perm_append_comm (l₁ := c :: R))

end Go.Proofs.YtangejiigopdaaaDoor
end

section
/- The reference: bins of a cell, a cell among others. -/
set_option linter.unusedSimpArgs false
set_option linter.unusedVariables false
set_option maxRecDepth 100000
namespace Go.Proofs.YtangejiigopdaaaDoor
open Go Go.HL

end Go.Proofs.YtangejiigopdaaaDoor
end

section
/- The reference: the place. -/
set_option linter.unusedSimpArgs false
set_option linter.unusedVariables false
set_option maxRecDepth 100000
namespace Go.Proofs.YtangejiigopdaaaDoor
open Go Go.HL

def skipR (from_ : Cell) (ht : Int) (S : List Stk) (TL GL : List Cell) (c : Cell) : Bool := (c == from_ || decide (c ∈ TL)) || decide (hgt S c + (GL.count c : Int) ≥ ht)

theorem bins_le {n : Nat} {c : Cell} : ∀ {S : List Stk}, (∀ s ∈ S, s.2.length ≤ n) → (binsL S c).length ≤ n
  | [], _ => Nat.zero_le _
  | s :: S, h => by
    rw [binsL]
    split
    · exact h s (.head _)
    · exact bins_le fun x hx => h x (.tail _ hx)

end Go.Proofs.YtangejiigopdaaaDoor
end

section
/- Place, the program's and the reference's. -/
set_option linter.unusedSimpArgs false
set_option linter.unusedVariables false
set_option maxRecDepth 100000
namespace Go.Proofs.YtangejiigopdaaaDoor
open Go Go.HL

end Go.Proofs.YtangejiigopdaaaDoor
end

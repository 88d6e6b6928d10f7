/- A text of the proofs. -/
import Derived.Test.YtnpdploihlgcgaaDoorGI
set_option linter.unusedVariables false
set_option maxRecDepth 100000
namespace Go.Proofs.YtnpdploihlgcgaaDoor
open Go Go.HL
def md16 : Nat → Hint
  | 6 => ⟨false, [0, 0, 2, 0, 14, 30, 63, 127, 255, 511, 1023, 511, 2559, 511, 14847, 31231, 65535, 131071, 262143, 524287, 1048575, 2097151, 1048575, 5242879, 1048575, 30408703, 63963135, 134217727, 268435455, 536870911], [.pureM, .pureN, .pureM, .pureN, .pureN, .pureM, .eff, .pureN, .pureN, .pureN, .pureM, .pureN, .pureM, .pureN, .pureN, .pureM, .eff, .pureN, .pureN, .pureN, .pureN, .pureM, .pureN, .pureM, .pureN, .pureN, .pureM, .eff, .pureN, .pureN], [.pureM, .pureN, .pureM, .pureN, .pureN, .pureM, .eff, .pureN, .pureN, .pureN, .late, .pureN, .late, .pureN, .pureN, .late, .eff, .pureN, .pureN, .pureN, .pureN, .late, .pureN, .late, .pureN, .pureN, .late, .eff, .pureN, .pureN], [false, false, false, false, false, false, false, false, false, false, false, false, false, false, false, false, false, false, false, false, false, false, false, false, false, false, false, false, false, false], false⟩
  | 11 => ⟨false, [0, 0, 2, 0, 14, 30, 63, 127, 255, 511, 1023, 511, 2559, 511, 14847, 31231, 65535, 131071, 262143, 524287, 1048575, 1048575, 3145727, 1048575, 15728639, 32505855, 67108863, 134217727, 268435455, 536870911, 536870911, 1610612735, 536870911, 8053063679, 16642998271, 34359738367, 68719476735, 137438953471], [.pureM, .pureN, .pureM, .pureN, .pureN, .pureM, .eff, .pureN, .pureN, .pureN, .pureM, .pureN, .pureM, .pureN, .pureN, .pureM, .eff, .pureN, .pureN, .pureN, .pureM, .pureN, .pureM, .pureN, .pureN, .pureM, .eff, .pureN, .pureN, .pureM, .pureN, .pureM, .pureN, .pureN, .pureM, .eff, .pureN, .pureN], [.pureM, .pureN, .pureM, .pureN, .pureN, .pureM, .eff, .pureN, .pureN, .pureN, .late, .pureN, .late, .pureN, .pureN, .late, .eff, .pureN, .pureN, .pureN, .late, .pureN, .late, .pureN, .pureN, .late, .eff, .pureN, .pureN, .late, .pureN, .late, .pureN, .pureN, .late, .eff, .pureN, .pureN], [false, false, false, false, false, false, false, false, false, false, false, false, false, false, false, false, false, false, false, false, false, false, false, false, false, false, false, false, false, false, false, false, false, false, false, false, false, false], false⟩
  | 17 => ⟨false, [0, 0, 2, 0, 14, 30, 63, 127], [.pureM, .pureN, .pureM, .pureN, .pureN, .pureM, .eff, .pureN], [.pureM, .pureN, .pureM, .pureN, .pureN, .pureM, .eff, .pureN], [false, false, false, false, false, false, false, false], false⟩
  | _ => ⟨false, [], [], [], [], false⟩
def S16_k5 (G : Hp) (K : Exit → Rg → Hp → Prop) (r : Rg) (h : Hp) : Prop :=
  opH Tryd.prog G (sv (Instr.loadAt 26 (r 1))) h fun v19 h19 =>
  opH Tryd.prog G (callFunc 56 #[v19]) h19 fun v20 h20 =>
  K .ret (upd (upd (upd r 147 v19) 148 v20) 2 v20) h20
def S16_l6_k8 (G : Hp) (K : Exit → Rg → Hp → Prop) (r : Rg) (h : Hp) : Prop :=
  opH Tryd.prog G (sv (binOp .add 3 (r 7) (.int .i64 1))) h fun v23 h23 =>
  K .normal (upd (upd (upd r 138 (r 7)) 139 v23) 7 v23) h23
def S16_l6_k7 (G : Hp) (K : Exit → Rg → Hp → Prop) (r : Rg) (h : Hp) : Prop :=
  opH Tryd.prog G (sv (Instr.indexAt 22 (r 5) (r 7))) h fun v24 h24 =>
  opH Tryd.prog G (sv (Instr.loadAt 28 v24)) h24 fun v25 h25 =>
  opH Tryd.prog G (callFunc 53 #[(r 5), v25]) h25 fun v26 h26 =>
  opH Tryd.prog G (sv (binOp .gtr 3 v26 (.int .i64 1))) h26 fun v27 h27 =>
  cond v27
  (K .ret (upd (upd (upd (upd (upd (upd (upd (upd r 140 (r 5)) 141 (r 5)) 142 (r 7)) 143 v24) 144 v25) 145 v26) 146 v27) 2 (.bool false)) h27)
  (S16_l6_k8 G K (upd (upd (upd (upd (upd (upd (upd r 140 (r 5)) 141 (r 5)) 142 (r 7)) 143 v24) 144 v25) 145 v26) 146 v27) h27)
def S16_l6 (G : Hp) (r : Rg) (h : Hp) (K : Exit → Rg → Hp → Prop) : Prop :=
  opH Tryd.prog G (sv (Builtin.len_ #[22] 3 #[(r 5)])) h fun v21 h21 =>
  opH Tryd.prog G (sv (binOp .lss 3 (r 7) v21)) h21 fun v22 h22 =>
  cond v22
  (S16_l6_k7 G K (upd (upd (upd (upd r 134 (r 7)) 135 (r 5)) 136 v21) 137 v22) h22)
  (K (.exit 6) (upd (upd (upd (upd r 134 (r 7)) 135 (r 5)) 136 v21) 137 v22) h22)
def S16_k4 (G : Hp) (K : Exit → Rg → Hp → Prop) (r : Rg) (h : Hp) : Prop :=
  loopP (S16_l6 G) (upd r 7 (.int .i64 0)) h (blockK 6 (thenK (S16_k5 G K) K))
def S16_l9_k11 (G : Hp) (K : Exit → Rg → Hp → Prop) (r : Rg) (h : Hp) : Prop :=
  opH Tryd.prog G (sv (binOp .add 3 (r 6) (.int .i64 1))) h fun v32 h32 =>
  K .normal (upd (upd (upd r 116 (r 6)) 117 v32) 6 v32) h32
def S16_l9_k12 (G : Hp) (K : Exit → Rg → Hp → Prop) (r : Rg) (h : Hp) : Prop :=
  opH Tryd.prog G (sv (Instr.fieldAt 26 (r 1) 5)) h fun v40 h40 =>
  opH Tryd.prog G (sv (Instr.loadAt 23 v40)) h40 fun v41 h41 =>
  opH Tryd.prog G (sv (Instr.indexAt 23 v41 (r 6))) h41 fun v42 h42 =>
  opH Tryd.prog G (sv (Instr.loadAt 30 v42)) h42 fun v43 h43 =>
  opH Tryd.prog G (callFunc 22 #[v43]) h43 fun v44 h44 =>
  opH Tryd.prog G (sv (Builtin.append_ #[22, 22] 22 #[(r 5), v44])) h44 fun v45 h45 =>
  S16_l9_k11 G K (upd (upd (upd (upd (upd (upd (upd (upd (upd r 126 (r 5)) 127 v40) 128 v41) 129 (r 6)) 130 v42) 131 v43) 132 v44) 133 v45) 5 v45) h45
def S16_l9_k10 (G : Hp) (K : Exit → Rg → Hp → Prop) (r : Rg) (h : Hp) : Prop :=
  pureW Tryd.prog G h (sv (Instr.loadAt 26 (r 1))) h fun v33 h33 =>
  pureW Tryd.prog noHp noHp (sv (Instr.fieldAt 26 (r 1) 5)) h33 fun v34 h34 =>
  pureW Tryd.prog G h (sv (Instr.loadAt 23 v34)) h34 fun v35 h35 =>
  pureW Tryd.prog noHp noHp (sv (Instr.indexAt 23 v35 (r 6))) h35 fun v36 h36 =>
  pureW Tryd.prog G h (sv (Instr.loadAt 30 v36)) h36 fun v37 h37 =>
  opH Tryd.prog G (callFunc 24 #[v33, v37]) h37 fun v38 h38 =>
  pureW Tryd.prog noHp noHp (sv (Op.unary .not v38)) h38 fun v39 h39 =>
  cond v39
  (K .ret (upd (upd (upd (upd (upd (upd (upd (upd (upd r 118 v33) 119 v34) 120 v35) 121 (r 6)) 122 v36) 123 v37) 124 v38) 125 v39) 2 (.bool false)) h39)
  (S16_l9_k12 G K (upd (upd (upd (upd (upd (upd (upd (upd r 118 v33) 119 v34) 120 v35) 121 (r 6)) 122 v36) 123 v37) 124 v38) 125 v39) h39)
def S16_l9 (G : Hp) (r : Rg) (h : Hp) (K : Exit → Rg → Hp → Prop) : Prop :=
  opH Tryd.prog G (sv (Instr.fieldAt 26 (r 1) 5)) h fun v28 h28 =>
  opH Tryd.prog G (sv (Instr.loadAt 23 v28)) h28 fun v29 h29 =>
  opH Tryd.prog G (sv (Builtin.len_ #[23] 3 #[v29])) h29 fun v30 h30 =>
  opH Tryd.prog G (sv (binOp .lss 3 (r 6) v30)) h30 fun v31 h31 =>
  cond v31
  (S16_l9_k10 G K (upd (upd (upd (upd (upd r 111 (r 6)) 112 v28) 113 v29) 114 v30) 115 v31) h31)
  (K (.exit 4) (upd (upd (upd (upd (upd r 111 (r 6)) 112 v28) 113 v29) 114 v30) 115 v31) h31)
def S16_k3 (G : Hp) (K : Exit → Rg → Hp → Prop) (r : Rg) (h : Hp) : Prop :=
  loopP (S16_l9 G) (upd (upd r 5 (.slice none 0 0)) 6 (.int .i64 0)) h (blockK 4 (thenK (S16_k4 G K) K))
def S16_l13_k15 (G : Hp) (K : Exit → Rg → Hp → Prop) (r : Rg) (h : Hp) : Prop :=
  opH Tryd.prog G (sv (binOp .add 3 (r 4) (.int .i64 1))) h fun v50 h50 =>
  K .normal (upd (upd (upd r 71 (r 4)) 72 v50) 4 v50) h50
def S16_l13_k14 (G : Hp) (K : Exit → Rg → Hp → Prop) (r : Rg) (h : Hp) : Prop :=
  pureW Tryd.prog G h (sv (Instr.loadAt 26 (r 1))) h fun v51 h51 =>
  pureW Tryd.prog noHp noHp (sv (Instr.fieldAt 26 (r 1) 4)) h51 fun v52 h52 =>
  pureW Tryd.prog G h (sv (Instr.loadAt 22 v52)) h52 fun v53 h53 =>
  pureW Tryd.prog noHp noHp (sv (Instr.indexAt 22 v53 (r 4))) h53 fun v54 h54 =>
  pureW Tryd.prog G h (sv (Instr.loadAt 28 v54)) h54 fun v55 h55 =>
  opH Tryd.prog G (callFunc 52 #[v51, v55]) h55 fun v56 h56 =>
  pureW Tryd.prog noHp noHp (sv (Op.unary .not v56)) h56 fun v57 h57 =>
  gd (wantB v57 false) (pureW Tryd.prog noHp noHp (sv (Instr.fieldAt 26 (r 1) 4)) h57) h57 fun v58 h58 =>
  gd (wantB v57 false) (pureW Tryd.prog G h58 (sv (Instr.loadAt 22 v58)) h58) h58 fun v59 h59 =>
  gd (wantB v57 false) (pureW Tryd.prog noHp noHp (sv (Instr.fieldAt 26 (r 1) 4)) h59) h59 fun v60 h60 =>
  gd (wantB v57 false) (pureW Tryd.prog G h60 (sv (Instr.loadAt 22 v60)) h60) h60 fun v61 h61 =>
  gd (wantB v57 false) (fun K1 => K1 (r 4) h61) h61 fun v62 h62 =>
  gd (wantB v57 false) (pureW Tryd.prog noHp noHp (sv (Instr.indexAt 22 v61 v62)) h62) h62 fun v63 h63 =>
  gd (wantB v57 false) (pureW Tryd.prog G h63 (sv (Instr.loadAt 28 v63)) h63) h63 fun v64 h64 =>
  gd (wantB v57 false) (opH Tryd.prog G (callFunc 53 #[v59, v64]) h64) h64 fun v65 h65 =>
  gd (wantB v57 false) (pureW Tryd.prog noHp noHp (sv (binOp .gtr 3 v65 (.int .i64 1))) h65) h65 fun v66 h66 =>
  pureW Tryd.prog noHp noHp (xPick v57 (.bool true) v66) h66 fun v67 h67 =>
  gd (wantB v67 false) (pureW Tryd.prog G h67 (sv (Instr.loadAt 26 (r 1))) h67) h67 fun v68 h68 =>
  gd (wantB v67 false) (pureW Tryd.prog noHp noHp (sv (Instr.fieldAt 26 (r 1) 4)) h68) h68 fun v69 h69 =>
  gd (wantB v67 false) (pureW Tryd.prog G h69 (sv (Instr.loadAt 22 v69)) h69) h69 fun v70 h70 =>
  gd (wantB v67 false) (fun K1 => K1 (r 4) h70) h70 fun v71 h71 =>
  gd (wantB v67 false) (pureW Tryd.prog noHp noHp (sv (Instr.indexAt 22 v70 v71)) h71) h71 fun v72 h72 =>
  gd (wantB v67 false) (pureW Tryd.prog G h72 (sv (Instr.loadAt 28 v72)) h72) h72 fun v73 h73 =>
  gd (wantB v67 false) (opH Tryd.prog G (callFunc 54 #[v68, v73]) h73) h73 fun v74 h74 =>
  pureW Tryd.prog noHp noHp (xPick v67 (.bool true) v74) h74 fun v75 h75 =>
  gd (wantB v75 false) (pureW Tryd.prog G h75 (sv (Instr.loadAt 26 (r 1))) h75) h75 fun v76 h76 =>
  gd (wantB v75 false) (pureW Tryd.prog noHp noHp (sv (Instr.fieldAt 26 (r 1) 4)) h76) h76 fun v77 h77 =>
  gd (wantB v75 false) (pureW Tryd.prog G h77 (sv (Instr.loadAt 22 v77)) h77) h77 fun v78 h78 =>
  gd (wantB v75 false) (fun K1 => K1 (r 4) h78) h78 fun v79 h79 =>
  gd (wantB v75 false) (pureW Tryd.prog noHp noHp (sv (Instr.indexAt 22 v78 v79)) h79) h79 fun v80 h80 =>
  gd (wantB v75 false) (pureW Tryd.prog G h80 (sv (Instr.loadAt 28 v80)) h80) h80 fun v81 h81 =>
  gd (wantB v75 false) (opH Tryd.prog G (callFunc 55 #[v76, v81]) h81) h81 fun v82 h82 =>
  gd (wantB v75 false) (pureW Tryd.prog noHp noHp (sv (Op.unary .not v82)) h82) h82 fun v83 h83 =>
  pureW Tryd.prog noHp noHp (xPick v75 (.bool true) v83) h83 fun v84 h84 =>
  cond v84
  (K .ret (upd (upd (upd (upd (upd (upd (upd (upd (upd (upd (upd (upd (upd (upd (upd (upd (upd (upd (upd (upd (upd (upd (upd (upd (upd (upd (upd (upd (upd (upd (upd (upd (upd (upd (upd (upd (upd (upd (upd r 73 v51) 74 v52) 75 v53) 76 (r 4)) 77 v54) 78 v55) 79 v56) 80 v57) 81 v57) 82 v58) 83 v59) 84 v60) 85 v61) 86 v62) 87 v63) 88 v64) 89 v65) 90 v66) 91 v67) 92 v67) 93 v68) 94 v69) 95 v70) 96 v71) 97 v72) 98 v73) 99 v74) 100 v75) 101 v75) 102 v76) 103 v77) 104 v78) 105 v79) 106 v80) 107 v81) 108 v82) 109 v83) 110 v84) 2 (.bool false)) h84)
  (S16_l13_k15 G K (upd (upd (upd (upd (upd (upd (upd (upd (upd (upd (upd (upd (upd (upd (upd (upd (upd (upd (upd (upd (upd (upd (upd (upd (upd (upd (upd (upd (upd (upd (upd (upd (upd (upd (upd (upd (upd (upd r 73 v51) 74 v52) 75 v53) 76 (r 4)) 77 v54) 78 v55) 79 v56) 80 v57) 81 v57) 82 v58) 83 v59) 84 v60) 85 v61) 86 v62) 87 v63) 88 v64) 89 v65) 90 v66) 91 v67) 92 v67) 93 v68) 94 v69) 95 v70) 96 v71) 97 v72) 98 v73) 99 v74) 100 v75) 101 v75) 102 v76) 103 v77) 104 v78) 105 v79) 106 v80) 107 v81) 108 v82) 109 v83) 110 v84) h84)
def S16_l13 (G : Hp) (r : Rg) (h : Hp) (K : Exit → Rg → Hp → Prop) : Prop :=
  opH Tryd.prog G (sv (Instr.fieldAt 26 (r 1) 4)) h fun v46 h46 =>
  opH Tryd.prog G (sv (Instr.loadAt 22 v46)) h46 fun v47 h47 =>
  opH Tryd.prog G (sv (Builtin.len_ #[22] 3 #[v47])) h47 fun v48 h48 =>
  opH Tryd.prog G (sv (binOp .lss 3 (r 4) v48)) h48 fun v49 h49 =>
  cond v49
  (S16_l13_k14 G K (upd (upd (upd (upd (upd r 66 (r 4)) 67 v46) 68 v47) 69 v48) 70 v49) h49)
  (K (.exit 2) (upd (upd (upd (upd (upd r 66 (r 4)) 67 v46) 68 v47) 69 v48) 70 v49) h49)
def S16_k2 (G : Hp) (K : Exit → Rg → Hp → Prop) (r : Rg) (h : Hp) : Prop :=
  loopP (S16_l13 G) (upd r 4 (.int .i64 0)) h (blockK 2 (thenK (S16_k3 G K) K))
def S16_l16_k18 (G : Hp) (K : Exit → Rg → Hp → Prop) (r : Rg) (h : Hp) : Prop :=
  opH Tryd.prog G (sv (binOp .add 3 (r 3) (.int .i64 1))) h fun v89 h89 =>
  K .normal (upd (upd (upd r 34 (r 3)) 35 v89) 3 v89) h89
def S16_l16_k17 (G : Hp) (K : Exit → Rg → Hp → Prop) (r : Rg) (h : Hp) : Prop :=
  pureW Tryd.prog G h (sv (Instr.loadAt 26 (r 1))) h fun v90 h90 =>
  pureW Tryd.prog noHp noHp (sv (Instr.fieldAt 26 (r 1) 3)) h90 fun v91 h91 =>
  pureW Tryd.prog G h (sv (Instr.loadAt 22 v91)) h91 fun v92 h92 =>
  pureW Tryd.prog noHp noHp (sv (Instr.indexAt 22 v92 (r 3))) h92 fun v93 h93 =>
  pureW Tryd.prog G h (sv (Instr.loadAt 28 v93)) h93 fun v94 h94 =>
  opH Tryd.prog G (callFunc 52 #[v90, v94]) h94 fun v95 h95 =>
  pureW Tryd.prog noHp noHp (sv (Op.unary .not v95)) h95 fun v96 h96 =>
  gd (wantB v96 false) (pureW Tryd.prog noHp noHp (sv (Instr.fieldAt 26 (r 1) 3)) h96) h96 fun v97 h97 =>
  gd (wantB v96 false) (pureW Tryd.prog G h97 (sv (Instr.loadAt 22 v97)) h97) h97 fun v98 h98 =>
  gd (wantB v96 false) (pureW Tryd.prog noHp noHp (sv (Instr.fieldAt 26 (r 1) 3)) h98) h98 fun v99 h99 =>
  gd (wantB v96 false) (pureW Tryd.prog G h99 (sv (Instr.loadAt 22 v99)) h99) h99 fun v100 h100 =>
  gd (wantB v96 false) (fun K1 => K1 (r 3) h100) h100 fun v101 h101 =>
  gd (wantB v96 false) (pureW Tryd.prog noHp noHp (sv (Instr.indexAt 22 v100 v101)) h101) h101 fun v102 h102 =>
  gd (wantB v96 false) (pureW Tryd.prog G h102 (sv (Instr.loadAt 28 v102)) h102) h102 fun v103 h103 =>
  gd (wantB v96 false) (opH Tryd.prog G (callFunc 53 #[v98, v103]) h103) h103 fun v104 h104 =>
  gd (wantB v96 false) (pureW Tryd.prog noHp noHp (sv (binOp .gtr 3 v104 (.int .i64 1))) h104) h104 fun v105 h105 =>
  pureW Tryd.prog noHp noHp (xPick v96 (.bool true) v105) h105 fun v106 h106 =>
  gd (wantB v106 false) (pureW Tryd.prog noHp noHp (sv (Instr.fieldAt 26 (r 1) 4)) h106) h106 fun v107 h107 =>
  gd (wantB v106 false) (pureW Tryd.prog G h107 (sv (Instr.loadAt 22 v107)) h107) h107 fun v108 h108 =>
  gd (wantB v106 false) (pureW Tryd.prog noHp noHp (sv (Instr.fieldAt 26 (r 1) 3)) h108) h108 fun v109 h109 =>
  gd (wantB v106 false) (pureW Tryd.prog G h109 (sv (Instr.loadAt 22 v109)) h109) h109 fun v110 h110 =>
  gd (wantB v106 false) (fun K1 => K1 (r 3) h110) h110 fun v111 h111 =>
  gd (wantB v106 false) (pureW Tryd.prog noHp noHp (sv (Instr.indexAt 22 v110 v111)) h111) h111 fun v112 h112 =>
  gd (wantB v106 false) (pureW Tryd.prog G h112 (sv (Instr.loadAt 28 v112)) h112) h112 fun v113 h113 =>
  gd (wantB v106 false) (opH Tryd.prog G (callFunc 53 #[v108, v113]) h113) h113 fun v114 h114 =>
  gd (wantB v106 false) (pureW Tryd.prog noHp noHp (sv (binOp .gtr 3 v114 (.int .i64 0))) h114) h114 fun v115 h115 =>
  pureW Tryd.prog noHp noHp (xPick v106 (.bool true) v115) h115 fun v116 h116 =>
  cond v116
  (K .ret (upd (upd (upd (upd (upd (upd (upd (upd (upd (upd (upd (upd (upd (upd (upd (upd (upd (upd (upd (upd (upd (upd (upd (upd (upd (upd (upd (upd (upd (upd (upd r 36 v90) 37 v91) 38 v92) 39 (r 3)) 40 v93) 41 v94) 42 v95) 43 v96) 44 v96) 45 v97) 46 v98) 47 v99) 48 v100) 49 v101) 50 v102) 51 v103) 52 v104) 53 v105) 54 v106) 55 v106) 56 v107) 57 v108) 58 v109) 59 v110) 60 v111) 61 v112) 62 v113) 63 v114) 64 v115) 65 v116) 2 (.bool false)) h116)
  (S16_l16_k18 G K (upd (upd (upd (upd (upd (upd (upd (upd (upd (upd (upd (upd (upd (upd (upd (upd (upd (upd (upd (upd (upd (upd (upd (upd (upd (upd (upd (upd (upd (upd r 36 v90) 37 v91) 38 v92) 39 (r 3)) 40 v93) 41 v94) 42 v95) 43 v96) 44 v96) 45 v97) 46 v98) 47 v99) 48 v100) 49 v101) 50 v102) 51 v103) 52 v104) 53 v105) 54 v106) 55 v106) 56 v107) 57 v108) 58 v109) 59 v110) 60 v111) 61 v112) 62 v113) 63 v114) 64 v115) 65 v116) h116)
def S16_l16 (G : Hp) (r : Rg) (h : Hp) (K : Exit → Rg → Hp → Prop) : Prop :=
  opH Tryd.prog G (sv (Instr.fieldAt 26 (r 1) 3)) h fun v85 h85 =>
  opH Tryd.prog G (sv (Instr.loadAt 22 v85)) h85 fun v86 h86 =>
  opH Tryd.prog G (sv (Builtin.len_ #[22] 3 #[v86])) h86 fun v87 h87 =>
  opH Tryd.prog G (sv (binOp .lss 3 (r 3) v87)) h87 fun v88 h88 =>
  cond v88
  (S16_l16_k17 G K (upd (upd (upd (upd (upd r 29 (r 3)) 30 v85) 31 v86) 32 v87) 33 v88) h88)
  (K (.exit 0) (upd (upd (upd (upd (upd r 29 (r 3)) 30 v85) 31 v86) 32 v87) 33 v88) h88)
def S16_k1 (G : Hp) (K : Exit → Rg → Hp → Prop) (r : Rg) (h : Hp) : Prop :=
  loopP (S16_l16 G) (upd r 3 (.int .i64 0)) h (blockK 0 (thenK (S16_k2 G K) K))
def S16 (G : Hp) (K : Exit → Rg → Hp → Prop) (r : Rg) (h : Hp) : Prop :=
  opH Tryd.prog G (sv (Instr.box 26 (r 0))) h fun v0 h0 =>
  opH Tryd.prog G (sv (Instr.loadAt 26 v0)) h0 fun v1 h1 =>
  opH Tryd.prog G (callFunc 51 #[v1]) h1 fun v2 h2 =>
  opH Tryd.prog G (sv (Op.unary .not v2)) h2 fun v3 h3 =>
  gd (wantB v3 false) (opH Tryd.prog G (sv (Instr.fieldAt 26 v0 4)) h3) h3 fun v4 h4 =>
  gd (wantB v3 false) (opH Tryd.prog G (sv (Instr.loadAt 22 v4)) h4) h4 fun v5 h5 =>
  gd (wantB v3 false) (opH Tryd.prog G (sv (Builtin.len_ #[22] 3 #[v5])) h5) h5 fun v6 h6 =>
  gd (wantB v3 false) (opH Tryd.prog G (sv (binOp .gtr 3 v6 (.int .i64 8))) h6) h6 fun v7 h7 =>
  opH Tryd.prog G (xPick v3 (.bool true) v7) h7 fun v8 h8 =>
  gd (wantB v8 false) (opH Tryd.prog G (sv (Instr.fieldAt 26 v0 5)) h8) h8 fun v9 h9 =>
  gd (wantB v8 false) (opH Tryd.prog G (sv (Instr.loadAt 23 v9)) h9) h9 fun v10 h10 =>
  gd (wantB v8 false) (opH Tryd.prog G (sv (Builtin.len_ #[23] 3 #[v10])) h10) h10 fun v11 h11 =>
  gd (wantB v8 false) (opH Tryd.prog G (sv (binOp .gtr 3 v11 (.int .i64 8))) h11) h11 fun v12 h12 =>
  opH Tryd.prog G (xPick v8 (.bool true) v12) h12 fun v13 h13 =>
  gd (wantB v13 false) (opH Tryd.prog G (sv (Instr.fieldAt 26 v0 3)) h13) h13 fun v14 h14 =>
  gd (wantB v13 false) (opH Tryd.prog G (sv (Instr.loadAt 22 v14)) h14) h14 fun v15 h15 =>
  gd (wantB v13 false) (opH Tryd.prog G (sv (Builtin.len_ #[22] 3 #[v15])) h15) h15 fun v16 h16 =>
  gd (wantB v13 false) (opH Tryd.prog G (sv (binOp .gtr 3 v16 (.int .i64 256))) h16) h16 fun v17 h17 =>
  opH Tryd.prog G (xPick v13 (.bool true) v17) h17 fun v18 h18 =>
  cond v18
  (K .ret (upd (upd (upd (upd (upd (upd (upd (upd (upd (upd (upd (upd (upd (upd (upd (upd (upd (upd (upd (upd (upd (upd (upd (upd r 1 v0) 2 (.bool false)) 8 v1) 9 v2) 10 v3) 11 v3) 12 v4) 13 v5) 14 v6) 15 v7) 16 v8) 17 v8) 18 v9) 19 v10) 20 v11) 21 v12) 22 v13) 23 v13) 24 v14) 25 v15) 26 v16) 27 v17) 28 v18) 2 (.bool false)) h18)
  (S16_k1 G K (upd (upd (upd (upd (upd (upd (upd (upd (upd (upd (upd (upd (upd (upd (upd (upd (upd (upd (upd (upd (upd (upd (upd r 1 v0) 2 (.bool false)) 8 v1) 9 v2) 10 v3) 11 v3) 12 v4) 13 v5) 14 v6) 15 v7) 16 v8) 17 v8) 18 v9) 19 v10) 20 v11) 21 v12) 22 v13) 23 v13) 24 v14) 25 v15) 26 v16) 27 v17) 28 v18) h18)
theorem S16_eq (G : Hp) (K : Exit → Rg → Hp → Prop) (r : Rg) (h : Hp) : wpC Tryd.prog G 149 md16 true (Tryd.f16.body.getD .skip) r h K = S16 G K r h := by kernel_rfl
theorem enter16 {G : Hp} {h : Hp} {args : Array Value} {R : Value → Hp → Prop} (hn : args.size ≤ 149) (H : S16 G (retK Tryd.prog G [.tmp 2] R) (regs args) h) : HCalls Tryd.prog G 16 args h R :=
  HCalls.enter (md := md16) mixed Tryd.func16 rfl hn (by rw [← S16_eq] at H; exact H)

def md22 : Nat → Hint
  | _ => ⟨false, [], [], [], [], false⟩
def S22_k1 (G : Hp) (K : Exit → Rg → Hp → Prop) (r : Rg) (h : Hp) : Prop :=
  opH Tryd.prog G (sv (Instr.fieldAt 30 (r 1) 0)) h fun v3 h3 =>
  opH Tryd.prog G (sv (Instr.loadAt 28 v3)) h3 fun v4 h4 =>
  opH Tryd.prog G (sv (Instr.fieldAt 30 (r 1) 0)) h4 fun v5 h5 =>
  opH Tryd.prog G (sv (Instr.fieldAt 28 v5 0)) h5 fun v6 h6 =>
  opH Tryd.prog G (sv (Instr.loadAt 3 v6)) h6 fun v7 h7 =>
  opH Tryd.prog G (sv (binOp .add 3 v7 (.int .i64 1))) h7 fun v8 h8 =>
  opH Tryd.prog G (sv (Instr.fieldAt 30 (r 1) 0)) h8 fun v9 h9 =>
  opH Tryd.prog G (sv (Instr.fieldAt 28 v9 1)) h9 fun v10 h10 =>
  opH Tryd.prog G (sv (Instr.loadAt 3 v10)) h10 fun v11 h11 =>
  opH Tryd.prog G (sv (Instr.build 28 #[(0, v8), (1, v11)])) h11 fun v12 h12 =>
  opH Tryd.prog G (sv (Instr.buildSlice 22 2 #[(0, v4), (1, v12)])) h12 fun v13 h13 =>
  K .ret (upd (upd (upd (upd (upd (upd (upd (upd (upd (upd (upd (upd r 16 v3) 17 v4) 18 v5) 19 v6) 20 v7) 21 v8) 22 v9) 23 v10) 24 v11) 25 v12) 26 v13) 2 v13) h13
def S22 (G : Hp) (K : Exit → Rg → Hp → Prop) (r : Rg) (h : Hp) : Prop :=
  opH Tryd.prog G (sv (Instr.box 30 (r 0))) h fun v0 h0 =>
  opH Tryd.prog G (sv (Instr.fieldAt 30 v0 1)) h0 fun v1 h1 =>
  opH Tryd.prog G (sv (Instr.loadAt 4 v1)) h1 fun v2 h2 =>
  cond v2
  (opH Tryd.prog G (sv (Instr.fieldAt 30 v0 0)) h2 fun v14 h14 =>
  opH Tryd.prog G (sv (Instr.loadAt 28 v14)) h14 fun v15 h15 =>
  opH Tryd.prog G (sv (Instr.fieldAt 30 v0 0)) h15 fun v16 h16 =>
  opH Tryd.prog G (sv (Instr.fieldAt 28 v16 0)) h16 fun v17 h17 =>
  opH Tryd.prog G (sv (Instr.loadAt 3 v17)) h17 fun v18 h18 =>
  opH Tryd.prog G (sv (Instr.fieldAt 30 v0 0)) h18 fun v19 h19 =>
  opH Tryd.prog G (sv (Instr.fieldAt 28 v19 1)) h19 fun v20 h20 =>
  opH Tryd.prog G (sv (Instr.loadAt 3 v20)) h20 fun v21 h21 =>
  opH Tryd.prog G (sv (binOp .add 3 v21 (.int .i64 1))) h21 fun v22 h22 =>
  opH Tryd.prog G (sv (Instr.build 28 #[(0, v18), (1, v22)])) h22 fun v23 h23 =>
  opH Tryd.prog G (sv (Instr.buildSlice 22 2 #[(0, v15), (1, v23)])) h23 fun v24 h24 =>
  K .ret (upd (upd (upd (upd (upd (upd (upd (upd (upd (upd (upd (upd (upd (upd (upd (upd r 1 v0) 2 (.slice none 0 0)) 3 v1) 4 v2) 5 v14) 6 v15) 7 v16) 8 v17) 9 v18) 10 v19) 11 v20) 12 v21) 13 v22) 14 v23) 15 v24) 2 v24) h24)
  (S22_k1 G K (upd (upd (upd (upd r 1 v0) 2 (.slice none 0 0)) 3 v1) 4 v2) h2)
theorem S22_eq (G : Hp) (K : Exit → Rg → Hp → Prop) (r : Rg) (h : Hp) : wpC Tryd.prog G 27 md22 true (Tryd.f22.body.getD .skip) r h K = S22 G K r h := by kernel_rfl
theorem enter22 {G : Hp} {h : Hp} {args : Array Value} {R : Value → Hp → Prop} (hn : args.size ≤ 27) (H : S22 G (retK Tryd.prog G [.tmp 2] R) (regs args) h) : HCalls Tryd.prog G 22 args h R :=
  HCalls.enter (md := md22) mixed Tryd.func22 rfl hn (by rw [← S22_eq] at H; exact H)

def md24 : Nat → Hint
  | 2 => ⟨false, [0, 0, 2, 6, 15, 31, 63, 63, 191, 447, 1023, 2047, 4095], [.pureM, .pureN, .pureN, .pureM, .eff, .pureN, .pureM, .pureN, .pureN, .pureM, .eff, .pureN, .pureN], [.pureM, .pureN, .pureN, .pureM, .eff, .pureN, .late, .pureN, .pureN, .late, .eff, .pureN, .pureN], [false, false, false, false, false, false, false, false, false, false, false, false, false], false⟩
  | _ => ⟨false, [], [], [], [], false⟩
def S24 (G : Hp) (K : Exit → Rg → Hp → Prop) (r : Rg) (h : Hp) : Prop :=
  opH Tryd.prog G (sv (Instr.box 26 (r 0))) h fun v0 h0 =>
  opH Tryd.prog G (sv (Instr.box 30 (r 1))) h0 fun v1 h1 =>
  opH Tryd.prog G (sv (Instr.loadAt 30 v1)) h1 fun v2 h2 =>
  opH Tryd.prog G (callFunc 22 #[v2]) h2 fun v3 h3 =>
  pureW Tryd.prog G h3 (sv (Instr.loadAt 26 v0)) h3 fun v4 h4 =>
  pureW Tryd.prog noHp noHp (sv (Instr.indexAt 22 v3 (.int .i64 0))) h4 fun v5 h5 =>
  pureW Tryd.prog G h3 (sv (Instr.loadAt 28 v5)) h5 fun v6 h6 =>
  opH Tryd.prog G (callFunc 32 #[v4, v6]) h6 fun v7 h7 =>
  gd (wantB v7 true) (pureW Tryd.prog G h7 (sv (Instr.loadAt 26 v0)) h7) h7 fun v8 h8 =>
  gd (wantB v7 true) (fun K1 => K1 v3 h8) h8 fun v9 h9 =>
  gd (wantB v7 true) (pureW Tryd.prog noHp noHp (sv (Instr.indexAt 22 v9 (.int .i64 1))) h9) h9 fun v10 h10 =>
  gd (wantB v7 true) (pureW Tryd.prog G h10 (sv (Instr.loadAt 28 v10)) h10) h10 fun v11 h11 =>
  gd (wantB v7 true) (opH Tryd.prog G (callFunc 32 #[v8, v11]) h11) h11 fun v12 h12 =>
  pureW Tryd.prog noHp noHp (xPick v7 v12 (.bool false)) h12 fun v13 h13 =>
  K .ret (upd (upd (upd (upd (upd (upd (upd (upd (upd (upd (upd (upd (upd (upd (upd (upd (upd (upd (upd r 2 v0) 3 v1) 4 (.bool false)) 6 v2) 7 v3) 5 v3) 8 v4) 9 v3) 10 v5) 11 v6) 12 v7) 13 v7) 14 v8) 15 v9) 16 v10) 17 v11) 18 v12) 19 v13) 4 v13) h13
theorem S24_eq (G : Hp) (K : Exit → Rg → Hp → Prop) (r : Rg) (h : Hp) : wpC Tryd.prog G 20 md24 true (Tryd.f24.body.getD .skip) r h K = S24 G K r h := by kernel_rfl
theorem enter24 {G : Hp} {h : Hp} {args : Array Value} {R : Value → Hp → Prop} (hn : args.size ≤ 20) (H : S24 G (retK Tryd.prog G [.tmp 4] R) (regs args) h) : HCalls Tryd.prog G 24 args h R :=
  HCalls.enter (md := md24) mixed Tryd.func24 rfl hn (by rw [← S24_eq] at H; exact H)

def md32 : Nat → Hint
  | _ => ⟨false, [], [], [], [], false⟩
def S32 (G : Hp) (K : Exit → Rg → Hp → Prop) (r : Rg) (h : Hp) : Prop :=
  opH Tryd.prog G (sv (Instr.box 26 (r 0))) h fun v0 h0 =>
  opH Tryd.prog G (sv (Instr.box 28 (r 1))) h0 fun v1 h1 =>
  opH Tryd.prog G (sv (Instr.loadAt 26 v0)) h1 fun v2 h2 =>
  opH Tryd.prog G (sv (Instr.loadAt 28 v1)) h2 fun v3 h3 =>
  opH Tryd.prog G (callFunc 52 #[v2, v3]) h3 fun v4 h4 =>
  gd (wantB v4 true) (opH Tryd.prog G (sv (Instr.fieldAt 26 v0 3)) h4) h4 fun v5 h5 =>
  gd (wantB v4 true) (opH Tryd.prog G (sv (Instr.loadAt 22 v5)) h5) h5 fun v6 h6 =>
  gd (wantB v4 true) (opH Tryd.prog G (sv (Instr.loadAt 28 v1)) h6) h6 fun v7 h7 =>
  gd (wantB v4 true) (opH Tryd.prog G (callFunc 53 #[v6, v7]) h7) h7 fun v8 h8 =>
  gd (wantB v4 true) (opH Tryd.prog G (xEq .eql 3 (.tmp 0) (.const .nilFunc) v8 (.int .i64 0)) h8) h8 fun v9 h9 =>
  opH Tryd.prog G (xPick v4 v9 (.bool false)) h9 fun v10 h10 =>
  K .ret (upd (upd (upd (upd (upd (upd (upd (upd (upd (upd (upd (upd (upd (upd r 2 v0) 3 v1) 4 (.bool false)) 5 v2) 6 v3) 7 v4) 8 v4) 9 v5) 10 v6) 11 v7) 12 v8) 13 v9) 14 v10) 4 v10) h10
theorem S32_eq (G : Hp) (K : Exit → Rg → Hp → Prop) (r : Rg) (h : Hp) : wpC Tryd.prog G 15 md32 true (Tryd.f32.body.getD .skip) r h K = S32 G K r h := by kernel_rfl
theorem enter32 {G : Hp} {h : Hp} {args : Array Value} {R : Value → Hp → Prop} (hn : args.size ≤ 15) (H : S32 G (retK Tryd.prog G [.tmp 4] R) (regs args) h) : HCalls Tryd.prog G 32 args h R :=
  HCalls.enter (md := md32) mixed Tryd.func32 rfl hn (by rw [← S32_eq] at H; exact H)

def md34 : Nat → Hint
  | 4 => ⟨false, [0, 1, 0, 7, 15, 0, 63], [.pureN, .pureM, .pureN, .pureN, .pureM, .pureM, .pureM], [.pureN, .pureM, .pureN, .pureN, .pureM, .pureM, .pureM], [false, false, false, false, false, false, false], false⟩
  | _ => ⟨false, [], [], [], [], false⟩
def S34_k1 (G : Hp) (K : Exit → Rg → Hp → Prop) (r : Rg) (h : Hp) : Prop :=
  K .ret (upd r 4 (.int .i64 (-1))) h
def S34_l2_k4 (G : Hp) (K : Exit → Rg → Hp → Prop) (r : Rg) (h : Hp) : Prop :=
  opH Tryd.prog G (sv (binOp .add 3 (r 5) (.int .i64 1))) h fun v6 h6 =>
  K .normal (upd (upd (upd r 11 (r 5)) 12 v6) 5 v6) h6
def S34_l2_k3 (G : Hp) (K : Exit → Rg → Hp → Prop) (r : Rg) (h : Hp) : Prop :=
  pureW Tryd.prog noHp noHp (sv (Instr.fieldAt 26 (r 2) 4)) h fun v7 h7 =>
  pureW Tryd.prog G h (sv (Instr.loadAt 22 v7)) h7 fun v8 h8 =>
  pureW Tryd.prog noHp noHp (sv (Instr.indexAt 22 v8 (r 5))) h8 fun v9 h9 =>
  pureW Tryd.prog G h (sv (Instr.loadAt 28 v9)) h9 fun v10 h10 =>
  pureW Tryd.prog G h (sv (Instr.loadAt 28 (r 3))) h10 fun v11 h11 =>
  pureW Tryd.prog G h (xEq .eql 28 (.tmp 0) (.tmp 0) v10 v11) h11 fun v12 h12 =>
  cond v12
  (K .ret (upd (upd (upd (upd (upd (upd (upd (upd (upd r 13 v7) 14 v8) 15 (r 5)) 16 v9) 17 v10) 18 v11) 19 v12) 20 (r 5)) 4 (r 5)) h12)
  (S34_l2_k4 G K (upd (upd (upd (upd (upd (upd (upd r 13 v7) 14 v8) 15 (r 5)) 16 v9) 17 v10) 18 v11) 19 v12) h12)
def S34_l2 (G : Hp) (r : Rg) (h : Hp) (K : Exit → Rg → Hp → Prop) : Prop :=
  opH Tryd.prog G (sv (Instr.fieldAt 26 (r 2) 4)) h fun v2 h2 =>
  opH Tryd.prog G (sv (Instr.loadAt 22 v2)) h2 fun v3 h3 =>
  opH Tryd.prog G (sv (Builtin.len_ #[22] 3 #[v3])) h3 fun v4 h4 =>
  opH Tryd.prog G (sv (binOp .lss 3 (r 5) v4)) h4 fun v5 h5 =>
  cond v5
  (S34_l2_k3 G K (upd (upd (upd (upd (upd r 6 (r 5)) 7 v2) 8 v3) 9 v4) 10 v5) h5)
  (K (.exit 0) (upd (upd (upd (upd (upd r 6 (r 5)) 7 v2) 8 v3) 9 v4) 10 v5) h5)
def S34 (G : Hp) (K : Exit → Rg → Hp → Prop) (r : Rg) (h : Hp) : Prop :=
  opH Tryd.prog G (sv (Instr.box 26 (r 0))) h fun v0 h0 =>
  opH Tryd.prog G (sv (Instr.box 28 (r 1))) h0 fun v1 h1 =>
  loopP (S34_l2 G) (upd (upd (upd (upd r 2 v0) 3 v1) 4 (.int .i64 0)) 5 (.int .i64 0)) h1 (blockK 0 (thenK (S34_k1 G K) K))
theorem S34_eq (G : Hp) (K : Exit → Rg → Hp → Prop) (r : Rg) (h : Hp) : wpC Tryd.prog G 21 md34 true (Tryd.f34.body.getD .skip) r h K = S34 G K r h := by kernel_rfl
theorem enter34 {G : Hp} {h : Hp} {args : Array Value} {R : Value → Hp → Prop} (hn : args.size ≤ 21) (H : S34 G (retK Tryd.prog G [.tmp 4] R) (regs args) h) : HCalls Tryd.prog G 34 args h R :=
  HCalls.enter (md := md34) mixed Tryd.func34 rfl hn (by rw [← S34_eq] at H; exact H)

def md36 : Nat → Hint
  | _ => ⟨false, [], [], [], [], false⟩
def S36 (G : Hp) (K : Exit → Rg → Hp → Prop) (r : Rg) (h : Hp) : Prop :=
  opH Tryd.prog G (sv (Instr.box 26 (r 0))) h fun v0 h0 =>
  opH Tryd.prog G (sv (Instr.box 28 (r 1))) h0 fun v1 h1 =>
  opH Tryd.prog G (sv (Instr.loadAt 26 v0)) h1 fun v2 h2 =>
  opH Tryd.prog G (sv (Instr.loadAt 28 v1)) h2 fun v3 h3 =>
  opH Tryd.prog G (callFunc 32 #[v2, v3]) h3 fun v4 h4 =>
  gd (wantB v4 true) (opH Tryd.prog G (sv (Instr.loadAt 26 v0)) h4) h4 fun v5 h5 =>
  gd (wantB v4 true) (opH Tryd.prog G (sv (Instr.loadAt 28 v1)) h5) h5 fun v6 h6 =>
  gd (wantB v4 true) (opH Tryd.prog G (callFunc 34 #[v5, v6]) h6) h6 fun v7 h7 =>
  gd (wantB v4 true) (opH Tryd.prog G (sv (binOp .lss 3 v7 (.int .i64 0))) h7) h7 fun v8 h8 =>
  opH Tryd.prog G (xPick v4 v8 (.bool false)) h8 fun v9 h9 =>
  gd (wantB v9 true) (opH Tryd.prog G (sv (Instr.loadAt 26 v0)) h9) h9 fun v10 h10 =>
  gd (wantB v9 true) (opH Tryd.prog G (sv (Instr.loadAt 28 v1)) h10) h10 fun v11 h11 =>
  gd (wantB v9 true) (opH Tryd.prog G (callFunc 54 #[v10, v11]) h11) h11 fun v12 h12 =>
  gd (wantB v9 true) (opH Tryd.prog G (sv (Op.unary .not v12)) h12) h12 fun v13 h13 =>
  opH Tryd.prog G (xPick v9 v13 (.bool false)) h13 fun v14 h14 =>
  gd (wantB v14 true) (opH Tryd.prog G (sv (Instr.loadAt 26 v0)) h14) h14 fun v15 h15 =>
  gd (wantB v14 true) (opH Tryd.prog G (sv (Instr.loadAt 28 v1)) h15) h15 fun v16 h16 =>
  gd (wantB v14 true) (opH Tryd.prog G (callFunc 55 #[v15, v16]) h16) h16 fun v17 h17 =>
  opH Tryd.prog G (xPick v14 v17 (.bool false)) h17 fun v18 h18 =>
  K .ret (upd (upd (upd (upd (upd (upd (upd (upd (upd (upd (upd (upd (upd (upd (upd (upd (upd (upd (upd (upd (upd (upd (upd (upd r 2 v0) 3 v1) 4 (.bool false)) 5 v2) 6 v3) 7 v4) 8 v4) 9 v5) 10 v6) 11 v7) 12 v8) 13 v9) 14 v9) 15 v10) 16 v11) 17 v12) 18 v13) 19 v14) 20 v14) 21 v15) 22 v16) 23 v17) 24 v18) 4 v18) h18
theorem S36_eq (G : Hp) (K : Exit → Rg → Hp → Prop) (r : Rg) (h : Hp) : wpC Tryd.prog G 25 md36 true (Tryd.f36.body.getD .skip) r h K = S36 G K r h := by kernel_rfl
theorem enter36 {G : Hp} {h : Hp} {args : Array Value} {R : Value → Hp → Prop} (hn : args.size ≤ 25) (H : S36 G (retK Tryd.prog G [.tmp 4] R) (regs args) h) : HCalls Tryd.prog G 36 args h R :=
  HCalls.enter (md := md36) mixed Tryd.func36 rfl hn (by rw [← S36_eq] at H; exact H)

def md51 : Nat → Hint
  | _ => ⟨false, [], [], [], [], false⟩
def S51 (G : Hp) (K : Exit → Rg → Hp → Prop) (r : Rg) (h : Hp) : Prop :=
  opH Tryd.prog G (sv (Instr.box 26 (r 0))) h fun v0 h0 =>
  opH Tryd.prog G (sv (Instr.fieldAt 26 v0 0)) h0 fun v1 h1 =>
  opH Tryd.prog G (sv (Instr.loadAt 3 v1)) h1 fun v2 h2 =>
  opH Tryd.prog G (callFunc 58 #[v2, (.int .i64 1), (.int .i64 16)]) h2 fun v3 h3 =>
  gd (wantB v3 true) (opH Tryd.prog G (sv (Instr.fieldAt 26 v0 1)) h3) h3 fun v4 h4 =>
  gd (wantB v3 true) (opH Tryd.prog G (sv (Instr.loadAt 3 v4)) h4) h4 fun v5 h5 =>
  gd (wantB v3 true) (opH Tryd.prog G (callFunc 58 #[v5, (.int .i64 1), (.int .i64 16)]) h5) h5 fun v6 h6 =>
  opH Tryd.prog G (xPick v3 v6 (.bool false)) h6 fun v7 h7 =>
  gd (wantB v7 true) (opH Tryd.prog G (sv (Instr.fieldAt 26 v0 2)) h7) h7 fun v8 h8 =>
  gd (wantB v7 true) (opH Tryd.prog G (sv (Instr.loadAt 3 v8)) h8) h8 fun v9 h9 =>
  gd (wantB v7 true) (opH Tryd.prog G (callFunc 58 #[v9, (.int .i64 1), (.int .i64 8)]) h9) h9 fun v10 h10 =>
  opH Tryd.prog G (xPick v7 v10 (.bool false)) h10 fun v11 h11 =>
  gd (wantB v11 true) (opH Tryd.prog G (sv (Instr.fieldAt 26 v0 7)) h11) h11 fun v12 h12 =>
  gd (wantB v11 true) (opH Tryd.prog G (sv (Instr.loadAt 3 v12)) h12) h12 fun v13 h13 =>
  gd (wantB v11 true) (opH Tryd.prog G (callFunc 58 #[v13, (.int .i64 1), (.int .i64 1000)]) h13) h13 fun v14 h14 =>
  opH Tryd.prog G (xPick v11 v14 (.bool false)) h14 fun v15 h15 =>
  gd (wantB v15 true) (opH Tryd.prog G (sv (Instr.fieldAt 26 v0 8)) h15) h15 fun v16 h16 =>
  gd (wantB v15 true) (opH Tryd.prog G (sv (Instr.loadAt 3 v16)) h16) h16 fun v17 h17 =>
  gd (wantB v15 true) (opH Tryd.prog G (callFunc 58 #[v17, (.int .i64 1), (.int .i64 1000)]) h17) h17 fun v18 h18 =>
  opH Tryd.prog G (xPick v15 v18 (.bool false)) h18 fun v19 h19 =>
  gd (wantB v19 true) (opH Tryd.prog G (sv (Instr.fieldAt 26 v0 9)) h19) h19 fun v20 h20 =>
  gd (wantB v19 true) (opH Tryd.prog G (sv (Instr.loadAt 3 v20)) h20) h20 fun v21 h21 =>
  gd (wantB v19 true) (opH Tryd.prog G (callFunc 58 #[v21, (.int .i64 1), (.int .i64 1000)]) h21) h21 fun v22 h22 =>
  opH Tryd.prog G (xPick v19 v22 (.bool false)) h22 fun v23 h23 =>
  gd (wantB v23 true) (opH Tryd.prog G (sv (Instr.fieldAt 26 v0 10)) h23) h23 fun v24 h24 =>
  gd (wantB v23 true) (opH Tryd.prog G (sv (Instr.loadAt 3 v24)) h24) h24 fun v25 h25 =>
  gd (wantB v23 true) (opH Tryd.prog G (callFunc 58 #[v25, (.int .i64 1), (.int .i64 1000)]) h25) h25 fun v26 h26 =>
  opH Tryd.prog G (xPick v23 v26 (.bool false)) h26 fun v27 h27 =>
  gd (wantB v27 true) (opH Tryd.prog G (sv (Instr.fieldAt 26 v0 11)) h27) h27 fun v28 h28 =>
  gd (wantB v27 true) (opH Tryd.prog G (sv (Instr.loadAt 3 v28)) h28) h28 fun v29 h29 =>
  gd (wantB v27 true) (opH Tryd.prog G (callFunc 58 #[v29, (.int .i64 1), (.int .i64 1000)]) h29) h29 fun v30 h30 =>
  opH Tryd.prog G (xPick v27 v30 (.bool false)) h30 fun v31 h31 =>
  gd (wantB v31 true) (opH Tryd.prog G (sv (Instr.fieldAt 26 v0 13)) h31) h31 fun v32 h32 =>
  gd (wantB v31 true) (opH Tryd.prog G (sv (Instr.loadAt 3 v32)) h32) h32 fun v33 h33 =>
  gd (wantB v31 true) (opH Tryd.prog G (callFunc 58 #[v33, (.int .i64 1), (.int .i64 1000)]) h33) h33 fun v34 h34 =>
  opH Tryd.prog G (xPick v31 v34 (.bool false)) h34 fun v35 h35 =>
  gd (wantB v35 true) (opH Tryd.prog G (sv (Instr.fieldAt 26 v0 12)) h35) h35 fun v36 h36 =>
  gd (wantB v35 true) (opH Tryd.prog G (sv (Instr.loadAt 3 v36)) h36) h36 fun v37 h37 =>
  gd (wantB v35 true) (opH Tryd.prog G (callFunc 58 #[v37, (.int .i64 1), (.int .i64 16)]) h37) h37 fun v38 h38 =>
  opH Tryd.prog G (xPick v35 v38 (.bool false)) h38 fun v39 h39 =>
  gd (wantB v39 true) (opH Tryd.prog G (sv (Instr.fieldAt 26 v0 14)) h39) h39 fun v40 h40 =>
  gd (wantB v39 true) (opH Tryd.prog G (sv (Instr.loadAt 3 v40)) h40) h40 fun v41 h41 =>
  gd (wantB v39 true) (opH Tryd.prog G (callFunc 58 #[v41, (.int .i64 1), (.int .i64 1048576)]) h41) h41 fun v42 h42 =>
  opH Tryd.prog G (xPick v39 v42 (.bool false)) h42 fun v43 h43 =>
  K .ret (upd (upd (upd (upd (upd (upd (upd (upd (upd (upd (upd (upd (upd (upd (upd (upd (upd (upd (upd (upd (upd (upd (upd (upd (upd (upd (upd (upd (upd (upd (upd (upd (upd (upd (upd (upd (upd (upd (upd (upd (upd (upd (upd (upd (upd (upd (upd (upd (upd (upd (upd (upd (upd (upd (upd (upd r 1 v0) 2 (.bool false)) 3 v1) 4 v2) 5 v3) 6 v3) 7 v4) 8 v5) 9 v6) 10 v7) 11 v7) 12 v8) 13 v9) 14 v10) 15 v11) 16 v11) 17 v12) 18 v13) 19 v14) 20 v15) 21 v15) 22 v16) 23 v17) 24 v18) 25 v19) 26 v19) 27 v20) 28 v21) 29 v22) 30 v23) 31 v23) 32 v24) 33 v25) 34 v26) 35 v27) 36 v27) 37 v28) 38 v29) 39 v30) 40 v31) 41 v31) 42 v32) 43 v33) 44 v34) 45 v35) 46 v35) 47 v36) 48 v37) 49 v38) 50 v39) 51 v39) 52 v40) 53 v41) 54 v42) 55 v43) 2 v43) h43
theorem S51_eq (G : Hp) (K : Exit → Rg → Hp → Prop) (r : Rg) (h : Hp) : wpC Tryd.prog G 56 md51 true (Tryd.f51.body.getD .skip) r h K = S51 G K r h := by kernel_rfl
theorem enter51 {G : Hp} {h : Hp} {args : Array Value} {R : Value → Hp → Prop} (hn : args.size ≤ 56) (H : S51 G (retK Tryd.prog G [.tmp 2] R) (regs args) h) : HCalls Tryd.prog G 51 args h R :=
  HCalls.enter (md := md51) mixed Tryd.func51 rfl hn (by rw [← S51_eq] at H; exact H)

def md52 : Nat → Hint
  | _ => ⟨false, [], [], [], [], false⟩
def S52 (G : Hp) (K : Exit → Rg → Hp → Prop) (r : Rg) (h : Hp) : Prop :=
  opH Tryd.prog G (sv (Instr.box 26 (r 0))) h fun v0 h0 =>
  opH Tryd.prog G (sv (Instr.box 28 (r 1))) h0 fun v1 h1 =>
  opH Tryd.prog G (sv (Instr.fieldAt 28 v1 0)) h1 fun v2 h2 =>
  opH Tryd.prog G (sv (Instr.loadAt 3 v2)) h2 fun v3 h3 =>
  opH Tryd.prog G (sv (binOp .geq 3 v3 (.int .i64 0))) h3 fun v4 h4 =>
  gd (wantB v4 true) (opH Tryd.prog G (sv (Instr.fieldAt 28 v1 1)) h4) h4 fun v5 h5 =>
  gd (wantB v4 true) (opH Tryd.prog G (sv (Instr.loadAt 3 v5)) h5) h5 fun v6 h6 =>
  gd (wantB v4 true) (opH Tryd.prog G (sv (binOp .geq 3 v6 (.int .i64 0))) h6) h6 fun v7 h7 =>
  opH Tryd.prog G (xPick v4 v7 (.bool false)) h7 fun v8 h8 =>
  gd (wantB v8 true) (opH Tryd.prog G (sv (Instr.fieldAt 28 v1 0)) h8) h8 fun v9 h9 =>
  gd (wantB v8 true) (opH Tryd.prog G (sv (Instr.loadAt 3 v9)) h9) h9 fun v10 h10 =>
  gd (wantB v8 true) (opH Tryd.prog G (sv (Instr.fieldAt 26 v0 0)) h10) h10 fun v11 h11 =>
  gd (wantB v8 true) (opH Tryd.prog G (sv (Instr.loadAt 3 v11)) h11) h11 fun v12 h12 =>
  gd (wantB v8 true) (opH Tryd.prog G (sv (binOp .lss 3 v10 v12)) h12) h12 fun v13 h13 =>
  opH Tryd.prog G (xPick v8 v13 (.bool false)) h13 fun v14 h14 =>
  gd (wantB v14 true) (opH Tryd.prog G (sv (Instr.fieldAt 28 v1 1)) h14) h14 fun v15 h15 =>
  gd (wantB v14 true) (opH Tryd.prog G (sv (Instr.loadAt 3 v15)) h15) h15 fun v16 h16 =>
  gd (wantB v14 true) (opH Tryd.prog G (sv (Instr.fieldAt 26 v0 1)) h16) h16 fun v17 h17 =>
  gd (wantB v14 true) (opH Tryd.prog G (sv (Instr.loadAt 3 v17)) h17) h17 fun v18 h18 =>
  gd (wantB v14 true) (opH Tryd.prog G (sv (binOp .lss 3 v16 v18)) h18) h18 fun v19 h19 =>
  opH Tryd.prog G (xPick v14 v19 (.bool false)) h19 fun v20 h20 =>
  K .ret (upd (upd (upd (upd (upd (upd (upd (upd (upd (upd (upd (upd (upd (upd (upd (upd (upd (upd (upd (upd (upd (upd (upd (upd (upd (upd r 2 v0) 3 v1) 4 (.bool false)) 5 v2) 6 v3) 7 v4) 8 v4) 9 v5) 10 v6) 11 v7) 12 v8) 13 v8) 14 v9) 15 v10) 16 v11) 17 v12) 18 v13) 19 v14) 20 v14) 21 v15) 22 v16) 23 v17) 24 v18) 25 v19) 26 v20) 4 v20) h20
theorem S52_eq (G : Hp) (K : Exit → Rg → Hp → Prop) (r : Rg) (h : Hp) : wpC Tryd.prog G 27 md52 true (Tryd.f52.body.getD .skip) r h K = S52 G K r h := by kernel_rfl
theorem enter52 {G : Hp} {h : Hp} {args : Array Value} {R : Value → Hp → Prop} (hn : args.size ≤ 27) (H : S52 G (retK Tryd.prog G [.tmp 4] R) (regs args) h) : HCalls Tryd.prog G 52 args h R :=
  HCalls.enter (md := md52) mixed Tryd.func52 rfl hn (by rw [← S52_eq] at H; exact H)

def md53 : Nat → Hint
  | 5 => ⟨false, [0, 0, 3, 7, 0, 31], [.pureN, .pureN, .pureN, .pureM, .pureM, .pureM], [.pureN, .pureN, .pureN, .pureM, .pureM, .pureM], [false, false, false, false, false, false], false⟩
  | _ => ⟨false, [], [], [], [], false⟩
def S53_k1 (G : Hp) (K : Exit → Rg → Hp → Prop) (r : Rg) (h : Hp) : Prop :=
  K .ret (upd (upd r 21 (r 5)) 4 (r 5)) h
def S53_l2_k4 (G : Hp) (K : Exit → Rg → Hp → Prop) (r : Rg) (h : Hp) : Prop :=
  opH Tryd.prog G (sv (binOp .add 3 (r 6) (.int .i64 1))) h fun v3 h3 =>
  K .normal (upd (upd (upd r 11 (r 6)) 12 v3) 6 v3) h3
def S53_l2_k3 (G : Hp) (K : Exit → Rg → Hp → Prop) (r : Rg) (h : Hp) : Prop :=
  pureW Tryd.prog noHp noHp (sv (Instr.indexAt 22 (r 0) (r 6))) h fun v4 h4 =>
  pureW Tryd.prog G h (sv (Instr.loadAt 28 v4)) h4 fun v5 h5 =>
  pureW Tryd.prog G h (sv (Instr.loadAt 28 (r 3))) h5 fun v6 h6 =>
  pureW Tryd.prog G h (xEq .eql 28 (.tmp 0) (.tmp 0) v5 v6) h6 fun v7 h7 =>
  cond v7
  (opH Tryd.prog G (sv (binOp .add 3 (r 5) (.int .i64 1))) h7 fun v8 h8 =>
  S53_l2_k4 G K (upd (upd (upd (upd (upd (upd (upd (upd (upd r 13 (r 0)) 14 (r 6)) 15 v4) 16 v5) 17 v6) 18 v7) 19 (r 5)) 20 v8) 5 v8) h8)
  (S53_l2_k4 G K (upd (upd (upd (upd (upd (upd r 13 (r 0)) 14 (r 6)) 15 v4) 16 v5) 17 v6) 18 v7) h7)
def S53_l2 (G : Hp) (r : Rg) (h : Hp) (K : Exit → Rg → Hp → Prop) : Prop :=
  opH Tryd.prog G (sv (Builtin.len_ #[22] 3 #[(r 0)])) h fun v1 h1 =>
  opH Tryd.prog G (sv (binOp .lss 3 (r 6) v1)) h1 fun v2 h2 =>
  cond v2
  (S53_l2_k3 G K (upd (upd (upd (upd r 7 (r 6)) 8 (r 0)) 9 v1) 10 v2) h2)
  (K (.exit 0) (upd (upd (upd (upd r 7 (r 6)) 8 (r 0)) 9 v1) 10 v2) h2)
def S53 (G : Hp) (K : Exit → Rg → Hp → Prop) (r : Rg) (h : Hp) : Prop :=
  opH Tryd.prog G (sv (Instr.box 28 (r 1))) h fun v0 h0 =>
  loopP (S53_l2 G) (upd (upd (upd (upd r 3 v0) 4 (.int .i64 0)) 5 (.int .i64 0)) 6 (.int .i64 0)) h0 (blockK 0 (thenK (S53_k1 G K) K))
theorem S53_eq (G : Hp) (K : Exit → Rg → Hp → Prop) (r : Rg) (h : Hp) : wpC Tryd.prog G 22 md53 true (Tryd.f53.body.getD .skip) r h K = S53 G K r h := by kernel_rfl
theorem enter53 {G : Hp} {h : Hp} {args : Array Value} {R : Value → Hp → Prop} (hn : args.size ≤ 22) (H : S53 G (retK Tryd.prog G [.tmp 4] R) (regs args) h) : HCalls Tryd.prog G 53 args h R :=
  HCalls.enter (md := md53) mixed Tryd.func53 rfl hn (by rw [← S53_eq] at H; exact H)

def md54 : Nat → Hint
  | 4 => ⟨false, [0, 1, 0, 7, 15, 31, 0, 127, 255], [.pureN, .pureM, .pureN, .pureN, .pureM, .eff, .pureM, .eff, .pureN], [.pureN, .pureM, .pureN, .pureN, .pureM, .eff, .pureM, .eff, .pureN], [false, false, false, false, false, true, false, false, false], true⟩
  | _ => ⟨false, [], [], [], [], false⟩
def S54_k1 (G : Hp) (K : Exit → Rg → Hp → Prop) (r : Rg) (h : Hp) : Prop :=
  K .ret (upd r 4 (.bool false)) h
def S54_l2_k4 (G : Hp) (K : Exit → Rg → Hp → Prop) (r : Rg) (h : Hp) : Prop :=
  opH Tryd.prog G (sv (binOp .add 3 (r 5) (.int .i64 1))) h fun v6 h6 =>
  K .normal (upd (upd (upd r 11 (r 5)) 12 v6) 5 v6) h6
def S54_l2_k3 (G : Hp) (K : Exit → Rg → Hp → Prop) (r : Rg) (h : Hp) : Prop :=
  ∃ q7 : Hp, q7.le h ∧
  pureW Tryd.prog noHp noHp (sv (Instr.fieldAt 26 (r 2) 5)) h fun v8 h8 =>
  pureW Tryd.prog G q7 (sv (Instr.loadAt 23 v8)) h8 fun v9 h9 =>
  pureW Tryd.prog noHp noHp (sv (Instr.indexAt 23 v9 (r 5))) h9 fun v10 h10 =>
  pureW Tryd.prog G q7 (sv (Instr.loadAt 30 v10)) h10 fun v11 h11 =>
  opH Tryd.prog G (callFunc 22 #[v11]) h11 fun v12 h12 => q7.le h12 ∧
  pureW Tryd.prog G q7 (sv (Instr.loadAt 28 (r 3))) h12 fun v13 h13 =>
  opH Tryd.prog G (callFunc 53 #[v12, v13]) h13 fun v14 h14 =>
  pureW Tryd.prog noHp noHp (sv (binOp .gtr 3 v14 (.int .i64 0))) h14 fun v15 h15 =>
  cond v15
  (K .ret (upd (upd (upd (upd (upd (upd (upd (upd (upd (upd r 13 v8) 14 v9) 15 (r 5)) 16 v10) 17 v11) 18 v12) 19 v13) 20 v14) 21 v15) 4 (.bool true)) h15)
  (S54_l2_k4 G K (upd (upd (upd (upd (upd (upd (upd (upd (upd r 13 v8) 14 v9) 15 (r 5)) 16 v10) 17 v11) 18 v12) 19 v13) 20 v14) 21 v15) h15)
def S54_l2 (G : Hp) (r : Rg) (h : Hp) (K : Exit → Rg → Hp → Prop) : Prop :=
  opH Tryd.prog G (sv (Instr.fieldAt 26 (r 2) 5)) h fun v2 h2 =>
  opH Tryd.prog G (sv (Instr.loadAt 23 v2)) h2 fun v3 h3 =>
  opH Tryd.prog G (sv (Builtin.len_ #[23] 3 #[v3])) h3 fun v4 h4 =>
  opH Tryd.prog G (sv (binOp .lss 3 (r 5) v4)) h4 fun v5 h5 =>
  cond v5
  (S54_l2_k3 G K (upd (upd (upd (upd (upd r 6 (r 5)) 7 v2) 8 v3) 9 v4) 10 v5) h5)
  (K (.exit 0) (upd (upd (upd (upd (upd r 6 (r 5)) 7 v2) 8 v3) 9 v4) 10 v5) h5)
def S54 (G : Hp) (K : Exit → Rg → Hp → Prop) (r : Rg) (h : Hp) : Prop :=
  opH Tryd.prog G (sv (Instr.box 26 (r 0))) h fun v0 h0 =>
  opH Tryd.prog G (sv (Instr.box 28 (r 1))) h0 fun v1 h1 =>
  loopP (S54_l2 G) (upd (upd (upd (upd r 2 v0) 3 v1) 4 (.bool false)) 5 (.int .i64 0)) h1 (blockK 0 (thenK (S54_k1 G K) K))
theorem S54_eq (G : Hp) (K : Exit → Rg → Hp → Prop) (r : Rg) (h : Hp) : wpC Tryd.prog G 22 md54 true (Tryd.f54.body.getD .skip) r h K = S54 G K r h := by kernel_rfl
theorem enter54 {G : Hp} {h : Hp} {args : Array Value} {R : Value → Hp → Prop} (hn : args.size ≤ 22) (H : S54 G (retK Tryd.prog G [.tmp 4] R) (regs args) h) : HCalls Tryd.prog G 54 args h R :=
  HCalls.enter (md := md54) mixed Tryd.func54 rfl hn (by rw [← S54_eq] at H; exact H)

def md55 : Nat → Hint
  | _ => ⟨false, [], [], [], [], false⟩
def S55 (G : Hp) (K : Exit → Rg → Hp → Prop) (r : Rg) (h : Hp) : Prop :=
  opH Tryd.prog G (sv (Instr.box 26 (r 0))) h fun v0 h0 =>
  opH Tryd.prog G (sv (Instr.box 28 (r 1))) h0 fun v1 h1 =>
  opH Tryd.prog G (sv (Instr.loadAt 26 v0)) h1 fun v2 h2 =>
  opH Tryd.prog G (sv (Instr.fieldAt 28 v1 0)) h2 fun v3 h3 =>
  opH Tryd.prog G (sv (Instr.loadAt 3 v3)) h3 fun v4 h4 =>
  opH Tryd.prog G (sv (binOp .add 3 v4 (.int .i64 1))) h4 fun v5 h5 =>
  opH Tryd.prog G (sv (Instr.fieldAt 28 v1 1)) h5 fun v6 h6 =>
  opH Tryd.prog G (sv (Instr.loadAt 3 v6)) h6 fun v7 h7 =>
  opH Tryd.prog G (sv (Instr.build 28 #[(0, v5), (1, v7)])) h7 fun v8 h8 =>
  opH Tryd.prog G (callFunc 32 #[v2, v8]) h8 fun v9 h9 =>
  gd (wantB v9 false) (opH Tryd.prog G (sv (Instr.loadAt 26 v0)) h9) h9 fun v10 h10 =>
  gd (wantB v9 false) (opH Tryd.prog G (sv (Instr.fieldAt 28 v1 0)) h10) h10 fun v11 h11 =>
  gd (wantB v9 false) (opH Tryd.prog G (sv (Instr.loadAt 3 v11)) h11) h11 fun v12 h12 =>
  gd (wantB v9 false) (opH Tryd.prog G (sv (Instr.fieldAt 28 v1 1)) h12) h12 fun v13 h13 =>
  gd (wantB v9 false) (opH Tryd.prog G (sv (Instr.loadAt 3 v13)) h13) h13 fun v14 h14 =>
  gd (wantB v9 false) (opH Tryd.prog G (sv (binOp .add 3 v14 (.int .i64 1))) h14) h14 fun v15 h15 =>
  gd (wantB v9 false) (opH Tryd.prog G (sv (Instr.build 28 #[(0, v12), (1, v15)])) h15) h15 fun v16 h16 =>
  gd (wantB v9 false) (opH Tryd.prog G (callFunc 32 #[v10, v16]) h16) h16 fun v17 h17 =>
  opH Tryd.prog G (xPick v9 (.bool true) v17) h17 fun v18 h18 =>
  K .ret (upd (upd (upd (upd (upd (upd (upd (upd (upd (upd (upd (upd (upd (upd (upd (upd (upd (upd (upd (upd (upd (upd r 2 v0) 3 v1) 4 (.bool false)) 5 v2) 6 v3) 7 v4) 8 v5) 9 v6) 10 v7) 11 v8) 12 v9) 13 v9) 14 v10) 15 v11) 16 v12) 17 v13) 18 v14) 19 v15) 20 v16) 21 v17) 22 v18) 4 v18) h18
theorem S55_eq (G : Hp) (K : Exit → Rg → Hp → Prop) (r : Rg) (h : Hp) : wpC Tryd.prog G 23 md55 true (Tryd.f55.body.getD .skip) r h K = S55 G K r h := by kernel_rfl
theorem enter55 {G : Hp} {h : Hp} {args : Array Value} {R : Value → Hp → Prop} (hn : args.size ≤ 23) (H : S55 G (retK Tryd.prog G [.tmp 4] R) (regs args) h) : HCalls Tryd.prog G 55 args h R :=
  HCalls.enter (md := md55) mixed Tryd.func55 rfl hn (by rw [← S55_eq] at H; exact H)

def md56 : Nat → Hint
  | 5 => ⟨false, [0, 1, 3, 7, 7, 23, 7, 119, 247, 503, 1023, 2047, 4095, 8191, 16383, 32767, 16383, 131071, 262143, 524287, 1048575, 16383, 2113535, 8388607, 16777215], [.pureN, .pureN, .pureN, .pureM, .pureN, .pureM, .pureN, .pureN, .pureN, .pureM, .eff, .pureN, .pureN, .pureN, .pureN, .pureM, .pureN, .pureN, .pureN, .pureM, .pureM, .pureN, .pureM, .pureN, .pureN], [.pureN, .pureN, .pureN, .pureM, .pureN, .pureM, .pureN, .pureN, .pureN, .pureM, .eff, .pureN, .pureN, .pureN, .pureN, .late, .pureN, .pureN, .pureN, .late, .late, .pureN, .late, .pureN, .pureN], [false, false, false, false, false, false, false, false, false, false, false, false, false, false, false, false, false, false, false, false, false, false, false, false, false], false⟩
  | 10 => ⟨false, [0, 1, 0, 7, 15, 31, 0, 64, 0, 448, 960, 1984, 4095], [.pureN, .pureM, .pureN, .pureN, .pureN, .pureM, .pureN, .pureM, .pureN, .pureN, .pureN, .pureM, .pureM], [.pureN, .pureM, .pureN, .pureN, .pureN, .pureM, .pureN, .pureM, .pureN, .pureN, .pureN, .pureM, .pureM], [false, false, false, false, false, false, false, false, false, false, false, false, false], false⟩
  | 23 => ⟨false, [0, 0, 3, 7, 0, 0, 48, 112, 255], [.pureN, .pureN, .pureN, .pureM, .pureN, .pureN, .pureN, .pureM, .pureM], [.pureN, .pureN, .pureN, .pureM, .pureN, .pureN, .pureN, .pureM, .pureM], [false, false, false, false, false, false, false, false, false], false⟩
  | _ => ⟨false, [], [], [], [], false⟩
def S56_k3 (G : Hp) (K : Exit → Rg → Hp → Prop) (r : Rg) (h : Hp) : Prop :=
  K .ret (upd r 2 (.bool true)) h
def S56_l4_k6 (G : Hp) (K : Exit → Rg → Hp → Prop) (r : Rg) (h : Hp) : Prop :=
  opH Tryd.prog G (sv (binOp .add 3 (r 6) (.int .i64 1))) h fun v5 h5 =>
  K .normal (upd (upd (upd r 73 (r 6)) 74 v5) 6 v5) h5
def S56_l4_l8_k10 (G : Hp) (K : Exit → Rg → Hp → Prop) (r : Rg) (h : Hp) : Prop :=
  opH Tryd.prog G (sv (binOp .add 3 (r 7) (.int .i64 1))) h fun v11 h11 =>
  K .normal (upd (upd (upd r 84 (r 7)) 85 v11) 7 v11) h11
def S56_l4_l8_k9 (G : Hp) (K : Exit → Rg → Hp → Prop) (r : Rg) (h : Hp) : Prop :=
  pureW Tryd.prog noHp noHp (sv (Instr.indexAt 57 (r 3) (r 7))) h fun v12 h12 =>
  pureW Tryd.prog G h (sv (Instr.loadAt 3 v12)) h12 fun v13 h13 =>
  pureW Tryd.prog noHp noHp (sv (Instr.indexAt 57 (r 3) (r 6))) h13 fun v14 h14 =>
  pureW Tryd.prog G h (sv (Instr.loadAt 3 v14)) h14 fun v15 h15 =>
  pureW Tryd.prog G h (xEq .eql 3 (.tmp 0) (.tmp 0) v13 v15) h15 fun v16 h16 =>
  cond v16
  (K .ret (upd (upd (upd (upd (upd (upd (upd (upd (upd (upd r 86 (r 3)) 87 (r 7)) 88 v12) 89 v13) 90 (r 3)) 91 (r 6)) 92 v14) 93 v15) 94 v16) 2 (.bool false)) h16)
  (S56_l4_l8_k10 G K (upd (upd (upd (upd (upd (upd (upd (upd (upd r 86 (r 3)) 87 (r 7)) 88 v12) 89 v13) 90 (r 3)) 91 (r 6)) 92 v14) 93 v15) 94 v16) h16)
def S56_l4_l8 (G : Hp) (r : Rg) (h : Hp) (K : Exit → Rg → Hp → Prop) : Prop :=
  opH Tryd.prog G (sv (binOp .lss 3 (r 7) (r 6))) h fun v10 h10 =>
  cond v10
  (S56_l4_l8_k9 G K (upd (upd (upd r 81 (r 7)) 82 (r 6)) 83 v10) h10)
  (K (.exit 6) (upd (upd (upd r 81 (r 7)) 82 (r 6)) 83 v10) h10)
def S56_l4_k7 (G : Hp) (K : Exit → Rg → Hp → Prop) (r : Rg) (h : Hp) : Prop :=
  loopP (S56_l4_l8 G) (upd r 7 (.int .i64 0)) h (blockK 6 (blockK 5 (thenK (S56_l4_k6 G K) K)))
def S56_l4_k5 (G : Hp) (K : Exit → Rg → Hp → Prop) (r : Rg) (h : Hp) : Prop :=
  opH Tryd.prog G (sv (Instr.indexAt 57 (r 3) (r 6))) h fun v6 h6 =>
  opH Tryd.prog G (sv (Instr.loadAt 3 v6)) h6 fun v7 h7 =>
  opH Tryd.prog G (callFunc 58 #[v7, (.int .i64 1), (.int .i64 1000000000)]) h7 fun v8 h8 =>
  opH Tryd.prog G (sv (Op.unary .not v8)) h8 fun v9 h9 =>
  cond v9
  (K .ret (upd (upd (upd (upd (upd (upd (upd r 75 (r 3)) 76 (r 6)) 77 v6) 78 v7) 79 v8) 80 v9) 2 (.bool false)) h9)
  (S56_l4_k7 G K (upd (upd (upd (upd (upd (upd r 75 (r 3)) 76 (r 6)) 77 v6) 78 v7) 79 v8) 80 v9) h9)
def S56_l4 (G : Hp) (r : Rg) (h : Hp) (K : Exit → Rg → Hp → Prop) : Prop :=
  opH Tryd.prog G (sv (Builtin.len_ #[57] 3 #[(r 3)])) h fun v3 h3 =>
  opH Tryd.prog G (sv (binOp .lss 3 (r 6) v3)) h3 fun v4 h4 =>
  cond v4
  (S56_l4_k5 G K (upd (upd (upd (upd r 69 (r 6)) 70 (r 3)) 71 v3) 72 v4) h4)
  (K (.exit 4) (upd (upd (upd (upd r 69 (r 6)) 70 (r 3)) 71 v3) 72 v4) h4)
def S56_k2 (G : Hp) (K : Exit → Rg → Hp → Prop) (r : Rg) (h : Hp) : Prop :=
  loopP (S56_l4 G) (upd r 6 (.int .i64 0)) h (blockK 4 (thenK (S56_k3 G K) K))
def S56_k1 (G : Hp) (K : Exit → Rg → Hp → Prop) (r : Rg) (h : Hp) : Prop :=
  opH Tryd.prog G (sv (Builtin.len_ #[57] 3 #[(r 3)])) h fun v1 h1 =>
  opH Tryd.prog G (sv (binOp .gtr 3 v1 (.int .i64 512))) h1 fun v2 h2 =>
  cond v2
  (K .ret (upd (upd (upd (upd r 66 (r 3)) 67 v1) 68 v2) 2 (.bool false)) h2)
  (S56_k2 G K (upd (upd (upd r 66 (r 3)) 67 v1) 68 v2) h2)
def S56_l11_k13 (G : Hp) (K : Exit → Rg → Hp → Prop) (r : Rg) (h : Hp) : Prop :=
  opH Tryd.prog G (sv (binOp .add 3 (r 4) (.int .i64 1))) h fun v21 h21 =>
  K .normal (upd (upd (upd r 13 (r 4)) 14 v21) 4 v21) h21
def S56_l11_k15 (G : Hp) (K : Exit → Rg → Hp → Prop) (r : Rg) (h : Hp) : Prop :=
  opH Tryd.prog G (sv (Instr.fieldAt 26 (r 1) 6)) h fun v44 h44 =>
  opH Tryd.prog G (sv (Instr.loadAt 24 v44)) h44 fun v45 h45 =>
  opH Tryd.prog G (sv (Instr.indexAt 24 v45 (r 4))) h45 fun v46 h46 =>
  opH Tryd.prog G (sv (Instr.fieldAt 95 v46 1)) h46 fun v47 h47 =>
  opH Tryd.prog G (sv (Instr.loadAt 57 v47)) h47 fun v48 h48 =>
  opH Tryd.prog G (sv (Builtin.append_ #[57, 57] 57 #[(r 3), v48])) h48 fun v49 h49 =>
  S56_l11_k13 G K (upd (upd (upd (upd (upd (upd (upd (upd (upd r 58 (r 3)) 59 v44) 60 v45) 61 (r 4)) 62 v46) 63 v47) 64 v48) 65 v49) 3 v49) h49
def S56_l11_l16_k18 (G : Hp) (K : Exit → Rg → Hp → Prop) (r : Rg) (h : Hp) : Prop :=
  opH Tryd.prog G (sv (binOp .add 3 (r 5) (.int .i64 1))) h fun v51 h51 =>
  K .normal (upd (upd (upd r 43 (r 5)) 44 v51) 5 v51) h51
def S56_l11_l16_k17 (G : Hp) (K : Exit → Rg → Hp → Prop) (r : Rg) (h : Hp) : Prop :=
  pureW Tryd.prog noHp noHp (sv (Instr.fieldAt 26 (r 1) 6)) h fun v52 h52 =>
  pureW Tryd.prog G h (sv (Instr.loadAt 24 v52)) h52 fun v53 h53 =>
  pureW Tryd.prog noHp noHp (sv (Instr.indexAt 24 v53 (r 5))) h53 fun v54 h54 =>
  pureW Tryd.prog noHp noHp (sv (Instr.fieldAt 95 v54 0)) h54 fun v55 h55 =>
  pureW Tryd.prog G h (sv (Instr.loadAt 28 v55)) h55 fun v56 h56 =>
  pureW Tryd.prog noHp noHp (sv (Instr.fieldAt 26 (r 1) 6)) h56 fun v57 h57 =>
  pureW Tryd.prog G h (sv (Instr.loadAt 24 v57)) h57 fun v58 h58 =>
  pureW Tryd.prog noHp noHp (sv (Instr.indexAt 24 v58 (r 4))) h58 fun v59 h59 =>
  pureW Tryd.prog noHp noHp (sv (Instr.fieldAt 95 v59 0)) h59 fun v60 h60 =>
  pureW Tryd.prog G h (sv (Instr.loadAt 28 v60)) h60 fun v61 h61 =>
  pureW Tryd.prog G h (xEq .eql 28 (.tmp 0) (.tmp 0) v56 v61) h61 fun v62 h62 =>
  cond v62
  (K .ret (upd (upd (upd (upd (upd (upd (upd (upd (upd (upd (upd (upd (upd (upd r 45 v52) 46 v53) 47 (r 5)) 48 v54) 49 v55) 50 v56) 51 v57) 52 v58) 53 (r 4)) 54 v59) 55 v60) 56 v61) 57 v62) 2 (.bool false)) h62)
  (S56_l11_l16_k18 G K (upd (upd (upd (upd (upd (upd (upd (upd (upd (upd (upd (upd (upd r 45 v52) 46 v53) 47 (r 5)) 48 v54) 49 v55) 50 v56) 51 v57) 52 v58) 53 (r 4)) 54 v59) 55 v60) 56 v61) 57 v62) h62)
def S56_l11_l16 (G : Hp) (r : Rg) (h : Hp) (K : Exit → Rg → Hp → Prop) : Prop :=
  opH Tryd.prog G (sv (binOp .lss 3 (r 5) (r 4))) h fun v50 h50 =>
  cond v50
  (S56_l11_l16_k17 G K (upd (upd (upd r 40 (r 5)) 41 (r 4)) 42 v50) h50)
  (K (.exit 2) (upd (upd (upd r 40 (r 5)) 41 (r 4)) 42 v50) h50)
def S56_l11_k14 (G : Hp) (K : Exit → Rg → Hp → Prop) (r : Rg) (h : Hp) : Prop :=
  loopP (S56_l11_l16 G) (upd r 5 (.int .i64 0)) h (blockK 2 (thenK (S56_l11_k15 G K) (blockK 1 (thenK (S56_l11_k13 G K) K))))
def S56_l11_k12 (G : Hp) (K : Exit → Rg → Hp → Prop) (r : Rg) (h : Hp) : Prop :=
  pureW Tryd.prog noHp noHp (sv (binOp .gtr 3 (r 4) (.int .i64 256))) h fun v22 h22 =>
  gd (wantB v22 false) (pureW Tryd.prog G h (sv (Instr.loadAt 26 (r 1))) h22) h22 fun v23 h23 =>
  gd (wantB v22 false) (pureW Tryd.prog noHp noHp (sv (Instr.fieldAt 26 (r 1) 6)) h23) h23 fun v24 h24 =>
  gd (wantB v22 false) (pureW Tryd.prog G h (sv (Instr.loadAt 24 v24)) h24) h24 fun v25 h25 =>
  gd (wantB v22 false) (fun K1 => K1 (r 4) h25) h25 fun v26 h26 =>
  gd (wantB v22 false) (pureW Tryd.prog noHp noHp (sv (Instr.indexAt 24 v25 v26)) h26) h26 fun v27 h27 =>
  gd (wantB v22 false) (pureW Tryd.prog noHp noHp (sv (Instr.fieldAt 95 v27 0)) h27) h27 fun v28 h28 =>
  gd (wantB v22 false) (pureW Tryd.prog G h (sv (Instr.loadAt 28 v28)) h28) h28 fun v29 h29 =>
  gd (wantB v22 false) (opH Tryd.prog G (callFunc 36 #[v23, v29]) h29) h29 fun v30 h30 =>
  gd (wantB v22 false) (pureW Tryd.prog noHp noHp (sv (Op.unary .not v30)) h30) h30 fun v31 h31 =>
  pureW Tryd.prog noHp noHp (xPick v22 (.bool true) v31) h31 fun v32 h32 =>
  gd (wantB v32 false) (pureW Tryd.prog noHp noHp (sv (Instr.fieldAt 26 (r 1) 6)) h32) h32 fun v33 h33 =>
  gd (wantB v32 false) (pureW Tryd.prog G h33 (sv (Instr.loadAt 24 v33)) h33) h33 fun v34 h34 =>
  gd (wantB v32 false) (fun K1 => K1 (r 4) h34) h34 fun v35 h35 =>
  gd (wantB v32 false) (pureW Tryd.prog noHp noHp (sv (Instr.indexAt 24 v34 v35)) h35) h35 fun v36 h36 =>
  gd (wantB v32 false) (pureW Tryd.prog noHp noHp (sv (Instr.fieldAt 95 v36 1)) h36) h36 fun v37 h37 =>
  gd (wantB v32 false) (pureW Tryd.prog G h37 (sv (Instr.loadAt 57 v37)) h37) h37 fun v38 h38 =>
  gd (wantB v32 false) (pureW Tryd.prog G h38 (sv (Builtin.len_ #[57] 3 #[v38])) h38) h38 fun v39 h39 =>
  gd (wantB v32 false) (pureW Tryd.prog noHp noHp (sv (Instr.fieldAt 26 (r 1) 2)) h39) h39 fun v40 h40 =>
  gd (wantB v32 false) (pureW Tryd.prog G h40 (sv (Instr.loadAt 3 v40)) h40) h40 fun v41 h41 =>
  gd (wantB v32 false) (pureW Tryd.prog noHp noHp (sv (binOp .gtr 3 v39 v41)) h41) h41 fun v42 h42 =>
  pureW Tryd.prog noHp noHp (xPick v32 (.bool true) v42) h42 fun v43 h43 =>
  cond v43
  (K .ret (upd (upd (upd (upd (upd (upd (upd (upd (upd (upd (upd (upd (upd (upd (upd (upd (upd (upd (upd (upd (upd (upd (upd (upd (upd (upd r 15 (r 4)) 16 v22) 17 v22) 18 v23) 19 v24) 20 v25) 21 v26) 22 v27) 23 v28) 24 v29) 25 v30) 26 v31) 27 v32) 28 v32) 29 v33) 30 v34) 31 v35) 32 v36) 33 v37) 34 v38) 35 v39) 36 v40) 37 v41) 38 v42) 39 v43) 2 (.bool false)) h43)
  (S56_l11_k14 G K (upd (upd (upd (upd (upd (upd (upd (upd (upd (upd (upd (upd (upd (upd (upd (upd (upd (upd (upd (upd (upd (upd (upd (upd (upd r 15 (r 4)) 16 v22) 17 v22) 18 v23) 19 v24) 20 v25) 21 v26) 22 v27) 23 v28) 24 v29) 25 v30) 26 v31) 27 v32) 28 v32) 29 v33) 30 v34) 31 v35) 32 v36) 33 v37) 34 v38) 35 v39) 36 v40) 37 v41) 38 v42) 39 v43) h43)
def S56_l11 (G : Hp) (r : Rg) (h : Hp) (K : Exit → Rg → Hp → Prop) : Prop :=
  opH Tryd.prog G (sv (Instr.fieldAt 26 (r 1) 6)) h fun v17 h17 =>
  opH Tryd.prog G (sv (Instr.loadAt 24 v17)) h17 fun v18 h18 =>
  opH Tryd.prog G (sv (Builtin.len_ #[24] 3 #[v18])) h18 fun v19 h19 =>
  opH Tryd.prog G (sv (binOp .lss 3 (r 4) v19)) h19 fun v20 h20 =>
  cond v20
  (S56_l11_k12 G K (upd (upd (upd (upd (upd r 8 (r 4)) 9 v17) 10 v18) 11 v19) 12 v20) h20)
  (K (.exit 0) (upd (upd (upd (upd (upd r 8 (r 4)) 9 v17) 10 v18) 11 v19) 12 v20) h20)
def S56 (G : Hp) (K : Exit → Rg → Hp → Prop) (r : Rg) (h : Hp) : Prop :=
  opH Tryd.prog G (sv (Instr.box 26 (r 0))) h fun v0 h0 =>
  loopP (S56_l11 G) (upd (upd (upd (upd r 1 v0) 2 (.bool false)) 3 (.slice none 0 0)) 4 (.int .i64 0)) h0 (blockK 0 (thenK (S56_k1 G K) K))
theorem S56_eq (G : Hp) (K : Exit → Rg → Hp → Prop) (r : Rg) (h : Hp) : wpC Tryd.prog G 95 md56 true (Tryd.f56.body.getD .skip) r h K = S56 G K r h := by kernel_rfl
theorem enter56 {G : Hp} {h : Hp} {args : Array Value} {R : Value → Hp → Prop} (hn : args.size ≤ 95) (H : S56 G (retK Tryd.prog G [.tmp 2] R) (regs args) h) : HCalls Tryd.prog G 56 args h R :=
  HCalls.enter (md := md56) mixed Tryd.func56 rfl hn (by rw [← S56_eq] at H; exact H)

def md58 : Nat → Hint
  | _ => ⟨false, [], [], [], [], false⟩
def S58 (G : Hp) (K : Exit → Rg → Hp → Prop) (r : Rg) (h : Hp) : Prop :=
  opH Tryd.prog G (sv (binOp .geq 3 (r 0) (r 1))) h fun v0 h0 =>
  gd (wantB v0 true) (fun K1 => K1 (r 0) h0) h0 fun v1 h1 =>
  gd (wantB v0 true) (fun K1 => K1 (r 2) h1) h1 fun v2 h2 =>
  gd (wantB v0 true) (opH Tryd.prog G (sv (binOp .leq 3 v1 v2)) h2) h2 fun v3 h3 =>
  opH Tryd.prog G (xPick v0 v3 (.bool false)) h3 fun v4 h4 =>
  K .ret (upd (upd (upd (upd (upd (upd (upd (upd (upd (upd r 6 (.bool false)) 7 (r 0)) 8 (r 1)) 9 v0) 10 v0) 11 v1) 12 v2) 13 v3) 14 v4) 6 v4) h4
theorem S58_eq (G : Hp) (K : Exit → Rg → Hp → Prop) (r : Rg) (h : Hp) : wpC Tryd.prog G 15 md58 true (Tryd.f58.body.getD .skip) r h K = S58 G K r h := by kernel_rfl
theorem enter58 {G : Hp} {h : Hp} {args : Array Value} {R : Value → Hp → Prop} (hn : args.size ≤ 15) (H : S58 G (retK Tryd.prog G [.tmp 6] R) (regs args) h) : HCalls Tryd.prog G 58 args h R :=
  HCalls.enter (md := md58) mixed Tryd.func58 rfl hn (by rw [← S58_eq] at H; exact H)

end Go.Proofs.YtnpdploihlgcgaaDoor

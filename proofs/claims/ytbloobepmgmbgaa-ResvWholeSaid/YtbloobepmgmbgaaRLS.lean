/- A text of the proofs. -/
import Derived.Test.YtbloobepmgmbgaaRI
set_option linter.unusedVariables false
set_option maxRecDepth 100000
namespace Go.Proofs.Ytbloobepmgmbgaa
open Go Go.HL
def md7 : Nat → Hint
  | 20 => ⟨false, [0, 1, 3, 7, 7, 31, 7, 71, 199, 511, 1023, 2047], [.pureN, .pureM, .pureN, .pureN, .pureN, .eff, .pureN, .pureN, .pureM, .eff, .pureN, .pureN], [.pureN, .pureM, .pureN, .pureN, .pureN, .eff, .pureN, .pureN, .pureM, .eff, .pureN, .pureN], [false, false, false, false, false, true, false, false, false, false, false, false], false⟩
  | 34 => ⟨false, [0, 1, 3, 3, 15, 31, 63, 3, 255, 511, 1023, 1023, 4095, 8191, 16383, 1023, 33791, 131071, 262143, 524287, 1048575, 1048575, 4194303, 8388607, 16777215, 1048575, 34603007, 134217727, 268435455, 536870911, 1073741823], [.pureN, .pureN, .pureN, .pureN, .pureN, .pureN, .pureM, .pureN, .pureM, .pureN, .pureN, .pureN, .pureN, .pureN, .pureM, .pureN, .pureM, .pureN, .pureN, .pureN, .pureN, .pureN, .pureN, .pureN, .pureM, .pureN, .pureM, .pureN, .pureN, .pureN, .pureN], [.pureN, .pureN, .pureN, .pureN, .pureN, .pureN, .pureM, .pureN, .pureM, .pureN, .pureN, .pureN, .pureN, .pureN, .pureM, .pureN, .pureM, .pureN, .pureN, .pureN, .pureN, .pureN, .pureN, .pureN, .pureM, .pureN, .pureM, .pureN, .pureN, .pureN, .pureN], [false, false, false, false, false, false, false, false, false, false, false, false, false, false, false, false, false, false, false, false, false, false, false, false, false, false, false, false, false, false, false], false⟩
  | 35 => ⟨false, [0, 1, 3, 3, 15, 31, 63, 3, 255, 511, 1023, 1023, 4095, 8191, 16383, 1023, 33791, 131071, 262143, 524287, 1048575, 2097151, 1048575, 1048575, 13631487, 30408703, 63963135, 134217727, 268435455, 536870911, 1073741823], [.pureN, .pureN, .pureN, .pureN, .pureN, .pureN, .pureM, .pureN, .pureM, .pureN, .pureN, .pureN, .pureN, .pureN, .pureM, .pureN, .pureM, .pureN, .pureN, .pureN, .pureN, .pureM, .pureN, .pureN, .pureN, .pureN, .pureM, .pureN, .pureN, .pureN, .pureN], [.pureN, .pureN, .pureN, .pureN, .pureN, .pureN, .pureM, .pureN, .pureM, .pureN, .pureN, .pureN, .pureN, .pureN, .pureM, .pureN, .pureM, .pureN, .pureN, .pureN, .pureN, .pureM, .pureN, .pureN, .pureN, .pureN, .pureM, .pureN, .pureN, .pureN, .pureN], [false, false, false, false, false, false, false, false, false, false, false, false, false, false, false, false, false, false, false, false, false, false, false, false, false, false, false, false, false, false, false], false⟩
  | _ => ⟨false, [], [], [], [], false⟩
def S7_k6 (G : Hp) (K : Exit → Rg → Hp → Prop) (r : Rg) (h : Hp) : Prop :=
  opH Try.prog G (xEq .eql 24 (.tmp 0) (.const .nilFunc) (r 13) (.int .i64 18)) h fun v16 h16 =>
  opH Try.prog G (xEq .eql 4 (.tmp 0) (.tmp 0) v16 (r 15)) h16 fun v17 h17 =>
  gd (wantB v17 true) (fun K1 => K1 (r 13) h17) h17 fun v18 h18 =>
  gd (wantB v17 true) (opH Try.prog G (xEq .eql 24 (.tmp 0) (.const .nilFunc) v18 (.int .i64 0)) h18) h18 fun v19 h19 =>
  gd (wantB v17 true) (fun K1 => K1 v19 h19) h19 fun v20 h20 =>
  gd (wantB v20 false) (fun K1 => K1 (r 13) h20) h20 fun v21 h21 =>
  gd (wantB v20 false) (opH Try.prog G (xEq .eql 24 (.tmp 0) (.const .nilFunc) v21 (.int .i64 18)) h21) h21 fun v22 h22 =>
  gd (wantB v17 true) (opH Try.prog G (xPick v20 (.bool true) v22) h22) h22 fun v23 h23 =>
  opH Try.prog G (xPick v17 v23 (.bool false)) h23 fun v24 h24 =>
  gd (wantB v24 true) (opH Try.prog G (callFunc 13 #[]) h24) h24 fun v25 h25 =>
  opH Try.prog G (xPick v24 v25 (.bool false)) h25 fun v26 h26 =>
  K .ret (upd (upd (upd (upd (upd (upd (upd (upd (upd (upd (upd (upd (upd (upd (upd (upd r 228 (r 13)) 229 v16) 230 (r 15)) 231 v17) 232 v17) 233 v18) 234 v19) 235 v20) 236 v21) 237 v22) 238 v23) 239 v24) 240 v24) 241 v25) 242 v26) 6 v26) h26
def S7_k5 (G : Hp) (K : Exit → Rg → Hp → Prop) (r : Rg) (h : Hp) : Prop :=
  opH Try.prog G (sv (binOp .lss 3 (r 1) (.int .i64 0))) h fun v15 h15 =>
  cond v15
  (opH Try.prog G (xEq .eql 24 (.tmp 0) (.const .nilFunc) (r 13) (.int .i64 1)) h15 fun v27 h27 =>
  gd (wantB v27 true) (opH Try.prog G (callFunc 13 #[]) h27) h27 fun v28 h28 =>
  opH Try.prog G (xPick v27 v28 (.bool false)) h28 fun v29 h29 =>
  K .ret (upd (upd (upd (upd (upd (upd (upd (upd r 221 (r 1)) 222 v15) 223 (r 13)) 224 v27) 225 v27) 226 v28) 227 v29) 6 v29) h29)
  (S7_k6 G K (upd (upd r 221 (r 1)) 222 v15) h15)
def S7_l7_k9 (G : Hp) (K : Exit → Rg → Hp → Prop) (r : Rg) (h : Hp) : Prop :=
  opH Try.prog G (sv (binOp .add 3 (r 16) (.int .i64 1))) h fun v32 h32 =>
  K .normal (upd (upd (upd r 105 (r 16)) 106 v32) 16 v32) h32
def S7_l7_k11 (G : Hp) (K : Exit → Rg → Hp → Prop) (r : Rg) (h : Hp) : Prop :=
  opH Try.prog G (xEq .eql 24 (.tmp 0) (.const .nilFunc) (r 13) (.int .i64 0)) h fun v63 h63 =>
  gd (wantB v63 true) (fun K1 => K1 (r 18) h63) h63 fun v64 h64 =>
  gd (wantB v63 true) (opH Try.prog G (sv (Op.unary .not v64)) h64) h64 fun v65 h65 =>
  opH Try.prog G (xPick v63 v65 (.bool false)) h65 fun v66 h66 =>
  cond v66
  (K .ret (upd (upd (upd (upd (upd (upd (upd r 215 (r 13)) 216 v63) 217 v63) 218 v64) 219 v65) 220 v66) 6 (.bool false)) h66)
  (S7_l7_k9 G K (upd (upd (upd (upd (upd (upd r 215 (r 13)) 216 v63) 217 v63) 218 v64) 219 v65) 220 v66) h66)
def S7_l7_l12_k14 (G : Hp) (K : Exit → Rg → Hp → Prop) (r : Rg) (h : Hp) : Prop :=
  opH Try.prog G (sv (binOp .add 3 (r 20) (.int .i64 1))) h fun v69 h69 =>
  K .normal (upd (upd (upd r 153 (r 20)) 154 v69) 20 v69) h69
def S7_l7_l12_k13 (G : Hp) (K : Exit → Rg → Hp → Prop) (r : Rg) (h : Hp) : Prop :=
  gd (wantB (r 18) false) (fun K1 => K1 (r 19) h) h fun v70 h70 =>
  gd (wantB (r 18) false) (fun K1 => K1 (r 20) h70) h70 fun v71 h71 =>
  gd (wantB (r 18) false) (pureW Try.prog noHp noHp (sv (Instr.indexAt 32 v70 v71)) h71) h71 fun v72 h72 =>
  gd (wantB (r 18) false) (pureW Try.prog noHp noHp (sv (Instr.fieldAt 35 v72 2)) h72) h72 fun v73 h73 =>
  gd (wantB (r 18) false) (pureW Try.prog G h (sv (Instr.loadAt 3 v73)) h73) h73 fun v74 h74 =>
  gd (wantB (r 18) false) (fun K1 => K1 (r 1) h74) h74 fun v75 h75 =>
  gd (wantB (r 18) false) (pureW Try.prog G h (xEq .eql 3 (.tmp 0) (.tmp 0) v74 v75) h75) h75 fun v76 h76 =>
  gd (wantB (r 18) false) (fun K1 => K1 v76 h76) h76 fun v77 h77 =>
  gd (wantB v77 true) (fun K1 => K1 (r 19) h77) h77 fun v78 h78 =>
  gd (wantB v77 true) (fun K1 => K1 (r 20) h78) h78 fun v79 h79 =>
  gd (wantB v77 true) (pureW Try.prog noHp noHp (sv (Instr.indexAt 32 v78 v79)) h79) h79 fun v80 h80 =>
  gd (wantB v77 true) (pureW Try.prog noHp noHp (sv (Instr.fieldAt 35 v80 0)) h80) h80 fun v81 h81 =>
  gd (wantB v77 true) (pureW Try.prog G h (sv (Instr.loadAt 3 v81)) h81) h81 fun v82 h82 =>
  gd (wantB v77 true) (pureW Try.prog noHp noHp (sv (Instr.fieldAt 30 (r 17) 1)) h82) h82 fun v83 h83 =>
  gd (wantB v77 true) (pureW Try.prog G h (sv (Instr.loadAt 3 v83)) h83) h83 fun v84 h84 =>
  gd (wantB v77 true) (pureW Try.prog noHp noHp (sv (binOp .leq 3 v82 v84)) h84) h84 fun v85 h85 =>
  gd (wantB (r 18) false) (pureW Try.prog noHp noHp (xPick v77 v85 (.bool false)) h85) h85 fun v86 h86 =>
  gd (wantB (r 18) false) (fun K1 => K1 v86 h86) h86 fun v87 h87 =>
  gd (wantB v87 true) (fun K1 => K1 (r 19) h87) h87 fun v88 h88 =>
  gd (wantB v87 true) (fun K1 => K1 (r 20) h88) h88 fun v89 h89 =>
  gd (wantB v87 true) (pureW Try.prog noHp noHp (sv (Instr.indexAt 32 v88 v89)) h89) h89 fun v90 h90 =>
  gd (wantB v87 true) (pureW Try.prog noHp noHp (sv (Instr.fieldAt 35 v90 1)) h90) h90 fun v91 h91 =>
  gd (wantB v87 true) (pureW Try.prog G h (sv (Instr.loadAt 3 v91)) h91) h91 fun v92 h92 =>
  gd (wantB v87 true) (pureW Try.prog noHp noHp (sv (Instr.fieldAt 30 (r 17) 2)) h92) h92 fun v93 h93 =>
  gd (wantB v87 true) (pureW Try.prog G h (sv (Instr.loadAt 3 v93)) h93) h93 fun v94 h94 =>
  gd (wantB v87 true) (pureW Try.prog noHp noHp (sv (binOp .geq 3 v92 v94)) h94) h94 fun v95 h95 =>
  gd (wantB (r 18) false) (pureW Try.prog noHp noHp (xPick v87 v95 (.bool false)) h95) h95 fun v96 h96 =>
  pureW Try.prog noHp noHp (xPick (r 18) (.bool true) v96) h96 fun v97 h97 =>
  gd (wantB (r 15) false) (fun K1 => K1 (r 19) h97) h97 fun v98 h98 =>
  gd (wantB (r 15) false) (fun K1 => K1 (r 20) h98) h98 fun v99 h99 =>
  gd (wantB (r 15) false) (pureW Try.prog noHp noHp (sv (Instr.indexAt 32 v98 v99)) h99) h99 fun v100 h100 =>
  gd (wantB (r 15) false) (pureW Try.prog noHp noHp (sv (Instr.fieldAt 35 v100 2)) h100) h100 fun v101 h101 =>
  gd (wantB (r 15) false) (pureW Try.prog G h97 (sv (Instr.loadAt 3 v101)) h101) h101 fun v102 h102 =>
  gd (wantB (r 15) false) (fun K1 => K1 (r 1) h102) h102 fun v103 h103 =>
  gd (wantB (r 15) false) (pureW Try.prog G h97 (xEq .neq 3 (.tmp 0) (.tmp 0) v102 v103) h103) h103 fun v104 h104 =>
  gd (wantB (r 15) false) (fun K1 => K1 v104 h104) h104 fun v105 h105 =>
  gd (wantB v105 true) (fun K1 => K1 (r 19) h105) h105 fun v106 h106 =>
  gd (wantB v105 true) (fun K1 => K1 (r 20) h106) h106 fun v107 h107 =>
  gd (wantB v105 true) (pureW Try.prog noHp noHp (sv (Instr.indexAt 32 v106 v107)) h107) h107 fun v108 h108 =>
  gd (wantB v105 true) (pureW Try.prog noHp noHp (sv (Instr.fieldAt 35 v108 0)) h108) h108 fun v109 h109 =>
  gd (wantB v105 true) (pureW Try.prog G h97 (sv (Instr.loadAt 3 v109)) h109) h109 fun v110 h110 =>
  gd (wantB v105 true) (pureW Try.prog noHp noHp (sv (Instr.fieldAt 30 (r 17) 2)) h110) h110 fun v111 h111 =>
  gd (wantB v105 true) (pureW Try.prog G h97 (sv (Instr.loadAt 3 v111)) h111) h111 fun v112 h112 =>
  gd (wantB v105 true) (pureW Try.prog noHp noHp (sv (binOp .lss 3 v110 v112)) h112) h112 fun v113 h113 =>
  gd (wantB (r 15) false) (pureW Try.prog noHp noHp (xPick v105 v113 (.bool false)) h113) h113 fun v114 h114 =>
  gd (wantB (r 15) false) (fun K1 => K1 v114 h114) h114 fun v115 h115 =>
  gd (wantB v115 true) (pureW Try.prog noHp noHp (sv (Instr.fieldAt 30 (r 17) 1)) h115) h115 fun v116 h116 =>
  gd (wantB v115 true) (pureW Try.prog G h97 (sv (Instr.loadAt 3 v116)) h116) h116 fun v117 h117 =>
  gd (wantB v115 true) (fun K1 => K1 (r 19) h117) h117 fun v118 h118 =>
  gd (wantB v115 true) (fun K1 => K1 (r 20) h118) h118 fun v119 h119 =>
  gd (wantB v115 true) (pureW Try.prog noHp noHp (sv (Instr.indexAt 32 v118 v119)) h119) h119 fun v120 h120 =>
  gd (wantB v115 true) (pureW Try.prog noHp noHp (sv (Instr.fieldAt 35 v120 1)) h120) h120 fun v121 h121 =>
  gd (wantB v115 true) (pureW Try.prog G h97 (sv (Instr.loadAt 3 v121)) h121) h121 fun v122 h122 =>
  gd (wantB v115 true) (pureW Try.prog noHp noHp (sv (binOp .lss 3 v117 v122)) h122) h122 fun v123 h123 =>
  gd (wantB (r 15) false) (pureW Try.prog noHp noHp (xPick v115 v123 (.bool false)) h123) h123 fun v124 h124 =>
  pureW Try.prog noHp noHp (xPick (r 15) (.bool true) v124) h124 fun v125 h125 =>
  S7_l7_l12_k14 G K (upd (upd (upd (upd (upd (upd (upd (upd (upd (upd (upd (upd (upd (upd (upd (upd (upd (upd (upd (upd (upd (upd (upd (upd (upd (upd (upd (upd (upd (upd (upd (upd (upd (upd (upd (upd (upd (upd (upd (upd (upd (upd (upd (upd (upd (upd (upd (upd (upd (upd (upd (upd (upd (upd (upd (upd (upd (upd (upd (upd (upd (upd r 155 (r 18)) 156 (r 18)) 157 v70) 158 v71) 159 v72) 160 v73) 161 v74) 162 v75) 163 v76) 164 v77) 165 v78) 166 v79) 167 v80) 168 v81) 169 v82) 170 v83) 171 v84) 172 v85) 173 v86) 174 v87) 175 v88) 176 v89) 177 v90) 178 v91) 179 v92) 180 v93) 181 v94) 182 v95) 183 v96) 184 v97) 18 v97) 185 (r 15)) 186 (r 15)) 187 v98) 188 v99) 189 v100) 190 v101) 191 v102) 192 v103) 193 v104) 194 v105) 195 v106) 196 v107) 197 v108) 198 v109) 199 v110) 200 v111) 201 v112) 202 v113) 203 v114) 204 v115) 205 v116) 206 v117) 207 v118) 208 v119) 209 v120) 210 v121) 211 v122) 212 v123) 213 v124) 214 v125) 15 v125) h125
def S7_l7_l12 (G : Hp) (r : Rg) (h : Hp) (K : Exit → Rg → Hp → Prop) : Prop :=
  opH Try.prog G (sv (Builtin.len_ #[32] 3 #[(r 19)])) h fun v67 h67 =>
  opH Try.prog G (sv (binOp .lss 3 (r 20) v67)) h67 fun v68 h68 =>
  cond v68
  (S7_l7_l12_k13 G K (upd (upd (upd (upd r 149 (r 20)) 150 (r 19)) 151 v67) 152 v68) h68)
  (K (.exit 8) (upd (upd (upd (upd r 149 (r 20)) 150 (r 19)) 151 v67) 152 v68) h68)
def S7_l7_k10 (G : Hp) (K : Exit → Rg → Hp → Prop) (r : Rg) (h : Hp) : Prop :=
  opH Try.prog G (sv (Instr.fieldAt 30 (r 17) 0)) h fun v60 h60 =>
  opH Try.prog G (sv (Instr.loadAt 3 v60)) h60 fun v61 h61 =>
  opH Try.prog G (callFunc 16 #[(r 7), v61]) h61 fun v62 h62 =>
  loopP (S7_l7_l12 G) (upd (upd (upd (upd (upd (upd (upd r 18 (.bool false)) 145 (r 7)) 146 v60) 147 v61) 148 v62) 19 v62) 20 (.int .i64 0)) h62 (blockK 8 (thenK (S7_l7_k11 G K) (blockK 7 (thenK (S7_l7_k9 G K) K))))
def S7_l7_k8 (G : Hp) (K : Exit → Rg → Hp → Prop) (r : Rg) (h : Hp) : Prop :=
  opH Try.prog G (sv (Instr.indexAt 22 (r 2) (r 16))) h fun v33 h33 =>
  opH Try.prog G (sv (Instr.loadAt 30 v33)) h33 fun v34 h34 =>
  opH Try.prog G (sv (Instr.alloc 30 true (.tuple #[]))) h34 fun v35 h35 =>
  opH Try.prog G (su (Instr.storeAt 30 v35 v34)) h35 fun v36 h36 =>
  opH Try.prog G (sv (binOp .lss 3 (r 1) (.int .i64 0))) h36 fun v37 h37 =>
  gd (wantB v37 false) (opH Try.prog G (sv (Instr.fieldAt 30 v35 0)) h37) h37 fun v38 h38 =>
  gd (wantB v37 false) (opH Try.prog G (sv (Instr.loadAt 3 v38)) h38) h38 fun v39 h39 =>
  gd (wantB v37 false) (opH Try.prog G (sv (binOp .lss 3 v39 (.int .i64 0))) h39) h39 fun v40 h40 =>
  opH Try.prog G (xPick v37 (.bool true) v40) h40 fun v41 h41 =>
  gd (wantB v41 false) (opH Try.prog G (sv (Instr.fieldAt 30 v35 0)) h41) h41 fun v42 h42 =>
  gd (wantB v41 false) (opH Try.prog G (sv (Instr.loadAt 3 v42)) h42) h42 fun v43 h43 =>
  gd (wantB v41 false) (opH Try.prog G (sv (binOp .geq 3 v43 (.int .i64 6))) h43) h43 fun v44 h44 =>
  opH Try.prog G (xPick v41 (.bool true) v44) h44 fun v45 h45 =>
  gd (wantB v45 false) (opH Try.prog G (sv (Instr.fieldAt 30 v35 1)) h45) h45 fun v46 h46 =>
  gd (wantB v45 false) (opH Try.prog G (sv (Instr.loadAt 3 v46)) h46) h46 fun v47 h47 =>
  gd (wantB v45 false) (opH Try.prog G (sv (binOp .lss 3 v47 (.int .i64 0))) h47) h47 fun v48 h48 =>
  opH Try.prog G (xPick v45 (.bool true) v48) h48 fun v49 h49 =>
  gd (wantB v49 false) (opH Try.prog G (sv (Instr.fieldAt 30 v35 1)) h49) h49 fun v50 h50 =>
  gd (wantB v49 false) (opH Try.prog G (sv (Instr.loadAt 3 v50)) h50) h50 fun v51 h51 =>
  gd (wantB v49 false) (opH Try.prog G (sv (Instr.fieldAt 30 v35 2)) h51) h51 fun v52 h52 =>
  gd (wantB v49 false) (opH Try.prog G (sv (Instr.loadAt 3 v52)) h52) h52 fun v53 h53 =>
  gd (wantB v49 false) (opH Try.prog G (sv (binOp .geq 3 v51 v53)) h53) h53 fun v54 h54 =>
  opH Try.prog G (xPick v49 (.bool true) v54) h54 fun v55 h55 =>
  gd (wantB v55 false) (opH Try.prog G (sv (Instr.fieldAt 30 v35 2)) h55) h55 fun v56 h56 =>
  gd (wantB v55 false) (opH Try.prog G (sv (Instr.loadAt 3 v56)) h56) h56 fun v57 h57 =>
  gd (wantB v55 false) (opH Try.prog G (sv (binOp .gtr 3 v57 (.int .i64 4611686018427387904))) h57) h57 fun v58 h58 =>
  opH Try.prog G (xPick v55 (.bool true) v58) h58 fun v59 h59 =>
  cond v59
  (opH Try.prog G (xEq .eql 24 (.tmp 0) (.const .nilFunc) (r 13) (.int .i64 1)) h59 fun v126 h126 =>
  gd (wantB v126 true) (opH Try.prog G (callFunc 13 #[]) h126) h126 fun v127 h127 =>
  opH Try.prog G (xPick v126 v127 (.bool false)) h127 fun v128 h128 =>
  K .ret (upd (upd (upd (upd (upd (upd (upd (upd (upd (upd (upd (upd (upd (upd (upd (upd (upd (upd (upd (upd (upd (upd (upd (upd (upd (upd (upd (upd (upd (upd (upd (upd (upd (upd (upd (upd (upd (upd (upd (upd r 107 (r 2)) 108 (r 16)) 109 v33) 110 v34) 17 v35) 111 (r 1)) 112 v37) 113 v37) 114 v38) 115 v39) 116 v40) 117 v41) 118 v41) 119 v42) 120 v43) 121 v44) 122 v45) 123 v45) 124 v46) 125 v47) 126 v48) 127 v49) 128 v49) 129 v50) 130 v51) 131 v52) 132 v53) 133 v54) 134 v55) 135 v55) 136 v56) 137 v57) 138 v58) 139 v59) 140 (r 13)) 141 v126) 142 v126) 143 v127) 144 v128) 6 v128) h128)
  (S7_l7_k10 G K (upd (upd (upd (upd (upd (upd (upd (upd (upd (upd (upd (upd (upd (upd (upd (upd (upd (upd (upd (upd (upd (upd (upd (upd (upd (upd (upd (upd (upd (upd (upd (upd (upd (upd r 107 (r 2)) 108 (r 16)) 109 v33) 110 v34) 17 v35) 111 (r 1)) 112 v37) 113 v37) 114 v38) 115 v39) 116 v40) 117 v41) 118 v41) 119 v42) 120 v43) 121 v44) 122 v45) 123 v45) 124 v46) 125 v47) 126 v48) 127 v49) 128 v49) 129 v50) 130 v51) 131 v52) 132 v53) 133 v54) 134 v55) 135 v55) 136 v56) 137 v57) 138 v58) 139 v59) h59)
def S7_l7 (G : Hp) (r : Rg) (h : Hp) (K : Exit → Rg → Hp → Prop) : Prop :=
  opH Try.prog G (sv (Builtin.len_ #[22] 3 #[(r 2)])) h fun v30 h30 =>
  opH Try.prog G (sv (binOp .lss 3 (r 16) v30)) h30 fun v31 h31 =>
  cond v31
  (S7_l7_k8 G K (upd (upd (upd (upd r 101 (r 16)) 102 (r 2)) 103 v30) 104 v31) h31)
  (K (.exit 6) (upd (upd (upd (upd r 101 (r 16)) 102 (r 2)) 103 v30) 104 v31) h31)
def S7_k4 (G : Hp) (K : Exit → Rg → Hp → Prop) (r : Rg) (h : Hp) : Prop :=
  loopP (S7_l7 G) (upd (upd r 15 (.bool false)) 16 (.int .i64 0)) h (blockK 6 (thenK (S7_k5 G K) K))
def S7_l15_k17 (G : Hp) (K : Exit → Rg → Hp → Prop) (r : Rg) (h : Hp) : Prop :=
  opH Try.prog G (sv (binOp .add 3 (r 14) (.int .i64 1))) h fun v130 h130 =>
  K .normal (upd (upd (upd r 87 (r 14)) 88 v130) 14 v130) h130
def S7_l15_k16 (G : Hp) (K : Exit → Rg → Hp → Prop) (r : Rg) (h : Hp) : Prop :=
  pureW Try.prog G h (xEq .neq 24 (.tmp 0) (.const .nilFunc) (r 13) (.int .i64 0)) h fun v131 h131 =>
  gd (wantB v131 true) (fun K1 => K1 (r 7) h131) h131 fun v132 h132 =>
  gd (wantB v131 true) (fun K1 => K1 (r 14) h132) h132 fun v133 h133 =>
  gd (wantB v131 true) (fun K1 => opH Try.prog G (callFunc 16 #[v132, v133]) h133 fun v h' => h.le h' ∧ K1 v h') h133 fun v134 h134 =>
  gd (wantB v131 true) (fun K1 => K1 (r 14) h134) h134 fun v135 h135 =>
  gd (wantB v131 true) (pureW Try.prog noHp noHp (sv (Instr.indexAt 56 (r 11) v135)) h135) h135 fun v136 h136 =>
  gd (wantB v131 true) (pureW Try.prog G h (sv (Instr.loadAt 32 v136)) h136) h136 fun v137 h137 =>
  gd (wantB v131 true) (opH Try.prog G (callFunc 19 #[v134, v137]) h137) h137 fun v138 h138 =>
  gd (wantB v131 true) (pureW Try.prog noHp noHp (sv (Op.unary .not v138)) h138) h138 fun v139 h139 =>
  pureW Try.prog noHp noHp (xPick v131 v139 (.bool false)) h139 fun v140 h140 =>
  cond v140
  (K .ret (upd (upd (upd (upd (upd (upd (upd (upd (upd (upd (upd (upd (upd r 89 (r 13)) 90 v131) 91 v131) 92 v132) 93 v133) 94 v134) 95 v135) 96 v136) 97 v137) 98 v138) 99 v139) 100 v140) 6 (.bool false)) h140)
  (S7_l15_k17 G K (upd (upd (upd (upd (upd (upd (upd (upd (upd (upd (upd (upd r 89 (r 13)) 90 v131) 91 v131) 92 v132) 93 v133) 94 v134) 95 v135) 96 v136) 97 v137) 98 v138) 99 v139) 100 v140) h140)
def S7_l15 (G : Hp) (r : Rg) (h : Hp) (K : Exit → Rg → Hp → Prop) : Prop :=
  opH Try.prog G (sv (binOp .lss 3 (r 14) (.int .i64 6))) h fun v129 h129 =>
  cond v129
  (S7_l15_k16 G K (upd (upd r 85 (r 14)) 86 v129) h129)
  (K (.exit 4) (upd (upd r 85 (r 14)) 86 v129) h129)
def S7_k3 (G : Hp) (K : Exit → Rg → Hp → Prop) (r : Rg) (h : Hp) : Prop :=
  opH Try.prog G (sv (Builtin.append_ #[22, 22] 22 #[(.slice none 0 0), (r 2)])) h fun v13 h13 =>
  opH Try.prog G (callFunc 15 #[(r 7), (r 1), v13]) h13 fun v14 h14 =>
  loopP (S7_l15 G) (upd (upd (upd (upd (upd (upd (upd r 80 (r 7)) 81 (r 1)) 82 (r 2)) 83 v13) 84 v14) 13 v14) 14 (.int .i64 0)) h14 (blockK 4 (thenK (S7_k4 G K) K))
def S7_l18_k20 (G : Hp) (K : Exit → Rg → Hp → Prop) (r : Rg) (h : Hp) : Prop :=
  opH Try.prog G (sv (binOp .add 3 (r 12) (.int .i64 1))) h fun v142 h142 =>
  K .normal (upd (upd (upd r 73 (r 12)) 74 v142) 12 v142) h142
def S7_l18_k19 (G : Hp) (K : Exit → Rg → Hp → Prop) (r : Rg) (h : Hp) : Prop :=
  opH Try.prog G (callFunc 16 #[(r 7), (r 12)]) h fun v143 h143 =>
  opH Try.prog G (sv (Instr.indexAt 56 (r 11) (r 12))) h143 fun v144 h144 =>
  opH Try.prog G (su (Instr.storeAt 32 v144 v143)) h144 fun v145 h145 =>
  S7_l18_k20 G K (upd (upd (upd (upd (upd r 75 (r 12)) 76 (r 7)) 77 (r 12)) 78 v143) 79 v144) h145
def S7_l18 (G : Hp) (r : Rg) (h : Hp) (K : Exit → Rg → Hp → Prop) : Prop :=
  opH Try.prog G (sv (binOp .lss 3 (r 12) (.int .i64 6))) h fun v141 h141 =>
  cond v141
  (S7_l18_k19 G K (upd (upd r 71 (r 12)) 72 v141) h141)
  (K (.exit 2) (upd (upd r 71 (r 12)) 72 v141) h141)
def S7_k2 (G : Hp) (K : Exit → Rg → Hp → Prop) (r : Rg) (h : Hp) : Prop :=
  opH Try.prog G (sv (Instr.alloc 56 true (.tuple #[]))) h fun v12 h12 =>
  loopP (S7_l18 G) (upd (upd r 11 v12) 12 (.int .i64 0)) h12 (blockK 2 (thenK (S7_k3 G K) K))
def S7_l21_k23 (G : Hp) (K : Exit → Rg → Hp → Prop) (r : Rg) (h : Hp) : Prop :=
  opH Try.prog G (sv (binOp .add 3 (r 10) (.int .i64 1))) h fun v151 h151 =>
  K .normal (upd (upd (upd r 54 (r 10)) 55 v151) 10 v151) h151
def S7_l21_k24 (G : Hp) (K : Exit → Rg → Hp → Prop) (r : Rg) (h : Hp) : Prop :=
  opH Try.prog G (sv (Instr.indexAt 46 (r 0) (r 10))) h fun v157 h157 =>
  opH Try.prog G (sv (Instr.loadAt 51 v157)) h157 fun v158 h158 =>
  opH Try.prog G (callFunc 24 #[(r 7), (r 9), v158]) h158 fun v159 h159 =>
  S7_l21_k23 G K (upd (upd (upd (upd (upd (upd (upd r 64 (r 7)) 65 (r 9)) 66 (r 0)) 67 (r 10)) 68 v157) 69 v158) 70 v159) h159
def S7_l21_k22 (G : Hp) (K : Exit → Rg → Hp → Prop) (r : Rg) (h : Hp) : Prop :=
  opH Try.prog G (sv (Instr.indexAt 46 (r 0) (r 10))) h fun v152 h152 =>
  opH Try.prog G (sv (Instr.fieldAt 51 v152 5)) h152 fun v153 h153 =>
  opH Try.prog G (sv (Instr.loadAt 22 v153)) h153 fun v154 h154 =>
  opH Try.prog G (sv (Builtin.len_ #[22] 3 #[v154])) h154 fun v155 h155 =>
  opH Try.prog G (sv (binOp .gtr 3 v155 (.int .i64 60))) h155 fun v156 h156 =>
  cond v156
  (opH Try.prog G (callFunc 13 #[]) h156 fun v160 h160 =>
  K .ret (upd (upd (upd (upd (upd (upd (upd (upd (upd r 56 (r 0)) 57 (r 10)) 58 v152) 59 v153) 60 v154) 61 v155) 62 v156) 63 v160) 6 v160) h160)
  (S7_l21_k24 G K (upd (upd (upd (upd (upd (upd (upd r 56 (r 0)) 57 (r 10)) 58 v152) 59 v153) 60 v154) 61 v155) 62 v156) h156)
def S7_l21 (G : Hp) (r : Rg) (h : Hp) (K : Exit → Rg → Hp → Prop) : Prop :=
  opH Try.prog G (sv (Builtin.len_ #[46] 3 #[(r 0)])) h fun v146 h146 =>
  opH Try.prog G (sv (binOp .lss 3 (r 10) v146)) h146 fun v147 h147 =>
  gd (wantB v147 true) (fun K1 => K1 (r 10) h147) h147 fun v148 h148 =>
  gd (wantB v147 true) (opH Try.prog G (sv (binOp .lss 3 v148 (.int .i64 30))) h148) h148 fun v149 h149 =>
  opH Try.prog G (xPick v147 v149 (.bool false)) h149 fun v150 h150 =>
  cond v150
  (S7_l21_k22 G K (upd (upd (upd (upd (upd (upd (upd (upd r 46 (r 10)) 47 (r 0)) 48 v146) 49 v147) 50 v147) 51 v148) 52 v149) 53 v150) h150)
  (K (.exit 0) (upd (upd (upd (upd (upd (upd (upd (upd r 46 (r 10)) 47 (r 0)) 48 v146) 49 v147) 50 v147) 51 v148) 52 v149) 53 v150) h150)
def S7_k1 (G : Hp) (K : Exit → Rg → Hp → Prop) (r : Rg) (h : Hp) : Prop :=
  opH Try.prog G (callFunc 23 #[(.int .i64 6)]) h fun v11 h11 =>
  loopP (S7_l21 G) (upd (upd (upd r 45 v11) 9 v11) 10 (.int .i64 0)) h11 (blockK 0 (thenK (S7_k2 G K) K))
def S7 (G : Hp) (K : Exit → Rg → Hp → Prop) (r : Rg) (h : Hp) : Prop :=
  opH Try.prog G (callFunc 12 #[(.int .i64 6)]) h fun v0 h0 =>
  opH Try.prog G (sv (Instr.extract v0 0)) h0 fun v1 h1 =>
  opH Try.prog G (sv (Instr.extract v0 1)) h1 fun v2 h2 =>
  opH Try.prog G (xEq .neq 24 (.tmp 0) (.const .nilFunc) v2 (.int .i64 0)) h2 fun v3 h3 =>
  gd (wantB v3 false) (fun K1 => K1 v1 h3) h3 fun v4 h4 =>
  gd (wantB v3 false) (opH Try.prog G (xEq .eql 23 (.tmp 0) (.const .nilFunc) v4 (.pointer none)) h4) h4 fun v5 h5 =>
  opH Try.prog G (xPick v3 (.bool true) v5) h5 fun v6 h6 =>
  gd (wantB v6 false) (fun K1 => K1 (r 2) h6) h6 fun v7 h7 =>
  gd (wantB v6 false) (opH Try.prog G (sv (Builtin.len_ #[22] 3 #[v7])) h7) h7 fun v8 h8 =>
  gd (wantB v6 false) (opH Try.prog G (sv (binOp .gtr 3 v8 (.int .i64 60))) h8) h8 fun v9 h9 =>
  opH Try.prog G (xPick v6 (.bool true) v9) h9 fun v10 h10 =>
  cond v10
  (opH Try.prog G (xEq .eql 24 (.tmp 0) (.const .nilFunc) v2 (.int .i64 0)) h10 fun v161 h161 =>
  gd (wantB v161 true) (fun K1 => K1 v1 h161) h161 fun v162 h162 =>
  gd (wantB v161 true) (opH Try.prog G (xEq .neq 23 (.tmp 0) (.const .nilFunc) v162 (.pointer none)) h162) h162 fun v163 h163 =>
  opH Try.prog G (xPick v161 v163 (.bool false)) h163 fun v164 h164 =>
  gd (wantB v164 true) (opH Try.prog G (callFunc 13 #[]) h164) h164 fun v165 h165 =>
  opH Try.prog G (xPick v164 v165 (.bool false)) h165 fun v166 h166 =>
  K .ret (upd (upd (upd (upd (upd (upd (upd (upd (upd (upd (upd (upd (upd (upd (upd (upd (upd (upd (upd (upd (upd (upd (upd (upd (upd (upd (upd (upd r 6 (.bool false)) 22 v0) 21 v0) 23 v1) 24 v2) 7 v1) 8 v2) 25 v2) 26 v3) 27 v3) 28 v4) 29 v5) 30 v6) 31 v6) 32 v7) 33 v8) 34 v9) 35 v10) 36 v2) 37 v161) 38 v161) 39 v162) 40 v163) 41 v164) 42 v164) 43 v165) 44 v166) 6 v166) h166)
  (S7_k1 G K (upd (upd (upd (upd (upd (upd (upd (upd (upd (upd (upd (upd (upd (upd (upd (upd (upd (upd r 6 (.bool false)) 22 v0) 21 v0) 23 v1) 24 v2) 7 v1) 8 v2) 25 v2) 26 v3) 27 v3) 28 v4) 29 v5) 30 v6) 31 v6) 32 v7) 33 v8) 34 v9) 35 v10) h10)
theorem S7_eq (G : Hp) (K : Exit → Rg → Hp → Prop) (r : Rg) (h : Hp) : wpC Try.prog G 243 md7 true (Try.f7.body.getD .skip) r h K = S7 G K r h := by kernel_rfl
theorem enter7 {G : Hp} {h : Hp} {args : Array Value} {R : Value → Hp → Prop} (hn : args.size ≤ 243) (H : S7 G (retK Try.prog G [.tmp 6] R) (regs args) h) : HCalls Try.prog G 7 args h R :=
  HCalls.enter (md := md7) mixed Try.func7 rfl hn (by rw [← S7_eq] at H; exact H)

def md13 : Nat → Hint
  | _ => ⟨false, [], [], [], [], false⟩
def S13_k1 (G : Hp) (K : Exit → Rg → Hp → Prop) (r : Rg) (h : Hp) : Prop :=
  opH Try.prog G (callFunc 17 #[(r 1), (.int .i64 3), (.int .i64 1)]) h fun v19 h19 =>
  opH Try.prog G (callFunc 18 #[v19, (.int .i64 9)]) h19 fun v20 h20 =>
  opH Try.prog G (callFunc 29 #[(r 1), (.int .i64 3)]) h20 fun v21 h21 =>
  opH Try.prog G (sv (Instr.extract v21 0)) h21 fun v22 h22 =>
  opH Try.prog G (sv (Instr.extract v21 1)) h22 fun v23 h23 =>
  opH Try.prog G (callFunc 22 #[(r 1)]) h23 fun v24 h24 =>
  opH Try.prog G (xEq .eql 3 (.tmp 0) (.const .nilFunc) v24 (.int .i64 5)) h24 fun v25 h25 =>
  gd (wantB v25 true) (fun K1 => K1 v20 h25) h25 fun v26 h26 =>
  gd (wantB v25 true) (opH Try.prog G (sv (Builtin.len_ #[39] 3 #[v26])) h26) h26 fun v27 h27 =>
  gd (wantB v25 true) (opH Try.prog G (xEq .eql 3 (.tmp 0) (.const .nilFunc) v27 (.int .i64 2)) h27) h27 fun v28 h28 =>
  opH Try.prog G (xPick v25 v28 (.bool false)) h28 fun v29 h29 =>
  gd (wantB v29 true) (fun K1 => K1 v20 h29) h29 fun v30 h30 =>
  gd (wantB v29 true) (opH Try.prog G (sv (Instr.indexAt 39 v30 (.int .i64 0))) h30) h30 fun v31 h31 =>
  gd (wantB v29 true) (opH Try.prog G (sv (Instr.loadAt 58 v31)) h31) h31 fun v32 h32 =>
  gd (wantB v29 true) (opH Try.prog G (sv (Instr.build 58 #[(0, (.int .i64 0)), (1, (.int .i64 5))])) h32) h32 fun v33 h33 =>
  gd (wantB v29 true) (opH Try.prog G (xEq .eql 58 (.tmp 0) (.tmp 0) v32 v33) h33) h33 fun v34 h34 =>
  opH Try.prog G (xPick v29 v34 (.bool false)) h34 fun v35 h35 =>
  gd (wantB v35 true) (fun K1 => K1 v20 h35) h35 fun v36 h36 =>
  gd (wantB v35 true) (opH Try.prog G (sv (Instr.indexAt 39 v36 (.int .i64 1))) h36) h36 fun v37 h37 =>
  gd (wantB v35 true) (opH Try.prog G (sv (Instr.loadAt 58 v37)) h37) h37 fun v38 h38 =>
  gd (wantB v35 true) (opH Try.prog G (sv (Instr.build 58 #[(0, (.int .i64 9)), (1, (.int .i64 4611686018427387904))])) h38) h38 fun v39 h39 =>
  gd (wantB v35 true) (opH Try.prog G (xEq .eql 58 (.tmp 0) (.tmp 0) v38 v39) h39) h39 fun v40 h40 =>
  opH Try.prog G (xPick v35 v40 (.bool false)) h40 fun v41 h41 =>
  gd (wantB v41 true) (fun K1 => K1 v22 h41) h41 fun v42 h42 =>
  gd (wantB v41 true) (opH Try.prog G (xEq .eql 3 (.tmp 0) (.const .nilFunc) v42 (.int .i64 0)) h42) h42 fun v43 h43 =>
  opH Try.prog G (xPick v41 v43 (.bool false)) h43 fun v44 h44 =>
  gd (wantB v44 true) (fun K1 => K1 v23 h44) h44 fun v45 h45 =>
  opH Try.prog G (xPick v44 v45 (.bool false)) h45 fun v46 h46 =>
  gd (wantB v46 true) (fun K1 => K1 (r 1) h46) h46 fun v47 h47 =>
  gd (wantB v46 true) (opH Try.prog G (callFunc 16 #[v47, (.int .i64 3)]) h47) h47 fun v48 h48 =>
  gd (wantB v46 true) (opH Try.prog G (sv (Builtin.len_ #[32] 3 #[v48])) h48) h48 fun v49 h49 =>
  gd (wantB v46 true) (opH Try.prog G (xEq .eql 3 (.tmp 0) (.const .nilFunc) v49 (.int .i64 1)) h49) h49 fun v50 h50 =>
  opH Try.prog G (xPick v46 v50 (.bool false)) h50 fun v51 h51 =>
  K .ret (upd (upd (upd (upd (upd (upd (upd (upd (upd (upd (upd (upd (upd (upd (upd (upd (upd (upd (upd (upd (upd (upd (upd (upd (upd (upd (upd (upd (upd (upd (upd (upd (upd (upd (upd (upd (upd (upd (upd (upd (upd (upd (upd (upd (upd (upd (upd r 30 (r 1)) 31 v19) 32 v20) 3 v20) 34 (r 1)) 35 v21) 33 v21) 36 v22) 37 v23) 4 v22) 5 v23) 38 (r 1)) 39 v24) 40 v25) 41 v25) 42 v26) 43 v27) 44 v28) 45 v29) 46 v29) 47 v30) 48 v31) 49 v32) 50 v33) 51 v34) 52 v35) 53 v35) 54 v36) 55 v37) 56 v38) 57 v39) 58 v40) 59 v41) 60 v41) 61 v42) 62 v43) 63 v44) 64 v44) 65 v45) 66 v46) 67 v46) 68 v47) 69 v48) 70 v49) 71 v50) 72 v51) 0 v51) h51
def S13 (G : Hp) (K : Exit → Rg → Hp → Prop) (r : Rg) (h : Hp) : Prop :=
  opH Try.prog G (callFunc 12 #[(.int .i64 5)]) h fun v0 h0 =>
  opH Try.prog G (sv (Instr.extract v0 0)) h0 fun v1 h1 =>
  opH Try.prog G (sv (Instr.extract v0 1)) h1 fun v2 h2 =>
  opH Try.prog G (xEq .neq 24 (.tmp 0) (.const .nilFunc) v2 (.int .i64 0)) h2 fun v3 h3 =>
  gd (wantB v3 false) (fun K1 => K1 v1 h3) h3 fun v4 h4 =>
  gd (wantB v3 false) (opH Try.prog G (xEq .eql 23 (.tmp 0) (.const .nilFunc) v4 (.pointer none)) h4) h4 fun v5 h5 =>
  opH Try.prog G (xPick v3 (.bool true) v5) h5 fun v6 h6 =>
  gd (wantB v6 false) (fun K1 => K1 v1 h6) h6 fun v7 h7 =>
  gd (wantB v6 false) (opH Try.prog G (sv (Instr.build 30 #[(0, (.int .i64 3)), (1, (.int .i64 5)), (2, (.int .i64 9))])) h7) h7 fun v8 h8 =>
  gd (wantB v6 false) (opH Try.prog G (sv (Instr.buildSlice 22 1 #[(0, v8)])) h8) h8 fun v9 h9 =>
  gd (wantB v6 false) (opH Try.prog G (callFunc 15 #[v7, (.int .i64 0), v9]) h9) h9 fun v10 h10 =>
  gd (wantB v6 false) (opH Try.prog G (xEq .neq 24 (.tmp 0) (.const .nilFunc) v10 (.int .i64 0)) h10) h10 fun v11 h11 =>
  opH Try.prog G (xPick v6 (.bool true) v11) h11 fun v12 h12 =>
  gd (wantB v12 false) (fun K1 => K1 v1 h12) h12 fun v13 h13 =>
  gd (wantB v12 false) (opH Try.prog G (sv (Instr.build 30 #[(0, (.int .i64 3)), (1, (.int .i64 8)), (2, (.int .i64 10))])) h13) h13 fun v14 h14 =>
  gd (wantB v12 false) (opH Try.prog G (sv (Instr.buildSlice 22 1 #[(0, v14)])) h14) h14 fun v15 h15 =>
  gd (wantB v12 false) (opH Try.prog G (callFunc 15 #[v13, (.int .i64 1), v15]) h15) h15 fun v16 h16 =>
  gd (wantB v12 false) (opH Try.prog G (xEq .neq 24 (.tmp 0) (.const .nilFunc) v16 (.int .i64 18)) h16) h16 fun v17 h17 =>
  opH Try.prog G (xPick v12 (.bool true) v17) h17 fun v18 h18 =>
  cond v18
  (K .ret (upd (upd (upd (upd (upd (upd (upd (upd (upd (upd (upd (upd (upd (upd (upd (upd (upd (upd (upd (upd (upd (upd (upd (upd (upd (upd (upd (upd r 0 (.bool false)) 7 v0) 6 v0) 8 v1) 9 v2) 1 v1) 2 v2) 10 v2) 11 v3) 12 v3) 13 v4) 14 v5) 15 v6) 16 v6) 17 v7) 18 v8) 19 v9) 20 v10) 21 v11) 22 v12) 23 v12) 24 v13) 25 v14) 26 v15) 27 v16) 28 v17) 29 v18) 0 (.bool false)) h18)
  (S13_k1 G K (upd (upd (upd (upd (upd (upd (upd (upd (upd (upd (upd (upd (upd (upd (upd (upd (upd (upd (upd (upd (upd (upd (upd (upd (upd (upd (upd r 0 (.bool false)) 7 v0) 6 v0) 8 v1) 9 v2) 1 v1) 2 v2) 10 v2) 11 v3) 12 v3) 13 v4) 14 v5) 15 v6) 16 v6) 17 v7) 18 v8) 19 v9) 20 v10) 21 v11) 22 v12) 23 v12) 24 v13) 25 v14) 26 v15) 27 v16) 28 v17) 29 v18) h18)
theorem S13_eq (G : Hp) (K : Exit → Rg → Hp → Prop) (r : Rg) (h : Hp) : wpC Try.prog G 73 md13 true (Try.f13.body.getD .skip) r h K = S13 G K r h := by kernel_rfl
theorem enter13 {G : Hp} {h : Hp} {args : Array Value} {R : Value → Hp → Prop} (hn : args.size ≤ 73) (H : S13 G (retK Try.prog G [.tmp 0] R) (regs args) h) : HCalls Try.prog G 13 args h R :=
  HCalls.enter (md := md13) mixed Try.func13 rfl hn (by rw [← S13_eq] at H; exact H)

def md14 : Nat → Hint
  | _ => ⟨false, [], [], [], [], false⟩
def S14_k1 (G : Hp) (K : Exit → Rg → Hp → Prop) (r : Rg) (h : Hp) : Prop :=
  K .ret (upd (upd r 14 (r 5)) 4 (r 5)) h
def S14 (G : Hp) (K : Exit → Rg → Hp → Prop) (r : Rg) (h : Hp) : Prop :=
  opH Try.prog G (sv (binOp .rem 3 (r 0) (r 1))) h fun v0 h0 =>
  opH Try.prog G (sv (binOp .lss 3 v0 (.int .i64 0))) h0 fun v1 h1 =>
  cond v1
  (opH Try.prog G (sv (binOp .add 3 v0 (r 1))) h1 fun v2 h2 =>
  S14_k1 G K (upd (upd (upd (upd (upd (upd (upd (upd (upd (upd (upd r 4 (.int .i64 0)) 6 (r 0)) 7 (r 1)) 8 v0) 5 v0) 9 v0) 10 v1) 11 v0) 12 (r 1)) 13 v2) 5 v2) h2)
  (S14_k1 G K (upd (upd (upd (upd (upd (upd (upd r 4 (.int .i64 0)) 6 (r 0)) 7 (r 1)) 8 v0) 5 v0) 9 v0) 10 v1) h1)
theorem S14_eq (G : Hp) (K : Exit → Rg → Hp → Prop) (r : Rg) (h : Hp) : wpC Try.prog G 15 md14 true (Try.f14.body.getD .skip) r h K = S14 G K r h := by kernel_rfl
theorem enter14 {G : Hp} {h : Hp} {args : Array Value} {R : Value → Hp → Prop} (hn : args.size ≤ 15) (H : S14 G (retK Try.prog G [.tmp 4] R) (regs args) h) : HCalls Try.prog G 14 args h R :=
  HCalls.enter (md := md14) mixed Try.func14 rfl hn (by rw [← S14_eq] at H; exact H)

def md18 : Nat → Hint
  | _ => ⟨false, [], [], [], [], false⟩
def S18_k1 (G : Hp) (K : Exit → Rg → Hp → Prop) (r : Rg) (h : Hp) : Prop :=
  opH Try.prog G (xCallV (r 0) #[(.func (.func 35) #[] #[(r 5), (r 3)])]) h fun v6 h6 =>
  opH Try.prog G (sv (Instr.loadAt 39 (r 5))) h6 fun v7 h7 =>
  K .ret (upd (upd (upd (upd (upd r 12 (r 0)) 13 (.func (.func 35) #[] #[(r 5), (r 3)])) 14 v6) 15 v7) 4 v7) h7
def S18 (G : Hp) (K : Exit → Rg → Hp → Prop) (r : Rg) (h : Hp) : Prop :=
  opH Try.prog G (sv (Instr.box 3 (r 1))) h fun v0 h0 =>
  opH Try.prog G (sv (Instr.alloc 39 true (.tuple #[]))) h0 fun v1 h1 =>
  opH Try.prog G (xEq .eql 37 (.tmp 0) (.const .nilFunc) (r 0) .nilFunc) h1 fun v2 h2 =>
  gd (wantB v2 false) (opH Try.prog G (sv (Instr.loadAt 3 v0)) h2) h2 fun v3 h3 =>
  gd (wantB v2 false) (opH Try.prog G (sv (binOp .lss 3 v3 (.int .i64 1))) h3) h3 fun v4 h4 =>
  opH Try.prog G (xPick v2 (.bool true) v4) h4 fun v5 h5 =>
  cond v5
  (K .ret (upd (upd (upd (upd (upd (upd (upd (upd (upd (upd r 3 v0) 4 (.slice none 0 0)) 5 v1) 6 (r 0)) 7 v2) 8 v2) 9 v3) 10 v4) 11 v5) 4 (.slice none 0 0)) h5)
  (S18_k1 G K (upd (upd (upd (upd (upd (upd (upd (upd (upd r 3 v0) 4 (.slice none 0 0)) 5 v1) 6 (r 0)) 7 v2) 8 v2) 9 v3) 10 v4) 11 v5) h5)
theorem S18_eq (G : Hp) (K : Exit → Rg → Hp → Prop) (r : Rg) (h : Hp) : wpC Try.prog G 16 md18 true (Try.f18.body.getD .skip) r h K = S18 G K r h := by kernel_rfl
theorem enter18 {G : Hp} {h : Hp} {args : Array Value} {R : Value → Hp → Prop} (hn : args.size ≤ 16) (H : S18 G (retK Try.prog G [.tmp 4] R) (regs args) h) : HCalls Try.prog G 18 args h R :=
  HCalls.enter (md := md18) mixed Try.func18 rfl hn (by rw [← S18_eq] at H; exact H)

def md19 : Nat → Hint
  | 6 => ⟨false, [0, 0, 3, 7, 0, 0, 48, 112, 255], [.pureN, .pureN, .pureN, .pureM, .pureN, .pureN, .pureN, .pureM, .pureM], [.pureN, .pureN, .pureN, .pureM, .pureN, .pureN, .pureN, .pureM, .pureM], [false, false, false, false, false, false, false, false, false], false⟩
  | _ => ⟨false, [], [], [], [], false⟩
def S19_k2 (G : Hp) (K : Exit → Rg → Hp → Prop) (r : Rg) (h : Hp) : Prop :=
  K .ret (upd r 4 (.bool true)) h
def S19_l3_k5 (G : Hp) (K : Exit → Rg → Hp → Prop) (r : Rg) (h : Hp) : Prop :=
  opH Try.prog G (sv (binOp .add 3 (r 5) (.int .i64 1))) h fun v5 h5 =>
  K .normal (upd (upd (upd r 15 (r 5)) 16 v5) 5 v5) h5
def S19_l3_k4 (G : Hp) (K : Exit → Rg → Hp → Prop) (r : Rg) (h : Hp) : Prop :=
  pureW Try.prog noHp noHp (sv (Instr.indexAt 32 (r 0) (r 5))) h fun v6 h6 =>
  pureW Try.prog G h (sv (Instr.loadAt 35 v6)) h6 fun v7 h7 =>
  pureW Try.prog noHp noHp (sv (Instr.indexAt 32 (r 1) (r 5))) h7 fun v8 h8 =>
  pureW Try.prog G h (sv (Instr.loadAt 35 v8)) h8 fun v9 h9 =>
  pureW Try.prog G h (xEq .neq 35 (.tmp 0) (.tmp 0) v7 v9) h9 fun v10 h10 =>
  cond v10
  (K .ret (upd (upd (upd (upd (upd (upd (upd (upd (upd (upd r 17 (r 0)) 18 (r 5)) 19 v6) 20 v7) 21 (r 1)) 22 (r 5)) 23 v8) 24 v9) 25 v10) 4 (.bool false)) h10)
  (S19_l3_k5 G K (upd (upd (upd (upd (upd (upd (upd (upd (upd r 17 (r 0)) 18 (r 5)) 19 v6) 20 v7) 21 (r 1)) 22 (r 5)) 23 v8) 24 v9) 25 v10) h10)
def S19_l3 (G : Hp) (r : Rg) (h : Hp) (K : Exit → Rg → Hp → Prop) : Prop :=
  opH Try.prog G (sv (Builtin.len_ #[32] 3 #[(r 0)])) h fun v3 h3 =>
  opH Try.prog G (sv (binOp .lss 3 (r 5) v3)) h3 fun v4 h4 =>
  cond v4
  (S19_l3_k4 G K (upd (upd (upd (upd r 11 (r 5)) 12 (r 0)) 13 v3) 14 v4) h4)
  (K (.exit 0) (upd (upd (upd (upd r 11 (r 5)) 12 (r 0)) 13 v3) 14 v4) h4)
def S19_k1 (G : Hp) (K : Exit → Rg → Hp → Prop) (r : Rg) (h : Hp) : Prop :=
  loopP (S19_l3 G) (upd r 5 (.int .i64 0)) h (blockK 0 (thenK (S19_k2 G K) K))
def S19 (G : Hp) (K : Exit → Rg → Hp → Prop) (r : Rg) (h : Hp) : Prop :=
  opH Try.prog G (sv (Builtin.len_ #[32] 3 #[(r 0)])) h fun v0 h0 =>
  opH Try.prog G (sv (Builtin.len_ #[32] 3 #[(r 1)])) h0 fun v1 h1 =>
  opH Try.prog G (xEq .neq 3 (.tmp 0) (.tmp 0) v0 v1) h1 fun v2 h2 =>
  cond v2
  (K .ret (upd (upd (upd (upd (upd (upd (upd r 4 (.bool false)) 6 (r 0)) 7 v0) 8 (r 1)) 9 v1) 10 v2) 4 (.bool false)) h2)
  (S19_k1 G K (upd (upd (upd (upd (upd (upd r 4 (.bool false)) 6 (r 0)) 7 v0) 8 (r 1)) 9 v1) 10 v2) h2)
theorem S19_eq (G : Hp) (K : Exit → Rg → Hp → Prop) (r : Rg) (h : Hp) : wpC Try.prog G 26 md19 true (Try.f19.body.getD .skip) r h K = S19 G K r h := by kernel_rfl
theorem enter19 {G : Hp} {h : Hp} {args : Array Value} {R : Value → Hp → Prop} (hn : args.size ≤ 26) (H : S19 G (retK Try.prog G [.tmp 4] R) (regs args) h) : HCalls Try.prog G 19 args h R :=
  HCalls.enter (md := md19) mixed Try.func19 rfl hn (by rw [← S19_eq] at H; exact H)

def md24 : Nat → Hint
  | 4 => ⟨false, [0, 0, 2, 0, 8, 0, 32, 0, 128, 511, 0, 0, 2048, 0, 8192, 0, 32768, 0, 131072, 524287, 1048575, 2097151], [.pureN, .pureN, .pureM, .pureN, .pureM, .pureN, .pureM, .pureN, .pureM, .eff, .pureN, .pureN, .pureM, .pureN, .pureM, .pureN, .pureM, .pureN, .pureM, .eff, .pureM, .pureN], [.pureN, .pureN, .pureM, .pureN, .pureM, .pureN, .pureM, .pureN, .pureM, .eff, .pureN, .pureN, .pureM, .pureN, .pureM, .pureN, .pureM, .pureN, .pureM, .eff, .late, .pureN], [false, false, false, false, false, false, false, false, false, true, false, false, false, false, false, false, false, false, false, false, false, false], true⟩
  | 2 => ⟨false, [0, 0, 2, 0, 8, 24, 63, 0, 0, 256, 0, 1024, 3199, 8191, 16383, 32767], [.pureN, .pureN, .pureM, .pureN, .pureM, .eff, .eff, .pureN, .pureN, .pureM, .pureN, .pureM, .eff, .eff, .pureM, .pureN], [.pureN, .pureN, .pureM, .pureN, .pureM, .eff, .eff, .pureN, .pureN, .pureM, .pureN, .pureM, .eff, .eff, .late, .pureN], [false, false, false, false, false, true, true, false, false, false, false, false, true, false, false, false], true⟩
  | _ => ⟨false, [], [], [], [], false⟩
def S24_k1 (G : Hp) (K : Exit → Rg → Hp → Prop) (r : Rg) (h : Hp) : Prop :=
  K .ret (upd r 6 (.bool true)) h
def S24 (G : Hp) (K : Exit → Rg → Hp → Prop) (r : Rg) (h : Hp) : Prop :=
  opH Try.prog G (sv (Instr.box 51 (r 2))) h fun v0 h0 =>
  opH Try.prog G (sv (Instr.fieldAt 51 v0 0)) h0 fun v1 h1 =>
  opH Try.prog G (sv (Instr.loadAt 3 v1)) h1 fun v2 h2 =>
  opH Try.prog G (callFunc 14 #[v2, (.int .i64 8)]) h2 fun v3 h3 =>
  opH Try.prog G (xEq .eql 3 (.tmp 0) (.const .nilFunc) v3 (.int .i64 4)) h3 fun v4 h4 =>
  cond v4
  (∃ q5 : Hp, q5.le h4 ∧
  pureW Try.prog noHp noHp (sv (Instr.fieldAt 51 v0 1)) h4 fun v6 h6 =>
  pureW Try.prog G q5 (sv (Instr.loadAt 3 v6)) h6 fun v7 h7 =>
  pureW Try.prog noHp noHp (sv (Instr.fieldAt 51 v0 2)) h7 fun v8 h8 =>
  pureW Try.prog G q5 (sv (Instr.loadAt 3 v8)) h8 fun v9 h9 =>
  pureW Try.prog noHp noHp (sv (Instr.fieldAt 51 v0 3)) h9 fun v10 h10 =>
  pureW Try.prog G q5 (sv (Instr.loadAt 3 v10)) h10 fun v11 h11 =>
  pureW Try.prog noHp noHp (sv (Instr.fieldAt 51 v0 4)) h11 fun v12 h12 =>
  pureW Try.prog G q5 (sv (Instr.loadAt 3 v12)) h12 fun v13 h13 =>
  opH Try.prog G (callFunc 21 #[(r 0), v7, v9, v11, v13]) h13 fun v14 h14 => q5.le h14 ∧
  pureW Try.prog noHp noHp (sv (Instr.fieldAt 51 v0 1)) h14 fun v15 h15 =>
  pureW Try.prog G q5 (sv (Instr.loadAt 3 v15)) h15 fun v16 h16 =>
  pureW Try.prog noHp noHp (sv (Instr.fieldAt 51 v0 2)) h16 fun v17 h17 =>
  pureW Try.prog G q5 (sv (Instr.loadAt 3 v17)) h17 fun v18 h18 =>
  pureW Try.prog noHp noHp (sv (Instr.fieldAt 51 v0 3)) h18 fun v19 h19 =>
  pureW Try.prog G q5 (sv (Instr.loadAt 3 v19)) h19 fun v20 h20 =>
  pureW Try.prog noHp noHp (sv (Instr.fieldAt 51 v0 4)) h20 fun v21 h21 =>
  pureW Try.prog G q5 (sv (Instr.loadAt 3 v21)) h21 fun v22 h22 =>
  opH Try.prog G (callFunc 37 #[(r 1), v16, v18, v20, v22]) h22 fun v23 h23 =>
  pureW Try.prog G h23 (xEq .eql 24 (.tmp 0) (.tmp 0) v14 v23) h23 fun v24 h24 =>
  K .ret (upd (upd (upd (upd (upd (upd (upd (upd (upd (upd (upd (upd (upd (upd (upd (upd (upd (upd (upd (upd (upd (upd (upd (upd (upd (upd (upd (upd (upd r 5 v0) 6 (.bool false)) 7 v1) 8 v2) 9 v3) 26 v4) 25 v4) 27 (r 0)) 28 v6) 29 v7) 30 v8) 31 v9) 32 v10) 33 v11) 34 v12) 35 v13) 36 v14) 37 (r 1)) 38 v15) 39 v16) 40 v17) 41 v18) 42 v19) 43 v20) 44 v21) 45 v22) 46 v23) 47 v24) 6 v24) h24)
  (opH Try.prog G (xEq .eql 3 (.tmp 0) (.const .nilFunc) v3 (.int .i64 5)) h4 fun v25 h25 =>
  cond v25
  (opH Try.prog G (sv (Instr.fieldAt 51 v0 1)) h25 fun v26 h26 =>
  opH Try.prog G (sv (Instr.loadAt 3 v26)) h26 fun v27 h27 =>
  opH Try.prog G (sv (Instr.fieldAt 51 v0 3)) h27 fun v28 h28 =>
  opH Try.prog G (sv (Instr.loadAt 3 v28)) h28 fun v29 h29 =>
  opH Try.prog G (callFunc 27 #[(r 0), v27, v29]) h29 fun v30 h30 =>
  opH Try.prog G (sv (Instr.fieldAt 51 v0 1)) h30 fun v31 h31 =>
  opH Try.prog G (sv (Instr.loadAt 3 v31)) h31 fun v32 h32 =>
  opH Try.prog G (sv (Instr.fieldAt 51 v0 3)) h32 fun v33 h33 =>
  opH Try.prog G (sv (Instr.loadAt 3 v33)) h33 fun v34 h34 =>
  opH Try.prog G (callFunc 38 #[(r 1), v32, v34]) h34 fun v35 h35 =>
  S24_k1 G K (upd (upd (upd (upd (upd (upd (upd (upd (upd (upd (upd (upd (upd (upd (upd (upd (upd (upd (upd (upd (upd r 5 v0) 6 (.bool false)) 7 v1) 8 v2) 9 v3) 26 v4) 25 v4) 49 v25) 48 v25) 50 (r 0)) 51 v26) 52 v27) 53 v28) 54 v29) 55 v30) 56 (r 1)) 57 v31) 58 v32) 59 v33) 60 v34) 61 v35) h35)
  (opH Try.prog G (xEq .eql 3 (.tmp 0) (.const .nilFunc) v3 (.int .i64 6)) h25 fun v36 h36 =>
  cond v36
  (opH Try.prog G (sv (Instr.fieldAt 51 v0 3)) h36 fun v37 h37 =>
  opH Try.prog G (sv (Instr.loadAt 3 v37)) h37 fun v38 h38 =>
  opH Try.prog G (callFunc 26 #[(r 0), v38]) h38 fun v39 h39 =>
  opH Try.prog G (sv (Instr.fieldAt 51 v0 3)) h39 fun v40 h40 =>
  opH Try.prog G (sv (Instr.loadAt 3 v40)) h40 fun v41 h41 =>
  opH Try.prog G (callFunc 39 #[(r 1), v41]) h41 fun v42 h42 =>
  S24_k1 G K (upd (upd (upd (upd (upd (upd (upd (upd (upd (upd (upd (upd (upd (upd (upd (upd (upd (upd (upd r 5 v0) 6 (.bool false)) 7 v1) 8 v2) 9 v3) 26 v4) 25 v4) 49 v25) 48 v25) 63 v36) 62 v36) 64 (r 0)) 65 v37) 66 v38) 67 v39) 68 (r 1)) 69 v40) 70 v41) 71 v42) h42)
  (opH Try.prog G (xEq .eql 3 (.tmp 0) (.const .nilFunc) v3 (.int .i64 7)) h36 fun v43 h43 =>
  cond v43
  (opH Try.prog G (sv (Instr.fieldAt 51 v0 1)) h43 fun v44 h44 =>
  opH Try.prog G (sv (Instr.loadAt 3 v44)) h44 fun v45 h45 =>
  opH Try.prog G (callFunc 28 #[(r 0), v45]) h45 fun v46 h46 =>
  opH Try.prog G (sv (Instr.fieldAt 51 v0 1)) h46 fun v47 h47 =>
  opH Try.prog G (sv (Instr.loadAt 3 v47)) h47 fun v48 h48 =>
  opH Try.prog G (callFunc 40 #[(r 1), v48]) h48 fun v49 h49 =>
  S24_k1 G K (upd (upd (upd (upd (upd (upd (upd (upd (upd (upd (upd (upd (upd (upd (upd (upd (upd (upd (upd (upd (upd r 5 v0) 6 (.bool false)) 7 v1) 8 v2) 9 v3) 26 v4) 25 v4) 49 v25) 48 v25) 63 v36) 62 v36) 73 v43) 72 v43) 74 (r 0)) 75 v44) 76 v45) 77 v46) 78 (r 1)) 79 v47) 80 v48) 81 v49) h49)
  (∃ q50 : Hp, q50.le h43 ∧
  pureW Try.prog noHp noHp (sv (Instr.fieldAt 51 v0 1)) h43 fun v51 h51 =>
  pureW Try.prog G q50 (sv (Instr.loadAt 3 v51)) h51 fun v52 h52 =>
  pureW Try.prog noHp noHp (sv (Instr.fieldAt 51 v0 5)) h52 fun v53 h53 =>
  pureW Try.prog G q50 (sv (Instr.loadAt 22 v53)) h53 fun v54 h54 =>
  opH Try.prog G (sv (Builtin.append_ #[22, 22] 22 #[(.slice none 0 0), v54])) h54 fun v55 h55 => q50.le h55 ∧
  opH Try.prog G (callFunc 15 #[(r 0), v52, v55]) h55 fun v56 h56 => q50.le h56 ∧
  pureW Try.prog noHp noHp (sv (Instr.fieldAt 51 v0 1)) h56 fun v57 h57 =>
  pureW Try.prog G q50 (sv (Instr.loadAt 3 v57)) h57 fun v58 h58 =>
  pureW Try.prog noHp noHp (sv (Instr.fieldAt 51 v0 5)) h58 fun v59 h59 =>
  pureW Try.prog G q50 (sv (Instr.loadAt 22 v59)) h59 fun v60 h60 =>
  opH Try.prog G (callFunc 42 #[v60]) h60 fun v61 h61 => q50.le h61 ∧
  opH Try.prog G (callFunc 41 #[(r 1), v58, v61]) h61 fun v62 h62 =>
  pureW Try.prog G h62 (xEq .eql 24 (.tmp 0) (.tmp 0) v56 v62) h62 fun v63 h63 =>
  K .ret (upd (upd (upd (upd (upd (upd (upd (upd (upd (upd (upd (upd (upd (upd (upd (upd (upd (upd (upd (upd (upd (upd (upd (upd (upd (upd (upd (upd (upd r 5 v0) 6 (.bool false)) 7 v1) 8 v2) 9 v3) 26 v4) 25 v4) 49 v25) 48 v25) 63 v36) 62 v36) 73 v43) 72 v43) 10 (r 0)) 11 v51) 12 v52) 13 v53) 14 v54) 15 v55) 16 v56) 17 (r 1)) 18 v57) 19 v58) 20 v59) 21 v60) 22 v61) 23 v62) 24 v63) 6 v63) h63))))
theorem S24_eq (G : Hp) (K : Exit → Rg → Hp → Prop) (r : Rg) (h : Hp) : wpC Try.prog G 82 md24 true (Try.f24.body.getD .skip) r h K = S24 G K r h := by kernel_rfl
theorem enter24 {G : Hp} {h : Hp} {args : Array Value} {R : Value → Hp → Prop} (hn : args.size ≤ 82) (H : S24 G (retK Try.prog G [.tmp 6] R) (regs args) h) : HCalls Try.prog G 24 args h R :=
  HCalls.enter (md := md24) mixed Try.func24 rfl hn (by rw [← S24_eq] at H; exact H)

def md35 : Nat → Hint
  | _ => ⟨false, [], [], [], [], false⟩
def S35 (G : Hp) (K : Exit → Rg → Hp → Prop) (r : Rg) (h : Hp) : Prop :=
  opH Try.prog G (sv (Instr.loadAt 39 (r 2))) h fun v0 h0 =>
  opH Try.prog G (sv (Instr.build 58 #[(0, (r 0)), (1, (r 1))])) h0 fun v1 h1 =>
  opH Try.prog G (sv (Instr.buildSlice 39 1 #[(0, v1)])) h1 fun v2 h2 =>
  opH Try.prog G (sv (Builtin.append_ #[39, 39] 39 #[v0, v2])) h2 fun v3 h3 =>
  opH Try.prog G (su (Instr.storeAt 39 (r 2) v3)) h3 fun v4 h4 =>
  opH Try.prog G (sv (Instr.loadAt 39 (r 2))) h4 fun v5 h5 =>
  opH Try.prog G (sv (Builtin.len_ #[39] 3 #[v5])) h5 fun v6 h6 =>
  opH Try.prog G (sv (Instr.loadAt 3 (r 3))) h6 fun v7 h7 =>
  opH Try.prog G (sv (binOp .lss 3 v6 v7)) h7 fun v8 h8 =>
  K .ret (upd (upd (upd (upd (upd (upd (upd (upd (upd (upd (upd (upd r 6 (.bool false)) 7 v0) 8 (r 0)) 9 (r 1)) 10 v1) 11 v2) 12 v3) 13 v5) 14 v6) 15 v7) 16 v8) 6 v8) h8
theorem S35_eq (G : Hp) (K : Exit → Rg → Hp → Prop) (r : Rg) (h : Hp) : wpC Try.prog G 17 md35 true (Try.f35.body.getD .skip) r h K = S35 G K r h := by kernel_rfl
theorem enter35 {G : Hp} {h : Hp} {args : Array Value} {R : Value → Hp → Prop} (hn : args.size ≤ 17) (H : S35 G (retK Try.prog G [.tmp 6] R) (regs args) h) : HCalls Try.prog G 35 args h R :=
  HCalls.enter (md := md35) mixed Try.func35 rfl hn (by rw [← S35_eq] at H; exact H)

def md42 : Nat → Hint
  | 5 => ⟨false, [0, 0, 0, 6, 14, 30, 0, 0, 192, 448, 960, 0, 0, 6144, 14336, 30720, 65534, 131070, 262143, 524287], [.pureN, .pureN, .pureN, .pureN, .pureN, .pureM, .pureN, .pureN, .pureN, .pureN, .pureM, .pureN, .pureN, .pureN, .pureN, .pureM, .pureN, .alloc, .eff, .pureN], [.pureN, .pureN, .pureN, .pureN, .pureN, .pureM, .pureN, .pureN, .pureN, .pureN, .pureM, .pureN, .pureN, .pureN, .pureN, .pureM, .pureN, .alloc, .eff, .pureN], [false, false, false, false, false, false, false, false, false, false, false, false, false, false, false, false, false, false, false, false], false⟩
  | _ => ⟨false, [], [], [], [], false⟩
def S42_k1 (G : Hp) (K : Exit → Rg → Hp → Prop) (r : Rg) (h : Hp) : Prop :=
  K .ret (upd (upd r 30 (r 3)) 2 (r 3)) h
def S42_l2_k4 (G : Hp) (K : Exit → Rg → Hp → Prop) (r : Rg) (h : Hp) : Prop :=
  opH Try.prog G (sv (binOp .add 3 (r 4) (.int .i64 1))) h fun v2 h2 =>
  K .normal (upd (upd (upd r 9 (r 4)) 10 v2) 4 v2) h2
def S42_l2_k3 (G : Hp) (K : Exit → Rg → Hp → Prop) (r : Rg) (h : Hp) : Prop :=
  pureW Try.prog noHp noHp (sv (Instr.indexAt 22 (r 0) (r 4))) h fun v3 h3 =>
  pureW Try.prog noHp noHp (sv (Instr.fieldAt 30 v3 0)) h3 fun v4 h4 =>
  pureW Try.prog G h (sv (Instr.loadAt 3 v4)) h4 fun v5 h5 =>
  pureW Try.prog noHp noHp (sv (Instr.indexAt 22 (r 0) (r 4))) h5 fun v6 h6 =>
  pureW Try.prog noHp noHp (sv (Instr.fieldAt 30 v6 1)) h6 fun v7 h7 =>
  pureW Try.prog G h (sv (Instr.loadAt 3 v7)) h7 fun v8 h8 =>
  pureW Try.prog noHp noHp (sv (Instr.indexAt 22 (r 0) (r 4))) h8 fun v9 h9 =>
  pureW Try.prog noHp noHp (sv (Instr.fieldAt 30 v9 2)) h9 fun v10 h10 =>
  pureW Try.prog G h (sv (Instr.loadAt 3 v10)) h10 fun v11 h11 =>
  pureW Try.prog noHp noHp (sv (Instr.build 88 #[(0, v5), (1, v8), (2, v11)])) h11 fun v12 h12 =>
  opH Try.prog G (sv (Instr.buildSlice 78 1 #[(0, v12)])) h12 fun v13 h13 =>
  opH Try.prog G (sv (Builtin.append_ #[78, 78] 78 #[(r 3), v13])) h13 fun v14 h14 =>
  S42_l2_k4 G K (upd (upd (upd (upd (upd (upd (upd (upd (upd (upd (upd (upd (upd (upd (upd (upd (upd (upd (upd (upd r 11 (r 3)) 12 (r 0)) 13 (r 4)) 14 v3) 15 v4) 16 v5) 17 (r 0)) 18 (r 4)) 19 v6) 20 v7) 21 v8) 22 (r 0)) 23 (r 4)) 24 v9) 25 v10) 26 v11) 27 v12) 28 v13) 29 v14) 3 v14) h14
def S42_l2 (G : Hp) (r : Rg) (h : Hp) (K : Exit → Rg → Hp → Prop) : Prop :=
  opH Try.prog G (sv (Builtin.len_ #[22] 3 #[(r 0)])) h fun v0 h0 =>
  opH Try.prog G (sv (binOp .lss 3 (r 4) v0)) h0 fun v1 h1 =>
  cond v1
  (S42_l2_k3 G K (upd (upd (upd (upd r 5 (r 4)) 6 (r 0)) 7 v0) 8 v1) h1)
  (K (.exit 0) (upd (upd (upd (upd r 5 (r 4)) 6 (r 0)) 7 v0) 8 v1) h1)
def S42 (G : Hp) (K : Exit → Rg → Hp → Prop) (r : Rg) (h : Hp) : Prop :=
  loopP (S42_l2 G) (upd (upd (upd r 2 (.slice none 0 0)) 3 (.slice none 0 0)) 4 (.int .i64 0)) h (blockK 0 (thenK (S42_k1 G K) K))
theorem S42_eq (G : Hp) (K : Exit → Rg → Hp → Prop) (r : Rg) (h : Hp) : wpC Try.prog G 31 md42 true (Try.f42.body.getD .skip) r h K = S42 G K r h := by kernel_rfl
theorem enter42 {G : Hp} {h : Hp} {args : Array Value} {R : Value → Hp → Prop} (hn : args.size ≤ 31) (H : S42 G (retK Try.prog G [.tmp 2] R) (regs args) h) : HCalls Try.prog G 42 args h R :=
  HCalls.enter (md := md42) mixed Try.func42 rfl hn (by rw [← S42_eq] at H; exact H)

end Go.Proofs.Ytbloobepmgmbgaa

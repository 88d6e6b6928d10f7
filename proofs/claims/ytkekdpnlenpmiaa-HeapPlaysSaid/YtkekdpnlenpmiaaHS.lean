/- A text of the proofs. -/
import Derived.Test.YtkekdpnlenpmiaaHI
set_option linter.unusedVariables false
namespace Go.Proofs.Ytkekdpnlenpmiaa
open Go Go.HL
/-! 3: skep/skeplaw10.HeapSorts: params #[22], results #[4] -/
def md3 : Nat → Hint
  | 14 => ⟨false, [0, 1, 3, 7, 15, 31, 63, 127, 255, 511, 255, 1279, 4095, 8191, 16383, 32767, 32767, 98303, 262143, 524287, 1048575, 2097151, 4194303, 8388607, 4194303, 4194303, 37748735, 121634815, 255852543, 536870911, 1073741823, 2147483647, 4294967295, 8589934591, 17179869183, 34359738367, 68719476735, 34359738367, 171798691839, 549755813887, 1099511627775, 2199023255551, 4398046511103, 2199023255551, 10995116277759, 35184372088831, 70368744177663, 140737488355327, 281474976710655, 140737488355327, 703687441776639, 2251799813685247, 4503599627370495, 9007199254740991, 18014398509481983, 36028797018963967], [.pureN, .pureN, .pureN, .pureN, .pureM, .pureN, .pureN, .pureN, .pureN, .pureM, .pureN, .pureM, .pureN, .pureN, .pureN, .pureN, .pureN, .pureM, .pureN, .pureM, .pureN, .pureN, .pureN, .pureM, .pureN, .pureN, .pureM, .pureN, .pureM, .pureM, .pureN, .pureN, .pureN, .pureN, .pureN, .pureN, .pureM, .pureN, .pureM, .pureN, .pureN, .pureN, .pureM, .pureN, .pureM, .pureM, .pureN, .pureN, .pureM, .pureN, .pureM, .pureN, .pureN, .pureN, .pureN, .pureN], [.pureN, .pureN, .pureN, .pureN, .pureM, .pureN, .pureN, .pureN, .pureN, .pureM, .pureN, .pureM, .pureN, .pureN, .pureN, .pureN, .pureN, .pureM, .pureN, .pureM, .pureN, .pureN, .pureN, .pureM, .pureN, .pureN, .pureM, .pureN, .pureM, .pureM, .pureN, .pureN, .pureN, .pureN, .pureN, .pureN, .pureM, .pureN, .pureM, .pureN, .pureN, .pureN, .pureM, .pureN, .pureM, .pureM, .pureN, .pureN, .pureM, .pureN, .pureM, .pureN, .pureN, .pureN, .pureN, .pureN], [false, false, false, false, false, false, false, false, false, false, false, false, false, false, false, false, false, false, false, false, false, false, false, false, false, false, false, false, false, false, false, false, false, false, false, false, false, false, false, false, false, false, false, false, false, false, false, false, false, false, false, false, false, false, false, false], false⟩
  | _ => ⟨false, [], [], [], [], false⟩
def S3_k3 (G : Hp) (K : Exit → Rg → Hp → Prop) (r : Rg) (h : Hp) : Prop :=
  opH Try.prog G (callFunc 15 #[(r 3)]) h fun v12 h12 =>
  opH Try.prog G (sv (Instr.extract v12 0)) h12 fun v13 h13 =>
  opH Try.prog G (sv (Instr.extract v12 1)) h13 fun v14 h14 =>
  opH Try.prog G (sv (Instr.alloc 27 true (.tuple #[]))) h14 fun v15 h15 =>
  opH Try.prog G (su (Instr.storeAt 27 v15 v13)) h15 fun v16 h16 =>
  opH Try.prog G (sv (Op.unary .not v14)) h16 fun v17 h17 =>
  gd (wantB v17 true) (fun K1 => K1 (r 3) h17) h17 fun v18 h18 =>
  gd (wantB v17 true) (opH Try.prog G (callFunc 16 #[v18]) h18) h18 fun v19 h19 =>
  gd (wantB v17 true) (opH Try.prog G (xEq .eql 3 (.tmp 0) (.const .nilFunc) v19 (.int .i64 0)) h19) h19 fun v20 h20 =>
  opH Try.prog G (xPick v17 v20 (.bool false)) h20 fun v21 h21 =>
  K .ret (upd (upd (upd (upd (upd (upd (upd (upd (upd (upd (upd (upd (upd (upd (upd r 112 (r 3)) 113 v12) 111 v12) 114 v13) 115 v14) 10 v15) 11 v14) 116 v14) 117 v17) 118 v17) 119 v18) 120 v19) 121 v20) 122 v21) 2 v21) h21
def S3_l4_k6 (G : Hp) (K : Exit → Rg → Hp → Prop) (r : Rg) (h : Hp) : Prop :=
  opH Try.prog G (sv (binOp .add 3 (r 7) (.int .i64 1))) h fun v24 h24 =>
  K .normal (upd (upd (upd r 43 (r 7)) 44 v24) 7 v24) h24
def S3_l4_k7 (G : Hp) (K : Exit → Rg → Hp → Prop) (r : Rg) (h : Hp) : Prop :=
  opH Try.prog G (sv (Instr.fieldAt 27 (r 8) 1)) h fun v80 h80 =>
  opH Try.prog G (sv (Instr.loadAt 3 v80)) h80 fun v81 h81 =>
  opH Try.prog G (sv (Instr.indexAt 31 (r 5) v81)) h81 fun v82 h82 =>
  opH Try.prog G (su (Instr.storeAt 4 v82 (.bool true))) h82 fun v83 h83 =>
  opH Try.prog G (sv (Instr.loadAt 27 (r 8))) h83 fun v84 h84 =>
  opH Try.prog G (su (Instr.storeAt 27 (r 6) v84)) h84 fun v85 h85 =>
  S3_l4_k6 G K (upd (upd (upd (upd (upd r 106 (r 5)) 107 v80) 108 v81) 109 v82) 110 v84) h85
def S3_l4_k5 (G : Hp) (K : Exit → Rg → Hp → Prop) (r : Rg) (h : Hp) : Prop :=
  opH Try.prog G (callFunc 15 #[(r 3)]) h fun v25 h25 =>
  opH Try.prog G (sv (Instr.extract v25 0)) h25 fun v26 h26 =>
  opH Try.prog G (sv (Instr.extract v25 1)) h26 fun v27 h27 =>
  opH Try.prog G (sv (Instr.alloc 27 true (.tuple #[]))) h27 fun v28 h28 =>
  opH Try.prog G (su (Instr.storeAt 27 v28 v26)) h28 fun v29 h29 =>
  pureW Try.prog noHp noHp (sv (Op.unary .not v27)) h29 fun v30 h30 =>
  gd (wantB v30 false) (pureW Try.prog noHp noHp (sv (Instr.fieldAt 27 v28 1)) h30) h30 fun v31 h31 =>
  gd (wantB v30 false) (pureW Try.prog G h29 (sv (Instr.loadAt 3 v31)) h31) h31 fun v32 h32 =>
  gd (wantB v30 false) (pureW Try.prog noHp noHp (sv (binOp .lss 3 v32 (.int .i64 0))) h32) h32 fun v33 h33 =>
  pureW Try.prog noHp noHp (xPick v30 (.bool true) v33) h33 fun v34 h34 =>
  gd (wantB v34 false) (pureW Try.prog noHp noHp (sv (Instr.fieldAt 27 v28 1)) h34) h34 fun v35 h35 =>
  gd (wantB v34 false) (pureW Try.prog G h29 (sv (Instr.loadAt 3 v35)) h35) h35 fun v36 h36 =>
  gd (wantB v34 false) (fun K1 => K1 (r 0) h36) h36 fun v37 h37 =>
  gd (wantB v34 false) (pureW Try.prog G h29 (sv (Builtin.len_ #[22] 3 #[v37])) h37) h37 fun v38 h38 =>
  gd (wantB v34 false) (pureW Try.prog noHp noHp (sv (binOp .geq 3 v36 v38)) h38) h38 fun v39 h39 =>
  pureW Try.prog noHp noHp (xPick v34 (.bool true) v39) h39 fun v40 h40 =>
  gd (wantB v40 false) (fun K1 => K1 (r 5) h40) h40 fun v41 h41 =>
  gd (wantB v40 false) (pureW Try.prog noHp noHp (sv (Instr.fieldAt 27 v28 1)) h41) h41 fun v42 h42 =>
  gd (wantB v40 false) (pureW Try.prog G h29 (sv (Instr.loadAt 3 v42)) h42) h42 fun v43 h43 =>
  gd (wantB v40 false) (pureW Try.prog noHp noHp (sv (Instr.indexAt 31 v41 v43)) h43) h43 fun v44 h44 =>
  gd (wantB v40 false) (pureW Try.prog G h29 (sv (Instr.loadAt 4 v44)) h44) h44 fun v45 h45 =>
  pureW Try.prog noHp noHp (xPick v40 (.bool true) v45) h45 fun v46 h46 =>
  gd (wantB v46 false) (pureW Try.prog noHp noHp (sv (Instr.fieldAt 27 v28 0)) h46) h46 fun v47 h47 =>
  gd (wantB v46 false) (pureW Try.prog G h29 (sv (Instr.loadAt 3 v47)) h47) h47 fun v48 h48 =>
  gd (wantB v46 false) (fun K1 => K1 (r 0) h48) h48 fun v49 h49 =>
  gd (wantB v46 false) (pureW Try.prog noHp noHp (sv (Instr.fieldAt 27 v28 1)) h49) h49 fun v50 h50 =>
  gd (wantB v46 false) (pureW Try.prog G h29 (sv (Instr.loadAt 3 v50)) h50) h50 fun v51 h51 =>
  gd (wantB v46 false) (pureW Try.prog noHp noHp (sv (Instr.indexAt 22 v49 v51)) h51) h51 fun v52 h52 =>
  gd (wantB v46 false) (pureW Try.prog G h29 (sv (Instr.loadAt 3 v52)) h52) h52 fun v53 h53 =>
  gd (wantB v46 false) (pureW Try.prog G h29 (xEq .neq 3 (.tmp 0) (.tmp 0) v48 v53) h53) h53 fun v54 h54 =>
  pureW Try.prog noHp noHp (xPick v46 (.bool true) v54) h54 fun v55 h55 =>
  gd (wantB v55 false) (fun K1 => K1 (r 7) h55) h55 fun v56 h56 =>
  gd (wantB v55 false) (pureW Try.prog noHp noHp (sv (binOp .gtr 3 v56 (.int .i64 0))) h56) h56 fun v57 h57 =>
  gd (wantB v55 false) (fun K1 => K1 v57 h57) h57 fun v58 h58 =>
  gd (wantB v58 true) (pureW Try.prog noHp noHp (sv (Instr.fieldAt 27 v28 0)) h58) h58 fun v59 h59 =>
  gd (wantB v58 true) (pureW Try.prog G h29 (sv (Instr.loadAt 3 v59)) h59) h59 fun v60 h60 =>
  gd (wantB v58 true) (pureW Try.prog noHp noHp (sv (Instr.fieldAt 27 (r 6) 0)) h60) h60 fun v61 h61 =>
  gd (wantB v58 true) (pureW Try.prog G h29 (sv (Instr.loadAt 3 v61)) h61) h61 fun v62 h62 =>
  gd (wantB v58 true) (pureW Try.prog noHp noHp (sv (binOp .lss 3 v60 v62)) h62) h62 fun v63 h63 =>
  gd (wantB v58 true) (fun K1 => K1 v63 h63) h63 fun v64 h64 =>
  gd (wantB v64 false) (pureW Try.prog noHp noHp (sv (Instr.fieldAt 27 v28 0)) h64) h64 fun v65 h65 =>
  gd (wantB v64 false) (pureW Try.prog G h29 (sv (Instr.loadAt 3 v65)) h65) h65 fun v66 h66 =>
  gd (wantB v64 false) (pureW Try.prog noHp noHp (sv (Instr.fieldAt 27 (r 6) 0)) h66) h66 fun v67 h67 =>
  gd (wantB v64 false) (pureW Try.prog G h29 (sv (Instr.loadAt 3 v67)) h67) h67 fun v68 h68 =>
  gd (wantB v64 false) (pureW Try.prog G h29 (xEq .eql 3 (.tmp 0) (.tmp 0) v66 v68) h68) h68 fun v69 h69 =>
  gd (wantB v64 false) (fun K1 => K1 v69 h69) h69 fun v70 h70 =>
  gd (wantB v70 true) (pureW Try.prog noHp noHp (sv (Instr.fieldAt 27 v28 1)) h70) h70 fun v71 h71 =>
  gd (wantB v70 true) (pureW Try.prog G h29 (sv (Instr.loadAt 3 v71)) h71) h71 fun v72 h72 =>
  gd (wantB v70 true) (pureW Try.prog noHp noHp (sv (Instr.fieldAt 27 (r 6) 1)) h72) h72 fun v73 h73 =>
  gd (wantB v70 true) (pureW Try.prog G h29 (sv (Instr.loadAt 3 v73)) h73) h73 fun v74 h74 =>
  gd (wantB v70 true) (pureW Try.prog noHp noHp (sv (binOp .lss 3 v72 v74)) h74) h74 fun v75 h75 =>
  gd (wantB v64 false) (pureW Try.prog noHp noHp (xPick v70 v75 (.bool false)) h75) h75 fun v76 h76 =>
  gd (wantB v58 true) (pureW Try.prog noHp noHp (xPick v64 (.bool true) v76) h76) h76 fun v77 h77 =>
  gd (wantB v55 false) (pureW Try.prog noHp noHp (xPick v58 v77 (.bool false)) h77) h77 fun v78 h78 =>
  pureW Try.prog noHp noHp (xPick v55 (.bool true) v78) h78 fun v79 h79 =>
  cond v79
  (K .ret (upd (upd (upd (upd (upd (upd (upd (upd (upd (upd (upd (upd (upd (upd (upd (upd (upd (upd (upd (upd (upd (upd (upd (upd (upd (upd (upd (upd (upd (upd (upd (upd (upd (upd (upd (upd (upd (upd (upd (upd (upd (upd (upd (upd (upd (upd (upd (upd (upd (upd (upd (upd (upd (upd (upd (upd (upd (upd (upd (upd (upd (upd (upd (upd r 46 (r 3)) 47 v25) 45 v25) 48 v26) 49 v27) 8 v28) 9 v27) 50 v27) 51 v30) 52 v30) 53 v31) 54 v32) 55 v33) 56 v34) 57 v34) 58 v35) 59 v36) 60 v37) 61 v38) 62 v39) 63 v40) 64 v40) 65 v41) 66 v42) 67 v43) 68 v44) 69 v45) 70 v46) 71 v46) 72 v47) 73 v48) 74 v49) 75 v50) 76 v51) 77 v52) 78 v53) 79 v54) 80 v55) 81 v55) 82 v56) 83 v57) 84 v58) 85 v59) 86 v60) 87 v61) 88 v62) 89 v63) 90 v64) 91 v65) 92 v66) 93 v67) 94 v68) 95 v69) 96 v70) 97 v71) 98 v72) 99 v73) 100 v74) 101 v75) 102 v76) 103 v77) 104 v78) 105 v79) 2 (.bool false)) h79)
  (S3_l4_k7 G K (upd (upd (upd (upd (upd (upd (upd (upd (upd (upd (upd (upd (upd (upd (upd (upd (upd (upd (upd (upd (upd (upd (upd (upd (upd (upd (upd (upd (upd (upd (upd (upd (upd (upd (upd (upd (upd (upd (upd (upd (upd (upd (upd (upd (upd (upd (upd (upd (upd (upd (upd (upd (upd (upd (upd (upd (upd (upd (upd (upd (upd (upd (upd r 46 (r 3)) 47 v25) 45 v25) 48 v26) 49 v27) 8 v28) 9 v27) 50 v27) 51 v30) 52 v30) 53 v31) 54 v32) 55 v33) 56 v34) 57 v34) 58 v35) 59 v36) 60 v37) 61 v38) 62 v39) 63 v40) 64 v40) 65 v41) 66 v42) 67 v43) 68 v44) 69 v45) 70 v46) 71 v46) 72 v47) 73 v48) 74 v49) 75 v50) 76 v51) 77 v52) 78 v53) 79 v54) 80 v55) 81 v55) 82 v56) 83 v57) 84 v58) 85 v59) 86 v60) 87 v61) 88 v62) 89 v63) 90 v64) 91 v65) 92 v66) 93 v67) 94 v68) 95 v69) 96 v70) 97 v71) 98 v72) 99 v73) 100 v74) 101 v75) 102 v76) 103 v77) 104 v78) 105 v79) h79)
def S3_l4 (G : Hp) (r : Rg) (h : Hp) (K : Exit → Rg → Hp → Prop) : Prop :=
  opH Try.prog G (sv (Builtin.len_ #[22] 3 #[(r 0)])) h fun v22 h22 =>
  opH Try.prog G (sv (binOp .lss 3 (r 7) v22)) h22 fun v23 h23 =>
  cond v23
  (S3_l4_k5 G K (upd (upd (upd (upd r 39 (r 7)) 40 (r 0)) 41 v22) 42 v23) h23)
  (K (.exit 2) (upd (upd (upd (upd r 39 (r 7)) 40 (r 0)) 41 v22) 42 v23) h23)
def S3_k2 (G : Hp) (K : Exit → Rg → Hp → Prop) (r : Rg) (h : Hp) : Prop :=
  opH Try.prog G (sv (Builtin.len_ #[22] 3 #[(r 0)])) h fun v7 h7 =>
  opH Try.prog G (sv (Instr.makeSlice 31 v7 v7)) h7 fun v8 h8 =>
  opH Try.prog G (sv (Instr.build 27 #[])) h8 fun v9 h9 =>
  opH Try.prog G (sv (Instr.alloc 27 true (.tuple #[]))) h9 fun v10 h10 =>
  opH Try.prog G (su (Instr.storeAt 27 v10 v9)) h10 fun v11 h11 =>
  loopP (S3_l4 G) (upd (upd (upd (upd (upd (upd (upd r 35 (r 0)) 36 v7) 37 v8) 5 v8) 38 v9) 6 v10) 7 (.int .i64 0)) h11 (blockK 2 (thenK (S3_k3 G K) K))
def S3_l8_k10 (G : Hp) (K : Exit → Rg → Hp → Prop) (r : Rg) (h : Hp) : Prop :=
  opH Try.prog G (sv (binOp .add 3 (r 4) (.int .i64 1))) h fun v88 h88 =>
  K .normal (upd (upd (upd r 25 (r 4)) 26 v88) 4 v88) h88
def S3_l8_k9 (G : Hp) (K : Exit → Rg → Hp → Prop) (r : Rg) (h : Hp) : Prop :=
  opH Try.prog G (sv (Instr.indexAt 22 (r 0) (r 4))) h fun v89 h89 =>
  opH Try.prog G (sv (Instr.loadAt 3 v89)) h89 fun v90 h90 =>
  opH Try.prog G (callFunc 14 #[v90, (r 4)]) h90 fun v91 h91 =>
  opH Try.prog G (callFunc 13 #[(r 3), v91]) h91 fun v92 h92 =>
  S3_l8_k10 G K (upd (upd (upd (upd (upd (upd (upd (upd r 27 (r 3)) 28 (r 0)) 29 (r 4)) 30 v89) 31 v90) 32 (r 4)) 33 v91) 34 v92) h92
def S3_l8 (G : Hp) (r : Rg) (h : Hp) (K : Exit → Rg → Hp → Prop) : Prop :=
  opH Try.prog G (sv (Builtin.len_ #[22] 3 #[(r 0)])) h fun v86 h86 =>
  opH Try.prog G (sv (binOp .lss 3 (r 4) v86)) h86 fun v87 h87 =>
  cond v87
  (S3_l8_k9 G K (upd (upd (upd (upd r 21 (r 4)) 22 (r 0)) 23 v86) 24 v87) h87)
  (K (.exit 0) (upd (upd (upd (upd r 21 (r 4)) 22 (r 0)) 23 v86) 24 v87) h87)
def S3_k1 (G : Hp) (K : Exit → Rg → Hp → Prop) (r : Rg) (h : Hp) : Prop :=
  opH Try.prog G (callFunc 11 #[(.func (.func 12) #[] #[])]) h fun v6 h6 =>
  loopP (S3_l8 G) (upd (upd (upd r 20 v6) 3 v6) 4 (.int .i64 0)) h6 (blockK 0 (thenK (S3_k2 G K) K))
def S3 (G : Hp) (K : Exit → Rg → Hp → Prop) (r : Rg) (h : Hp) : Prop :=
  opH Try.prog G (callFunc 10 #[]) h fun v0 h0 =>
  opH Try.prog G (sv (Op.unary .not v0)) h0 fun v1 h1 =>
  gd (wantB v1 false) (fun K1 => K1 (r 0) h1) h1 fun v2 h2 =>
  gd (wantB v1 false) (opH Try.prog G (sv (Builtin.len_ #[22] 3 #[v2])) h2) h2 fun v3 h3 =>
  gd (wantB v1 false) (opH Try.prog G (sv (binOp .gtr 3 v3 (.int .i64 400))) h3) h3 fun v4 h4 =>
  opH Try.prog G (xPick v1 (.bool true) v4) h4 fun v5 h5 =>
  cond v5
  (opH Try.prog G (callFunc 10 #[]) h5 fun v93 h93 =>
  K .ret (upd (upd (upd (upd (upd (upd (upd (upd (upd (upd r 2 (.bool false)) 12 v0) 13 v1) 14 v1) 15 v2) 16 v3) 17 v4) 18 v5) 19 v93) 2 v93) h93)
  (S3_k1 G K (upd (upd (upd (upd (upd (upd (upd (upd r 2 (.bool false)) 12 v0) 13 v1) 14 v1) 15 v2) 16 v3) 17 v4) 18 v5) h5)
theorem S3_eq (G : Hp) (K : Exit → Rg → Hp → Prop) (r : Rg) (h : Hp) : wpC Try.prog G 123 md3 (Try.f3.body.getD .skip) r h K = S3 G K r h := by kernel_rfl
theorem enter3 {G : Hp} {h : Hp} {args : Array Value} {R : Value → Hp → Prop} (hn : args.size ≤ 123) (H : S3 G (retK Try.prog G [.tmp 2] R) (regs args) h) : HCalls Try.prog G 3 args h R :=
  HCalls.enter (md := md3) mixed Try.func3 rfl hn (by rw [← S3_eq] at H; exact H)

/-! 4: skep/skeplaw10.HeapTexts: params #[36], results #[4] -/
def md4 : Nat → Hint
  | _ => ⟨false, [], [], [], [], false⟩
def S4_k3 (G : Hp) (K : Exit → Rg → Hp → Prop) (r : Rg) (h : Hp) : Prop :=
  opH Try.prog G (callFunc 21 #[(r 3)]) h fun v7 h7 =>
  opH Try.prog G (sv (Instr.extract v7 0)) h7 fun v8 h8 =>
  opH Try.prog G (sv (Instr.extract v7 1)) h8 fun v9 h9 =>
  opH Try.prog G (sv (Builtin.len_ #[36] 3 #[(r 0)])) h9 fun v10 h10 =>
  opH Try.prog G (xEq .eql 3 (.tmp 0) (.tmp 0) (r 6) v10) h10 fun v11 h11 =>
  gd (wantB v11 true) (fun K1 => K1 v8 h11) h11 fun v12 h12 =>
  gd (wantB v11 true) (opH Try.prog G (xEq .eql 9 (.tmp 0) (.const .nilFunc) v12 (.string ⟨#[]⟩)) h12) h12 fun v13 h13 =>
  opH Try.prog G (xPick v11 v13 (.bool false)) h13 fun v14 h14 =>
  gd (wantB v14 true) (fun K1 => K1 v9 h14) h14 fun v15 h15 =>
  gd (wantB v14 true) (opH Try.prog G (sv (Op.unary .not v15)) h15) h15 fun v16 h16 =>
  opH Try.prog G (xPick v14 v16 (.bool false)) h16 fun v17 h17 =>
  K .ret (upd (upd (upd (upd (upd (upd (upd (upd (upd (upd (upd (upd (upd (upd (upd (upd (upd (upd (upd (upd r 56 (r 3)) 57 v7) 55 v7) 58 v8) 59 v9) 9 v8) 10 v9) 60 (r 6)) 61 (r 0)) 62 v10) 63 v11) 64 v11) 65 v12) 66 v13) 67 v14) 68 v14) 69 v15) 70 v16) 71 v17) 2 v17) h17
def S4_l4_k7 (G : Hp) (K : Exit → Rg → Hp → Prop) (r : Rg) (h : Hp) : Prop :=
  opH Try.prog G (sv (binOp .add 3 (r 6) (.int .i64 1))) h fun v31 h31 =>
  K .normal (upd (upd (upd (upd (upd r 52 (r 7)) 5 (r 7)) 53 (r 6)) 54 v31) 6 v31) h31
def S4_l4_k6 (G : Hp) (K : Exit → Rg → Hp → Prop) (r : Rg) (h : Hp) : Prop :=
  opH Try.prog G (sv (binOp .gtr 3 (r 6) (.int .i64 0))) h fun v24 h24 =>
  gd (wantB v24 true) (fun K1 => K1 (r 7) h24) h24 fun v25 h25 =>
  gd (wantB v24 true) (opH Try.prog G (sv (Builtin.len_ #[9] 3 #[v25])) h25) h25 fun v26 h26 =>
  gd (wantB v24 true) (fun K1 => K1 (r 5) h26) h26 fun v27 h27 =>
  gd (wantB v24 true) (opH Try.prog G (sv (Builtin.len_ #[9] 3 #[v27])) h27) h27 fun v28 h28 =>
  gd (wantB v24 true) (opH Try.prog G (sv (binOp .gtr 3 v26 v28)) h28) h28 fun v29 h29 =>
  opH Try.prog G (xPick v24 v29 (.bool false)) h29 fun v30 h30 =>
  cond v30
  (K .ret (upd (upd (upd (upd (upd (upd (upd (upd (upd (upd r 43 (r 6)) 44 v24) 45 v24) 46 v25) 47 v26) 48 v27) 49 v28) 50 v29) 51 v30) 2 (.bool false)) h30)
  (S4_l4_k7 G K (upd (upd (upd (upd (upd (upd (upd (upd (upd r 43 (r 6)) 44 v24) 45 v24) 46 v25) 47 v26) 48 v27) 49 v28) 50 v29) 51 v30) h30)
def S4_l4_k5 (G : Hp) (K : Exit → Rg → Hp → Prop) (r : Rg) (h : Hp) : Prop :=
  opH Try.prog G (callFunc 20 #[(r 3)]) h fun v20 h20 =>
  opH Try.prog G (sv (Instr.extract v20 0)) h20 fun v21 h21 =>
  opH Try.prog G (sv (Instr.extract v20 1)) h21 fun v22 h22 =>
  opH Try.prog G (sv (Op.unary .not v22)) h22 fun v23 h23 =>
  cond v23
  (K (.exit 2) (upd (upd (upd (upd (upd (upd (upd (upd (upd r 37 (r 3)) 38 v20) 36 v20) 39 v21) 40 v22) 7 v21) 8 v22) 41 v22) 42 v23) h23)
  (S4_l4_k6 G K (upd (upd (upd (upd (upd (upd (upd (upd (upd r 37 (r 3)) 38 v20) 36 v20) 39 v21) 40 v22) 7 v21) 8 v22) 41 v22) 42 v23) h23)
def S4_l4 (G : Hp) (r : Rg) (h : Hp) (K : Exit → Rg → Hp → Prop) : Prop :=
  opH Try.prog G (sv (Builtin.len_ #[36] 3 #[(r 0)])) h fun v18 h18 =>
  opH Try.prog G (sv (binOp .leq 3 (r 6) v18)) h18 fun v19 h19 =>
  cond v19
  (S4_l4_k5 G K (upd (upd (upd (upd r 32 (r 6)) 33 (r 0)) 34 v18) 35 v19) h19)
  (K (.exit 2) (upd (upd (upd (upd r 32 (r 6)) 33 (r 0)) 34 v18) 35 v19) h19)
def S4_k2 (G : Hp) (K : Exit → Rg → Hp → Prop) (r : Rg) (h : Hp) : Prop :=
  loopP (S4_l4 G) (upd (upd r 5 (.string ⟨#[]⟩)) 6 (.int .i64 0)) h (blockK 2 (thenK (S4_k3 G K) K))
def S4_l8_k10 (G : Hp) (K : Exit → Rg → Hp → Prop) (r : Rg) (h : Hp) : Prop :=
  opH Try.prog G (sv (binOp .add 3 (r 4) (.int .i64 1))) h fun v34 h34 =>
  K .normal (upd (upd (upd r 24 (r 4)) 25 v34) 4 v34) h34
def S4_l8_k9 (G : Hp) (K : Exit → Rg → Hp → Prop) (r : Rg) (h : Hp) : Prop :=
  opH Try.prog G (sv (Instr.indexAt 36 (r 0) (r 4))) h fun v35 h35 =>
  opH Try.prog G (sv (Instr.loadAt 9 v35)) h35 fun v36 h36 =>
  opH Try.prog G (callFunc 19 #[(r 3), v36]) h36 fun v37 h37 =>
  S4_l8_k10 G K (upd (upd (upd (upd (upd (upd r 26 (r 3)) 27 (r 0)) 28 (r 4)) 29 v35) 30 v36) 31 v37) h37
def S4_l8 (G : Hp) (r : Rg) (h : Hp) (K : Exit → Rg → Hp → Prop) : Prop :=
  opH Try.prog G (sv (Builtin.len_ #[36] 3 #[(r 0)])) h fun v32 h32 =>
  opH Try.prog G (sv (binOp .lss 3 (r 4) v32)) h32 fun v33 h33 =>
  cond v33
  (S4_l8_k9 G K (upd (upd (upd (upd r 20 (r 4)) 21 (r 0)) 22 v32) 23 v33) h33)
  (K (.exit 0) (upd (upd (upd (upd r 20 (r 4)) 21 (r 0)) 22 v32) 23 v33) h33)
def S4_k1 (G : Hp) (K : Exit → Rg → Hp → Prop) (r : Rg) (h : Hp) : Prop :=
  opH Try.prog G (callFunc 17 #[(.func (.func 18) #[] #[])]) h fun v6 h6 =>
  loopP (S4_l8 G) (upd (upd (upd r 19 v6) 3 v6) 4 (.int .i64 0)) h6 (blockK 0 (thenK (S4_k2 G K) K))
def S4 (G : Hp) (K : Exit → Rg → Hp → Prop) (r : Rg) (h : Hp) : Prop :=
  opH Try.prog G (callFunc 10 #[]) h fun v0 h0 =>
  opH Try.prog G (sv (Op.unary .not v0)) h0 fun v1 h1 =>
  gd (wantB v1 false) (fun K1 => K1 (r 0) h1) h1 fun v2 h2 =>
  gd (wantB v1 false) (opH Try.prog G (sv (Builtin.len_ #[36] 3 #[v2])) h2) h2 fun v3 h3 =>
  gd (wantB v1 false) (opH Try.prog G (sv (binOp .gtr 3 v3 (.int .i64 200))) h3) h3 fun v4 h4 =>
  opH Try.prog G (xPick v1 (.bool true) v4) h4 fun v5 h5 =>
  cond v5
  (opH Try.prog G (callFunc 10 #[]) h5 fun v38 h38 =>
  K .ret (upd (upd (upd (upd (upd (upd (upd (upd (upd (upd r 2 (.bool false)) 11 v0) 12 v1) 13 v1) 14 v2) 15 v3) 16 v4) 17 v5) 18 v38) 2 v38) h38)
  (S4_k1 G K (upd (upd (upd (upd (upd (upd (upd (upd r 2 (.bool false)) 11 v0) 12 v1) 13 v1) 14 v2) 15 v3) 16 v4) 17 v5) h5)
theorem S4_eq (G : Hp) (K : Exit → Rg → Hp → Prop) (r : Rg) (h : Hp) : wpC Try.prog G 72 md4 (Try.f4.body.getD .skip) r h K = S4 G K r h := by kernel_rfl
theorem enter4 {G : Hp} {h : Hp} {args : Array Value} {R : Value → Hp → Prop} (hn : args.size ≤ 72) (H : S4 G (retK Try.prog G [.tmp 2] R) (regs args) h) : HCalls Try.prog G 4 args h R :=
  HCalls.enter (md := md4) mixed Try.func4 rfl hn (by rw [← S4_eq] at H; exact H)

/-! 5: skep/skeplaw10.HeapLooks: params #[22, 3], results #[4] -/
def md5 : Nat → Hint
  | 16 => ⟨false, [0, 1, 3, 7, 7, 7, 55, 119, 255, 511], [.pureN, .pureN, .pureN, .pureM, .pureN, .pureN, .pureN, .pureM, .pureM, .pureN], [.pureN, .pureN, .pureN, .pureM, .pureN, .pureN, .pureN, .pureM, .pureM, .pureN], [false, false, false, false, false, false, false, false, false, false], false⟩
  | _ => ⟨false, [], [], [], [], false⟩
def S5_k4 (G : Hp) (K : Exit → Rg → Hp → Prop) (r : Rg) (h : Hp) : Prop :=
  K .ret (upd r 4 (.bool true)) h
def S5_l5_k7 (G : Hp) (K : Exit → Rg → Hp → Prop) (r : Rg) (h : Hp) : Prop :=
  opH Try.prog G (sv (binOp .add 3 (r 9) (.int .i64 1))) h fun v37 h37 =>
  K .normal (upd (upd (upd r 76 (r 9)) 77 v37) 9 v37) h37
def S5_l5_k6 (G : Hp) (K : Exit → Rg → Hp → Prop) (r : Rg) (h : Hp) : Prop :=
  opH Try.prog G (callFunc 15 #[(r 5)]) h fun v38 h38 =>
  opH Try.prog G (sv (Instr.extract v38 0)) h38 fun v39 h39 =>
  opH Try.prog G (sv (Instr.extract v38 1)) h39 fun v40 h40 =>
  opH Try.prog G (sv (Instr.alloc 27 true (.tuple #[]))) h40 fun v41 h41 =>
  opH Try.prog G (su (Instr.storeAt 27 v41 v39)) h41 fun v42 h42 =>
  pureW Try.prog noHp noHp (sv (Op.unary .not v40)) h42 fun v43 h43 =>
  gd (wantB v43 false) (pureW Try.prog G h42 (sv (Instr.loadAt 27 v41)) h43) h43 fun v44 h44 =>
  gd (wantB v43 false) (fun K1 => K1 (r 8) h44) h44 fun v45 h45 =>
  gd (wantB v43 false) (fun K1 => K1 (r 9) h45) h45 fun v46 h46 =>
  gd (wantB v43 false) (pureW Try.prog noHp noHp (sv (Instr.indexAt 44 v45 v46)) h46) h46 fun v47 h47 =>
  gd (wantB v43 false) (pureW Try.prog G h42 (sv (Instr.loadAt 27 v47)) h47) h47 fun v48 h48 =>
  gd (wantB v43 false) (pureW Try.prog G h42 (xEq .neq 27 (.tmp 0) (.tmp 0) v44 v48) h48) h48 fun v49 h49 =>
  pureW Try.prog noHp noHp (xPick v43 (.bool true) v49) h49 fun v50 h50 =>
  cond v50
  (K .ret (upd (upd (upd (upd (upd (upd (upd (upd (upd (upd (upd (upd (upd (upd (upd (upd (upd (upd r 79 (r 5)) 80 v38) 78 v38) 81 v39) 82 v40) 10 v41) 11 v40) 83 v40) 84 v43) 85 v43) 86 v44) 87 v45) 88 v46) 89 v47) 90 v48) 91 v49) 92 v50) 4 (.bool false)) h50)
  (S5_l5_k7 G K (upd (upd (upd (upd (upd (upd (upd (upd (upd (upd (upd (upd (upd (upd (upd (upd (upd r 79 (r 5)) 80 v38) 78 v38) 81 v39) 82 v40) 10 v41) 11 v40) 83 v40) 84 v43) 85 v43) 86 v44) 87 v45) 88 v46) 89 v47) 90 v48) 91 v49) 92 v50) h50)
def S5_l5 (G : Hp) (r : Rg) (h : Hp) (K : Exit → Rg → Hp → Prop) : Prop :=
  opH Try.prog G (sv (Builtin.len_ #[44] 3 #[(r 8)])) h fun v35 h35 =>
  opH Try.prog G (sv (binOp .lss 3 (r 9) v35)) h35 fun v36 h36 =>
  cond v36
  (S5_l5_k6 G K (upd (upd (upd (upd r 72 (r 9)) 73 (r 8)) 74 v35) 75 v36) h36)
  (K (.exit 2) (upd (upd (upd (upd r 72 (r 9)) 73 (r 8)) 74 v35) 75 v36) h36)
def S5_k3 (G : Hp) (K : Exit → Rg → Hp → Prop) (r : Rg) (h : Hp) : Prop :=
  loopP (S5_l5 G) (upd r 9 (.int .i64 0)) h (blockK 2 (thenK (S5_k4 G K) K))
def S5_k2 (G : Hp) (K : Exit → Rg → Hp → Prop) (r : Rg) (h : Hp) : Prop :=
  opH Try.prog G (sv (Builtin.len_ #[22] 3 #[(r 0)])) h fun v7 h7 =>
  opH Try.prog G (sv (binOp .add 3 v7 (.int .i64 1))) h7 fun v8 h8 =>
  opH Try.prog G (callFunc 23 #[(r 1), v8]) h8 fun v9 h9 =>
  opH Try.prog G (sv (binOp .add 3 (.int .i64 1) v9)) h9 fun v10 h10 =>
  opH Try.prog G (callFunc 22 #[(r 5), v10]) h10 fun v11 h11 =>
  opH Try.prog G (sv (Builtin.len_ #[22] 3 #[(r 0)])) h11 fun v12 h12 =>
  opH Try.prog G (sv (binOp .add 3 v12 (.int .i64 5))) h12 fun v13 h13 =>
  opH Try.prog G (callFunc 22 #[(r 5), v13]) h13 fun v14 h14 =>
  opH Try.prog G (sv (Builtin.len_ #[44] 3 #[v14])) h14 fun v15 h15 =>
  opH Try.prog G (sv (Builtin.len_ #[22] 3 #[(r 0)])) h15 fun v16 h16 =>
  opH Try.prog G (xEq .neq 3 (.tmp 0) (.tmp 0) v15 v16) h16 fun v17 h17 =>
  gd (wantB v17 false) (fun K1 => K1 (r 5) h17) h17 fun v18 h18 =>
  gd (wantB v17 false) (opH Try.prog G (callFunc 16 #[v18]) h18) h18 fun v19 h19 =>
  gd (wantB v17 false) (fun K1 => K1 (r 0) h19) h19 fun v20 h20 =>
  gd (wantB v17 false) (opH Try.prog G (sv (Builtin.len_ #[22] 3 #[v20])) h20) h20 fun v21 h21 =>
  gd (wantB v17 false) (opH Try.prog G (xEq .neq 3 (.tmp 0) (.tmp 0) v19 v21) h21) h21 fun v22 h22 =>
  opH Try.prog G (xPick v17 (.bool true) v22) h22 fun v23 h23 =>
  gd (wantB v23 false) (fun K1 => K1 v11 h23) h23 fun v24 h24 =>
  gd (wantB v23 false) (fun K1 => K1 v14 h24) h24 fun v25 h25 =>
  gd (wantB v23 false) (fun K1 => K1 v11 h25) h25 fun v26 h26 =>
  gd (wantB v23 false) (opH Try.prog G (sv (Builtin.len_ #[44] 3 #[v26])) h26) h26 fun v27 h27 =>
  gd (wantB v23 false) (fun K1 => K1 v14 h27) h27 fun v28 h28 =>
  gd (wantB v23 false) (opH Try.prog G (sv (Builtin.len_ #[44] 3 #[v28])) h28) h28 fun v29 h29 =>
  gd (wantB v23 false) (opH Try.prog G (sv (Builtin.min_ #[3, 3] 3 #[v27, v29])) h29) h29 fun v30 h30 =>
  gd (wantB v23 false) (opH Try.prog G (sv (Instr.sliceAt 44 v25 none (some v30) none)) h30) h30 fun v31 h31 =>
  gd (wantB v23 false) (opH Try.prog G (callFunc 24 #[v24, v31]) h31) h31 fun v32 h32 =>
  gd (wantB v23 false) (opH Try.prog G (sv (Op.unary .not v32)) h32) h32 fun v33 h33 =>
  opH Try.prog G (xPick v23 (.bool true) v33) h33 fun v34 h34 =>
  cond v34
  (K .ret (upd (upd (upd (upd (upd (upd (upd (upd (upd (upd (upd (upd (upd (upd (upd (upd (upd (upd (upd (upd (upd (upd (upd (upd (upd (upd (upd (upd (upd (upd (upd (upd (upd (upd (upd (upd (upd (upd (upd (upd r 35 (r 5)) 36 (r 1)) 37 (r 0)) 38 v7) 39 v8) 40 v9) 41 v10) 42 v11) 7 v11) 43 (r 5)) 44 (r 0)) 45 v12) 46 v13) 47 v14) 8 v14) 48 v14) 49 v15) 50 (r 0)) 51 v16) 52 v17) 53 v17) 54 v18) 55 v19) 56 v20) 57 v21) 58 v22) 59 v23) 60 v23) 61 v24) 62 v25) 63 v26) 64 v27) 65 v28) 66 v29) 67 v30) 68 v31) 69 v32) 70 v33) 71 v34) 4 (.bool false)) h34)
  (S5_k3 G K (upd (upd (upd (upd (upd (upd (upd (upd (upd (upd (upd (upd (upd (upd (upd (upd (upd (upd (upd (upd (upd (upd (upd (upd (upd (upd (upd (upd (upd (upd (upd (upd (upd (upd (upd (upd (upd (upd (upd r 35 (r 5)) 36 (r 1)) 37 (r 0)) 38 v7) 39 v8) 40 v9) 41 v10) 42 v11) 7 v11) 43 (r 5)) 44 (r 0)) 45 v12) 46 v13) 47 v14) 8 v14) 48 v14) 49 v15) 50 (r 0)) 51 v16) 52 v17) 53 v17) 54 v18) 55 v19) 56 v20) 57 v21) 58 v22) 59 v23) 60 v23) 61 v24) 62 v25) 63 v26) 64 v27) 65 v28) 66 v29) 67 v30) 68 v31) 69 v32) 70 v33) 71 v34) h34)
def S5_l8_k10 (G : Hp) (K : Exit → Rg → Hp → Prop) (r : Rg) (h : Hp) : Prop :=
  opH Try.prog G (sv (binOp .add 3 (r 6) (.int .i64 1))) h fun v53 h53 =>
  K .normal (upd (upd (upd r 25 (r 6)) 26 v53) 6 v53) h53
def S5_l8_k9 (G : Hp) (K : Exit → Rg → Hp → Prop) (r : Rg) (h : Hp) : Prop :=
  opH Try.prog G (sv (Instr.indexAt 22 (r 0) (r 6))) h fun v54 h54 =>
  opH Try.prog G (sv (Instr.loadAt 3 v54)) h54 fun v55 h55 =>
  opH Try.prog G (callFunc 14 #[v55, (r 6)]) h55 fun v56 h56 =>
  opH Try.prog G (callFunc 13 #[(r 5), v56]) h56 fun v57 h57 =>
  S5_l8_k10 G K (upd (upd (upd (upd (upd (upd (upd (upd r 27 (r 5)) 28 (r 0)) 29 (r 6)) 30 v54) 31 v55) 32 (r 6)) 33 v56) 34 v57) h57
def S5_l8 (G : Hp) (r : Rg) (h : Hp) (K : Exit → Rg → Hp → Prop) : Prop :=
  opH Try.prog G (sv (Builtin.len_ #[22] 3 #[(r 0)])) h fun v51 h51 =>
  opH Try.prog G (sv (binOp .lss 3 (r 6) v51)) h51 fun v52 h52 =>
  cond v52
  (S5_l8_k9 G K (upd (upd (upd (upd r 21 (r 6)) 22 (r 0)) 23 v51) 24 v52) h52)
  (K (.exit 0) (upd (upd (upd (upd r 21 (r 6)) 22 (r 0)) 23 v51) 24 v52) h52)
def S5_k1 (G : Hp) (K : Exit → Rg → Hp → Prop) (r : Rg) (h : Hp) : Prop :=
  opH Try.prog G (callFunc 11 #[(.func (.func 12) #[] #[])]) h fun v6 h6 =>
  loopP (S5_l8 G) (upd (upd (upd r 20 v6) 5 v6) 6 (.int .i64 0)) h6 (blockK 0 (thenK (S5_k2 G K) K))
def S5 (G : Hp) (K : Exit → Rg → Hp → Prop) (r : Rg) (h : Hp) : Prop :=
  opH Try.prog G (callFunc 10 #[]) h fun v0 h0 =>
  opH Try.prog G (sv (Op.unary .not v0)) h0 fun v1 h1 =>
  gd (wantB v1 false) (fun K1 => K1 (r 0) h1) h1 fun v2 h2 =>
  gd (wantB v1 false) (opH Try.prog G (sv (Builtin.len_ #[22] 3 #[v2])) h2) h2 fun v3 h3 =>
  gd (wantB v1 false) (opH Try.prog G (sv (binOp .gtr 3 v3 (.int .i64 300))) h3) h3 fun v4 h4 =>
  opH Try.prog G (xPick v1 (.bool true) v4) h4 fun v5 h5 =>
  cond v5
  (opH Try.prog G (callFunc 10 #[]) h5 fun v58 h58 =>
  K .ret (upd (upd (upd (upd (upd (upd (upd (upd (upd (upd r 4 (.bool false)) 12 v0) 13 v1) 14 v1) 15 v2) 16 v3) 17 v4) 18 v5) 19 v58) 4 v58) h58)
  (S5_k1 G K (upd (upd (upd (upd (upd (upd (upd (upd r 4 (.bool false)) 12 v0) 13 v1) 14 v1) 15 v2) 16 v3) 17 v4) 18 v5) h5)
theorem S5_eq (G : Hp) (K : Exit → Rg → Hp → Prop) (r : Rg) (h : Hp) : wpC Try.prog G 93 md5 (Try.f5.body.getD .skip) r h K = S5 G K r h := by kernel_rfl
theorem enter5 {G : Hp} {h : Hp} {args : Array Value} {R : Value → Hp → Prop} (hn : args.size ≤ 93) (H : S5 G (retK Try.prog G [.tmp 4] R) (regs args) h) : HCalls Try.prog G 5 args h R :=
  HCalls.enter (md := md5) mixed Try.func5 rfl hn (by rw [← S5_eq] at H; exact H)

/-! 6: skep/skeplaw10.HeapLeast: params #[22, 31], results #[4] -/
def md6 : Nat → Hint
  | 13 => ⟨false, [0, 1, 3, 7, 15, 31, 63, 127, 127, 511, 1023, 2047, 4095, 8191, 16383, 32767, 65535, 131071, 262143, 131071, 1048575, 2097151, 4194303, 8388607, 8388607, 25165823, 67108863, 134217727, 268435455, 536870911, 1073741823, 2147483647, 4294967295, 2147483647, 2147483647, 19327352831, 62277025791, 130996502527, 274877906943, 549755813887], [.pureN, .pureN, .pureN, .pureN, .pureN, .pureN, .pureN, .pureM, .pureM, .pureM, .pureN, .pureN, .pureN, .pureM, .pureN, .pureN, .pureN, .pureN, .pureM, .pureN, .pureN, .pureN, .pureN, .pureN, .pureN, .pureM, .pureN, .pureM, .pureN, .pureN, .pureN, .pureN, .pureM, .pureN, .pureN, .pureM, .pureN, .pureM, .pureM, .pureN], [.pureN, .pureN, .pureN, .pureN, .pureN, .pureN, .pureN, .pureM, .pureM, .pureM, .pureN, .pureN, .pureN, .pureM, .pureN, .pureN, .pureN, .pureN, .pureM, .pureN, .pureN, .pureN, .pureN, .pureN, .pureN, .pureM, .pureN, .pureM, .pureN, .pureN, .pureN, .pureN, .pureM, .pureN, .pureN, .pureM, .pureN, .pureM, .pureM, .pureN], [false, false, false, false, false, false, false, false, false, false, false, false, false, false, false, false, false, false, false, false, false, false, false, false, false, false, false, false, false, false, false, false, false, false, false, false, false, false, false, false], false⟩
  | 19 => ⟨false, [0, 0, 3, 7, 15, 31, 31, 127, 255, 31, 543, 2047, 4095, 8191, 8191, 32767, 65535, 8191, 139263, 524287, 1048575, 2097151, 2097151, 6291455, 16777215, 33554431, 67108863, 134217727], [.pureN, .pureN, .pureN, .pureM, .pureN, .pureN, .pureN, .pureN, .pureM, .pureN, .pureM, .pureN, .pureN, .pureN, .pureN, .pureN, .pureM, .pureN, .pureM, .pureM, .pureN, .pureN, .pureN, .pureM, .pureN, .pureN, .pureN, .pureN], [.pureN, .pureN, .pureN, .pureM, .pureN, .pureN, .pureN, .pureN, .pureM, .pureN, .pureM, .pureN, .pureN, .pureN, .pureN, .pureN, .pureM, .pureN, .pureM, .pureM, .pureN, .pureN, .pureN, .pureM, .pureN, .pureN, .pureN, .pureN], [false, false, false, false, false, false, false, false, false, false, false, false, false, false, false, false, false, false, false, false, false, false, false, false, false, false, false, false], false⟩
  | _ => ⟨false, [], [], [], [], false⟩
def S6_k3 (G : Hp) (K : Exit → Rg → Hp → Prop) (r : Rg) (h : Hp) : Prop :=
  opH Try.prog G (callFunc 16 #[(r 5)]) h fun v9 h9 =>
  opH Try.prog G (xEq .eql 3 (.tmp 0) (.tmp 0) v9 (r 13)) h9 fun v10 h10 =>
  gd (wantB v10 true) (fun K1 => K1 (r 5) h10) h10 fun v11 h11 =>
  gd (wantB v10 true) (fun K1 => K1 (r 13) h11) h11 fun v12 h12 =>
  gd (wantB v10 true) (opH Try.prog G (callFunc 23 #[v12, (.int .i64 1000)]) h12) h12 fun v13 h13 =>
  gd (wantB v10 true) (opH Try.prog G (sv (binOp .add 3 (.int .i64 1) v13)) h13) h13 fun v14 h14 =>
  gd (wantB v10 true) (opH Try.prog G (callFunc 22 #[v11, v14]) h14) h14 fun v15 h15 =>
  gd (wantB v10 true) (opH Try.prog G (sv (Builtin.len_ #[44] 3 #[v15])) h15) h15 fun v16 h16 =>
  gd (wantB v10 true) (fun K1 => K1 (r 13) h16) h16 fun v17 h17 =>
  gd (wantB v10 true) (opH Try.prog G (sv (binOp .leq 3 v16 v17)) h17) h17 fun v18 h18 =>
  opH Try.prog G (xPick v10 v18 (.bool false)) h18 fun v19 h19 =>
  K .ret (upd (upd (upd (upd (upd (upd (upd (upd (upd (upd (upd (upd (upd (upd (upd r 154 (r 5)) 155 v9) 156 (r 13)) 157 v10) 158 v10) 159 v11) 160 v12) 161 v13) 162 v14) 163 v15) 164 v16) 165 v17) 166 v18) 167 v19) 4 v19) h19
def S6_l4_k6 (G : Hp) (K : Exit → Rg → Hp → Prop) (r : Rg) (h : Hp) : Prop :=
  opH Try.prog G (sv (binOp .add 3 (r 14) (.int .i64 1))) h fun v22 h22 =>
  K .normal (upd (upd (upd r 146 (r 14)) 147 v22) 14 v22) h22
def S6_l4_k5 (G : Hp) (K : Exit → Rg → Hp → Prop) (r : Rg) (h : Hp) : Prop :=
  opH Try.prog G (sv (Instr.indexAt 31 (r 6) (r 14))) h fun v23 h23 =>
  opH Try.prog G (sv (Instr.loadAt 4 v23)) h23 fun v24 h24 =>
  cond v24
  (opH Try.prog G (sv (binOp .add 3 (r 13) (.int .i64 1))) h24 fun v25 h25 =>
  S6_l4_k6 G K (upd (upd (upd (upd (upd (upd (upd r 148 (r 6)) 149 (r 14)) 150 v23) 151 v24) 152 (r 13)) 153 v25) 13 v25) h25)
  (S6_l4_k6 G K (upd (upd (upd (upd r 148 (r 6)) 149 (r 14)) 150 v23) 151 v24) h24)
def S6_l4 (G : Hp) (r : Rg) (h : Hp) (K : Exit → Rg → Hp → Prop) : Prop :=
  opH Try.prog G (sv (Builtin.len_ #[31] 3 #[(r 6)])) h fun v20 h20 =>
  opH Try.prog G (sv (binOp .lss 3 (r 14) v20)) h20 fun v21 h21 =>
  cond v21
  (S6_l4_k5 G K (upd (upd (upd (upd r 142 (r 14)) 143 (r 6)) 144 v20) 145 v21) h21)
  (K (.exit 4) (upd (upd (upd (upd r 142 (r 14)) 143 (r 6)) 144 v20) 145 v21) h21)
def S6_k2 (G : Hp) (K : Exit → Rg → Hp → Prop) (r : Rg) (h : Hp) : Prop :=
  loopP (S6_l4 G) (upd (upd r 13 (.int .i64 0)) 14 (.int .i64 0)) h (blockK 4 (thenK (S6_k3 G K) K))
def S6_l7_k9 (G : Hp) (K : Exit → Rg → Hp → Prop) (r : Rg) (h : Hp) : Prop :=
  opH Try.prog G (sv (binOp .add 3 (r 7) (.int .i64 1))) h fun v28 h28 =>
  K .normal (upd (upd (upd r 31 (r 7)) 32 v28) 7 v28) h28
def S6_l7_l12_k14 (G : Hp) (K : Exit → Rg → Hp → Prop) (r : Rg) (h : Hp) : Prop :=
  opH Try.prog G (sv (binOp .add 3 (r 12) (.int .i64 1))) h fun v91 h91 =>
  K .normal (upd (upd (upd r 112 (r 12)) 113 v91) 12 v91) h91
def S6_l7_l12_k13 (G : Hp) (K : Exit → Rg → Hp → Prop) (r : Rg) (h : Hp) : Prop :=
  pureW Try.prog noHp noHp (sv (Instr.indexAt 31 (r 6) (r 12))) h fun v92 h92 =>
  pureW Try.prog G h (sv (Instr.loadAt 4 v92)) h92 fun v93 h93 =>
  gd (wantB v93 true) (fun K1 => K1 (r 0) h93) h93 fun v94 h94 =>
  gd (wantB v93 true) (fun K1 => K1 (r 12) h94) h94 fun v95 h95 =>
  gd (wantB v93 true) (pureW Try.prog noHp noHp (sv (Instr.indexAt 22 v94 v95)) h95) h95 fun v96 h96 =>
  gd (wantB v93 true) (pureW Try.prog G h (sv (Instr.loadAt 3 v96)) h96) h96 fun v97 h97 =>
  gd (wantB v93 true) (pureW Try.prog noHp noHp (sv (Instr.fieldAt 27 (r 10) 0)) h97) h97 fun v98 h98 =>
  gd (wantB v93 true) (pureW Try.prog G h (sv (Instr.loadAt 3 v98)) h98) h98 fun v99 h99 =>
  gd (wantB v93 true) (pureW Try.prog noHp noHp (sv (binOp .lss 3 v97 v99)) h99) h99 fun v100 h100 =>
  gd (wantB v93 true) (fun K1 => K1 v100 h100) h100 fun v101 h101 =>
  gd (wantB v101 false) (fun K1 => K1 (r 0) h101) h101 fun v102 h102 =>
  gd (wantB v101 false) (fun K1 => K1 (r 12) h102) h102 fun v103 h103 =>
  gd (wantB v101 false) (pureW Try.prog noHp noHp (sv (Instr.indexAt 22 v102 v103)) h103) h103 fun v104 h104 =>
  gd (wantB v101 false) (pureW Try.prog G h (sv (Instr.loadAt 3 v104)) h104) h104 fun v105 h105 =>
  gd (wantB v101 false) (pureW Try.prog noHp noHp (sv (Instr.fieldAt 27 (r 10) 0)) h105) h105 fun v106 h106 =>
  gd (wantB v101 false) (pureW Try.prog G h (sv (Instr.loadAt 3 v106)) h106) h106 fun v107 h107 =>
  gd (wantB v101 false) (pureW Try.prog G h (xEq .eql 3 (.tmp 0) (.tmp 0) v105 v107) h107) h107 fun v108 h108 =>
  gd (wantB v101 false) (fun K1 => K1 v108 h108) h108 fun v109 h109 =>
  gd (wantB v109 true) (fun K1 => K1 (r 12) h109) h109 fun v110 h110 =>
  gd (wantB v109 true) (pureW Try.prog noHp noHp (sv (Instr.fieldAt 27 (r 10) 1)) h110) h110 fun v111 h111 =>
  gd (wantB v109 true) (pureW Try.prog G h (sv (Instr.loadAt 3 v111)) h111) h111 fun v112 h112 =>
  gd (wantB v109 true) (pureW Try.prog noHp noHp (sv (binOp .lss 3 v110 v112)) h112) h112 fun v113 h113 =>
  gd (wantB v101 false) (pureW Try.prog noHp noHp (xPick v109 v113 (.bool false)) h113) h113 fun v114 h114 =>
  gd (wantB v93 true) (pureW Try.prog noHp noHp (xPick v101 (.bool true) v114) h114) h114 fun v115 h115 =>
  pureW Try.prog noHp noHp (xPick v93 v115 (.bool false)) h115 fun v116 h116 =>
  cond v116
  (K .ret (upd (upd (upd (upd (upd (upd (upd (upd (upd (upd (upd (upd (upd (upd (upd (upd (upd (upd (upd (upd (upd (upd (upd (upd (upd (upd (upd (upd (upd r 114 (r 6)) 115 (r 12)) 116 v92) 117 v93) 118 v93) 119 v94) 120 v95) 121 v96) 122 v97) 123 v98) 124 v99) 125 v100) 126 v101) 127 v102) 128 v103) 129 v104) 130 v105) 131 v106) 132 v107) 133 v108) 134 v109) 135 v110) 136 v111) 137 v112) 138 v113) 139 v114) 140 v115) 141 v116) 4 (.bool false)) h116)
  (S6_l7_l12_k14 G K (upd (upd (upd (upd (upd (upd (upd (upd (upd (upd (upd (upd (upd (upd (upd (upd (upd (upd (upd (upd (upd (upd (upd (upd (upd (upd (upd (upd r 114 (r 6)) 115 (r 12)) 116 v92) 117 v93) 118 v93) 119 v94) 120 v95) 121 v96) 122 v97) 123 v98) 124 v99) 125 v100) 126 v101) 127 v102) 128 v103) 129 v104) 130 v105) 131 v106) 132 v107) 133 v108) 134 v109) 135 v110) 136 v111) 137 v112) 138 v113) 139 v114) 140 v115) 141 v116) h116)
def S6_l7_l12 (G : Hp) (r : Rg) (h : Hp) (K : Exit → Rg → Hp → Prop) : Prop :=
  opH Try.prog G (sv (binOp .leq 3 (r 12) (r 7))) h fun v90 h90 =>
  cond v90
  (S6_l7_l12_k13 G K (upd (upd (upd r 109 (r 12)) 110 (r 7)) 111 v90) h90)
  (K (.exit 2) (upd (upd (upd r 109 (r 12)) 110 (r 7)) 111 v90) h90)
def S6_l7_k11 (G : Hp) (K : Exit → Rg → Hp → Prop) (r : Rg) (h : Hp) : Prop :=
  opH Try.prog G (sv (Instr.fieldAt 27 (r 10) 1)) h fun v86 h86 =>
  opH Try.prog G (sv (Instr.loadAt 3 v86)) h86 fun v87 h87 =>
  opH Try.prog G (sv (Instr.indexAt 31 (r 6) v87)) h87 fun v88 h88 =>
  opH Try.prog G (su (Instr.storeAt 4 v88 (.bool false))) h88 fun v89 h89 =>
  loopP (S6_l7_l12 G) (upd (upd (upd (upd (upd r 105 (r 6)) 106 v86) 107 v87) 108 v88) 12 (.int .i64 0)) h89 (blockK 2 (blockK 1 (thenK (S6_l7_k9 G K) K)))
def S6_l7_k10 (G : Hp) (K : Exit → Rg → Hp → Prop) (r : Rg) (h : Hp) : Prop :=
  opH Try.prog G (callFunc 25 #[(r 5)]) h fun v43 h43 =>
  opH Try.prog G (sv (Instr.extract v43 0)) h43 fun v44 h44 =>
  opH Try.prog G (sv (Instr.extract v43 1)) h44 fun v45 h45 =>
  opH Try.prog G (sv (Instr.alloc 27 true (.tuple #[]))) h45 fun v46 h46 =>
  opH Try.prog G (su (Instr.storeAt 27 v46 v44)) h46 fun v47 h47 =>
  opH Try.prog G (callFunc 15 #[(r 5)]) h47 fun v48 h48 =>
  opH Try.prog G (sv (Instr.extract v48 0)) h48 fun v49 h49 =>
  opH Try.prog G (sv (Instr.extract v48 1)) h49 fun v50 h50 =>
  opH Try.prog G (sv (Instr.alloc 27 true (.tuple #[]))) h50 fun v51 h51 =>
  opH Try.prog G (su (Instr.storeAt 27 v51 v49)) h51 fun v52 h52 =>
  pureW Try.prog noHp noHp (sv (Op.unary .not v45)) h52 fun v53 h53 =>
  gd (wantB v53 false) (fun K1 => K1 v50 h53) h53 fun v54 h54 =>
  gd (wantB v53 false) (pureW Try.prog noHp noHp (sv (Op.unary .not v54)) h54) h54 fun v55 h55 =>
  pureW Try.prog noHp noHp (xPick v53 (.bool true) v55) h55 fun v56 h56 =>
  gd (wantB v56 false) (pureW Try.prog G h52 (sv (Instr.loadAt 27 v46)) h56) h56 fun v57 h57 =>
  gd (wantB v56 false) (pureW Try.prog G h52 (sv (Instr.loadAt 27 v51)) h57) h57 fun v58 h58 =>
  gd (wantB v56 false) (pureW Try.prog G h52 (xEq .neq 27 (.tmp 0) (.tmp 0) v57 v58) h58) h58 fun v59 h59 =>
  pureW Try.prog noHp noHp (xPick v56 (.bool true) v59) h59 fun v60 h60 =>
  gd (wantB v60 false) (pureW Try.prog noHp noHp (sv (Instr.fieldAt 27 v51 1)) h60) h60 fun v61 h61 =>
  gd (wantB v60 false) (pureW Try.prog G h52 (sv (Instr.loadAt 3 v61)) h61) h61 fun v62 h62 =>
  gd (wantB v60 false) (pureW Try.prog noHp noHp (sv (binOp .lss 3 v62 (.int .i64 0))) h62) h62 fun v63 h63 =>
  pureW Try.prog noHp noHp (xPick v60 (.bool true) v63) h63 fun v64 h64 =>
  gd (wantB v64 false) (pureW Try.prog noHp noHp (sv (Instr.fieldAt 27 v51 1)) h64) h64 fun v65 h65 =>
  gd (wantB v64 false) (pureW Try.prog G h52 (sv (Instr.loadAt 3 v65)) h65) h65 fun v66 h66 =>
  gd (wantB v64 false) (fun K1 => K1 (r 7) h66) h66 fun v67 h67 =>
  gd (wantB v64 false) (pureW Try.prog noHp noHp (sv (binOp .gtr 3 v66 v67)) h67) h67 fun v68 h68 =>
  pureW Try.prog noHp noHp (xPick v64 (.bool true) v68) h68 fun v69 h69 =>
  gd (wantB v69 false) (fun K1 => K1 (r 6) h69) h69 fun v70 h70 =>
  gd (wantB v69 false) (pureW Try.prog noHp noHp (sv (Instr.fieldAt 27 v51 1)) h70) h70 fun v71 h71 =>
  gd (wantB v69 false) (pureW Try.prog G h52 (sv (Instr.loadAt 3 v71)) h71) h71 fun v72 h72 =>
  gd (wantB v69 false) (pureW Try.prog noHp noHp (sv (Instr.indexAt 31 v70 v72)) h72) h72 fun v73 h73 =>
  gd (wantB v69 false) (pureW Try.prog G h52 (sv (Instr.loadAt 4 v73)) h73) h73 fun v74 h74 =>
  gd (wantB v69 false) (pureW Try.prog noHp noHp (sv (Op.unary .not v74)) h74) h74 fun v75 h75 =>
  pureW Try.prog noHp noHp (xPick v69 (.bool true) v75) h75 fun v76 h76 =>
  gd (wantB v76 false) (pureW Try.prog noHp noHp (sv (Instr.fieldAt 27 v51 0)) h76) h76 fun v77 h77 =>
  gd (wantB v76 false) (pureW Try.prog G h52 (sv (Instr.loadAt 3 v77)) h77) h77 fun v78 h78 =>
  gd (wantB v76 false) (fun K1 => K1 (r 0) h78) h78 fun v79 h79 =>
  gd (wantB v76 false) (pureW Try.prog noHp noHp (sv (Instr.fieldAt 27 v51 1)) h79) h79 fun v80 h80 =>
  gd (wantB v76 false) (pureW Try.prog G h52 (sv (Instr.loadAt 3 v80)) h80) h80 fun v81 h81 =>
  gd (wantB v76 false) (pureW Try.prog noHp noHp (sv (Instr.indexAt 22 v79 v81)) h81) h81 fun v82 h82 =>
  gd (wantB v76 false) (pureW Try.prog G h52 (sv (Instr.loadAt 3 v82)) h82) h82 fun v83 h83 =>
  gd (wantB v76 false) (pureW Try.prog G h52 (xEq .neq 3 (.tmp 0) (.tmp 0) v78 v83) h83) h83 fun v84 h84 =>
  pureW Try.prog noHp noHp (xPick v76 (.bool true) v84) h84 fun v85 h85 =>
  cond v85
  (K .ret (upd (upd (upd (upd (upd (upd (upd (upd (upd (upd (upd (upd (upd (upd (upd (upd (upd (upd (upd (upd (upd (upd (upd (upd (upd (upd (upd (upd (upd (upd (upd (upd (upd (upd (upd (upd (upd (upd (upd (upd (upd (upd (upd (upd (upd (upd (upd (upd (upd (upd (upd (upd (upd (upd (upd r 56 (r 5)) 57 v43) 55 v43) 58 v44) 59 v45) 8 v46) 9 v45) 61 (r 5)) 62 v48) 60 v48) 63 v49) 64 v50) 10 v51) 11 v50) 65 v45) 66 v53) 67 v53) 68 v54) 69 v55) 70 v56) 71 v56) 72 v57) 73 v58) 74 v59) 75 v60) 76 v60) 77 v61) 78 v62) 79 v63) 80 v64) 81 v64) 82 v65) 83 v66) 84 v67) 85 v68) 86 v69) 87 v69) 88 v70) 89 v71) 90 v72) 91 v73) 92 v74) 93 v75) 94 v76) 95 v76) 96 v77) 97 v78) 98 v79) 99 v80) 100 v81) 101 v82) 102 v83) 103 v84) 104 v85) 4 (.bool false)) h85)
  (S6_l7_k11 G K (upd (upd (upd (upd (upd (upd (upd (upd (upd (upd (upd (upd (upd (upd (upd (upd (upd (upd (upd (upd (upd (upd (upd (upd (upd (upd (upd (upd (upd (upd (upd (upd (upd (upd (upd (upd (upd (upd (upd (upd (upd (upd (upd (upd (upd (upd (upd (upd (upd (upd (upd (upd (upd (upd r 56 (r 5)) 57 v43) 55 v43) 58 v44) 59 v45) 8 v46) 9 v45) 61 (r 5)) 62 v48) 60 v48) 63 v49) 64 v50) 10 v51) 11 v50) 65 v45) 66 v53) 67 v53) 68 v54) 69 v55) 70 v56) 71 v56) 72 v57) 73 v58) 74 v59) 75 v60) 76 v60) 77 v61) 78 v62) 79 v63) 80 v64) 81 v64) 82 v65) 83 v66) 84 v67) 85 v68) 86 v69) 87 v69) 88 v70) 89 v71) 90 v72) 91 v73) 92 v74) 93 v75) 94 v76) 95 v76) 96 v77) 97 v78) 98 v79) 99 v80) 100 v81) 101 v82) 102 v83) 103 v84) 104 v85) h85)
def S6_l7_k8 (G : Hp) (K : Exit → Rg → Hp → Prop) (r : Rg) (h : Hp) : Prop :=
  opH Try.prog G (sv (Instr.indexAt 22 (r 0) (r 7))) h fun v29 h29 =>
  opH Try.prog G (sv (Instr.loadAt 3 v29)) h29 fun v30 h30 =>
  opH Try.prog G (callFunc 14 #[v30, (r 7)]) h30 fun v31 h31 =>
  opH Try.prog G (callFunc 13 #[(r 5), v31]) h31 fun v32 h32 =>
  opH Try.prog G (sv (Instr.indexAt 31 (r 6) (r 7))) h32 fun v33 h33 =>
  opH Try.prog G (su (Instr.storeAt 4 v33 (.bool true))) h33 fun v34 h34 =>
  opH Try.prog G (sv (Builtin.len_ #[31] 3 #[(r 1)])) h34 fun v35 h35 =>
  opH Try.prog G (sv (binOp .geq 3 (r 7) v35)) h35 fun v36 h36 =>
  gd (wantB v36 false) (fun K1 => K1 (r 1) h36) h36 fun v37 h37 =>
  gd (wantB v36 false) (fun K1 => K1 (r 7) h37) h37 fun v38 h38 =>
  gd (wantB v36 false) (opH Try.prog G (sv (Instr.indexAt 31 v37 v38)) h38) h38 fun v39 h39 =>
  gd (wantB v36 false) (opH Try.prog G (sv (Instr.loadAt 4 v39)) h39) h39 fun v40 h40 =>
  gd (wantB v36 false) (opH Try.prog G (sv (Op.unary .not v40)) h40) h40 fun v41 h41 =>
  opH Try.prog G (xPick v36 (.bool true) v41) h41 fun v42 h42 =>
  cond v42
  (S6_l7_k9 G K (upd (upd (upd (upd (upd (upd (upd (upd (upd (upd (upd (upd (upd (upd (upd (upd (upd (upd (upd (upd (upd (upd r 33 (r 5)) 34 (r 0)) 35 (r 7)) 36 v29) 37 v30) 38 (r 7)) 39 v31) 40 v32) 41 (r 6)) 42 (r 7)) 43 v33) 44 (r 7)) 45 (r 1)) 46 v35) 47 v36) 48 v36) 49 v37) 50 v38) 51 v39) 52 v40) 53 v41) 54 v42) h42)
  (S6_l7_k10 G K (upd (upd (upd (upd (upd (upd (upd (upd (upd (upd (upd (upd (upd (upd (upd (upd (upd (upd (upd (upd (upd (upd r 33 (r 5)) 34 (r 0)) 35 (r 7)) 36 v29) 37 v30) 38 (r 7)) 39 v31) 40 v32) 41 (r 6)) 42 (r 7)) 43 v33) 44 (r 7)) 45 (r 1)) 46 v35) 47 v36) 48 v36) 49 v37) 50 v38) 51 v39) 52 v40) 53 v41) 54 v42) h42)
def S6_l7 (G : Hp) (r : Rg) (h : Hp) (K : Exit → Rg → Hp → Prop) : Prop :=
  opH Try.prog G (sv (Builtin.len_ #[22] 3 #[(r 0)])) h fun v26 h26 =>
  opH Try.prog G (sv (binOp .lss 3 (r 7) v26)) h26 fun v27 h27 =>
  cond v27
  (S6_l7_k8 G K (upd (upd (upd (upd r 27 (r 7)) 28 (r 0)) 29 v26) 30 v27) h27)
  (K (.exit 0) (upd (upd (upd (upd r 27 (r 7)) 28 (r 0)) 29 v26) 30 v27) h27)
def S6_k1 (G : Hp) (K : Exit → Rg → Hp → Prop) (r : Rg) (h : Hp) : Prop :=
  opH Try.prog G (callFunc 11 #[(.func (.func 12) #[] #[])]) h fun v6 h6 =>
  opH Try.prog G (sv (Builtin.len_ #[22] 3 #[(r 0)])) h6 fun v7 h7 =>
  opH Try.prog G (sv (Instr.makeSlice 31 v7 v7)) h7 fun v8 h8 =>
  loopP (S6_l7 G) (upd (upd (upd (upd (upd (upd (upd r 23 v6) 5 v6) 24 (r 0)) 25 v7) 26 v8) 6 v8) 7 (.int .i64 0)) h8 (blockK 0 (thenK (S6_k2 G K) K))
def S6 (G : Hp) (K : Exit → Rg → Hp → Prop) (r : Rg) (h : Hp) : Prop :=
  opH Try.prog G (callFunc 10 #[]) h fun v0 h0 =>
  opH Try.prog G (sv (Op.unary .not v0)) h0 fun v1 h1 =>
  gd (wantB v1 false) (fun K1 => K1 (r 0) h1) h1 fun v2 h2 =>
  gd (wantB v1 false) (opH Try.prog G (sv (Builtin.len_ #[22] 3 #[v2])) h2) h2 fun v3 h3 =>
  gd (wantB v1 false) (opH Try.prog G (sv (binOp .gtr 3 v3 (.int .i64 200))) h3) h3 fun v4 h4 =>
  opH Try.prog G (xPick v1 (.bool true) v4) h4 fun v5 h5 =>
  cond v5
  (opH Try.prog G (callFunc 10 #[]) h5 fun v117 h117 =>
  K .ret (upd (upd (upd (upd (upd (upd (upd (upd (upd (upd r 4 (.bool false)) 15 v0) 16 v1) 17 v1) 18 v2) 19 v3) 20 v4) 21 v5) 22 v117) 4 v117) h117)
  (S6_k1 G K (upd (upd (upd (upd (upd (upd (upd (upd r 4 (.bool false)) 15 v0) 16 v1) 17 v1) 18 v2) 19 v3) 20 v4) 21 v5) h5)
theorem S6_eq (G : Hp) (K : Exit → Rg → Hp → Prop) (r : Rg) (h : Hp) : wpC Try.prog G 168 md6 (Try.f6.body.getD .skip) r h K = S6 G K r h := by kernel_rfl
theorem enter6 {G : Hp} {h : Hp} {args : Array Value} {R : Value → Hp → Prop} (hn : args.size ≤ 168) (H : S6 G (retK Try.prog G [.tmp 4] R) (regs args) h) : HCalls Try.prog G 6 args h R :=
  HCalls.enter (md := md6) mixed Try.func6 rfl hn (by rw [← S6_eq] at H; exact H)

/-! 7: skep/skeplaw10.HeapPlays: params #[50], results #[4] -/
def md7 : Nat → Hint
  | 29 => ⟨false, [0, 0, 3, 0, 0, 31, 63], [.pureN, .pureN, .eff, .pureN, .pureM, .eff, .pureM], [.pureN, .pureN, .eff, .pureN, .pureM, .eff, .late], [false, false, true, false, false, false, false], true⟩
  | 31 => ⟨false, [0, 1, 0, 4, 12, 28, 60, 127], [.pureN, .eff, .pureN, .pureN, .pureN, .pureM, .pureM, .pureM], [.pureN, .eff, .pureN, .pureN, .pureN, .pureM, .pureM, .pureM], [false, true, false, false, false, false, false, false], true⟩
  | _ => ⟨false, [], [], [], [], false⟩
def S7_k2 (G : Hp) (K : Exit → Rg → Hp → Prop) (r : Rg) (h : Hp) : Prop :=
  opH Try.prog G (callFunc 22 #[(r 3), (.int .i64 1000)]) h fun v5 h5 =>
  opH Try.prog G (callFunc 29 #[(r 4)]) h5 fun v6 h6 =>
  opH Try.prog G (callFunc 24 #[v5, v6]) h6 fun v7 h7 =>
  K .ret (upd (upd (upd (upd (upd (upd r 118 (r 3)) 119 v5) 120 (r 4)) 121 v6) 122 v7) 2 v7) h7
def S7_l3_k5 (G : Hp) (K : Exit → Rg → Hp → Prop) (r : Rg) (h : Hp) : Prop :=
  opH Try.prog G (sv (binOp .add 3 (r 5) (.int .i64 1))) h fun v13 h13 =>
  K .normal (upd (upd (upd r 29 (r 5)) 30 v13) 5 v13) h13
def S7_l3_k6 (G : Hp) (K : Exit → Rg → Hp → Prop) (r : Rg) (h : Hp) : Prop :=
  ∃ q21 : Hp, q21.le h ∧
  opH Try.prog G (callFunc 16 #[(r 3)]) h fun v22 h22 => q21.le h22 ∧
  pureW Try.prog noHp noHp (xNil (r 4)) h22 fun v23 h23 =>
  pureW Try.prog noHp noHp (sv (Instr.fieldAt 53 v23 0)) h23 fun v24 h24 =>
  pureW Try.prog G q21 (sv (Instr.loadAt 44 v24)) h24 fun v25 h25 =>
  pureW Try.prog G q21 (sv (Builtin.len_ #[44] 3 #[v25])) h25 fun v26 h26 =>
  pureW Try.prog G q21 (xEq .neq 3 (.tmp 0) (.tmp 0) v22 v26) h26 fun v27 h27 =>
  cond v27
  (K .ret (upd (upd (upd (upd (upd (upd (upd (upd (upd r 110 (r 3)) 111 v22) 112 (r 4)) 113 v23) 114 v24) 115 v25) 116 v26) 117 v27) 2 (.bool false)) h27)
  (S7_l3_k5 G K (upd (upd (upd (upd (upd (upd (upd (upd r 110 (r 3)) 111 v22) 112 (r 4)) 113 v23) 114 v24) 115 v25) 116 v26) 117 v27) h27)
def S7_l3_k7 (G : Hp) (K : Exit → Rg → Hp → Prop) (r : Rg) (h : Hp) : Prop :=
  cond (r 38)
  (opH Try.prog G (sv (Instr.fieldAt 55 (r 6) 1)) h fun v29 h29 =>
  opH Try.prog G (sv (Instr.loadAt 27 v29)) h29 fun v30 h30 =>
  opH Try.prog G (callFunc 13 #[(r 3), v30]) h30 fun v31 h31 =>
  opH Try.prog G (sv (Instr.fieldAt 55 (r 6) 1)) h31 fun v32 h32 =>
  opH Try.prog G (sv (Instr.loadAt 27 v32)) h32 fun v33 h33 =>
  opH Try.prog G (callFunc 26 #[(r 4), v33]) h33 fun v34 h34 =>
  S7_l3_k6 G K (upd (upd (upd (upd (upd (upd (upd (upd r 41 (r 3)) 42 v29) 43 v30) 44 v31) 45 (r 4)) 46 v32) 47 v33) 48 v34) h34)
  (opH Try.prog G (xEq .eql 3 (.tmp 0) (.const .nilFunc) (r 37) (.int .i64 2)) h fun v35 h35 =>
  cond v35
  (opH Try.prog G (callFunc 15 #[(r 3)]) h35 fun v36 h36 =>
  opH Try.prog G (sv (Instr.extract v36 0)) h36 fun v37 h37 =>
  opH Try.prog G (sv (Instr.extract v36 1)) h37 fun v38 h38 =>
  opH Try.prog G (sv (Instr.alloc 27 true (.tuple #[]))) h38 fun v39 h39 =>
  opH Try.prog G (su (Instr.storeAt 27 v39 v37)) h39 fun v40 h40 =>
  opH Try.prog G (callFunc 27 #[(r 4)]) h40 fun v41 h41 =>
  opH Try.prog G (sv (Instr.extract v41 0)) h41 fun v42 h42 =>
  opH Try.prog G (sv (Instr.extract v41 1)) h42 fun v43 h43 =>
  opH Try.prog G (sv (Instr.alloc 27 true (.tuple #[]))) h43 fun v44 h44 =>
  opH Try.prog G (su (Instr.storeAt 27 v44 v42)) h44 fun v45 h45 =>
  opH Try.prog G (sv (Instr.loadAt 27 v39)) h45 fun v46 h46 =>
  opH Try.prog G (sv (Instr.loadAt 27 v44)) h46 fun v47 h47 =>
  opH Try.prog G (xEq .neq 27 (.tmp 0) (.tmp 0) v46 v47) h47 fun v48 h48 =>
  gd (wantB v48 false) (fun K1 => K1 v38 h48) h48 fun v49 h49 =>
  gd (wantB v48 false) (fun K1 => K1 v43 h49) h49 fun v50 h50 =>
  gd (wantB v48 false) (opH Try.prog G (xEq .neq 4 (.tmp 0) (.tmp 0) v49 v50) h50) h50 fun v51 h51 =>
  opH Try.prog G (xPick v48 (.bool true) v51) h51 fun v52 h52 =>
  cond v52
  (K .ret (upd (upd (upd (upd (upd (upd (upd (upd (upd (upd (upd (upd (upd (upd (upd (upd (upd (upd (upd (upd (upd (upd (upd (upd (upd r 50 v35) 49 v35) 52 (r 3)) 53 v36) 51 v36) 54 v37) 55 v38) 7 v39) 8 v38) 57 (r 4)) 58 v41) 56 v41) 59 v42) 60 v43) 9 v44) 10 v43) 61 v46) 62 v47) 63 v48) 64 v48) 65 v49) 66 v50) 67 v51) 68 v52) 2 (.bool false)) h52)
  (S7_l3_k6 G K (upd (upd (upd (upd (upd (upd (upd (upd (upd (upd (upd (upd (upd (upd (upd (upd (upd (upd (upd (upd (upd (upd (upd (upd r 50 v35) 49 v35) 52 (r 3)) 53 v36) 51 v36) 54 v37) 55 v38) 7 v39) 8 v38) 57 (r 4)) 58 v41) 56 v41) 59 v42) 60 v43) 9 v44) 10 v43) 61 v46) 62 v47) 63 v48) 64 v48) 65 v49) 66 v50) 67 v51) 68 v52) h52))
  (opH Try.prog G (xEq .eql 3 (.tmp 0) (.const .nilFunc) (r 37) (.int .i64 3)) h35 fun v53 h53 =>
  cond v53
  (opH Try.prog G (callFunc 25 #[(r 3)]) h53 fun v54 h54 =>
  opH Try.prog G (sv (Instr.extract v54 0)) h54 fun v55 h55 =>
  opH Try.prog G (sv (Instr.extract v54 1)) h55 fun v56 h56 =>
  opH Try.prog G (sv (Instr.alloc 27 true (.tuple #[]))) h56 fun v57 h57 =>
  opH Try.prog G (su (Instr.storeAt 27 v57 v55)) h57 fun v58 h58 =>
  opH Try.prog G (callFunc 28 #[(r 4)]) h58 fun v59 h59 =>
  opH Try.prog G (sv (Instr.extract v59 0)) h59 fun v60 h60 =>
  opH Try.prog G (sv (Instr.extract v59 1)) h60 fun v61 h61 =>
  opH Try.prog G (sv (Instr.alloc 27 true (.tuple #[]))) h61 fun v62 h62 =>
  opH Try.prog G (su (Instr.storeAt 27 v62 v60)) h62 fun v63 h63 =>
  opH Try.prog G (sv (Instr.loadAt 27 v57)) h63 fun v64 h64 =>
  opH Try.prog G (sv (Instr.loadAt 27 v62)) h64 fun v65 h65 =>
  opH Try.prog G (xEq .neq 27 (.tmp 0) (.tmp 0) v64 v65) h65 fun v66 h66 =>
  gd (wantB v66 false) (fun K1 => K1 v56 h66) h66 fun v67 h67 =>
  gd (wantB v66 false) (fun K1 => K1 v61 h67) h67 fun v68 h68 =>
  gd (wantB v66 false) (opH Try.prog G (xEq .neq 4 (.tmp 0) (.tmp 0) v67 v68) h68) h68 fun v69 h69 =>
  opH Try.prog G (xPick v66 (.bool true) v69) h69 fun v70 h70 =>
  cond v70
  (K .ret (upd (upd (upd (upd (upd (upd (upd (upd (upd (upd (upd (upd (upd (upd (upd (upd (upd (upd (upd (upd (upd (upd (upd (upd (upd (upd (upd r 50 v35) 49 v35) 70 v53) 69 v53) 72 (r 3)) 73 v54) 71 v54) 74 v55) 75 v56) 11 v57) 12 v56) 77 (r 4)) 78 v59) 76 v59) 79 v60) 80 v61) 13 v62) 14 v61) 81 v64) 82 v65) 83 v66) 84 v66) 85 v67) 86 v68) 87 v69) 88 v70) 2 (.bool false)) h70)
  (S7_l3_k6 G K (upd (upd (upd (upd (upd (upd (upd (upd (upd (upd (upd (upd (upd (upd (upd (upd (upd (upd (upd (upd (upd (upd (upd (upd (upd (upd r 50 v35) 49 v35) 70 v53) 69 v53) 72 (r 3)) 73 v54) 71 v54) 74 v55) 75 v56) 11 v57) 12 v56) 77 (r 4)) 78 v59) 76 v59) 79 v60) 80 v61) 13 v62) 14 v61) 81 v64) 82 v65) 83 v66) 84 v66) 85 v67) 86 v68) 87 v69) 88 v70) h70))
  (opH Try.prog G (xEq .eql 3 (.tmp 0) (.const .nilFunc) (r 37) (.int .i64 4)) h53 fun v71 h71 =>
  cond v71
  (opH Try.prog G (callFunc 22 #[(r 3), (.int .i64 1000)]) h71 fun v72 h72 =>
  opH Try.prog G (callFunc 29 #[(r 4)]) h72 fun v73 h73 =>
  opH Try.prog G (callFunc 24 #[v72, v73]) h73 fun v74 h74 =>
  opH Try.prog G (sv (Op.unary .not v74)) h74 fun v75 h75 =>
  cond v75
  (K .ret (upd (upd (upd (upd (upd (upd (upd (upd (upd (upd (upd (upd (upd r 50 v35) 49 v35) 70 v53) 69 v53) 90 v71) 89 v71) 91 (r 3)) 92 v72) 93 (r 4)) 94 v73) 95 v74) 96 v75) 2 (.bool false)) h75)
  (S7_l3_k6 G K (upd (upd (upd (upd (upd (upd (upd (upd (upd (upd (upd (upd r 50 v35) 49 v35) 70 v53) 69 v53) 90 v71) 89 v71) 91 (r 3)) 92 v72) 93 (r 4)) 94 v73) 95 v74) 96 v75) h75))
  (opH Try.prog G (xEq .eql 3 (.tmp 0) (.const .nilFunc) (r 37) (.int .i64 5)) h71 fun v76 h76 =>
  cond v76
  (opH Try.prog G (sv (Instr.fieldAt 55 (r 6) 1)) h76 fun v77 h77 =>
  opH Try.prog G (sv (Instr.fieldAt 27 v77 0)) h77 fun v78 h78 =>
  opH Try.prog G (sv (Instr.loadAt 3 v78)) h78 fun v79 h79 =>
  opH Try.prog G (callFunc 23 #[v79, (.int .i64 3)]) h79 fun v80 h80 =>
  opH Try.prog G (sv (Instr.alloc 3 true (.tuple #[]))) h80 fun v81 h81 =>
  opH Try.prog G (su (Instr.storeAt 3 v81 v80)) h81 fun v82 h82 =>
  ∃ q83 : Hp, q83.le h82 ∧
  opH Try.prog G (callFunc 30 #[(r 3), (.func (.func 31) #[] #[v81])]) h82 fun v84 h84 => q83.le h84 ∧
  pureW Try.prog G q83 (sv (Instr.loadAt 3 v81)) h84 fun v85 h85 =>
  opH Try.prog G (callFunc 32 #[(r 4), (.int .i64 3), v85]) h85 fun v86 h86 =>
  pureW Try.prog G h86 (xEq .neq 3 (.tmp 0) (.tmp 0) v84 v86) h86 fun v87 h87 =>
  cond v87
  (K .ret (upd (upd (upd (upd (upd (upd (upd (upd (upd (upd (upd (upd (upd (upd (upd (upd (upd (upd (upd (upd (upd r 50 v35) 49 v35) 70 v53) 69 v53) 90 v71) 89 v71) 98 v76) 97 v76) 99 v77) 100 v78) 101 v79) 102 v80) 15 v81) 103 (r 3)) 104 (.func (.func 31) #[] #[v81])) 105 v84) 106 (r 4)) 107 v85) 108 v86) 109 v87) 2 (.bool false)) h87)
  (S7_l3_k6 G K (upd (upd (upd (upd (upd (upd (upd (upd (upd (upd (upd (upd (upd (upd (upd (upd (upd (upd (upd (upd r 50 v35) 49 v35) 70 v53) 69 v53) 90 v71) 89 v71) 98 v76) 97 v76) 99 v77) 100 v78) 101 v79) 102 v80) 15 v81) 103 (r 3)) 104 (.func (.func 31) #[] #[v81])) 105 v84) 106 (r 4)) 107 v85) 108 v86) 109 v87) h87))
  (S7_l3_k6 G K (upd (upd (upd (upd (upd (upd (upd (upd r 50 v35) 49 v35) 70 v53) 69 v53) 90 v71) 89 v71) 98 v76) 97 v76) h76)))))
def S7_l3_k4 (G : Hp) (K : Exit → Rg → Hp → Prop) (r : Rg) (h : Hp) : Prop :=
  opH Try.prog G (sv (Instr.indexAt 50 (r 0) (r 5))) h fun v14 h14 =>
  opH Try.prog G (sv (Instr.loadAt 55 v14)) h14 fun v15 h15 =>
  opH Try.prog G (sv (Instr.alloc 55 true (.tuple #[]))) h15 fun v16 h16 =>
  opH Try.prog G (su (Instr.storeAt 55 v16 v15)) h16 fun v17 h17 =>
  opH Try.prog G (sv (Instr.fieldAt 55 v16 0)) h17 fun v18 h18 =>
  opH Try.prog G (sv (Instr.loadAt 3 v18)) h18 fun v19 h19 =>
  opH Try.prog G (callFunc 23 #[v19, (.int .i64 6)]) h19 fun v20 h20 =>
  opH Try.prog G (xEq .eql 3 (.tmp 0) (.const .nilFunc) v20 (.int .i64 0)) h20 fun v28 h28 =>
  cond v28
  (S7_l3_k7 G K (upd (upd (upd (upd (upd (upd (upd (upd (upd (upd r 31 (r 0)) 32 (r 5)) 33 v14) 34 v15) 6 v16) 35 v18) 36 v19) 37 v20) 39 v28) 38 v28) h28)
  (opH Try.prog G (xEq .eql 3 (.tmp 0) (.const .nilFunc) v20 (.int .i64 1)) h28 fun v88 h88 =>
  S7_l3_k7 G K (upd (upd (upd (upd (upd (upd (upd (upd (upd (upd (upd (upd r 31 (r 0)) 32 (r 5)) 33 v14) 34 v15) 6 v16) 35 v18) 36 v19) 37 v20) 39 v28) 38 v28) 40 v88) 38 v88) h88)
def S7_l3 (G : Hp) (r : Rg) (h : Hp) (K : Exit → Rg → Hp → Prop) : Prop :=
  opH Try.prog G (sv (Builtin.len_ #[50] 3 #[(r 0)])) h fun v8 h8 =>
  opH Try.prog G (sv (binOp .lss 3 (r 5) v8)) h8 fun v9 h9 =>
  gd (wantB v9 true) (fun K1 => K1 (r 5) h9) h9 fun v10 h10 =>
  gd (wantB v9 true) (opH Try.prog G (sv (binOp .lss 3 v10 (.int .i64 150))) h10) h10 fun v11 h11 =>
  opH Try.prog G (xPick v9 v11 (.bool false)) h11 fun v12 h12 =>
  cond v12
  (S7_l3_k4 G K (upd (upd (upd (upd (upd (upd (upd (upd r 21 (r 5)) 22 (r 0)) 23 v8) 24 v9) 25 v9) 26 v10) 27 v11) 28 v12) h12)
  (K (.exit 0) (upd (upd (upd (upd (upd (upd (upd (upd r 21 (r 5)) 22 (r 0)) 23 v8) 24 v9) 25 v9) 26 v10) 27 v11) 28 v12) h12)
def S7_k1 (G : Hp) (K : Exit → Rg → Hp → Prop) (r : Rg) (h : Hp) : Prop :=
  opH Try.prog G (callFunc 11 #[(.func (.func 12) #[] #[])]) h fun v2 h2 =>
  opH Try.prog G (sv (Instr.build 53 #[])) h2 fun v3 h3 =>
  opH Try.prog G (sv (Instr.box 53 v3)) h3 fun v4 h4 =>
  loopP (S7_l3 G) (upd (upd (upd (upd (upd (upd r 18 v2) 3 v2) 19 v3) 20 v4) 4 v4) 5 (.int .i64 0)) h4 (blockK 0 (thenK (S7_k2 G K) K))
def S7 (G : Hp) (K : Exit → Rg → Hp → Prop) (r : Rg) (h : Hp) : Prop :=
  opH Try.prog G (callFunc 10 #[]) h fun v0 h0 =>
  opH Try.prog G (sv (Op.unary .not v0)) h0 fun v1 h1 =>
  cond v1
  (K .ret (upd (upd (upd (upd r 2 (.bool false)) 16 v0) 17 v1) 2 (.bool false)) h1)
  (S7_k1 G K (upd (upd (upd r 2 (.bool false)) 16 v0) 17 v1) h1)
theorem S7_eq (G : Hp) (K : Exit → Rg → Hp → Prop) (r : Rg) (h : Hp) : wpC Try.prog G 123 md7 (Try.f7.body.getD .skip) r h K = S7 G K r h := by kernel_rfl
theorem enter7 {G : Hp} {h : Hp} {args : Array Value} {R : Value → Hp → Prop} (hn : args.size ≤ 123) (H : S7 G (retK Try.prog G [.tmp 2] R) (regs args) h) : HCalls Try.prog G 7 args h R :=
  HCalls.enter (md := md7) mixed Try.func7 rfl hn (by rw [← S7_eq] at H; exact H)

/-! 8: skep/skeplaw10.HeapDrops: params #[22, 3], results #[4] -/
def md8 : Nat → Hint
  | _ => ⟨false, [], [], [], [], false⟩
def S8_k3 (G : Hp) (K : Exit → Rg → Hp → Prop) (r : Rg) (h : Hp) : Prop :=
  opH Try.prog G (callFunc 22 #[(r 6), (.int .i64 1000)]) h fun v19 h19 =>
  opH Try.prog G (callFunc 22 #[(r 7), (.int .i64 1000)]) h19 fun v20 h20 =>
  opH Try.prog G (callFunc 24 #[v19, v20]) h20 fun v21 h21 =>
  gd (wantB v21 true) (fun K1 => K1 (r 6) h21) h21 fun v22 h22 =>
  gd (wantB v21 true) (opH Try.prog G (callFunc 16 #[v22]) h22) h22 fun v23 h23 =>
  gd (wantB v21 true) (fun K1 => K1 (r 0) h23) h23 fun v24 h24 =>
  gd (wantB v21 true) (opH Try.prog G (sv (Builtin.len_ #[22] 3 #[v24])) h24) h24 fun v25 h25 =>
  gd (wantB v21 true) (fun K1 => K1 (r 8) h25) h25 fun v26 h26 =>
  gd (wantB v21 true) (opH Try.prog G (sv (binOp .sub 3 v25 v26)) h26) h26 fun v27 h27 =>
  gd (wantB v21 true) (opH Try.prog G (xEq .eql 3 (.tmp 0) (.tmp 0) v23 v27) h27) h27 fun v28 h28 =>
  opH Try.prog G (xPick v21 v28 (.bool false)) h28 fun v29 h29 =>
  K .ret (upd (upd (upd (upd (upd (upd (upd (upd (upd (upd (upd (upd (upd (upd (upd r 62 (r 6)) 63 v19) 64 (r 7)) 65 v20) 66 v21) 67 v21) 68 v22) 69 v23) 70 v24) 71 v25) 72 v26) 73 v27) 74 v28) 75 v29) 4 v29) h29
def S8_k2 (G : Hp) (K : Exit → Rg → Hp → Prop) (r : Rg) (h : Hp) : Prop :=
  opH Try.prog G (callFunc 30 #[(r 6), (.func (.func 33) #[] #[(r 5)])]) h fun v12 h12 =>
  opH Try.prog G (xEq .neq 3 (.tmp 0) (.tmp 0) v12 (r 8)) h12 fun v13 h13 =>
  gd (wantB v13 false) (fun K1 => K1 (r 6) h13) h13 fun v14 h14 =>
  gd (wantB v13 false) (fun K1 => K1 (.func (.func 34) #[] #[(r 5)]) h14) h14 fun v15 h15 =>
  gd (wantB v13 false) (opH Try.prog G (callFunc 30 #[v14, v15]) h15) h15 fun v16 h16 =>
  gd (wantB v13 false) (opH Try.prog G (xEq .neq 3 (.tmp 0) (.const .nilFunc) v16 (.int .i64 0)) h16) h16 fun v17 h17 =>
  opH Try.prog G (xPick v13 (.bool true) v17) h17 fun v18 h18 =>
  cond v18
  (K .ret (upd (upd (upd (upd (upd (upd (upd (upd (upd (upd (upd (upd r 51 (r 6)) 52 (.func (.func 33) #[] #[(r 5)])) 53 v12) 54 (r 8)) 55 v13) 56 v13) 57 v14) 58 v15) 59 v16) 60 v17) 61 v18) 4 (.bool false)) h18)
  (S8_k3 G K (upd (upd (upd (upd (upd (upd (upd (upd (upd (upd (upd r 51 (r 6)) 52 (.func (.func 33) #[] #[(r 5)])) 53 v12) 54 (r 8)) 55 v13) 56 v13) 57 v14) 58 v15) 59 v16) 60 v17) 61 v18) h18)
def S8_l4_k6 (G : Hp) (K : Exit → Rg → Hp → Prop) (r : Rg) (h : Hp) : Prop :=
  opH Try.prog G (sv (binOp .add 3 (r 9) (.int .i64 1))) h fun v32 h32 =>
  K .normal (upd (upd (upd r 27 (r 9)) 28 v32) 9 v32) h32
def S8_l4_k5 (G : Hp) (K : Exit → Rg → Hp → Prop) (r : Rg) (h : Hp) : Prop :=
  opH Try.prog G (sv (Instr.indexAt 22 (r 0) (r 9))) h fun v33 h33 =>
  opH Try.prog G (sv (Instr.loadAt 3 v33)) h33 fun v34 h34 =>
  opH Try.prog G (callFunc 14 #[v34, (r 9)]) h34 fun v35 h35 =>
  opH Try.prog G (callFunc 13 #[(r 6), v35]) h35 fun v36 h36 =>
  opH Try.prog G (sv (Instr.loadAt 3 (r 5))) h36 fun v37 h37 =>
  opH Try.prog G (sv (binOp .rem 3 (r 9) v37)) h37 fun v38 h38 =>
  opH Try.prog G (xEq .eql 3 (.tmp 0) (.const .nilFunc) v38 (.int .i64 0)) h38 fun v39 h39 =>
  cond v39
  (opH Try.prog G (sv (binOp .add 3 (r 8) (.int .i64 1))) h39 fun v40 h40 =>
  S8_l4_k6 G K (upd (upd (upd (upd (upd (upd (upd (upd (upd (upd (upd (upd (upd (upd (upd r 29 (r 6)) 30 (r 0)) 31 (r 9)) 32 v33) 33 v34) 34 (r 9)) 35 v35) 36 v36) 37 (r 9)) 38 v37) 39 v38) 40 v39) 41 (r 8)) 42 v40) 8 v40) h40)
  (opH Try.prog G (sv (Instr.indexAt 22 (r 0) (r 9))) h39 fun v41 h41 =>
  opH Try.prog G (sv (Instr.loadAt 3 v41)) h41 fun v42 h42 =>
  opH Try.prog G (callFunc 14 #[v42, (r 9)]) h42 fun v43 h43 =>
  opH Try.prog G (callFunc 13 #[(r 7), v43]) h43 fun v44 h44 =>
  S8_l4_k6 G K (upd (upd (upd (upd (upd (upd (upd (upd (upd (upd (upd (upd (upd (upd (upd (upd (upd (upd (upd (upd r 29 (r 6)) 30 (r 0)) 31 (r 9)) 32 v33) 33 v34) 34 (r 9)) 35 v35) 36 v36) 37 (r 9)) 38 v37) 39 v38) 40 v39) 43 (r 7)) 44 (r 0)) 45 (r 9)) 46 v41) 47 v42) 48 (r 9)) 49 v43) 50 v44) h44)
def S8_l4 (G : Hp) (r : Rg) (h : Hp) (K : Exit → Rg → Hp → Prop) : Prop :=
  opH Try.prog G (sv (Builtin.len_ #[22] 3 #[(r 0)])) h fun v30 h30 =>
  opH Try.prog G (sv (binOp .lss 3 (r 9) v30)) h30 fun v31 h31 =>
  cond v31
  (S8_l4_k5 G K (upd (upd (upd (upd r 23 (r 9)) 24 (r 0)) 25 v30) 26 v31) h31)
  (K (.exit 0) (upd (upd (upd (upd r 23 (r 9)) 24 (r 0)) 25 v30) 26 v31) h31)
def S8_k1 (G : Hp) (K : Exit → Rg → Hp → Prop) (r : Rg) (h : Hp) : Prop :=
  opH Try.prog G (callFunc 23 #[(r 1), (.int .i64 5)]) h fun v6 h6 =>
  opH Try.prog G (sv (binOp .add 3 (.int .i64 1) v6)) h6 fun v7 h7 =>
  opH Try.prog G (sv (Instr.alloc 3 true (.tuple #[]))) h7 fun v8 h8 =>
  opH Try.prog G (su (Instr.storeAt 3 v8 v7)) h8 fun v9 h9 =>
  opH Try.prog G (callFunc 11 #[(.func (.func 12) #[] #[])]) h9 fun v10 h10 =>
  opH Try.prog G (callFunc 11 #[(.func (.func 12) #[] #[])]) h10 fun v11 h11 =>
  loopP (S8_l4 G) (upd (upd (upd (upd (upd (upd (upd (upd (upd (upd r 18 (r 1)) 19 v6) 20 v7) 5 v8) 21 v10) 6 v10) 22 v11) 7 v11) 8 (.int .i64 0)) 9 (.int .i64 0)) h11 (blockK 0 (thenK (S8_k2 G K) K))
def S8 (G : Hp) (K : Exit → Rg → Hp → Prop) (r : Rg) (h : Hp) : Prop :=
  opH Try.prog G (callFunc 10 #[]) h fun v0 h0 =>
  opH Try.prog G (sv (Op.unary .not v0)) h0 fun v1 h1 =>
  gd (wantB v1 false) (fun K1 => K1 (r 0) h1) h1 fun v2 h2 =>
  gd (wantB v1 false) (opH Try.prog G (sv (Builtin.len_ #[22] 3 #[v2])) h2) h2 fun v3 h3 =>
  gd (wantB v1 false) (opH Try.prog G (sv (binOp .gtr 3 v3 (.int .i64 300))) h3) h3 fun v4 h4 =>
  opH Try.prog G (xPick v1 (.bool true) v4) h4 fun v5 h5 =>
  cond v5
  (opH Try.prog G (callFunc 10 #[]) h5 fun v45 h45 =>
  K .ret (upd (upd (upd (upd (upd (upd (upd (upd (upd (upd r 4 (.bool false)) 10 v0) 11 v1) 12 v1) 13 v2) 14 v3) 15 v4) 16 v5) 17 v45) 4 v45) h45)
  (S8_k1 G K (upd (upd (upd (upd (upd (upd (upd (upd r 4 (.bool false)) 10 v0) 11 v1) 12 v1) 13 v2) 14 v3) 15 v4) 16 v5) h5)
theorem S8_eq (G : Hp) (K : Exit → Rg → Hp → Prop) (r : Rg) (h : Hp) : wpC Try.prog G 76 md8 (Try.f8.body.getD .skip) r h K = S8 G K r h := by kernel_rfl
theorem enter8 {G : Hp} {h : Hp} {args : Array Value} {R : Value → Hp → Prop} (hn : args.size ≤ 76) (H : S8 G (retK Try.prog G [.tmp 4] R) (regs args) h) : HCalls Try.prog G 8 args h R :=
  HCalls.enter (md := md8) mixed Try.func8 rfl hn (by rw [← S8_eq] at H; exact H)

/-! 9: skep/skeplaw10.HeapTwo: params #[22, 22], results #[4] -/
def md9 : Nat → Hint
  | _ => ⟨false, [], [], [], [], false⟩
def S9_k2 (G : Hp) (K : Exit → Rg → Hp → Prop) (r : Rg) (h : Hp) : Prop :=
  opH Try.prog G (callFunc 30 #[(r 6), (.func (.func 35) #[] #[])]) h fun v13 h13 =>
  opH Try.prog G (callFunc 22 #[(r 5), (.int .i64 1000)]) h13 fun v14 h14 =>
  opH Try.prog G (callFunc 22 #[(r 7), (.int .i64 1000)]) h14 fun v15 h15 =>
  opH Try.prog G (callFunc 24 #[v14, v15]) h15 fun v16 h16 =>
  gd (wantB v16 true) (fun K1 => K1 (r 5) h16) h16 fun v17 h17 =>
  gd (wantB v16 true) (opH Try.prog G (callFunc 16 #[v17]) h17) h17 fun v18 h18 =>
  gd (wantB v16 true) (fun K1 => K1 (r 0) h18) h18 fun v19 h19 =>
  gd (wantB v16 true) (opH Try.prog G (sv (Builtin.len_ #[22] 3 #[v19])) h19) h19 fun v20 h20 =>
  gd (wantB v16 true) (opH Try.prog G (xEq .eql 3 (.tmp 0) (.tmp 0) v18 v20) h20) h20 fun v21 h21 =>
  opH Try.prog G (xPick v16 v21 (.bool false)) h21 fun v22 h22 =>
  K .ret (upd (upd (upd (upd (upd (upd (upd (upd (upd (upd (upd (upd (upd (upd (upd r 69 (r 6)) 70 v13) 71 (r 5)) 72 v14) 73 (r 7)) 74 v15) 75 v16) 76 v16) 77 v17) 78 v18) 79 v19) 80 v20) 81 v21) 82 v22) 4 v22) h22
def S9_l3_k5 (G : Hp) (K : Exit → Rg → Hp → Prop) (r : Rg) (h : Hp) : Prop :=
  opH Try.prog G (sv (binOp .add 3 (r 8) (.int .i64 1))) h fun v30 h30 =>
  K .normal (upd (upd (upd r 35 (r 8)) 36 v30) 8 v30) h30
def S9_l3_k6 (G : Hp) (K : Exit → Rg → Hp → Prop) (r : Rg) (h : Hp) : Prop :=
  opH Try.prog G (sv (Builtin.len_ #[22] 3 #[(r 1)])) h fun v33 h33 =>
  opH Try.prog G (sv (binOp .lss 3 (r 8) v33)) h33 fun v34 h34 =>
  cond v34
  (opH Try.prog G (sv (Instr.indexAt 22 (r 1) (r 8))) h34 fun v35 h35 =>
  opH Try.prog G (sv (Instr.loadAt 3 v35)) h35 fun v36 h36 =>
  opH Try.prog G (callFunc 14 #[v36, (r 8)]) h36 fun v37 h37 =>
  opH Try.prog G (callFunc 13 #[(r 6), v37]) h37 fun v38 h38 =>
  S9_l3_k5 G K (upd (upd (upd (upd (upd (upd (upd (upd (upd (upd (upd (upd r 57 (r 8)) 58 (r 1)) 59 v33) 60 v34) 61 (r 6)) 62 (r 1)) 63 (r 8)) 64 v35) 65 v36) 66 (r 8)) 67 v37) 68 v38) h38)
  (S9_l3_k5 G K (upd (upd (upd (upd r 57 (r 8)) 58 (r 1)) 59 v33) 60 v34) h34)
def S9_l3_k4 (G : Hp) (K : Exit → Rg → Hp → Prop) (r : Rg) (h : Hp) : Prop :=
  opH Try.prog G (sv (Builtin.len_ #[22] 3 #[(r 0)])) h fun v31 h31 =>
  opH Try.prog G (sv (binOp .lss 3 (r 8) v31)) h31 fun v32 h32 =>
  cond v32
  (opH Try.prog G (sv (Instr.indexAt 22 (r 0) (r 8))) h32 fun v39 h39 =>
  opH Try.prog G (sv (Instr.loadAt 3 v39)) h39 fun v40 h40 =>
  opH Try.prog G (callFunc 14 #[v40, (r 8)]) h40 fun v41 h41 =>
  opH Try.prog G (callFunc 13 #[(r 5), v41]) h41 fun v42 h42 =>
  opH Try.prog G (sv (Instr.indexAt 22 (r 0) (r 8))) h42 fun v43 h43 =>
  opH Try.prog G (sv (Instr.loadAt 3 v43)) h43 fun v44 h44 =>
  opH Try.prog G (callFunc 14 #[v44, (r 8)]) h44 fun v45 h45 =>
  opH Try.prog G (callFunc 13 #[(r 7), v45]) h45 fun v46 h46 =>
  S9_l3_k6 G K (upd (upd (upd (upd (upd (upd (upd (upd (upd (upd (upd (upd (upd (upd (upd (upd (upd (upd (upd (upd r 37 (r 8)) 38 (r 0)) 39 v31) 40 v32) 41 (r 5)) 42 (r 0)) 43 (r 8)) 44 v39) 45 v40) 46 (r 8)) 47 v41) 48 v42) 49 (r 7)) 50 (r 0)) 51 (r 8)) 52 v43) 53 v44) 54 (r 8)) 55 v45) 56 v46) h46)
  (S9_l3_k6 G K (upd (upd (upd (upd r 37 (r 8)) 38 (r 0)) 39 v31) 40 v32) h32)
def S9_l3 (G : Hp) (r : Rg) (h : Hp) (K : Exit → Rg → Hp → Prop) : Prop :=
  opH Try.prog G (sv (Builtin.len_ #[22] 3 #[(r 0)])) h fun v23 h23 =>
  opH Try.prog G (sv (binOp .lss 3 (r 8) v23)) h23 fun v24 h24 =>
  gd (wantB v24 false) (fun K1 => K1 (r 8) h24) h24 fun v25 h25 =>
  gd (wantB v24 false) (fun K1 => K1 (r 1) h25) h25 fun v26 h26 =>
  gd (wantB v24 false) (opH Try.prog G (sv (Builtin.len_ #[22] 3 #[v26])) h26) h26 fun v27 h27 =>
  gd (wantB v24 false) (opH Try.prog G (sv (binOp .lss 3 v25 v27)) h27) h27 fun v28 h28 =>
  opH Try.prog G (xPick v24 (.bool true) v28) h28 fun v29 h29 =>
  cond v29
  (S9_l3_k4 G K (upd (upd (upd (upd (upd (upd (upd (upd (upd (upd r 25 (r 8)) 26 (r 0)) 27 v23) 28 v24) 29 v24) 30 v25) 31 v26) 32 v27) 33 v28) 34 v29) h29)
  (K (.exit 0) (upd (upd (upd (upd (upd (upd (upd (upd (upd (upd r 25 (r 8)) 26 (r 0)) 27 v23) 28 v24) 29 v24) 30 v25) 31 v26) 32 v27) 33 v28) 34 v29) h29)
def S9_k1 (G : Hp) (K : Exit → Rg → Hp → Prop) (r : Rg) (h : Hp) : Prop :=
  opH Try.prog G (callFunc 11 #[(.func (.func 12) #[] #[])]) h fun v10 h10 =>
  opH Try.prog G (callFunc 11 #[(.func (.func 12) #[] #[])]) h10 fun v11 h11 =>
  opH Try.prog G (callFunc 11 #[(.func (.func 12) #[] #[])]) h11 fun v12 h12 =>
  loopP (S9_l3 G) (upd (upd (upd (upd (upd (upd (upd r 22 v10) 5 v10) 23 v11) 6 v11) 24 v12) 7 v12) 8 (.int .i64 0)) h12 (blockK 0 (thenK (S9_k2 G K) K))
def S9 (G : Hp) (K : Exit → Rg → Hp → Prop) (r : Rg) (h : Hp) : Prop :=
  opH Try.prog G (callFunc 10 #[]) h fun v0 h0 =>
  opH Try.prog G (sv (Op.unary .not v0)) h0 fun v1 h1 =>
  gd (wantB v1 false) (fun K1 => K1 (r 0) h1) h1 fun v2 h2 =>
  gd (wantB v1 false) (opH Try.prog G (sv (Builtin.len_ #[22] 3 #[v2])) h2) h2 fun v3 h3 =>
  gd (wantB v1 false) (opH Try.prog G (sv (binOp .gtr 3 v3 (.int .i64 200))) h3) h3 fun v4 h4 =>
  opH Try.prog G (xPick v1 (.bool true) v4) h4 fun v5 h5 =>
  gd (wantB v5 false) (fun K1 => K1 (r 1) h5) h5 fun v6 h6 =>
  gd (wantB v5 false) (opH Try.prog G (sv (Builtin.len_ #[22] 3 #[v6])) h6) h6 fun v7 h7 =>
  gd (wantB v5 false) (opH Try.prog G (sv (binOp .gtr 3 v7 (.int .i64 200))) h7) h7 fun v8 h8 =>
  opH Try.prog G (xPick v5 (.bool true) v8) h8 fun v9 h9 =>
  cond v9
  (opH Try.prog G (callFunc 10 #[]) h9 fun v47 h47 =>
  K .ret (upd (upd (upd (upd (upd (upd (upd (upd (upd (upd (upd (upd (upd (upd (upd r 4 (.bool false)) 9 v0) 10 v1) 11 v1) 12 v2) 13 v3) 14 v4) 15 v5) 16 v5) 17 v6) 18 v7) 19 v8) 20 v9) 21 v47) 4 v47) h47)
  (S9_k1 G K (upd (upd (upd (upd (upd (upd (upd (upd (upd (upd (upd (upd (upd r 4 (.bool false)) 9 v0) 10 v1) 11 v1) 12 v2) 13 v3) 14 v4) 15 v5) 16 v5) 17 v6) 18 v7) 19 v8) 20 v9) h9)
theorem S9_eq (G : Hp) (K : Exit → Rg → Hp → Prop) (r : Rg) (h : Hp) : wpC Try.prog G 83 md9 (Try.f9.body.getD .skip) r h K = S9 G K r h := by kernel_rfl
theorem enter9 {G : Hp} {h : Hp} {args : Array Value} {R : Value → Hp → Prop} (hn : args.size ≤ 83) (H : S9 G (retK Try.prog G [.tmp 4] R) (regs args) h) : HCalls Try.prog G 9 args h R :=
  HCalls.enter (md := md9) mixed Try.func9 rfl hn (by rw [← S9_eq] at H; exact H)

/-! 10: skep/skeplaw10.awake: params #[], results #[4] -/
def md10 : Nat → Hint
  | 9 => ⟨false, [0, 0, 3, 7, 15, 15, 63, 127, 255, 511, 1023, 2047, 4095, 8191, 16383, 32767, 65535, 131071, 262143, 524287], [.pureM, .eff, .pureM, .pureN, .pureM, .eff, .pureM, .pureN, .pureN, .pureN, .pureN, .pureN, .pureN, .pureN, .pureN, .pureN, .eff, .pureM, .pureN, .pureN], [.pureM, .eff, .pureM, .pureN, .pureM, .eff, .pureM, .pureN, .pureN, .pureN, .pureN, .pureN, .pureN, .pureN, .pureN, .pureN, .eff, .late, .pureN, .pureN], [false, true, false, false, false, true, false, false, false, false, false, false, false, false, false, false, false, false, false, false], false⟩
  | _ => ⟨false, [], [], [], [], false⟩
def S10_k1 (G : Hp) (K : Exit → Rg → Hp → Prop) (r : Rg) (h : Hp) : Prop :=
  opH Try.prog G (callFunc 14 #[(.int .i64 2), (.int .i64 1)]) h fun v2 h2 =>
  opH Try.prog G (callFunc 13 #[(r 1), v2]) h2 fun v3 h3 =>
  opH Try.prog G (callFunc 14 #[(.int .i64 1), (.int .i64 2)]) h3 fun v4 h4 =>
  opH Try.prog G (callFunc 13 #[(r 1), v4]) h4 fun v5 h5 =>
  opH Try.prog G (callFunc 14 #[(.int .i64 1), (.int .i64 3)]) h5 fun v6 h6 =>
  opH Try.prog G (callFunc 13 #[(r 1), v6]) h6 fun v7 h7 =>
  opH Try.prog G (callFunc 15 #[(r 1)]) h7 fun v8 h8 =>
  opH Try.prog G (sv (Instr.extract v8 0)) h8 fun v9 h9 =>
  opH Try.prog G (sv (Instr.extract v8 1)) h9 fun v10 h10 =>
  opH Try.prog G (sv (Instr.alloc 27 true (.tuple #[]))) h10 fun v11 h11 =>
  opH Try.prog G (su (Instr.storeAt 27 v11 v9)) h11 fun v12 h12 =>
  opH Try.prog G (callFunc 15 #[(r 1)]) h12 fun v13 h13 =>
  opH Try.prog G (sv (Instr.extract v13 0)) h13 fun v14 h14 =>
  opH Try.prog G (sv (Instr.extract v13 1)) h14 fun v15 h15 =>
  opH Try.prog G (sv (Instr.alloc 27 true (.tuple #[]))) h15 fun v16 h16 =>
  opH Try.prog G (su (Instr.storeAt 27 v16 v14)) h16 fun v17 h17 =>
  pureW Try.prog G h17 (sv (Instr.loadAt 27 v11)) h17 fun v18 h18 =>
  opH Try.prog G (callFunc 14 #[(.int .i64 1), (.int .i64 2)]) h18 fun v19 h19 => h17.le h19 ∧
  pureW Try.prog G h17 (xEq .eql 27 (.tmp 0) (.tmp 0) v18 v19) h19 fun v20 h20 =>
  gd (wantB v20 true) (pureW Try.prog G h17 (sv (Instr.loadAt 27 v16)) h20) h20 fun v21 h21 =>
  gd (wantB v20 true) (fun K1 => opH Try.prog G (callFunc 14 #[(.int .i64 1), (.int .i64 3)]) h21 fun v h' => h17.le h' ∧ K1 v h') h21 fun v22 h22 =>
  gd (wantB v20 true) (pureW Try.prog G h17 (xEq .eql 27 (.tmp 0) (.tmp 0) v21 v22) h22) h22 fun v23 h23 =>
  pureW Try.prog noHp noHp (xPick v20 v23 (.bool false)) h23 fun v24 h24 =>
  gd (wantB v24 true) (fun K1 => K1 v10 h24) h24 fun v25 h25 =>
  pureW Try.prog noHp noHp (xPick v24 v25 (.bool false)) h25 fun v26 h26 =>
  gd (wantB v26 true) (fun K1 => K1 v15 h26) h26 fun v27 h27 =>
  pureW Try.prog noHp noHp (xPick v26 v27 (.bool false)) h27 fun v28 h28 =>
  gd (wantB v28 true) (fun K1 => K1 (r 1) h28) h28 fun v29 h29 =>
  gd (wantB v28 true) (opH Try.prog G (callFunc 16 #[v29]) h29) h29 fun v30 h30 =>
  gd (wantB v28 true) (pureW Try.prog G h30 (xEq .eql 3 (.tmp 0) (.const .nilFunc) v30 (.int .i64 1)) h30) h30 fun v31 h31 =>
  pureW Try.prog noHp noHp (xPick v28 v31 (.bool false)) h31 fun v32 h32 =>
  K .ret (upd (upd (upd (upd (upd (upd (upd (upd (upd (upd (upd (upd (upd (upd (upd (upd (upd (upd (upd (upd (upd (upd (upd (upd (upd (upd (upd (upd (upd (upd (upd (upd (upd (upd (upd (upd (upd (upd (upd (upd (upd (upd (upd r 9 (r 1)) 10 v2) 11 v3) 12 (r 1)) 13 v4) 14 v5) 15 (r 1)) 16 v6) 17 v7) 19 (r 1)) 20 v8) 18 v8) 21 v9) 22 v10) 2 v11) 3 v10) 24 (r 1)) 25 v13) 23 v13) 26 v14) 27 v15) 4 v16) 5 v15) 28 v18) 29 v19) 30 v20) 31 v20) 32 v21) 33 v22) 34 v23) 35 v24) 36 v24) 37 v25) 38 v26) 39 v26) 40 v27) 41 v28) 42 v28) 43 v29) 44 v30) 45 v31) 46 v32) 0 v32) h32
def S10 (G : Hp) (K : Exit → Rg → Hp → Prop) (r : Rg) (h : Hp) : Prop :=
  opH Try.prog G (callFunc 11 #[(.func (.func 12) #[] #[])]) h fun v0 h0 =>
  opH Try.prog G (xEq .eql 24 (.tmp 0) (.const .nilFunc) v0 (.pointer none)) h0 fun v1 h1 =>
  cond v1
  (K .ret (upd (upd (upd (upd (upd (upd r 0 (.bool false)) 6 v0) 1 v0) 7 v0) 8 v1) 0 (.bool false)) h1)
  (S10_k1 G K (upd (upd (upd (upd (upd r 0 (.bool false)) 6 v0) 1 v0) 7 v0) 8 v1) h1)
theorem S10_eq (G : Hp) (K : Exit → Rg → Hp → Prop) (r : Rg) (h : Hp) : wpC Try.prog G 47 md10 (Try.f10.body.getD .skip) r h K = S10 G K r h := by kernel_rfl
theorem enter10 {G : Hp} {h : Hp} {args : Array Value} {R : Value → Hp → Prop} (hn : args.size ≤ 47) (H : S10 G (retK Try.prog G [.tmp 0] R) (regs args) h) : HCalls Try.prog G 10 args h R :=
  HCalls.enter (md := md10) mixed Try.func10 rfl hn (by rw [← S10_eq] at H; exact H)

/-! 11: skep/heap.New[skep/skepref10.V]: params #[28], results #[24] -/
def md11 : Nat → Hint
  | _ => ⟨false, [], [], [], [], false⟩
def S11 (G : Hp) (K : Exit → Rg → Hp → Prop) (r : Rg) (h : Hp) : Prop :=
  opH Try.prog G (sv (Instr.build 63 #[(0, (r 0))])) h fun v0 h0 =>
  opH Try.prog G (sv (Instr.box 63 v0)) h0 fun v1 h1 =>
  K .ret (upd (upd (upd (upd (upd r 2 (.pointer none)) 3 (r 0)) 4 v0) 5 v1) 2 v1) h1
theorem S11_eq (G : Hp) (K : Exit → Rg → Hp → Prop) (r : Rg) (h : Hp) : wpC Try.prog G 6 md11 (Try.f11.body.getD .skip) r h K = S11 G K r h := by kernel_rfl
theorem enter11 {G : Hp} {h : Hp} {args : Array Value} {R : Value → Hp → Prop} (hn : args.size ≤ 6) (H : S11 G (retK Try.prog G [.tmp 2] R) (regs args) h) : HCalls Try.prog G 11 args h R :=
  HCalls.enter (md := md11) mixed Try.func11 rfl hn (by rw [← S11_eq] at H; exact H)

/-! 12: skep/skeplaw10.less: params #[27, 27], results #[4] -/
def md12 : Nat → Hint
  | _ => ⟨false, [], [], [], [], false⟩
def S12 (G : Hp) (K : Exit → Rg → Hp → Prop) (r : Rg) (h : Hp) : Prop :=
  opH Try.prog G (sv (Instr.box 27 (r 0))) h fun v0 h0 =>
  opH Try.prog G (sv (Instr.box 27 (r 1))) h0 fun v1 h1 =>
  opH Try.prog G (sv (Instr.fieldAt 27 v0 0)) h1 fun v2 h2 =>
  opH Try.prog G (sv (Instr.loadAt 3 v2)) h2 fun v3 h3 =>
  opH Try.prog G (sv (Instr.fieldAt 27 v1 0)) h3 fun v4 h4 =>
  opH Try.prog G (sv (Instr.loadAt 3 v4)) h4 fun v5 h5 =>
  opH Try.prog G (sv (binOp .lss 3 v3 v5)) h5 fun v6 h6 =>
  K .ret (upd (upd (upd (upd (upd (upd (upd (upd (upd r 2 v0) 3 v1) 4 (.bool false)) 5 v2) 6 v3) 7 v4) 8 v5) 9 v6) 4 v6) h6
theorem S12_eq (G : Hp) (K : Exit → Rg → Hp → Prop) (r : Rg) (h : Hp) : wpC Try.prog G 10 md12 (Try.f12.body.getD .skip) r h K = S12 G K r h := by kernel_rfl
theorem enter12 {G : Hp} {h : Hp} {args : Array Value} {R : Value → Hp → Prop} (hn : args.size ≤ 10) (H : S12 G (retK Try.prog G [.tmp 4] R) (regs args) h) : HCalls Try.prog G 12 args h R :=
  HCalls.enter (md := md12) mixed Try.func12 rfl hn (by rw [← S12_eq] at H; exact H)

/-! 13: (*skep/heap.Heap[skep/skeplaw10.V]).Push: params #[24, 27], results #[] -/
def md13 : Nat → Hint
  | 2 => ⟨false, [0, 0, 2, 6, 14, 0, 0, 64, 192, 448, 992, 2016, 4094, 8191, 16383, 32767], [.pureN, .pureN, .pureN, .pureN, .pureM, .pureM, .pureN, .pureN, .pureN, .pureM, .pureN, .alloc, .eff, .pureN, .pureN, .store], [.pureN, .pureN, .pureN, .pureN, .pureM, .pureM, .pureN, .pureN, .pureN, .pureM, .pureN, .alloc, .eff, .pureN, .pureN, .store], [false, false, false, false, false, false, false, false, false, false, false, false, false, false, false, false], false⟩
  | _ => ⟨false, [], [], [], [], false⟩
def S13_k1 (G : Hp) (K : Exit → Rg → Hp → Prop) (r : Rg) (h : Hp) : Prop :=
  pureW Try.prog noHp noHp (xNil (r 0)) h fun v8 h8 =>
  pureW Try.prog noHp noHp (sv (Instr.fieldAt 63 v8 1)) h8 fun v9 h9 =>
  pureW Try.prog G h (sv (Instr.loadAt 61 v9)) h9 fun v10 h10 =>
  pureW Try.prog G h (sv (Instr.loadAt 27 (r 3))) h10 fun v11 h11 =>
  pureW Try.prog noHp noHp (xNil (r 0)) h11 fun v12 h12 =>
  pureW Try.prog noHp noHp (sv (Instr.fieldAt 63 v12 2)) h12 fun v13 h13 =>
  pureW Try.prog G h (sv (Instr.loadAt 3 v13)) h13 fun v14 h14 =>
  pureW Try.prog noHp noHp (sv (Instr.build 65 #[(0, v11), (1, v14)])) h14 fun v15 h15 =>
  opH Try.prog G (sv (Instr.buildSlice 61 1 #[(0, v15)])) h15 fun v16 h16 =>
  opH Try.prog G (sv (Builtin.append_ #[61, 61] 61 #[v10, v16])) h16 fun v17 h17 =>
  pureW Try.prog noHp noHp (xNil (r 0)) h17 fun v18 h18 =>
  pureW Try.prog noHp noHp (sv (Instr.fieldAt 63 v18 1)) h18 fun v19 h19 =>
  opH Try.prog G (su (Instr.storeAt 61 v19 v17)) h19 fun v20 h20 =>
  opH Try.prog G (xNil (r 0)) h20 fun v21 h21 =>
  opH Try.prog G (sv (Instr.fieldAt 63 v21 2)) h21 fun v22 h22 =>
  opH Try.prog G (sv (Instr.loadAt 3 v22)) h22 fun v23 h23 =>
  opH Try.prog G (sv (binOp .add 3 v23 (.int .i64 1))) h23 fun v24 h24 =>
  opH Try.prog G (xNil (r 0)) h24 fun v25 h25 =>
  opH Try.prog G (sv (Instr.fieldAt 63 v25 2)) h25 fun v26 h26 =>
  opH Try.prog G (su (Instr.storeAt 3 v26 v24)) h26 fun v27 h27 =>
  opH Try.prog G (xNil (r 0)) h27 fun v28 h28 =>
  opH Try.prog G (sv (Instr.fieldAt 63 v28 1)) h28 fun v29 h29 =>
  opH Try.prog G (sv (Instr.loadAt 61 v29)) h29 fun v30 h30 =>
  opH Try.prog G (sv (Builtin.len_ #[61] 3 #[v30])) h30 fun v31 h31 =>
  opH Try.prog G (sv (binOp .sub 3 v31 (.int .i64 1))) h31 fun v32 h32 =>
  opH Try.prog G (callFunc 36 #[(r 0), v32]) h32 fun v33 h33 =>
  K .normal (upd (upd (upd (upd (upd (upd (upd (upd (upd (upd (upd (upd (upd (upd (upd (upd (upd (upd (upd (upd (upd (upd (upd (upd (upd (upd (upd (upd (upd (upd r 13 (r 0)) 14 (r 0)) 15 v8) 16 v9) 17 v10) 18 v11) 19 (r 0)) 20 v12) 21 v13) 22 v14) 23 v15) 24 v16) 25 v17) 26 v18) 27 v19) 28 (r 0)) 29 v21) 30 v22) 31 v23) 32 v24) 33 v25) 34 v26) 35 (r 0)) 36 (r 0)) 37 v28) 38 v29) 39 v30) 40 v31) 41 v32) 42 v33) h33
def S13 (G : Hp) (K : Exit → Rg → Hp → Prop) (r : Rg) (h : Hp) : Prop :=
  opH Try.prog G (sv (Instr.box 27 (r 1))) h fun v0 h0 =>
  opH Try.prog G (xEq .eql 24 (.tmp 0) (.const .nilFunc) (r 0) (.pointer none)) h0 fun v1 h1 =>
  gd (wantB v1 false) (fun K1 => K1 (r 0) h1) h1 fun v2 h2 =>
  gd (wantB v1 false) (opH Try.prog G (xNil v2) h2) h2 fun v3 h3 =>
  gd (wantB v1 false) (opH Try.prog G (sv (Instr.fieldAt 63 v3 0)) h3) h3 fun v4 h4 =>
  gd (wantB v1 false) (opH Try.prog G (sv (Instr.loadAt 28 v4)) h4) h4 fun v5 h5 =>
  gd (wantB v1 false) (opH Try.prog G (xEq .eql 28 (.tmp 0) (.const .nilFunc) v5 .nilFunc) h5) h5 fun v6 h6 =>
  opH Try.prog G (xPick v1 (.bool true) v6) h6 fun v7 h7 =>
  cond v7
  (K .ret (upd (upd (upd (upd (upd (upd (upd (upd (upd (upd r 3 v0) 4 (r 0)) 5 v1) 6 v1) 7 v2) 8 v3) 9 v4) 10 v5) 11 v6) 12 v7) h7)
  (S13_k1 G K (upd (upd (upd (upd (upd (upd (upd (upd (upd (upd r 3 v0) 4 (r 0)) 5 v1) 6 v1) 7 v2) 8 v3) 9 v4) 10 v5) 11 v6) 12 v7) h7)
theorem S13_eq (G : Hp) (K : Exit → Rg → Hp → Prop) (r : Rg) (h : Hp) : wpC Try.prog G 43 md13 (Try.f13.body.getD .skip) r h K = S13 G K r h := by kernel_rfl
theorem enter13 {G : Hp} {h : Hp} {args : Array Value} {R : Value → Hp → Prop} (hn : args.size ≤ 43) (H : S13 G (retK Try.prog G [] R) (regs args) h) : HCalls Try.prog G 13 args h R :=
  HCalls.enter (md := md13) mixed Try.func13 rfl hn (by rw [← S13_eq] at H; exact H)

/-! 14: skep/skeplaw10.of: params #[3, 3], results #[27] -/
def md14 : Nat → Hint
  | _ => ⟨false, [], [], [], [], false⟩
def S14 (G : Hp) (K : Exit → Rg → Hp → Prop) (r : Rg) (h : Hp) : Prop :=
  opH Try.prog G (sv (Instr.alloc 27 true (.tuple #[]))) h fun v0 h0 =>
  opH Try.prog G (sv (Instr.build 27 #[(0, (r 0)), (1, (r 1))])) h0 fun v1 h1 =>
  opH Try.prog G (su (Instr.storeAt 27 v0 v1)) h1 fun v2 h2 =>
  K .ret (upd (upd (upd (upd r 4 v0) 5 (r 0)) 6 (r 1)) 7 v1) h2
theorem S14_eq (G : Hp) (K : Exit → Rg → Hp → Prop) (r : Rg) (h : Hp) : wpC Try.prog G 8 md14 (Try.f14.body.getD .skip) r h K = S14 G K r h := by kernel_rfl
theorem enter14 {G : Hp} {h : Hp} {args : Array Value} {R : Value → Hp → Prop} (hn : args.size ≤ 8) (H : S14 G (retK Try.prog G [.cell 4 27] R) (regs args) h) : HCalls Try.prog G 14 args h R :=
  HCalls.enter (md := md14) mixed Try.func14 rfl hn (by rw [← S14_eq] at H; exact H)

/-! 15: (*skep/heap.Heap[skep/skeplaw10.V]).Pop: params #[24], results #[27, 4] -/
def md15 : Nat → Hint
  | _ => ⟨false, [], [], [], [], false⟩
def S15_k1 (G : Hp) (K : Exit → Rg → Hp → Prop) (r : Rg) (h : Hp) : Prop :=
  opH Try.prog G (xNil (r 0)) h fun v7 h7 =>
  opH Try.prog G (sv (Instr.fieldAt 63 v7 1)) h7 fun v8 h8 =>
  opH Try.prog G (sv (Instr.loadAt 61 v8)) h8 fun v9 h9 =>
  opH Try.prog G (sv (Builtin.len_ #[61] 3 #[v9])) h9 fun v10 h10 =>
  opH Try.prog G (sv (binOp .sub 3 v10 (.int .i64 1))) h10 fun v11 h11 =>
  opH Try.prog G (callFunc 37 #[(r 0), (.int .i64 0), v11]) h11 fun v12 h12 =>
  opH Try.prog G (xNil (r 0)) h12 fun v13 h13 =>
  opH Try.prog G (sv (Instr.fieldAt 63 v13 1)) h13 fun v14 h14 =>
  opH Try.prog G (sv (Instr.loadAt 61 v14)) h14 fun v15 h15 =>
  opH Try.prog G (sv (Instr.build 65 #[])) h15 fun v16 h16 =>
  opH Try.prog G (sv (Instr.indexAt 61 v15 v11)) h16 fun v17 h17 =>
  opH Try.prog G (su (Instr.storeAt 65 v17 v16)) h17 fun v18 h18 =>
  opH Try.prog G (xNil (r 0)) h18 fun v19 h19 =>
  opH Try.prog G (sv (Instr.fieldAt 63 v19 1)) h19 fun v20 h20 =>
  opH Try.prog G (sv (Instr.loadAt 61 v20)) h20 fun v21 h21 =>
  opH Try.prog G (sv (Instr.sliceAt 61 v21 none (some v11) none)) h21 fun v22 h22 =>
  opH Try.prog G (xNil (r 0)) h22 fun v23 h23 =>
  opH Try.prog G (sv (Instr.fieldAt 63 v23 1)) h23 fun v24 h24 =>
  opH Try.prog G (su (Instr.storeAt 61 v24 v22)) h24 fun v25 h25 =>
  opH Try.prog G (callFunc 38 #[(r 0), (.int .i64 0)]) h25 fun v26 h26 =>
  opH Try.prog G (sv (Instr.loadAt 27 (r 4))) h26 fun v27 h27 =>
  opH Try.prog G (su (Instr.storeAt 27 (r 2) v27)) h27 fun v28 h28 =>
  K .ret (upd (upd (upd (upd (upd (upd (upd (upd (upd (upd (upd (upd (upd (upd (upd (upd (upd (upd (upd (upd (upd (upd (upd (upd (upd (upd (upd (upd (upd (upd r 15 (r 0)) 16 v7) 17 v8) 18 v9) 19 v10) 20 v11) 6 v11) 21 (r 0)) 22 v11) 23 v12) 24 (r 0)) 25 v13) 26 v14) 27 v15) 28 v11) 29 v16) 30 v17) 31 (r 0)) 32 (r 0)) 33 v19) 34 v20) 35 v21) 36 v11) 37 v22) 38 v23) 39 v24) 40 (r 0)) 41 v26) 42 v27) 3 (.bool true)) h28
def S15 (G : Hp) (K : Exit → Rg → Hp → Prop) (r : Rg) (h : Hp) : Prop :=
  opH Try.prog G (sv (Instr.alloc 27 true (.tuple #[]))) h fun v0 h0 =>
  opH Try.prog G (callFunc 25 #[(r 0)]) h0 fun v1 h1 =>
  opH Try.prog G (sv (Instr.extract v1 0)) h1 fun v2 h2 =>
  opH Try.prog G (sv (Instr.extract v1 1)) h2 fun v3 h3 =>
  opH Try.prog G (sv (Instr.alloc 27 true (.tuple #[]))) h3 fun v4 h4 =>
  opH Try.prog G (su (Instr.storeAt 27 v4 v2)) h4 fun v5 h5 =>
  opH Try.prog G (sv (Op.unary .not v3)) h5 fun v6 h6 =>
  cond v6
  (opH Try.prog G (sv (Instr.loadAt 27 v4)) h6 fun v29 h29 =>
  opH Try.prog G (su (Instr.storeAt 27 v0 v29)) h29 fun v30 h30 =>
  K .ret (upd (upd (upd (upd (upd (upd (upd (upd (upd (upd (upd (upd (upd r 2 v0) 3 (.bool false)) 8 (r 0)) 9 v1) 7 v1) 10 v2) 11 v3) 4 v4) 5 v3) 12 v3) 13 v6) 14 v29) 3 (.bool false)) h30)
  (S15_k1 G K (upd (upd (upd (upd (upd (upd (upd (upd (upd (upd (upd r 2 v0) 3 (.bool false)) 8 (r 0)) 9 v1) 7 v1) 10 v2) 11 v3) 4 v4) 5 v3) 12 v3) 13 v6) h6)
theorem S15_eq (G : Hp) (K : Exit → Rg → Hp → Prop) (r : Rg) (h : Hp) : wpC Try.prog G 43 md15 (Try.f15.body.getD .skip) r h K = S15 G K r h := by kernel_rfl
theorem enter15 {G : Hp} {h : Hp} {args : Array Value} {R : Value → Hp → Prop} (hn : args.size ≤ 43) (H : S15 G (retK Try.prog G [.cell 2 27, .tmp 3] R) (regs args) h) : HCalls Try.prog G 15 args h R :=
  HCalls.enter (md := md15) mixed Try.func15 rfl hn (by rw [← S15_eq] at H; exact H)

/-! 16: (*skep/heap.Heap[skep/skeplaw10.V]).Len: params #[24], results #[3] -/
def md16 : Nat → Hint
  | _ => ⟨false, [], [], [], [], false⟩
def S16_k1 (G : Hp) (K : Exit → Rg → Hp → Prop) (r : Rg) (h : Hp) : Prop :=
  opH Try.prog G (xNil (r 0)) h fun v1 h1 =>
  opH Try.prog G (sv (Instr.fieldAt 63 v1 1)) h1 fun v2 h2 =>
  opH Try.prog G (sv (Instr.loadAt 61 v2)) h2 fun v3 h3 =>
  opH Try.prog G (sv (Builtin.len_ #[61] 3 #[v3])) h3 fun v4 h4 =>
  K .ret (upd (upd (upd (upd (upd (upd r 5 (r 0)) 6 v1) 7 v2) 8 v3) 9 v4) 2 v4) h4
def S16 (G : Hp) (K : Exit → Rg → Hp → Prop) (r : Rg) (h : Hp) : Prop :=
  opH Try.prog G (xEq .eql 24 (.tmp 0) (.const .nilFunc) (r 0) (.pointer none)) h fun v0 h0 =>
  cond v0
  (K .ret (upd (upd (upd (upd r 2 (.int .i64 0)) 3 (r 0)) 4 v0) 2 (.int .i64 0)) h0)
  (S16_k1 G K (upd (upd (upd r 2 (.int .i64 0)) 3 (r 0)) 4 v0) h0)
theorem S16_eq (G : Hp) (K : Exit → Rg → Hp → Prop) (r : Rg) (h : Hp) : wpC Try.prog G 10 md16 (Try.f16.body.getD .skip) r h K = S16 G K r h := by kernel_rfl
theorem enter16 {G : Hp} {h : Hp} {args : Array Value} {R : Value → Hp → Prop} (hn : args.size ≤ 10) (H : S16 G (retK Try.prog G [.tmp 2] R) (regs args) h) : HCalls Try.prog G 16 args h R :=
  HCalls.enter (md := md16) mixed Try.func16 rfl hn (by rw [← S16_eq] at H; exact H)

/-! 17: skep/heap.New[string]: params #[39], results #[37] -/
def md17 : Nat → Hint
  | _ => ⟨false, [], [], [], [], false⟩
def S17 (G : Hp) (K : Exit → Rg → Hp → Prop) (r : Rg) (h : Hp) : Prop :=
  opH Try.prog G (sv (Instr.build 70 #[(0, (r 0))])) h fun v0 h0 =>
  opH Try.prog G (sv (Instr.box 70 v0)) h0 fun v1 h1 =>
  K .ret (upd (upd (upd (upd (upd r 2 (.pointer none)) 3 (r 0)) 4 v0) 5 v1) 2 v1) h1
theorem S17_eq (G : Hp) (K : Exit → Rg → Hp → Prop) (r : Rg) (h : Hp) : wpC Try.prog G 6 md17 (Try.f17.body.getD .skip) r h K = S17 G K r h := by kernel_rfl
theorem enter17 {G : Hp} {h : Hp} {args : Array Value} {R : Value → Hp → Prop} (hn : args.size ≤ 6) (H : S17 G (retK Try.prog G [.tmp 2] R) (regs args) h) : HCalls Try.prog G 17 args h R :=
  HCalls.enter (md := md17) mixed Try.func17 rfl hn (by rw [← S17_eq] at H; exact H)

/-! 18: skep/skeplaw10.HeapTexts$1: params #[9, 9], results #[4] -/
def md18 : Nat → Hint
  | _ => ⟨false, [], [], [], [], false⟩
def S18 (G : Hp) (K : Exit → Rg → Hp → Prop) (r : Rg) (h : Hp) : Prop :=
  opH Try.prog G (sv (Builtin.len_ #[9] 3 #[(r 0)])) h fun v0 h0 =>
  opH Try.prog G (sv (Builtin.len_ #[9] 3 #[(r 1)])) h0 fun v1 h1 =>
  opH Try.prog G (sv (binOp .gtr 3 v0 v1)) h1 fun v2 h2 =>
  K .ret (upd (upd (upd (upd (upd (upd (upd r 4 (.bool false)) 5 (r 0)) 6 v0) 7 (r 1)) 8 v1) 9 v2) 4 v2) h2
theorem S18_eq (G : Hp) (K : Exit → Rg → Hp → Prop) (r : Rg) (h : Hp) : wpC Try.prog G 10 md18 (Try.f18.body.getD .skip) r h K = S18 G K r h := by kernel_rfl
theorem enter18 {G : Hp} {h : Hp} {args : Array Value} {R : Value → Hp → Prop} (hn : args.size ≤ 10) (H : S18 G (retK Try.prog G [.tmp 4] R) (regs args) h) : HCalls Try.prog G 18 args h R :=
  HCalls.enter (md := md18) mixed Try.func18 rfl hn (by rw [← S18_eq] at H; exact H)

/-! 19: (*skep/heap.Heap[string]).Push: params #[37, 9], results #[] -/
def md19 : Nat → Hint
  | 1 => ⟨false, [0, 0, 2, 6, 14, 0, 0, 64, 192, 448, 992, 2016, 4094, 8191, 16383, 32767], [.pureN, .pureN, .pureN, .pureN, .pureM, .pureN, .pureN, .pureN, .pureN, .pureM, .pureN, .alloc, .eff, .pureN, .pureN, .store], [.pureN, .pureN, .pureN, .pureN, .pureM, .pureN, .pureN, .pureN, .pureN, .pureM, .pureN, .alloc, .eff, .pureN, .pureN, .store], [false, false, false, false, false, false, false, false, false, false, false, false, false, false, false, false], false⟩
  | _ => ⟨false, [], [], [], [], false⟩
def S19_k1 (G : Hp) (K : Exit → Rg → Hp → Prop) (r : Rg) (h : Hp) : Prop :=
  pureW Try.prog noHp noHp (xNil (r 0)) h fun v7 h7 =>
  pureW Try.prog noHp noHp (sv (Instr.fieldAt 70 v7 1)) h7 fun v8 h8 =>
  pureW Try.prog G h (sv (Instr.loadAt 68 v8)) h8 fun v9 h9 =>
  pureW Try.prog noHp noHp (xNil (r 0)) h9 fun v10 h10 =>
  pureW Try.prog noHp noHp (sv (Instr.fieldAt 70 v10 2)) h10 fun v11 h11 =>
  pureW Try.prog G h (sv (Instr.loadAt 3 v11)) h11 fun v12 h12 =>
  pureW Try.prog noHp noHp (sv (Instr.build 72 #[(0, (r 1)), (1, v12)])) h12 fun v13 h13 =>
  opH Try.prog G (sv (Instr.buildSlice 68 1 #[(0, v13)])) h13 fun v14 h14 =>
  opH Try.prog G (sv (Builtin.append_ #[68, 68] 68 #[v9, v14])) h14 fun v15 h15 =>
  pureW Try.prog noHp noHp (xNil (r 0)) h15 fun v16 h16 =>
  pureW Try.prog noHp noHp (sv (Instr.fieldAt 70 v16 1)) h16 fun v17 h17 =>
  opH Try.prog G (su (Instr.storeAt 68 v17 v15)) h17 fun v18 h18 =>
  opH Try.prog G (xNil (r 0)) h18 fun v19 h19 =>
  opH Try.prog G (sv (Instr.fieldAt 70 v19 2)) h19 fun v20 h20 =>
  opH Try.prog G (sv (Instr.loadAt 3 v20)) h20 fun v21 h21 =>
  opH Try.prog G (sv (binOp .add 3 v21 (.int .i64 1))) h21 fun v22 h22 =>
  opH Try.prog G (xNil (r 0)) h22 fun v23 h23 =>
  opH Try.prog G (sv (Instr.fieldAt 70 v23 2)) h23 fun v24 h24 =>
  opH Try.prog G (su (Instr.storeAt 3 v24 v22)) h24 fun v25 h25 =>
  opH Try.prog G (xNil (r 0)) h25 fun v26 h26 =>
  opH Try.prog G (sv (Instr.fieldAt 70 v26 1)) h26 fun v27 h27 =>
  opH Try.prog G (sv (Instr.loadAt 68 v27)) h27 fun v28 h28 =>
  opH Try.prog G (sv (Builtin.len_ #[68] 3 #[v28])) h28 fun v29 h29 =>
  opH Try.prog G (sv (binOp .sub 3 v29 (.int .i64 1))) h29 fun v30 h30 =>
  opH Try.prog G (callFunc 39 #[(r 0), v30]) h30 fun v31 h31 =>
  K .normal (upd (upd (upd (upd (upd (upd (upd (upd (upd (upd (upd (upd (upd (upd (upd (upd (upd (upd (upd (upd (upd (upd (upd (upd (upd (upd (upd (upd (upd (upd r 13 (r 0)) 14 (r 0)) 15 v7) 16 v8) 17 v9) 18 (r 1)) 19 (r 0)) 20 v10) 21 v11) 22 v12) 23 v13) 24 v14) 25 v15) 26 v16) 27 v17) 28 (r 0)) 29 v19) 30 v20) 31 v21) 32 v22) 33 v23) 34 v24) 35 (r 0)) 36 (r 0)) 37 v26) 38 v27) 39 v28) 40 v29) 41 v30) 42 v31) h31
def S19 (G : Hp) (K : Exit → Rg → Hp → Prop) (r : Rg) (h : Hp) : Prop :=
  opH Try.prog G (xEq .eql 37 (.tmp 0) (.const .nilFunc) (r 0) (.pointer none)) h fun v0 h0 =>
  gd (wantB v0 false) (fun K1 => K1 (r 0) h0) h0 fun v1 h1 =>
  gd (wantB v0 false) (opH Try.prog G (xNil v1) h1) h1 fun v2 h2 =>
  gd (wantB v0 false) (opH Try.prog G (sv (Instr.fieldAt 70 v2 0)) h2) h2 fun v3 h3 =>
  gd (wantB v0 false) (opH Try.prog G (sv (Instr.loadAt 39 v3)) h3) h3 fun v4 h4 =>
  gd (wantB v0 false) (opH Try.prog G (xEq .eql 39 (.tmp 0) (.const .nilFunc) v4 .nilFunc) h4) h4 fun v5 h5 =>
  opH Try.prog G (xPick v0 (.bool true) v5) h5 fun v6 h6 =>
  cond v6
  (K .ret (upd (upd (upd (upd (upd (upd (upd (upd (upd r 4 (r 0)) 5 v0) 6 v0) 7 v1) 8 v2) 9 v3) 10 v4) 11 v5) 12 v6) h6)
  (S19_k1 G K (upd (upd (upd (upd (upd (upd (upd (upd (upd r 4 (r 0)) 5 v0) 6 v0) 7 v1) 8 v2) 9 v3) 10 v4) 11 v5) 12 v6) h6)
theorem S19_eq (G : Hp) (K : Exit → Rg → Hp → Prop) (r : Rg) (h : Hp) : wpC Try.prog G 43 md19 (Try.f19.body.getD .skip) r h K = S19 G K r h := by kernel_rfl
theorem enter19 {G : Hp} {h : Hp} {args : Array Value} {R : Value → Hp → Prop} (hn : args.size ≤ 43) (H : S19 G (retK Try.prog G [] R) (regs args) h) : HCalls Try.prog G 19 args h R :=
  HCalls.enter (md := md19) mixed Try.func19 rfl hn (by rw [← S19_eq] at H; exact H)

/-! 20: (*skep/heap.Heap[string]).Pop: params #[37], results #[9, 4] -/
def md20 : Nat → Hint
  | _ => ⟨false, [], [], [], [], false⟩
def S20_k1 (G : Hp) (K : Exit → Rg → Hp → Prop) (r : Rg) (h : Hp) : Prop :=
  opH Try.prog G (xNil (r 0)) h fun v4 h4 =>
  opH Try.prog G (sv (Instr.fieldAt 70 v4 1)) h4 fun v5 h5 =>
  opH Try.prog G (sv (Instr.loadAt 68 v5)) h5 fun v6 h6 =>
  opH Try.prog G (sv (Builtin.len_ #[68] 3 #[v6])) h6 fun v7 h7 =>
  opH Try.prog G (sv (binOp .sub 3 v7 (.int .i64 1))) h7 fun v8 h8 =>
  opH Try.prog G (callFunc 40 #[(r 0), (.int .i64 0), v8]) h8 fun v9 h9 =>
  opH Try.prog G (xNil (r 0)) h9 fun v10 h10 =>
  opH Try.prog G (sv (Instr.fieldAt 70 v10 1)) h10 fun v11 h11 =>
  opH Try.prog G (sv (Instr.loadAt 68 v11)) h11 fun v12 h12 =>
  opH Try.prog G (sv (Instr.build 72 #[])) h12 fun v13 h13 =>
  opH Try.prog G (sv (Instr.indexAt 68 v12 v8)) h13 fun v14 h14 =>
  opH Try.prog G (su (Instr.storeAt 72 v14 v13)) h14 fun v15 h15 =>
  opH Try.prog G (xNil (r 0)) h15 fun v16 h16 =>
  opH Try.prog G (sv (Instr.fieldAt 70 v16 1)) h16 fun v17 h17 =>
  opH Try.prog G (sv (Instr.loadAt 68 v17)) h17 fun v18 h18 =>
  opH Try.prog G (sv (Instr.sliceAt 68 v18 none (some v8) none)) h18 fun v19 h19 =>
  opH Try.prog G (xNil (r 0)) h19 fun v20 h20 =>
  opH Try.prog G (sv (Instr.fieldAt 70 v20 1)) h20 fun v21 h21 =>
  opH Try.prog G (su (Instr.storeAt 68 v21 v19)) h21 fun v22 h22 =>
  opH Try.prog G (callFunc 41 #[(r 0), (.int .i64 0)]) h22 fun v23 h23 =>
  K .ret (upd (upd (upd (upd (upd (upd (upd (upd (upd (upd (upd (upd (upd (upd (upd (upd (upd (upd (upd (upd (upd (upd (upd (upd (upd (upd (upd (upd (upd (upd (upd r 15 (r 0)) 16 v4) 17 v5) 18 v6) 19 v7) 20 v8) 6 v8) 21 (r 0)) 22 v8) 23 v9) 24 (r 0)) 25 v10) 26 v11) 27 v12) 28 v8) 29 v13) 30 v14) 31 (r 0)) 32 (r 0)) 33 v16) 34 v17) 35 v18) 36 v8) 37 v19) 38 v20) 39 v21) 40 (r 0)) 41 v23) 42 (r 4)) 2 (r 4)) 3 (.bool true)) h23
def S20 (G : Hp) (K : Exit → Rg → Hp → Prop) (r : Rg) (h : Hp) : Prop :=
  opH Try.prog G (callFunc 21 #[(r 0)]) h fun v0 h0 =>
  opH Try.prog G (sv (Instr.extract v0 0)) h0 fun v1 h1 =>
  opH Try.prog G (sv (Instr.extract v0 1)) h1 fun v2 h2 =>
  opH Try.prog G (sv (Op.unary .not v2)) h2 fun v3 h3 =>
  cond v3
  (K .ret (upd (upd (upd (upd (upd (upd (upd (upd (upd (upd (upd (upd (upd (upd r 2 (.string ⟨#[]⟩)) 3 (.bool false)) 8 (r 0)) 9 v0) 7 v0) 10 v1) 11 v2) 4 v1) 5 v2) 12 v2) 13 v3) 14 v1) 2 v1) 3 (.bool false)) h3)
  (S20_k1 G K (upd (upd (upd (upd (upd (upd (upd (upd (upd (upd (upd r 2 (.string ⟨#[]⟩)) 3 (.bool false)) 8 (r 0)) 9 v0) 7 v0) 10 v1) 11 v2) 4 v1) 5 v2) 12 v2) 13 v3) h3)
theorem S20_eq (G : Hp) (K : Exit → Rg → Hp → Prop) (r : Rg) (h : Hp) : wpC Try.prog G 43 md20 (Try.f20.body.getD .skip) r h K = S20 G K r h := by kernel_rfl
theorem enter20 {G : Hp} {h : Hp} {args : Array Value} {R : Value → Hp → Prop} (hn : args.size ≤ 43) (H : S20 G (retK Try.prog G [.tmp 2, .tmp 3] R) (regs args) h) : HCalls Try.prog G 20 args h R :=
  HCalls.enter (md := md20) mixed Try.func20 rfl hn (by rw [← S20_eq] at H; exact H)

/-! 21: (*skep/heap.Heap[string]).Peek: params #[37], results #[9, 4] -/
def md21 : Nat → Hint
  | _ => ⟨false, [], [], [], [], false⟩
def S21_k1 (G : Hp) (K : Exit → Rg → Hp → Prop) (r : Rg) (h : Hp) : Prop :=
  opH Try.prog G (xNil (r 0)) h fun v8 h8 =>
  opH Try.prog G (sv (Instr.fieldAt 70 v8 1)) h8 fun v9 h9 =>
  opH Try.prog G (sv (Instr.loadAt 68 v9)) h9 fun v10 h10 =>
  opH Try.prog G (sv (Instr.indexAt 68 v10 (.int .i64 0))) h10 fun v11 h11 =>
  opH Try.prog G (sv (Instr.fieldAt 72 v11 0)) h11 fun v12 h12 =>
  opH Try.prog G (sv (Instr.loadAt 9 v12)) h12 fun v13 h13 =>
  K .ret (upd (upd (upd (upd (upd (upd (upd (upd (upd r 16 (r 0)) 17 v8) 18 v9) 19 v10) 20 v11) 21 v12) 22 v13) 2 v13) 3 (.bool true)) h13
def S21 (G : Hp) (K : Exit → Rg → Hp → Prop) (r : Rg) (h : Hp) : Prop :=
  opH Try.prog G (xEq .eql 37 (.tmp 0) (.const .nilFunc) (r 0) (.pointer none)) h fun v0 h0 =>
  gd (wantB v0 false) (fun K1 => K1 (r 0) h0) h0 fun v1 h1 =>
  gd (wantB v0 false) (opH Try.prog G (xNil v1) h1) h1 fun v2 h2 =>
  gd (wantB v0 false) (opH Try.prog G (sv (Instr.fieldAt 70 v2 1)) h2) h2 fun v3 h3 =>
  gd (wantB v0 false) (opH Try.prog G (sv (Instr.loadAt 68 v3)) h3) h3 fun v4 h4 =>
  gd (wantB v0 false) (opH Try.prog G (sv (Builtin.len_ #[68] 3 #[v4])) h4) h4 fun v5 h5 =>
  gd (wantB v0 false) (opH Try.prog G (xEq .eql 3 (.tmp 0) (.const .nilFunc) v5 (.int .i64 0)) h5) h5 fun v6 h6 =>
  opH Try.prog G (xPick v0 (.bool true) v6) h6 fun v7 h7 =>
  cond v7
  (K .ret (upd (upd (upd (upd (upd (upd (upd (upd (upd (upd (upd (upd (upd (upd (upd (upd r 2 (.string ⟨#[]⟩)) 3 (.bool false)) 5 (r 0)) 6 v0) 7 v0) 8 v1) 9 v2) 10 v3) 11 v4) 12 v5) 13 v6) 14 v7) 4 (.string ⟨#[]⟩)) 15 (.string ⟨#[]⟩)) 2 (.string ⟨#[]⟩)) 3 (.bool false)) h7)
  (S21_k1 G K (upd (upd (upd (upd (upd (upd (upd (upd (upd (upd (upd (upd r 2 (.string ⟨#[]⟩)) 3 (.bool false)) 5 (r 0)) 6 v0) 7 v0) 8 v1) 9 v2) 10 v3) 11 v4) 12 v5) 13 v6) 14 v7) h7)
theorem S21_eq (G : Hp) (K : Exit → Rg → Hp → Prop) (r : Rg) (h : Hp) : wpC Try.prog G 23 md21 (Try.f21.body.getD .skip) r h K = S21 G K r h := by kernel_rfl
theorem enter21 {G : Hp} {h : Hp} {args : Array Value} {R : Value → Hp → Prop} (hn : args.size ≤ 23) (H : S21 G (retK Try.prog G [.tmp 2, .tmp 3] R) (regs args) h) : HCalls Try.prog G 21 args h R :=
  HCalls.enter (md := md21) mixed Try.func21 rfl hn (by rw [← S21_eq] at H; exact H)

/-! 22: skep/skeplaw10.all: params #[24, 3], results #[44] -/
def md22 : Nat → Hint
  | _ => ⟨false, [], [], [], [], false⟩
def S22_k1 (G : Hp) (K : Exit → Rg → Hp → Prop) (r : Rg) (h : Hp) : Prop :=
  opH Try.prog G (sv (Instr.alloc 44 true (.tuple #[]))) h fun v6 h6 =>
  opH Try.prog G (xCallV (r 5) #[(.func (.func 43) #[] #[v6, (r 3)])]) h6 fun v7 h7 =>
  opH Try.prog G (sv (Instr.loadAt 44 v6)) h7 fun v8 h8 =>
  K .ret (upd (upd (upd (upd (upd (upd r 6 v6) 15 (r 5)) 16 (.func (.func 43) #[] #[v6, (r 3)])) 17 v7) 18 v8) 4 v8) h8
def S22 (G : Hp) (K : Exit → Rg → Hp → Prop) (r : Rg) (h : Hp) : Prop :=
  opH Try.prog G (sv (Instr.box 3 (r 1))) h fun v0 h0 =>
  opH Try.prog G (callFunc 42 #[(r 0)]) h0 fun v1 h1 =>
  opH Try.prog G (xEq .eql 74 (.tmp 0) (.const .nilFunc) v1 .nilFunc) h1 fun v2 h2 =>
  gd (wantB v2 false) (opH Try.prog G (sv (Instr.loadAt 3 v0)) h2) h2 fun v3 h3 =>
  gd (wantB v2 false) (opH Try.prog G (sv (binOp .lss 3 v3 (.int .i64 1))) h3) h3 fun v4 h4 =>
  opH Try.prog G (xPick v2 (.bool true) v4) h4 fun v5 h5 =>
  cond v5
  (K .ret (upd (upd (upd (upd (upd (upd (upd (upd (upd (upd (upd (upd r 3 v0) 4 (.slice none 0 0)) 7 (r 0)) 8 v1) 5 v1) 9 v1) 10 v2) 11 v2) 12 v3) 13 v4) 14 v5) 4 (.slice none 0 0)) h5)
  (S22_k1 G K (upd (upd (upd (upd (upd (upd (upd (upd (upd (upd (upd r 3 v0) 4 (.slice none 0 0)) 7 (r 0)) 8 v1) 5 v1) 9 v1) 10 v2) 11 v2) 12 v3) 13 v4) 14 v5) h5)
theorem S22_eq (G : Hp) (K : Exit → Rg → Hp → Prop) (r : Rg) (h : Hp) : wpC Try.prog G 19 md22 (Try.f22.body.getD .skip) r h K = S22 G K r h := by kernel_rfl
theorem enter22 {G : Hp} {h : Hp} {args : Array Value} {R : Value → Hp → Prop} (hn : args.size ≤ 19) (H : S22 G (retK Try.prog G [.tmp 4] R) (regs args) h) : HCalls Try.prog G 22 args h R :=
  HCalls.enter (md := md22) mixed Try.func22 rfl hn (by rw [← S22_eq] at H; exact H)

/-! 23: skep/skeplaw00.Place: params #[3, 3], results #[3] -/
def md23 : Nat → Hint
  | _ => ⟨false, [], [], [], [], false⟩
def S23_k1 (G : Hp) (K : Exit → Rg → Hp → Prop) (r : Rg) (h : Hp) : Prop :=
  K .ret (upd (upd r 14 (r 5)) 4 (r 5)) h
def S23 (G : Hp) (K : Exit → Rg → Hp → Prop) (r : Rg) (h : Hp) : Prop :=
  opH Try.prog G (sv (binOp .rem 3 (r 0) (r 1))) h fun v0 h0 =>
  opH Try.prog G (sv (binOp .lss 3 v0 (.int .i64 0))) h0 fun v1 h1 =>
  cond v1
  (opH Try.prog G (sv (binOp .add 3 v0 (r 1))) h1 fun v2 h2 =>
  S23_k1 G K (upd (upd (upd (upd (upd (upd (upd (upd (upd (upd (upd r 4 (.int .i64 0)) 6 (r 0)) 7 (r 1)) 8 v0) 5 v0) 9 v0) 10 v1) 11 v0) 12 (r 1)) 13 v2) 5 v2) h2)
  (S23_k1 G K (upd (upd (upd (upd (upd (upd (upd r 4 (.int .i64 0)) 6 (r 0)) 7 (r 1)) 8 v0) 5 v0) 9 v0) 10 v1) h1)
theorem S23_eq (G : Hp) (K : Exit → Rg → Hp → Prop) (r : Rg) (h : Hp) : wpC Try.prog G 15 md23 (Try.f23.body.getD .skip) r h K = S23 G K r h := by kernel_rfl
theorem enter23 {G : Hp} {h : Hp} {args : Array Value} {R : Value → Hp → Prop} (hn : args.size ≤ 15) (H : S23 G (retK Try.prog G [.tmp 4] R) (regs args) h) : HCalls Try.prog G 23 args h R :=
  HCalls.enter (md := md23) mixed Try.func23 rfl hn (by rw [← S23_eq] at H; exact H)

/-! 24: skep/skeplaw10.same: params #[44, 44], results #[4] -/
def md24 : Nat → Hint
  | 6 => ⟨false, [0, 0, 3, 7, 0, 0, 48, 112, 255], [.pureN, .pureN, .pureN, .pureM, .pureN, .pureN, .pureN, .pureM, .pureM], [.pureN, .pureN, .pureN, .pureM, .pureN, .pureN, .pureN, .pureM, .pureM], [false, false, false, false, false, false, false, false, false], false⟩
  | _ => ⟨false, [], [], [], [], false⟩
def S24_k2 (G : Hp) (K : Exit → Rg → Hp → Prop) (r : Rg) (h : Hp) : Prop :=
  K .ret (upd r 4 (.bool true)) h
def S24_l3_k5 (G : Hp) (K : Exit → Rg → Hp → Prop) (r : Rg) (h : Hp) : Prop :=
  opH Try.prog G (sv (binOp .add 3 (r 5) (.int .i64 1))) h fun v5 h5 =>
  K .normal (upd (upd (upd r 15 (r 5)) 16 v5) 5 v5) h5
def S24_l3_k4 (G : Hp) (K : Exit → Rg → Hp → Prop) (r : Rg) (h : Hp) : Prop :=
  pureW Try.prog noHp noHp (sv (Instr.indexAt 44 (r 0) (r 5))) h fun v6 h6 =>
  pureW Try.prog G h (sv (Instr.loadAt 27 v6)) h6 fun v7 h7 =>
  pureW Try.prog noHp noHp (sv (Instr.indexAt 44 (r 1) (r 5))) h7 fun v8 h8 =>
  pureW Try.prog G h (sv (Instr.loadAt 27 v8)) h8 fun v9 h9 =>
  pureW Try.prog G h (xEq .neq 27 (.tmp 0) (.tmp 0) v7 v9) h9 fun v10 h10 =>
  cond v10
  (K .ret (upd (upd (upd (upd (upd (upd (upd (upd (upd (upd r 17 (r 0)) 18 (r 5)) 19 v6) 20 v7) 21 (r 1)) 22 (r 5)) 23 v8) 24 v9) 25 v10) 4 (.bool false)) h10)
  (S24_l3_k5 G K (upd (upd (upd (upd (upd (upd (upd (upd (upd r 17 (r 0)) 18 (r 5)) 19 v6) 20 v7) 21 (r 1)) 22 (r 5)) 23 v8) 24 v9) 25 v10) h10)
def S24_l3 (G : Hp) (r : Rg) (h : Hp) (K : Exit → Rg → Hp → Prop) : Prop :=
  opH Try.prog G (sv (Builtin.len_ #[44] 3 #[(r 0)])) h fun v3 h3 =>
  opH Try.prog G (sv (binOp .lss 3 (r 5) v3)) h3 fun v4 h4 =>
  cond v4
  (S24_l3_k4 G K (upd (upd (upd (upd r 11 (r 5)) 12 (r 0)) 13 v3) 14 v4) h4)
  (K (.exit 0) (upd (upd (upd (upd r 11 (r 5)) 12 (r 0)) 13 v3) 14 v4) h4)
def S24_k1 (G : Hp) (K : Exit → Rg → Hp → Prop) (r : Rg) (h : Hp) : Prop :=
  loopP (S24_l3 G) (upd r 5 (.int .i64 0)) h (blockK 0 (thenK (S24_k2 G K) K))
def S24 (G : Hp) (K : Exit → Rg → Hp → Prop) (r : Rg) (h : Hp) : Prop :=
  opH Try.prog G (sv (Builtin.len_ #[44] 3 #[(r 0)])) h fun v0 h0 =>
  opH Try.prog G (sv (Builtin.len_ #[44] 3 #[(r 1)])) h0 fun v1 h1 =>
  opH Try.prog G (xEq .neq 3 (.tmp 0) (.tmp 0) v0 v1) h1 fun v2 h2 =>
  cond v2
  (K .ret (upd (upd (upd (upd (upd (upd (upd r 4 (.bool false)) 6 (r 0)) 7 v0) 8 (r 1)) 9 v1) 10 v2) 4 (.bool false)) h2)
  (S24_k1 G K (upd (upd (upd (upd (upd (upd r 4 (.bool false)) 6 (r 0)) 7 v0) 8 (r 1)) 9 v1) 10 v2) h2)
theorem S24_eq (G : Hp) (K : Exit → Rg → Hp → Prop) (r : Rg) (h : Hp) : wpC Try.prog G 26 md24 (Try.f24.body.getD .skip) r h K = S24 G K r h := by kernel_rfl
theorem enter24 {G : Hp} {h : Hp} {args : Array Value} {R : Value → Hp → Prop} (hn : args.size ≤ 26) (H : S24 G (retK Try.prog G [.tmp 4] R) (regs args) h) : HCalls Try.prog G 24 args h R :=
  HCalls.enter (md := md24) mixed Try.func24 rfl hn (by rw [← S24_eq] at H; exact H)

/-! 25: (*skep/heap.Heap[skep/skeplaw10.V]).Peek: params #[24], results #[27, 4] -/
def md25 : Nat → Hint
  | _ => ⟨false, [], [], [], [], false⟩
def S25_k1 (G : Hp) (K : Exit → Rg → Hp → Prop) (r : Rg) (h : Hp) : Prop :=
  opH Try.prog G (xNil (r 0)) h fun v9 h9 =>
  opH Try.prog G (sv (Instr.fieldAt 63 v9 1)) h9 fun v10 h10 =>
  opH Try.prog G (sv (Instr.loadAt 61 v10)) h10 fun v11 h11 =>
  opH Try.prog G (sv (Instr.indexAt 61 v11 (.int .i64 0))) h11 fun v12 h12 =>
  opH Try.prog G (sv (Instr.fieldAt 65 v12 0)) h12 fun v13 h13 =>
  opH Try.prog G (sv (Instr.loadAt 27 v13)) h13 fun v14 h14 =>
  opH Try.prog G (su (Instr.storeAt 27 (r 2) v14)) h14 fun v15 h15 =>
  K .ret (upd (upd (upd (upd (upd (upd (upd (upd r 16 (r 0)) 17 v9) 18 v10) 19 v11) 20 v12) 21 v13) 22 v14) 3 (.bool true)) h15
def S25 (G : Hp) (K : Exit → Rg → Hp → Prop) (r : Rg) (h : Hp) : Prop :=
  opH Try.prog G (sv (Instr.alloc 27 true (.tuple #[]))) h fun v0 h0 =>
  opH Try.prog G (xEq .eql 24 (.tmp 0) (.const .nilFunc) (r 0) (.pointer none)) h0 fun v1 h1 =>
  gd (wantB v1 false) (fun K1 => K1 (r 0) h1) h1 fun v2 h2 =>
  gd (wantB v1 false) (opH Try.prog G (xNil v2) h2) h2 fun v3 h3 =>
  gd (wantB v1 false) (opH Try.prog G (sv (Instr.fieldAt 63 v3 1)) h3) h3 fun v4 h4 =>
  gd (wantB v1 false) (opH Try.prog G (sv (Instr.loadAt 61 v4)) h4) h4 fun v5 h5 =>
  gd (wantB v1 false) (opH Try.prog G (sv (Builtin.len_ #[61] 3 #[v5])) h5) h5 fun v6 h6 =>
  gd (wantB v1 false) (opH Try.prog G (xEq .eql 3 (.tmp 0) (.const .nilFunc) v6 (.int .i64 0)) h6) h6 fun v7 h7 =>
  opH Try.prog G (xPick v1 (.bool true) v7) h7 fun v8 h8 =>
  cond v8
  (opH Try.prog G (sv (Instr.alloc 27 true (.tuple #[]))) h8 fun v16 h16 =>
  opH Try.prog G (sv (Instr.loadAt 27 v16)) h16 fun v17 h17 =>
  opH Try.prog G (su (Instr.storeAt 27 v0 v17)) h17 fun v18 h18 =>
  K .ret (upd (upd (upd (upd (upd (upd (upd (upd (upd (upd (upd (upd (upd (upd (upd r 2 v0) 3 (.bool false)) 5 (r 0)) 6 v1) 7 v1) 8 v2) 9 v3) 10 v4) 11 v5) 12 v6) 13 v7) 14 v8) 4 v16) 15 v17) 3 (.bool false)) h18)
  (S25_k1 G K (upd (upd (upd (upd (upd (upd (upd (upd (upd (upd (upd (upd r 2 v0) 3 (.bool false)) 5 (r 0)) 6 v1) 7 v1) 8 v2) 9 v3) 10 v4) 11 v5) 12 v6) 13 v7) 14 v8) h8)
theorem S25_eq (G : Hp) (K : Exit → Rg → Hp → Prop) (r : Rg) (h : Hp) : wpC Try.prog G 23 md25 (Try.f25.body.getD .skip) r h K = S25 G K r h := by kernel_rfl
theorem enter25 {G : Hp} {h : Hp} {args : Array Value} {R : Value → Hp → Prop} (hn : args.size ≤ 23) (H : S25 G (retK Try.prog G [.cell 2 27, .tmp 3] R) (regs args) h) : HCalls Try.prog G 25 args h R :=
  HCalls.enter (md := md25) mixed Try.func25 rfl hn (by rw [← S25_eq] at H; exact H)

/-! 26: (*skep/skepref10.H).Push: params #[51, 27], results #[] -/
def md26 : Nat → Hint
  | 1 => ⟨false, [0, 0, 2, 6, 14, 0, 32, 126, 255, 511, 1023], [.pureN, .pureN, .pureN, .pureN, .pureM, .pureM, .alloc, .eff, .pureN, .pureN, .store], [.pureN, .pureN, .pureN, .pureN, .pureM, .pureM, .alloc, .eff, .pureN, .pureN, .store], [false, false, false, false, false, false, false, false, false, false, false], false⟩
  | _ => ⟨false, [], [], [], [], false⟩
def S26 (G : Hp) (K : Exit → Rg → Hp → Prop) (r : Rg) (h : Hp) : Prop :=
  opH Try.prog G (sv (Instr.box 27 (r 1))) h fun v0 h0 =>
  pureW Try.prog noHp noHp (xNil (r 0)) h0 fun v1 h1 =>
  pureW Try.prog noHp noHp (sv (Instr.fieldAt 53 v1 0)) h1 fun v2 h2 =>
  pureW Try.prog G h0 (sv (Instr.loadAt 44 v2)) h2 fun v3 h3 =>
  pureW Try.prog G h0 (sv (Instr.loadAt 27 v0)) h3 fun v4 h4 =>
  opH Try.prog G (sv (Instr.buildSlice 44 1 #[(0, v4)])) h4 fun v5 h5 =>
  opH Try.prog G (sv (Builtin.append_ #[44, 44] 44 #[v3, v5])) h5 fun v6 h6 =>
  pureW Try.prog noHp noHp (xNil (r 0)) h6 fun v7 h7 =>
  pureW Try.prog noHp noHp (sv (Instr.fieldAt 53 v7 0)) h7 fun v8 h8 =>
  opH Try.prog G (su (Instr.storeAt 44 v8 v6)) h8 fun v9 h9 =>
  K .normal (upd (upd (upd (upd (upd (upd (upd (upd (upd (upd (upd r 3 v0) 4 (r 0)) 5 (r 0)) 6 v1) 7 v2) 8 v3) 9 v4) 10 v5) 11 v6) 12 v7) 13 v8) h9
theorem S26_eq (G : Hp) (K : Exit → Rg → Hp → Prop) (r : Rg) (h : Hp) : wpC Try.prog G 14 md26 (Try.f26.body.getD .skip) r h K = S26 G K r h := by kernel_rfl
theorem enter26 {G : Hp} {h : Hp} {args : Array Value} {R : Value → Hp → Prop} (hn : args.size ≤ 14) (H : S26 G (retK Try.prog G [] R) (regs args) h) : HCalls Try.prog G 26 args h R :=
  HCalls.enter (md := md26) mixed Try.func26 rfl hn (by rw [← S26_eq] at H; exact H)

/-! 27: (*skep/skepref10.H).Pop: params #[51], results #[27, 4] -/
def md27 : Nat → Hint
  | 5 => ⟨false, [0, 0, 2, 6, 14, 0, 62, 126, 0, 256, 768, 1792, 0, 4096, 16128, 32766, 65535, 131071, 262143], [.pureN, .pureN, .pureN, .pureN, .pureM, .pureN, .pureN, .eff, .pureN, .pureN, .pureN, .pureM, .pureN, .pureN, .pureN, .eff, .pureN, .pureN, .store], [.pureN, .pureN, .pureN, .pureN, .pureM, .pureN, .pureN, .eff, .pureN, .pureN, .pureN, .pureM, .pureN, .pureN, .pureN, .eff, .pureN, .pureN, .store], [false, false, false, false, false, false, false, true, false, false, false, false, false, false, false, false, false, false, false], false⟩
  | _ => ⟨false, [], [], [], [], false⟩
def S27_k1 (G : Hp) (K : Exit → Rg → Hp → Prop) (r : Rg) (h : Hp) : Prop :=
  opH Try.prog G (xNil (r 0)) h fun v3 h3 =>
  opH Try.prog G (sv (Instr.fieldAt 53 v3 0)) h3 fun v4 h4 =>
  opH Try.prog G (sv (Instr.loadAt 44 v4)) h4 fun v5 h5 =>
  opH Try.prog G (sv (Instr.indexAt 44 v5 (r 4))) h5 fun v6 h6 =>
  opH Try.prog G (sv (Instr.loadAt 27 v6)) h6 fun v7 h7 =>
  opH Try.prog G (sv (Instr.alloc 27 true (.tuple #[]))) h7 fun v8 h8 =>
  opH Try.prog G (su (Instr.storeAt 27 v8 v7)) h8 fun v9 h9 =>
  pureW Try.prog noHp noHp (xNil (r 0)) h9 fun v10 h10 =>
  pureW Try.prog noHp noHp (sv (Instr.fieldAt 53 v10 0)) h10 fun v11 h11 =>
  pureW Try.prog G h9 (sv (Instr.loadAt 44 v11)) h11 fun v12 h12 =>
  pureW Try.prog noHp noHp (sv (Instr.sliceAt 44 v12 none (some (r 4)) none)) h12 fun v13 h13 =>
  opH Try.prog G (sv (Builtin.append_ #[44, 44] 44 #[(.slice none 0 0), v13])) h13 fun v14 h14 => h9.le h14 ∧
  pureW Try.prog noHp noHp (xNil (r 0)) h14 fun v15 h15 =>
  pureW Try.prog noHp noHp (sv (Instr.fieldAt 53 v15 0)) h15 fun v16 h16 =>
  pureW Try.prog G h9 (sv (Instr.loadAt 44 v16)) h16 fun v17 h17 =>
  pureW Try.prog noHp noHp (sv (binOp .add 3 (r 4) (.int .i64 1))) h17 fun v18 h18 =>
  pureW Try.prog noHp noHp (sv (Instr.sliceAt 44 v17 (some v18) none none)) h18 fun v19 h19 =>
  opH Try.prog G (sv (Builtin.append_ #[44, 44] 44 #[v14, v19])) h19 fun v20 h20 =>
  pureW Try.prog noHp noHp (xNil (r 0)) h20 fun v21 h21 =>
  pureW Try.prog noHp noHp (sv (Instr.fieldAt 53 v21 0)) h21 fun v22 h22 =>
  opH Try.prog G (su (Instr.storeAt 44 v22 v20)) h22 fun v23 h23 =>
  opH Try.prog G (sv (Instr.loadAt 27 v8)) h23 fun v24 h24 =>
  opH Try.prog G (su (Instr.storeAt 27 (r 2) v24)) h24 fun v25 h25 =>
  K .ret (upd (upd (upd (upd (upd (upd (upd (upd (upd (upd (upd (upd (upd (upd (upd (upd (upd (upd (upd (upd (upd (upd (upd (upd (upd (upd (upd (upd r 11 (r 0)) 12 v3) 13 v4) 14 v5) 15 (r 4)) 16 v6) 17 v7) 5 v8) 18 (r 0)) 19 (r 0)) 20 v10) 21 v11) 22 v12) 23 (r 4)) 24 v13) 25 v14) 26 (r 0)) 27 v15) 28 v16) 29 v17) 30 (r 4)) 31 v18) 32 v19) 33 v20) 34 v21) 35 v22) 36 v24) 3 (.bool true)) h25
def S27 (G : Hp) (K : Exit → Rg → Hp → Prop) (r : Rg) (h : Hp) : Prop :=
  opH Try.prog G (sv (Instr.alloc 27 true (.tuple #[]))) h fun v0 h0 =>
  opH Try.prog G (callFunc 44 #[(r 0)]) h0 fun v1 h1 =>
  opH Try.prog G (sv (binOp .lss 3 v1 (.int .i64 0))) h1 fun v2 h2 =>
  cond v2
  (opH Try.prog G (sv (Instr.build 27 #[])) h2 fun v26 h26 =>
  opH Try.prog G (su (Instr.storeAt 27 v0 v26)) h26 fun v27 h27 =>
  K .ret (upd (upd (upd (upd (upd (upd (upd (upd (upd r 2 v0) 3 (.bool false)) 6 (r 0)) 7 v1) 4 v1) 8 v1) 9 v2) 10 v26) 3 (.bool false)) h27)
  (S27_k1 G K (upd (upd (upd (upd (upd (upd (upd r 2 v0) 3 (.bool false)) 6 (r 0)) 7 v1) 4 v1) 8 v1) 9 v2) h2)
theorem S27_eq (G : Hp) (K : Exit → Rg → Hp → Prop) (r : Rg) (h : Hp) : wpC Try.prog G 37 md27 (Try.f27.body.getD .skip) r h K = S27 G K r h := by kernel_rfl
theorem enter27 {G : Hp} {h : Hp} {args : Array Value} {R : Value → Hp → Prop} (hn : args.size ≤ 37) (H : S27 G (retK Try.prog G [.cell 2 27, .tmp 3] R) (regs args) h) : HCalls Try.prog G 27 args h R :=
  HCalls.enter (md := md27) mixed Try.func27 rfl hn (by rw [← S27_eq] at H; exact H)

/-! 28: (*skep/skepref10.H).Peek: params #[51], results #[27, 4] -/
def md28 : Nat → Hint
  | _ => ⟨false, [], [], [], [], false⟩
def S28_k1 (G : Hp) (K : Exit → Rg → Hp → Prop) (r : Rg) (h : Hp) : Prop :=
  opH Try.prog G (xNil (r 0)) h fun v3 h3 =>
  opH Try.prog G (sv (Instr.fieldAt 53 v3 0)) h3 fun v4 h4 =>
  opH Try.prog G (sv (Instr.loadAt 44 v4)) h4 fun v5 h5 =>
  opH Try.prog G (sv (Instr.indexAt 44 v5 (r 4))) h5 fun v6 h6 =>
  opH Try.prog G (sv (Instr.loadAt 27 v6)) h6 fun v7 h7 =>
  opH Try.prog G (su (Instr.storeAt 27 (r 2) v7)) h7 fun v8 h8 =>
  K .ret (upd (upd (upd (upd (upd (upd (upd (upd r 10 (r 0)) 11 v3) 12 v4) 13 v5) 14 (r 4)) 15 v6) 16 v7) 3 (.bool true)) h8
def S28 (G : Hp) (K : Exit → Rg → Hp → Prop) (r : Rg) (h : Hp) : Prop :=
  opH Try.prog G (sv (Instr.alloc 27 true (.tuple #[]))) h fun v0 h0 =>
  opH Try.prog G (callFunc 44 #[(r 0)]) h0 fun v1 h1 =>
  opH Try.prog G (sv (binOp .lss 3 v1 (.int .i64 0))) h1 fun v2 h2 =>
  cond v2
  (opH Try.prog G (sv (Instr.build 27 #[])) h2 fun v9 h9 =>
  opH Try.prog G (su (Instr.storeAt 27 v0 v9)) h9 fun v10 h10 =>
  K .ret (upd (upd (upd (upd (upd (upd (upd (upd (upd r 2 v0) 3 (.bool false)) 5 (r 0)) 6 v1) 4 v1) 7 v1) 8 v2) 9 v9) 3 (.bool false)) h10)
  (S28_k1 G K (upd (upd (upd (upd (upd (upd (upd r 2 v0) 3 (.bool false)) 5 (r 0)) 6 v1) 4 v1) 7 v1) 8 v2) h2)
theorem S28_eq (G : Hp) (K : Exit → Rg → Hp → Prop) (r : Rg) (h : Hp) : wpC Try.prog G 17 md28 (Try.f28.body.getD .skip) r h K = S28 G K r h := by kernel_rfl
theorem enter28 {G : Hp} {h : Hp} {args : Array Value} {R : Value → Hp → Prop} (hn : args.size ≤ 17) (H : S28 G (retK Try.prog G [.cell 2 27, .tmp 3] R) (regs args) h) : HCalls Try.prog G 28 args h R :=
  HCalls.enter (md := md28) mixed Try.func28 rfl hn (by rw [← S28_eq] at H; exact H)

/-! 29: (*skep/skepref10.H).All: params #[51], results #[44] -/
def md29 : Nat → Hint
  | _ => ⟨false, [], [], [], [], false⟩
def S29_l1_k2 (G : Hp) (K : Exit → Rg → Hp → Prop) (r : Rg) (h : Hp) : Prop :=
  opH Try.prog G (sv (Instr.loadAt 27 (r 5))) h fun v12 h12 =>
  opH Try.prog G (sv (Instr.buildSlice 44 1 #[(0, v12)])) h12 fun v13 h13 =>
  opH Try.prog G (sv (Builtin.append_ #[44, 44] 44 #[(r 4), v13])) h13 fun v14 h14 =>
  K .normal (upd (upd (upd (upd (upd r 22 (r 4)) 23 v12) 24 v13) 25 v14) 4 v14) h14
def S29_l1 (G : Hp) (r : Rg) (h : Hp) (K : Exit → Rg → Hp → Prop) : Prop :=
  opH Try.prog G (callFunc 27 #[(r 3)]) h fun v6 h6 =>
  opH Try.prog G (sv (Instr.extract v6 0)) h6 fun v7 h7 =>
  opH Try.prog G (sv (Instr.extract v6 1)) h7 fun v8 h8 =>
  opH Try.prog G (sv (Instr.alloc 27 true (.tuple #[]))) h8 fun v9 h9 =>
  opH Try.prog G (su (Instr.storeAt 27 v9 v7)) h9 fun v10 h10 =>
  opH Try.prog G (sv (Op.unary .not v8)) h10 fun v11 h11 =>
  cond v11
  (K .ret (upd (upd (upd (upd (upd (upd (upd (upd (upd (upd (upd r 15 (r 3)) 16 v6) 14 v6) 17 v7) 18 v8) 5 v9) 6 v8) 19 v8) 20 v11) 21 (r 4)) 2 (r 4)) h11)
  (S29_l1_k2 G K (upd (upd (upd (upd (upd (upd (upd (upd (upd r 15 (r 3)) 16 v6) 14 v6) 17 v7) 18 v8) 5 v9) 6 v8) 19 v8) 20 v11) h11)
def S29 (G : Hp) (K : Exit → Rg → Hp → Prop) (r : Rg) (h : Hp) : Prop :=
  opH Try.prog G (xNil (r 0)) h fun v0 h0 =>
  opH Try.prog G (sv (Instr.fieldAt 53 v0 0)) h0 fun v1 h1 =>
  opH Try.prog G (sv (Instr.loadAt 44 v1)) h1 fun v2 h2 =>
  opH Try.prog G (sv (Builtin.append_ #[44, 44] 44 #[(.slice none 0 0), v2])) h2 fun v3 h3 =>
  opH Try.prog G (sv (Instr.build 53 #[(0, v3)])) h3 fun v4 h4 =>
  opH Try.prog G (sv (Instr.box 53 v4)) h4 fun v5 h5 =>
  loopP (S29_l1 G) (upd (upd (upd (upd (upd (upd (upd (upd (upd (upd r 2 (.slice none 0 0)) 7 (r 0)) 8 v0) 9 v1) 10 v2) 11 v3) 12 v4) 13 v5) 3 v5) 4 (.slice none 0 0)) h5 (blockK 0 K)
theorem S29_eq (G : Hp) (K : Exit → Rg → Hp → Prop) (r : Rg) (h : Hp) : wpC Try.prog G 26 md29 (Try.f29.body.getD .skip) r h K = S29 G K r h := by kernel_rfl
theorem enter29 {G : Hp} {h : Hp} {args : Array Value} {R : Value → Hp → Prop} (hn : args.size ≤ 26) (H : S29 G (retK Try.prog G [.tmp 2] R) (regs args) h) : HCalls Try.prog G 29 args h R :=
  HCalls.enter (md := md29) mixed Try.func29 rfl hn (by rw [← S29_eq] at H; exact H)

/-! 30: (*skep/heap.Heap[skep/skeplaw10.V]).Drop: params #[24, 58], results #[3] -/
def md30 : Nat → Hint
  | _ => ⟨false, [], [], [], [], false⟩
def S30_k3 (G : Hp) (K : Exit → Rg → Hp → Prop) (r : Rg) (h : Hp) : Prop :=
  K .ret (upd (upd r 57 (r 8)) 4 (r 8)) h
def S30_l4_k6 (G : Hp) (K : Exit → Rg → Hp → Prop) (r : Rg) (h : Hp) : Prop :=
  opH Try.prog G (sv (binOp .sub 3 (r 9) (.int .i64 1))) h fun v21 h21 =>
  K .normal (upd (upd (upd r 52 (r 9)) 53 v21) 9 v21) h21
def S30_l4_k5 (G : Hp) (K : Exit → Rg → Hp → Prop) (r : Rg) (h : Hp) : Prop :=
  opH Try.prog G (callFunc 38 #[(r 0), (r 9)]) h fun v22 h22 =>
  S30_l4_k6 G K (upd (upd (upd r 54 (r 0)) 55 (r 9)) 56 v22) h22
def S30_l4 (G : Hp) (r : Rg) (h : Hp) (K : Exit → Rg → Hp → Prop) : Prop :=
  opH Try.prog G (sv (binOp .geq 3 (r 9) (.int .i64 0))) h fun v20 h20 =>
  cond v20
  (S30_l4_k5 G K (upd (upd r 50 (r 9)) 51 v20) h20)
  (K (.exit 2) (upd (upd r 50 (r 9)) 51 v20) h20)
def S30_k2 (G : Hp) (K : Exit → Rg → Hp → Prop) (r : Rg) (h : Hp) : Prop :=
  opH Try.prog G (xNil (r 0)) h fun v5 h5 =>
  opH Try.prog G (sv (Instr.fieldAt 63 v5 1)) h5 fun v6 h6 =>
  opH Try.prog G (sv (Instr.loadAt 61 v6)) h6 fun v7 h7 =>
  opH Try.prog G (sv (Builtin.len_ #[61] 3 #[v7])) h7 fun v8 h8 =>
  opH Try.prog G (sv (Builtin.len_ #[61] 3 #[(r 5)])) h8 fun v9 h9 =>
  opH Try.prog G (sv (binOp .sub 3 v8 v9)) h9 fun v10 h10 =>
  opH Try.prog G (xNil (r 0)) h10 fun v11 h11 =>
  opH Try.prog G (sv (Instr.fieldAt 63 v11 1)) h11 fun v12 h12 =>
  opH Try.prog G (su (Instr.storeAt 61 v12 (r 5))) h12 fun v13 h13 =>
  opH Try.prog G (xNil (r 0)) h13 fun v14 h14 =>
  opH Try.prog G (sv (Instr.fieldAt 63 v14 1)) h14 fun v15 h15 =>
  opH Try.prog G (sv (Instr.loadAt 61 v15)) h15 fun v16 h16 =>
  opH Try.prog G (sv (Builtin.len_ #[61] 3 #[v16])) h16 fun v17 h17 =>
  opH Try.prog G (sv (binOp .quo 3 v17 (.int .i64 2))) h17 fun v18 h18 =>
  opH Try.prog G (sv (binOp .sub 3 v18 (.int .i64 1))) h18 fun v19 h19 =>
  loopP (S30_l4 G) (upd (upd (upd (upd (upd (upd (upd (upd (upd (upd (upd (upd (upd (upd (upd (upd (upd (upd (upd (upd (upd r 31 (r 0)) 32 v5) 33 v6) 34 v7) 35 v8) 36 (r 5)) 37 v9) 38 v10) 8 v10) 39 (r 0)) 40 (r 5)) 41 v11) 42 v12) 43 (r 0)) 44 v14) 45 v15) 46 v16) 47 v17) 48 v18) 49 v19) 9 v19) h19 (blockK 2 (thenK (S30_k3 G K) K))
def S30_l7_k9 (G : Hp) (K : Exit → Rg → Hp → Prop) (r : Rg) (h : Hp) : Prop :=
  opH Try.prog G (sv (binOp .add 3 (r 17) (.int .i64 1))) h fun v24 h24 =>
  K .normal (upd (upd r 30 v24) 17 v24) h24
def S30_l7_k8 (G : Hp) (K : Exit → Rg → Hp → Prop) (r : Rg) (h : Hp) : Prop :=
  opH Try.prog G (sv (Instr.indexAt 61 (r 15) (r 17))) h fun v25 h25 =>
  opH Try.prog G (sv (Instr.loadAt 65 v25)) h25 fun v26 h26 =>
  opH Try.prog G (sv (Instr.alloc 65 true (.tuple #[]))) h26 fun v27 h27 =>
  opH Try.prog G (su (Instr.storeAt 65 v27 v26)) h27 fun v28 h28 =>
  opH Try.prog G (sv (Instr.fieldAt 65 v27 0)) h28 fun v29 h29 =>
  opH Try.prog G (sv (Instr.loadAt 27 v29)) h29 fun v30 h30 =>
  opH Try.prog G (xCallV (r 1) #[v30]) h30 fun v31 h31 =>
  opH Try.prog G (sv (Op.unary .not v31)) h31 fun v32 h32 =>
  cond v32
  (opH Try.prog G (sv (Instr.loadAt 65 v27)) h32 fun v33 h33 =>
  opH Try.prog G (sv (Instr.buildSlice 61 1 #[(0, v33)])) h33 fun v34 h34 =>
  opH Try.prog G (sv (Builtin.append_ #[61, 61] 61 #[(r 5), v34])) h34 fun v35 h35 =>
  S30_l7_k9 G K (upd (upd (upd (upd (upd (upd (upd (upd (upd (upd (upd (upd (upd r 19 v25) 20 v26) 7 v27) 21 (r 1)) 22 v29) 23 v30) 24 v31) 25 v32) 26 (r 5)) 27 v33) 28 v34) 29 v35) 5 v35) h35)
  (S30_l7_k9 G K (upd (upd (upd (upd (upd (upd (upd (upd r 19 v25) 20 v26) 7 v27) 21 (r 1)) 22 v29) 23 v30) 24 v31) 25 v32) h32)
def S30_l7 (G : Hp) (r : Rg) (h : Hp) (K : Exit → Rg → Hp → Prop) : Prop :=
  opH Try.prog G (sv (binOp .lss 3 (r 17) (r 16))) h fun v23 h23 =>
  cond v23
  (S30_l7_k8 G K (upd r 18 v23) h23)
  (K (.exit 0) (upd r 18 v23) h23)
def S30_k1 (G : Hp) (K : Exit → Rg → Hp → Prop) (r : Rg) (h : Hp) : Prop :=
  opH Try.prog G (xNil (r 0)) h fun v1 h1 =>
  opH Try.prog G (sv (Instr.fieldAt 63 v1 1)) h1 fun v2 h2 =>
  opH Try.prog G (sv (Instr.loadAt 61 v2)) h2 fun v3 h3 =>
  opH Try.prog G (sv (Builtin.len_ #[61] 3 #[v3])) h3 fun v4 h4 =>
  loopP (S30_l7 G) (upd (upd (upd (upd (upd (upd (upd r 5 (.slice none 0 0)) 12 (r 0)) 13 v1) 14 v2) 15 v3) 16 v4) 17 (.int .i64 0)) h4 (blockK 0 (thenK (S30_k2 G K) K))
def S30 (G : Hp) (K : Exit → Rg → Hp → Prop) (r : Rg) (h : Hp) : Prop :=
  opH Try.prog G (xEq .eql 24 (.tmp 0) (.const .nilFunc) (r 0) (.pointer none)) h fun v0 h0 =>
  cond v0
  (K .ret (upd (upd (upd (upd r 4 (.int .i64 0)) 10 (r 0)) 11 v0) 4 (.int .i64 0)) h0)
  (S30_k1 G K (upd (upd (upd r 4 (.int .i64 0)) 10 (r 0)) 11 v0) h0)
theorem S30_eq (G : Hp) (K : Exit → Rg → Hp → Prop) (r : Rg) (h : Hp) : wpC Try.prog G 58 md30 (Try.f30.body.getD .skip) r h K = S30 G K r h := by kernel_rfl
theorem enter30 {G : Hp} {h : Hp} {args : Array Value} {R : Value → Hp → Prop} (hn : args.size ≤ 58) (H : S30 G (retK Try.prog G [.tmp 4] R) (regs args) h) : HCalls Try.prog G 30 args h R :=
  HCalls.enter (md := md30) mixed Try.func30 rfl hn (by rw [← S30_eq] at H; exact H)

/-! 31: skep/skeplaw10.HeapPlays$1: params #[27], results #[4] -/
def md31 : Nat → Hint
  | _ => ⟨false, [], [], [], [], false⟩
def S31 (G : Hp) (K : Exit → Rg → Hp → Prop) (r : Rg) (h : Hp) : Prop :=
  opH Try.prog G (sv (Instr.box 27 (r 0))) h fun v0 h0 =>
  opH Try.prog G (sv (Instr.fieldAt 27 v0 1)) h0 fun v1 h1 =>
  opH Try.prog G (sv (Instr.loadAt 3 v1)) h1 fun v2 h2 =>
  opH Try.prog G (sv (binOp .rem 3 v2 (.int .i64 3))) h2 fun v3 h3 =>
  opH Try.prog G (sv (Instr.loadAt 3 (r 1))) h3 fun v4 h4 =>
  opH Try.prog G (xEq .eql 3 (.tmp 0) (.tmp 0) v3 v4) h4 fun v5 h5 =>
  K .ret (upd (upd (upd (upd (upd (upd (upd (upd r 2 v0) 3 (.bool false)) 4 v1) 5 v2) 6 v3) 7 v4) 8 v5) 3 v5) h5
theorem S31_eq (G : Hp) (K : Exit → Rg → Hp → Prop) (r : Rg) (h : Hp) : wpC Try.prog G 9 md31 (Try.f31.body.getD .skip) r h K = S31 G K r h := by kernel_rfl
theorem enter31 {G : Hp} {h : Hp} {args : Array Value} {R : Value → Hp → Prop} (hn : args.size ≤ 9) (H : S31 G (retK Try.prog G [.tmp 3] R) (regs args) h) : HCalls Try.prog G 31 args h R :=
  HCalls.enter (md := md31) mixed Try.func31 rfl hn (by rw [← S31_eq] at H; exact H)

/-! 32: (*skep/skepref10.H).Drop: params #[51, 3, 3], results #[3] -/
def md32 : Nat → Hint
  | _ => ⟨false, [], [], [], [], false⟩
def S32_k1 (G : Hp) (K : Exit → Rg → Hp → Prop) (r : Rg) (h : Hp) : Prop :=
  opH Try.prog G (xNil (r 0)) h fun v0 h0 =>
  opH Try.prog G (sv (Instr.fieldAt 53 v0 0)) h0 fun v1 h1 =>
  opH Try.prog G (su (Instr.storeAt 44 v1 (r 7))) h1 fun v2 h2 =>
  K .ret (upd (upd (upd (upd (upd (upd r 43 (r 0)) 44 (r 7)) 45 v0) 46 v1) 47 (r 8)) 6 (r 8)) h2
def S32_l2_k4 (G : Hp) (K : Exit → Rg → Hp → Prop) (r : Rg) (h : Hp) : Prop :=
  opH Try.prog G (sv (binOp .add 3 (r 9) (.int .i64 1))) h fun v8 h8 =>
  K .normal (upd (upd (upd r 17 (r 9)) 18 v8) 9 v8) h8
def S32_l2_k5 (G : Hp) (K : Exit → Rg → Hp → Prop) (r : Rg) (h : Hp) : Prop :=
  opH Try.prog G (xNil (r 0)) h fun v17 h17 =>
  opH Try.prog G (sv (Instr.fieldAt 53 v17 0)) h17 fun v18 h18 =>
  opH Try.prog G (sv (Instr.loadAt 44 v18)) h18 fun v19 h19 =>
  opH Try.prog G (sv (Instr.indexAt 44 v19 (r 9))) h19 fun v20 h20 =>
  opH Try.prog G (sv (Instr.loadAt 27 v20)) h20 fun v21 h21 =>
  opH Try.prog G (sv (Instr.buildSlice 44 1 #[(0, v21)])) h21 fun v22 h22 =>
  opH Try.prog G (sv (Builtin.append_ #[44, 44] 44 #[(r 7), v22])) h22 fun v23 h23 =>
  S32_l2_k4 G K (upd (upd (upd (upd (upd (upd (upd (upd (upd (upd (upd r 33 (r 7)) 34 (r 0)) 35 v17) 36 v18) 37 v19) 38 (r 9)) 39 v20) 40 v21) 41 v22) 42 v23) 7 v23) h23
def S32_l2_k3 (G : Hp) (K : Exit → Rg → Hp → Prop) (r : Rg) (h : Hp) : Prop :=
  opH Try.prog G (xNil (r 0)) h fun v9 h9 =>
  opH Try.prog G (sv (Instr.fieldAt 53 v9 0)) h9 fun v10 h10 =>
  opH Try.prog G (sv (Instr.loadAt 44 v10)) h10 fun v11 h11 =>
  opH Try.prog G (sv (Instr.indexAt 44 v11 (r 9))) h11 fun v12 h12 =>
  opH Try.prog G (sv (Instr.fieldAt 27 v12 1)) h12 fun v13 h13 =>
  opH Try.prog G (sv (Instr.loadAt 3 v13)) h13 fun v14 h14 =>
  opH Try.prog G (sv (binOp .rem 3 v14 (r 1))) h14 fun v15 h15 =>
  opH Try.prog G (xEq .eql 3 (.tmp 0) (.tmp 0) v15 (r 2)) h15 fun v16 h16 =>
  cond v16
  (opH Try.prog G (sv (binOp .add 3 (r 8) (.int .i64 1))) h16 fun v24 h24 =>
  S32_l2_k4 G K (upd (upd (upd (upd (upd (upd (upd (upd (upd (upd (upd (upd (upd (upd (upd r 19 (r 0)) 20 v9) 21 v10) 22 v11) 23 (r 9)) 24 v12) 25 v13) 26 v14) 27 (r 1)) 28 v15) 29 (r 2)) 30 v16) 31 (r 8)) 32 v24) 8 v24) h24)
  (S32_l2_k5 G K (upd (upd (upd (upd (upd (upd (upd (upd (upd (upd (upd (upd r 19 (r 0)) 20 v9) 21 v10) 22 v11) 23 (r 9)) 24 v12) 25 v13) 26 v14) 27 (r 1)) 28 v15) 29 (r 2)) 30 v16) h16)
def S32_l2 (G : Hp) (r : Rg) (h : Hp) (K : Exit → Rg → Hp → Prop) : Prop :=
  opH Try.prog G (xNil (r 0)) h fun v3 h3 =>
  opH Try.prog G (sv (Instr.fieldAt 53 v3 0)) h3 fun v4 h4 =>
  opH Try.prog G (sv (Instr.loadAt 44 v4)) h4 fun v5 h5 =>
  opH Try.prog G (sv (Builtin.len_ #[44] 3 #[v5])) h5 fun v6 h6 =>
  opH Try.prog G (sv (binOp .lss 3 (r 9) v6)) h6 fun v7 h7 =>
  cond v7
  (S32_l2_k3 G K (upd (upd (upd (upd (upd (upd (upd r 10 (r 9)) 11 (r 0)) 12 v3) 13 v4) 14 v5) 15 v6) 16 v7) h7)
  (K (.exit 0) (upd (upd (upd (upd (upd (upd (upd r 10 (r 9)) 11 (r 0)) 12 v3) 13 v4) 14 v5) 15 v6) 16 v7) h7)
def S32 (G : Hp) (K : Exit → Rg → Hp → Prop) (r : Rg) (h : Hp) : Prop :=
  loopP (S32_l2 G) (upd (upd (upd (upd r 6 (.int .i64 0)) 7 (.slice none 0 0)) 8 (.int .i64 0)) 9 (.int .i64 0)) h (blockK 0 (thenK (S32_k1 G K) K))
theorem S32_eq (G : Hp) (K : Exit → Rg → Hp → Prop) (r : Rg) (h : Hp) : wpC Try.prog G 48 md32 (Try.f32.body.getD .skip) r h K = S32 G K r h := by kernel_rfl
theorem enter32 {G : Hp} {h : Hp} {args : Array Value} {R : Value → Hp → Prop} (hn : args.size ≤ 48) (H : S32 G (retK Try.prog G [.tmp 6] R) (regs args) h) : HCalls Try.prog G 32 args h R :=
  HCalls.enter (md := md32) mixed Try.func32 rfl hn (by rw [← S32_eq] at H; exact H)

/-! 33: skep/skeplaw10.HeapDrops$1: params #[27], results #[4] -/
def md33 : Nat → Hint
  | _ => ⟨false, [], [], [], [], false⟩
def S33 (G : Hp) (K : Exit → Rg → Hp → Prop) (r : Rg) (h : Hp) : Prop :=
  opH Try.prog G (sv (Instr.box 27 (r 0))) h fun v0 h0 =>
  opH Try.prog G (sv (Instr.fieldAt 27 v0 1)) h0 fun v1 h1 =>
  opH Try.prog G (sv (Instr.loadAt 3 v1)) h1 fun v2 h2 =>
  opH Try.prog G (sv (Instr.loadAt 3 (r 1))) h2 fun v3 h3 =>
  opH Try.prog G (sv (binOp .rem 3 v2 v3)) h3 fun v4 h4 =>
  opH Try.prog G (xEq .eql 3 (.tmp 0) (.const .nilFunc) v4 (.int .i64 0)) h4 fun v5 h5 =>
  K .ret (upd (upd (upd (upd (upd (upd (upd (upd r 2 v0) 3 (.bool false)) 4 v1) 5 v2) 6 v3) 7 v4) 8 v5) 3 v5) h5
theorem S33_eq (G : Hp) (K : Exit → Rg → Hp → Prop) (r : Rg) (h : Hp) : wpC Try.prog G 9 md33 (Try.f33.body.getD .skip) r h K = S33 G K r h := by kernel_rfl
theorem enter33 {G : Hp} {h : Hp} {args : Array Value} {R : Value → Hp → Prop} (hn : args.size ≤ 9) (H : S33 G (retK Try.prog G [.tmp 3] R) (regs args) h) : HCalls Try.prog G 33 args h R :=
  HCalls.enter (md := md33) mixed Try.func33 rfl hn (by rw [← S33_eq] at H; exact H)

/-! 34: skep/skeplaw10.HeapDrops$2: params #[27], results #[4] -/
def md34 : Nat → Hint
  | _ => ⟨false, [], [], [], [], false⟩
def S34 (G : Hp) (K : Exit → Rg → Hp → Prop) (r : Rg) (h : Hp) : Prop :=
  opH Try.prog G (sv (Instr.box 27 (r 0))) h fun v0 h0 =>
  opH Try.prog G (sv (Instr.fieldAt 27 v0 1)) h0 fun v1 h1 =>
  opH Try.prog G (sv (Instr.loadAt 3 v1)) h1 fun v2 h2 =>
  opH Try.prog G (sv (Instr.loadAt 3 (r 1))) h2 fun v3 h3 =>
  opH Try.prog G (sv (binOp .rem 3 v2 v3)) h3 fun v4 h4 =>
  opH Try.prog G (xEq .eql 3 (.tmp 0) (.const .nilFunc) v4 (.int .i64 0)) h4 fun v5 h5 =>
  K .ret (upd (upd (upd (upd (upd (upd (upd (upd r 2 v0) 3 (.bool false)) 4 v1) 5 v2) 6 v3) 7 v4) 8 v5) 3 v5) h5
theorem S34_eq (G : Hp) (K : Exit → Rg → Hp → Prop) (r : Rg) (h : Hp) : wpC Try.prog G 9 md34 (Try.f34.body.getD .skip) r h K = S34 G K r h := by kernel_rfl
theorem enter34 {G : Hp} {h : Hp} {args : Array Value} {R : Value → Hp → Prop} (hn : args.size ≤ 9) (H : S34 G (retK Try.prog G [.tmp 3] R) (regs args) h) : HCalls Try.prog G 34 args h R :=
  HCalls.enter (md := md34) mixed Try.func34 rfl hn (by rw [← S34_eq] at H; exact H)

/-! 35: skep/skeplaw10.HeapTwo$1: params #[27], results #[4] -/
def md35 : Nat → Hint
  | _ => ⟨false, [], [], [], [], false⟩
def S35 (G : Hp) (K : Exit → Rg → Hp → Prop) (r : Rg) (h : Hp) : Prop :=
  opH Try.prog G (sv (Instr.box 27 (r 0))) h fun v0 h0 =>
  opH Try.prog G (sv (Instr.fieldAt 27 v0 0)) h0 fun v1 h1 =>
  opH Try.prog G (sv (Instr.loadAt 3 v1)) h1 fun v2 h2 =>
  opH Try.prog G (sv (binOp .rem 3 v2 (.int .i64 2))) h2 fun v3 h3 =>
  opH Try.prog G (xEq .eql 3 (.tmp 0) (.const .nilFunc) v3 (.int .i64 0)) h3 fun v4 h4 =>
  K .ret (upd (upd (upd (upd (upd (upd (upd r 1 v0) 2 (.bool false)) 3 v1) 4 v2) 5 v3) 6 v4) 2 v4) h4
theorem S35_eq (G : Hp) (K : Exit → Rg → Hp → Prop) (r : Rg) (h : Hp) : wpC Try.prog G 7 md35 (Try.f35.body.getD .skip) r h K = S35 G K r h := by kernel_rfl
theorem enter35 {G : Hp} {h : Hp} {args : Array Value} {R : Value → Hp → Prop} (hn : args.size ≤ 7) (H : S35 G (retK Try.prog G [.tmp 2] R) (regs args) h) : HCalls Try.prog G 35 args h R :=
  HCalls.enter (md := md35) mixed Try.func35 rfl hn (by rw [← S35_eq] at H; exact H)

/-! 36: (*skep/heap.Heap[skep/skeplaw10.V]).up: params #[24, 3], results #[] -/
def md36 : Nat → Hint
  | _ => ⟨false, [], [], [], [], false⟩
def S36_l1_k2 (G : Hp) (K : Exit → Rg → Hp → Prop) (r : Rg) (h : Hp) : Prop :=
  opH Try.prog G (sv (binOp .sub 3 (r 1) (.int .i64 1))) h fun v8 h8 =>
  opH Try.prog G (sv (binOp .quo 3 v8 (.int .i64 2))) h8 fun v9 h9 =>
  opH Try.prog G (callFunc 37 #[(r 0), (r 1), v9]) h9 fun v10 h10 =>
  opH Try.prog G (sv (binOp .sub 3 (r 1) (.int .i64 1))) h10 fun v11 h11 =>
  opH Try.prog G (sv (binOp .quo 3 v11 (.int .i64 2))) h11 fun v12 h12 =>
  K .normal (upd (upd (upd (upd (upd (upd (upd (upd (upd (upd r 14 (r 0)) 15 (r 1)) 16 (r 1)) 17 v8) 18 v9) 19 v10) 20 (r 1)) 21 v11) 22 v12) 1 v12) h12
def S36_l1 (G : Hp) (r : Rg) (h : Hp) (K : Exit → Rg → Hp → Prop) : Prop :=
  opH Try.prog G (sv (binOp .gtr 3 (r 1) (.int .i64 0))) h fun v0 h0 =>
  gd (wantB v0 true) (fun K1 => K1 (r 0) h0) h0 fun v1 h1 =>
  gd (wantB v0 true) (fun K1 => K1 (r 1) h1) h1 fun v2 h2 =>
  gd (wantB v0 true) (fun K1 => K1 (r 1) h2) h2 fun v3 h3 =>
  gd (wantB v0 true) (opH Try.prog G (sv (binOp .sub 3 v3 (.int .i64 1))) h3) h3 fun v4 h4 =>
  gd (wantB v0 true) (opH Try.prog G (sv (binOp .quo 3 v4 (.int .i64 2))) h4) h4 fun v5 h5 =>
  gd (wantB v0 true) (opH Try.prog G (callFunc 45 #[v1, v2, v5]) h5) h5 fun v6 h6 =>
  opH Try.prog G (xPick v0 v6 (.bool false)) h6 fun v7 h7 =>
  cond v7
  (S36_l1_k2 G K (upd (upd (upd (upd (upd (upd (upd (upd (upd (upd r 4 (r 1)) 5 v0) 6 v0) 7 v1) 8 v2) 9 v3) 10 v4) 11 v5) 12 v6) 13 v7) h7)
  (K (.exit 0) (upd (upd (upd (upd (upd (upd (upd (upd (upd (upd r 4 (r 1)) 5 v0) 6 v0) 7 v1) 8 v2) 9 v3) 10 v4) 11 v5) 12 v6) 13 v7) h7)
def S36 (G : Hp) (K : Exit → Rg → Hp → Prop) (r : Rg) (h : Hp) : Prop :=
  loopP (S36_l1 G) r h (blockK 0 K)
theorem S36_eq (G : Hp) (K : Exit → Rg → Hp → Prop) (r : Rg) (h : Hp) : wpC Try.prog G 23 md36 (Try.f36.body.getD .skip) r h K = S36 G K r h := by kernel_rfl
theorem enter36 {G : Hp} {h : Hp} {args : Array Value} {R : Value → Hp → Prop} (hn : args.size ≤ 23) (H : S36 G (retK Try.prog G [] R) (regs args) h) : HCalls Try.prog G 36 args h R :=
  HCalls.enter (md := md36) mixed Try.func36 rfl hn (by rw [← S36_eq] at H; exact H)

/-! 37: (*skep/heap.Heap[skep/skeplaw10.V]).swap: params #[24, 3, 3], results #[] -/
def md37 : Nat → Hint
  | 0 => ⟨false, [0, 1, 3, 7, 0, 0, 32, 96, 224, 0, 0, 1024, 3072, 7168, 0, 31744, 64512, 0, 131072, 393216, 917504, 0, 4063232, 8257536, 16776703, 33553919, 67108863, 134217727], [.pureN, .pureN, .pureN, .pureM, .pureN, .pureN, .pureN, .pureN, .pureM, .pureN, .pureN, .pureN, .pureN, .pureM, .pureN, .pureN, .pureM, .pureN, .pureN, .pureN, .pureM, .pureN, .pureN, .pureM, .pureN, .store, .pureN, .store], [.pureN, .pureN, .pureN, .pureM, .pureN, .pureN, .pureN, .pureN, .pureM, .pureN, .pureN, .pureN, .pureN, .pureM, .pureN, .pureN, .pureM, .pureN, .pureN, .pureN, .pureM, .pureN, .pureN, .pureM, .pureN, .store, .pureN, .store], [false, false, false, false, false, false, false, false, false, false, false, false, false, false, false, false, false, false, false, false, false, false, false, false, false, false, false, false], false⟩
  | _ => ⟨false, [], [], [], [], false⟩
def S37 (G : Hp) (K : Exit → Rg → Hp → Prop) (r : Rg) (h : Hp) : Prop :=
  pureW Try.prog noHp noHp (xNil (r 0)) h fun v0 h0 =>
  pureW Try.prog noHp noHp (sv (Instr.fieldAt 63 v0 1)) h0 fun v1 h1 =>
  pureW Try.prog G h (sv (Instr.loadAt 61 v1)) h1 fun v2 h2 =>
  pureW Try.prog noHp noHp (xNil (r 0)) h2 fun v3 h3 =>
  pureW Try.prog noHp noHp (sv (Instr.fieldAt 63 v3 1)) h3 fun v4 h4 =>
  pureW Try.prog G h (sv (Instr.loadAt 61 v4)) h4 fun v5 h5 =>
  pureW Try.prog noHp noHp (xNil (r 0)) h5 fun v6 h6 =>
  pureW Try.prog noHp noHp (sv (Instr.fieldAt 63 v6 1)) h6 fun v7 h7 =>
  pureW Try.prog G h (sv (Instr.loadAt 61 v7)) h7 fun v8 h8 =>
  pureW Try.prog noHp noHp (sv (Instr.indexAt 61 v8 (r 2))) h8 fun v9 h9 =>
  pureW Try.prog G h (sv (Instr.loadAt 65 v9)) h9 fun v10 h10 =>
  pureW Try.prog noHp noHp (xNil (r 0)) h10 fun v11 h11 =>
  pureW Try.prog noHp noHp (sv (Instr.fieldAt 63 v11 1)) h11 fun v12 h12 =>
  pureW Try.prog G h (sv (Instr.loadAt 61 v12)) h12 fun v13 h13 =>
  pureW Try.prog noHp noHp (sv (Instr.indexAt 61 v13 (r 1))) h13 fun v14 h14 =>
  pureW Try.prog G h (sv (Instr.loadAt 65 v14)) h14 fun v15 h15 =>
  pureW Try.prog noHp noHp (sv (Instr.indexAt 61 v2 (r 1))) h15 fun v16 h16 =>
  opH Try.prog G (su (Instr.storeAt 65 v16 v10)) h16 fun v17 h17 =>
  pureW Try.prog noHp noHp (sv (Instr.indexAt 61 v5 (r 2))) h17 fun v18 h18 =>
  opH Try.prog G (su (Instr.storeAt 65 v18 v15)) h18 fun v19 h19 =>
  K .normal (upd (upd (upd (upd (upd (upd (upd (upd (upd (upd (upd (upd (upd (upd (upd (upd (upd (upd (upd (upd (upd (upd (upd (upd (upd (upd r 6 (r 0)) 7 v0) 8 v1) 9 v2) 10 (r 1)) 11 (r 0)) 12 v3) 13 v4) 14 v5) 15 (r 2)) 16 (r 0)) 17 v6) 18 v7) 19 v8) 20 (r 2)) 21 v9) 22 v10) 23 (r 0)) 24 v11) 25 v12) 26 v13) 27 (r 1)) 28 v14) 29 v15) 30 v16) 31 v18) h19
theorem S37_eq (G : Hp) (K : Exit → Rg → Hp → Prop) (r : Rg) (h : Hp) : wpC Try.prog G 32 md37 (Try.f37.body.getD .skip) r h K = S37 G K r h := by kernel_rfl
theorem enter37 {G : Hp} {h : Hp} {args : Array Value} {R : Value → Hp → Prop} (hn : args.size ≤ 32) (H : S37 G (retK Try.prog G [] R) (regs args) h) : HCalls Try.prog G 37 args h R :=
  HCalls.enter (md := md37) mixed Try.func37 rfl hn (by rw [← S37_eq] at H; exact H)

/-! 38: (*skep/heap.Heap[skep/skeplaw10.V]).down: params #[24, 3], results #[] -/
def md38 : Nat → Hint
  | _ => ⟨false, [], [], [], [], false⟩
def S38_l1_k3 (G : Hp) (K : Exit → Rg → Hp → Prop) (r : Rg) (h : Hp) : Prop :=
  opH Try.prog G (callFunc 37 #[(r 0), (r 1), (r 4)]) h fun v6 h6 =>
  K .normal (upd (upd (upd (upd (upd (upd r 36 (r 0)) 37 (r 1)) 38 (r 4)) 39 v6) 40 (r 4)) 1 (r 4)) h6
def S38_l1_k2 (G : Hp) (K : Exit → Rg → Hp → Prop) (r : Rg) (h : Hp) : Prop :=
  opH Try.prog G (xEq .eql 3 (.tmp 0) (.tmp 0) (r 4) (r 1)) h fun v5 h5 =>
  cond v5
  (K .ret (upd (upd (upd r 33 (r 4)) 34 (r 1)) 35 v5) h5)
  (S38_l1_k3 G K (upd (upd (upd r 33 (r 4)) 34 (r 1)) 35 v5) h5)
def S38_l1_l4_k6 (G : Hp) (K : Exit → Rg → Hp → Prop) (r : Rg) (h : Hp) : Prop :=
  opH Try.prog G (sv (binOp .add 3 (r 15) (.int .i64 1))) h fun v8 h8 =>
  K .normal (upd (upd r 32 v8) 15 v8) h8
def S38_l1_l4_k5 (G : Hp) (K : Exit → Rg → Hp → Prop) (r : Rg) (h : Hp) : Prop :=
  opH Try.prog G (sv (Instr.index 77 (r 14) (r 15))) h fun v9 h9 =>
  opH Try.prog G (xNil (r 0)) h9 fun v10 h10 =>
  opH Try.prog G (sv (Instr.fieldAt 63 v10 1)) h10 fun v11 h11 =>
  opH Try.prog G (sv (Instr.loadAt 61 v11)) h11 fun v12 h12 =>
  opH Try.prog G (sv (Builtin.len_ #[61] 3 #[v12])) h12 fun v13 h13 =>
  opH Try.prog G (sv (binOp .lss 3 v9 v13)) h13 fun v14 h14 =>
  gd (wantB v14 true) (fun K1 => K1 (r 0) h14) h14 fun v15 h15 =>
  gd (wantB v14 true) (fun K1 => K1 v9 h15) h15 fun v16 h16 =>
  gd (wantB v14 true) (fun K1 => K1 (r 4) h16) h16 fun v17 h17 =>
  gd (wantB v14 true) (opH Try.prog G (callFunc 45 #[v15, v16, v17]) h17) h17 fun v18 h18 =>
  opH Try.prog G (xPick v14 v18 (.bool false)) h18 fun v19 h19 =>
  cond v19
  (S38_l1_l4_k6 G K (upd (upd (upd (upd (upd (upd (upd (upd (upd (upd (upd (upd (upd (upd (upd (upd (upd r 17 v9) 6 v9) 18 v9) 19 (r 0)) 20 v10) 21 v11) 22 v12) 23 v13) 24 v14) 25 v14) 26 v15) 27 v16) 28 v17) 29 v18) 30 v19) 31 v9) 4 v9) h19)
  (S38_l1_l4_k6 G K (upd (upd (upd (upd (upd (upd (upd (upd (upd (upd (upd (upd (upd (upd (upd r 17 v9) 6 v9) 18 v9) 19 (r 0)) 20 v10) 21 v11) 22 v12) 23 v13) 24 v14) 25 v14) 26 v15) 27 v16) 28 v17) 29 v18) 30 v19) h19)
def S38_l1_l4 (G : Hp) (r : Rg) (h : Hp) (K : Exit → Rg → Hp → Prop) : Prop :=
  opH Try.prog G (sv (binOp .lss 3 (r 15) (.int .i64 2))) h fun v7 h7 =>
  cond v7
  (S38_l1_l4_k5 G K (upd r 16 v7) h7)
  (K (.exit 2) (upd r 16 v7) h7)
def S38_l1 (G : Hp) (r : Rg) (h : Hp) (K : Exit → Rg → Hp → Prop) : Prop :=
  opH Try.prog G (sv (binOp .mul 3 (.int .i64 2) (r 1))) h fun v0 h0 =>
  opH Try.prog G (sv (binOp .add 3 v0 (.int .i64 1))) h0 fun v1 h1 =>
  opH Try.prog G (sv (binOp .mul 3 (.int .i64 2) (r 1))) h1 fun v2 h2 =>
  opH Try.prog G (sv (binOp .add 3 v2 (.int .i64 2))) h2 fun v3 h3 =>
  opH Try.prog G (sv (Instr.build 77 #[(0, v1), (1, v3)])) h3 fun v4 h4 =>
  loopP (S38_l1_l4 G) (upd (upd (upd (upd (upd (upd (upd (upd (upd (upd r 7 (r 1)) 4 (r 1)) 8 (r 1)) 9 v0) 10 v1) 11 (r 1)) 12 v2) 13 v3) 14 v4) 15 (.int .i64 0)) h4 (blockK 2 (thenK (S38_l1_k2 G K) (blockK 1 K)))
def S38 (G : Hp) (K : Exit → Rg → Hp → Prop) (r : Rg) (h : Hp) : Prop :=
  loopP (S38_l1 G) r h (blockK 0 K)
theorem S38_eq (G : Hp) (K : Exit → Rg → Hp → Prop) (r : Rg) (h : Hp) : wpC Try.prog G 41 md38 (Try.f38.body.getD .skip) r h K = S38 G K r h := by kernel_rfl
theorem enter38 {G : Hp} {h : Hp} {args : Array Value} {R : Value → Hp → Prop} (hn : args.size ≤ 41) (H : S38 G (retK Try.prog G [] R) (regs args) h) : HCalls Try.prog G 38 args h R :=
  HCalls.enter (md := md38) mixed Try.func38 rfl hn (by rw [← S38_eq] at H; exact H)

/-! 39: (*skep/heap.Heap[string]).up: params #[37, 3], results #[] -/
def md39 : Nat → Hint
  | _ => ⟨false, [], [], [], [], false⟩
def S39_l1_k2 (G : Hp) (K : Exit → Rg → Hp → Prop) (r : Rg) (h : Hp) : Prop :=
  opH Try.prog G (sv (binOp .sub 3 (r 1) (.int .i64 1))) h fun v8 h8 =>
  opH Try.prog G (sv (binOp .quo 3 v8 (.int .i64 2))) h8 fun v9 h9 =>
  opH Try.prog G (callFunc 40 #[(r 0), (r 1), v9]) h9 fun v10 h10 =>
  opH Try.prog G (sv (binOp .sub 3 (r 1) (.int .i64 1))) h10 fun v11 h11 =>
  opH Try.prog G (sv (binOp .quo 3 v11 (.int .i64 2))) h11 fun v12 h12 =>
  K .normal (upd (upd (upd (upd (upd (upd (upd (upd (upd (upd r 14 (r 0)) 15 (r 1)) 16 (r 1)) 17 v8) 18 v9) 19 v10) 20 (r 1)) 21 v11) 22 v12) 1 v12) h12
def S39_l1 (G : Hp) (r : Rg) (h : Hp) (K : Exit → Rg → Hp → Prop) : Prop :=
  opH Try.prog G (sv (binOp .gtr 3 (r 1) (.int .i64 0))) h fun v0 h0 =>
  gd (wantB v0 true) (fun K1 => K1 (r 0) h0) h0 fun v1 h1 =>
  gd (wantB v0 true) (fun K1 => K1 (r 1) h1) h1 fun v2 h2 =>
  gd (wantB v0 true) (fun K1 => K1 (r 1) h2) h2 fun v3 h3 =>
  gd (wantB v0 true) (opH Try.prog G (sv (binOp .sub 3 v3 (.int .i64 1))) h3) h3 fun v4 h4 =>
  gd (wantB v0 true) (opH Try.prog G (sv (binOp .quo 3 v4 (.int .i64 2))) h4) h4 fun v5 h5 =>
  gd (wantB v0 true) (opH Try.prog G (callFunc 46 #[v1, v2, v5]) h5) h5 fun v6 h6 =>
  opH Try.prog G (xPick v0 v6 (.bool false)) h6 fun v7 h7 =>
  cond v7
  (S39_l1_k2 G K (upd (upd (upd (upd (upd (upd (upd (upd (upd (upd r 4 (r 1)) 5 v0) 6 v0) 7 v1) 8 v2) 9 v3) 10 v4) 11 v5) 12 v6) 13 v7) h7)
  (K (.exit 0) (upd (upd (upd (upd (upd (upd (upd (upd (upd (upd r 4 (r 1)) 5 v0) 6 v0) 7 v1) 8 v2) 9 v3) 10 v4) 11 v5) 12 v6) 13 v7) h7)
def S39 (G : Hp) (K : Exit → Rg → Hp → Prop) (r : Rg) (h : Hp) : Prop :=
  loopP (S39_l1 G) r h (blockK 0 K)
theorem S39_eq (G : Hp) (K : Exit → Rg → Hp → Prop) (r : Rg) (h : Hp) : wpC Try.prog G 23 md39 (Try.f39.body.getD .skip) r h K = S39 G K r h := by kernel_rfl
theorem enter39 {G : Hp} {h : Hp} {args : Array Value} {R : Value → Hp → Prop} (hn : args.size ≤ 23) (H : S39 G (retK Try.prog G [] R) (regs args) h) : HCalls Try.prog G 39 args h R :=
  HCalls.enter (md := md39) mixed Try.func39 rfl hn (by rw [← S39_eq] at H; exact H)

/-! 40: (*skep/heap.Heap[string]).swap: params #[37, 3, 3], results #[] -/
def md40 : Nat → Hint
  | 0 => ⟨false, [0, 1, 3, 7, 0, 0, 32, 96, 224, 0, 0, 1024, 3072, 7168, 0, 31744, 64512, 0, 131072, 393216, 917504, 0, 4063232, 8257536, 16776703, 33553919, 67108863, 134217727], [.pureN, .pureN, .pureN, .pureM, .pureN, .pureN, .pureN, .pureN, .pureM, .pureN, .pureN, .pureN, .pureN, .pureM, .pureN, .pureN, .pureM, .pureN, .pureN, .pureN, .pureM, .pureN, .pureN, .pureM, .pureN, .store, .pureN, .store], [.pureN, .pureN, .pureN, .pureM, .pureN, .pureN, .pureN, .pureN, .pureM, .pureN, .pureN, .pureN, .pureN, .pureM, .pureN, .pureN, .pureM, .pureN, .pureN, .pureN, .pureM, .pureN, .pureN, .pureM, .pureN, .store, .pureN, .store], [false, false, false, false, false, false, false, false, false, false, false, false, false, false, false, false, false, false, false, false, false, false, false, false, false, false, false, false], false⟩
  | _ => ⟨false, [], [], [], [], false⟩
def S40 (G : Hp) (K : Exit → Rg → Hp → Prop) (r : Rg) (h : Hp) : Prop :=
  pureW Try.prog noHp noHp (xNil (r 0)) h fun v0 h0 =>
  pureW Try.prog noHp noHp (sv (Instr.fieldAt 70 v0 1)) h0 fun v1 h1 =>
  pureW Try.prog G h (sv (Instr.loadAt 68 v1)) h1 fun v2 h2 =>
  pureW Try.prog noHp noHp (xNil (r 0)) h2 fun v3 h3 =>
  pureW Try.prog noHp noHp (sv (Instr.fieldAt 70 v3 1)) h3 fun v4 h4 =>
  pureW Try.prog G h (sv (Instr.loadAt 68 v4)) h4 fun v5 h5 =>
  pureW Try.prog noHp noHp (xNil (r 0)) h5 fun v6 h6 =>
  pureW Try.prog noHp noHp (sv (Instr.fieldAt 70 v6 1)) h6 fun v7 h7 =>
  pureW Try.prog G h (sv (Instr.loadAt 68 v7)) h7 fun v8 h8 =>
  pureW Try.prog noHp noHp (sv (Instr.indexAt 68 v8 (r 2))) h8 fun v9 h9 =>
  pureW Try.prog G h (sv (Instr.loadAt 72 v9)) h9 fun v10 h10 =>
  pureW Try.prog noHp noHp (xNil (r 0)) h10 fun v11 h11 =>
  pureW Try.prog noHp noHp (sv (Instr.fieldAt 70 v11 1)) h11 fun v12 h12 =>
  pureW Try.prog G h (sv (Instr.loadAt 68 v12)) h12 fun v13 h13 =>
  pureW Try.prog noHp noHp (sv (Instr.indexAt 68 v13 (r 1))) h13 fun v14 h14 =>
  pureW Try.prog G h (sv (Instr.loadAt 72 v14)) h14 fun v15 h15 =>
  pureW Try.prog noHp noHp (sv (Instr.indexAt 68 v2 (r 1))) h15 fun v16 h16 =>
  opH Try.prog G (su (Instr.storeAt 72 v16 v10)) h16 fun v17 h17 =>
  pureW Try.prog noHp noHp (sv (Instr.indexAt 68 v5 (r 2))) h17 fun v18 h18 =>
  opH Try.prog G (su (Instr.storeAt 72 v18 v15)) h18 fun v19 h19 =>
  K .normal (upd (upd (upd (upd (upd (upd (upd (upd (upd (upd (upd (upd (upd (upd (upd (upd (upd (upd (upd (upd (upd (upd (upd (upd (upd (upd r 6 (r 0)) 7 v0) 8 v1) 9 v2) 10 (r 1)) 11 (r 0)) 12 v3) 13 v4) 14 v5) 15 (r 2)) 16 (r 0)) 17 v6) 18 v7) 19 v8) 20 (r 2)) 21 v9) 22 v10) 23 (r 0)) 24 v11) 25 v12) 26 v13) 27 (r 1)) 28 v14) 29 v15) 30 v16) 31 v18) h19
theorem S40_eq (G : Hp) (K : Exit → Rg → Hp → Prop) (r : Rg) (h : Hp) : wpC Try.prog G 32 md40 (Try.f40.body.getD .skip) r h K = S40 G K r h := by kernel_rfl
theorem enter40 {G : Hp} {h : Hp} {args : Array Value} {R : Value → Hp → Prop} (hn : args.size ≤ 32) (H : S40 G (retK Try.prog G [] R) (regs args) h) : HCalls Try.prog G 40 args h R :=
  HCalls.enter (md := md40) mixed Try.func40 rfl hn (by rw [← S40_eq] at H; exact H)

/-! 41: (*skep/heap.Heap[string]).down: params #[37, 3], results #[] -/
def md41 : Nat → Hint
  | _ => ⟨false, [], [], [], [], false⟩
def S41_l1_k3 (G : Hp) (K : Exit → Rg → Hp → Prop) (r : Rg) (h : Hp) : Prop :=
  opH Try.prog G (callFunc 40 #[(r 0), (r 1), (r 4)]) h fun v6 h6 =>
  K .normal (upd (upd (upd (upd (upd (upd r 36 (r 0)) 37 (r 1)) 38 (r 4)) 39 v6) 40 (r 4)) 1 (r 4)) h6
def S41_l1_k2 (G : Hp) (K : Exit → Rg → Hp → Prop) (r : Rg) (h : Hp) : Prop :=
  opH Try.prog G (xEq .eql 3 (.tmp 0) (.tmp 0) (r 4) (r 1)) h fun v5 h5 =>
  cond v5
  (K .ret (upd (upd (upd r 33 (r 4)) 34 (r 1)) 35 v5) h5)
  (S41_l1_k3 G K (upd (upd (upd r 33 (r 4)) 34 (r 1)) 35 v5) h5)
def S41_l1_l4_k6 (G : Hp) (K : Exit → Rg → Hp → Prop) (r : Rg) (h : Hp) : Prop :=
  opH Try.prog G (sv (binOp .add 3 (r 15) (.int .i64 1))) h fun v8 h8 =>
  K .normal (upd (upd r 32 v8) 15 v8) h8
def S41_l1_l4_k5 (G : Hp) (K : Exit → Rg → Hp → Prop) (r : Rg) (h : Hp) : Prop :=
  opH Try.prog G (sv (Instr.index 77 (r 14) (r 15))) h fun v9 h9 =>
  opH Try.prog G (xNil (r 0)) h9 fun v10 h10 =>
  opH Try.prog G (sv (Instr.fieldAt 70 v10 1)) h10 fun v11 h11 =>
  opH Try.prog G (sv (Instr.loadAt 68 v11)) h11 fun v12 h12 =>
  opH Try.prog G (sv (Builtin.len_ #[68] 3 #[v12])) h12 fun v13 h13 =>
  opH Try.prog G (sv (binOp .lss 3 v9 v13)) h13 fun v14 h14 =>
  gd (wantB v14 true) (fun K1 => K1 (r 0) h14) h14 fun v15 h15 =>
  gd (wantB v14 true) (fun K1 => K1 v9 h15) h15 fun v16 h16 =>
  gd (wantB v14 true) (fun K1 => K1 (r 4) h16) h16 fun v17 h17 =>
  gd (wantB v14 true) (opH Try.prog G (callFunc 46 #[v15, v16, v17]) h17) h17 fun v18 h18 =>
  opH Try.prog G (xPick v14 v18 (.bool false)) h18 fun v19 h19 =>
  cond v19
  (S41_l1_l4_k6 G K (upd (upd (upd (upd (upd (upd (upd (upd (upd (upd (upd (upd (upd (upd (upd (upd (upd r 17 v9) 6 v9) 18 v9) 19 (r 0)) 20 v10) 21 v11) 22 v12) 23 v13) 24 v14) 25 v14) 26 v15) 27 v16) 28 v17) 29 v18) 30 v19) 31 v9) 4 v9) h19)
  (S41_l1_l4_k6 G K (upd (upd (upd (upd (upd (upd (upd (upd (upd (upd (upd (upd (upd (upd (upd r 17 v9) 6 v9) 18 v9) 19 (r 0)) 20 v10) 21 v11) 22 v12) 23 v13) 24 v14) 25 v14) 26 v15) 27 v16) 28 v17) 29 v18) 30 v19) h19)
def S41_l1_l4 (G : Hp) (r : Rg) (h : Hp) (K : Exit → Rg → Hp → Prop) : Prop :=
  opH Try.prog G (sv (binOp .lss 3 (r 15) (.int .i64 2))) h fun v7 h7 =>
  cond v7
  (S41_l1_l4_k5 G K (upd r 16 v7) h7)
  (K (.exit 2) (upd r 16 v7) h7)
def S41_l1 (G : Hp) (r : Rg) (h : Hp) (K : Exit → Rg → Hp → Prop) : Prop :=
  opH Try.prog G (sv (binOp .mul 3 (.int .i64 2) (r 1))) h fun v0 h0 =>
  opH Try.prog G (sv (binOp .add 3 v0 (.int .i64 1))) h0 fun v1 h1 =>
  opH Try.prog G (sv (binOp .mul 3 (.int .i64 2) (r 1))) h1 fun v2 h2 =>
  opH Try.prog G (sv (binOp .add 3 v2 (.int .i64 2))) h2 fun v3 h3 =>
  opH Try.prog G (sv (Instr.build 77 #[(0, v1), (1, v3)])) h3 fun v4 h4 =>
  loopP (S41_l1_l4 G) (upd (upd (upd (upd (upd (upd (upd (upd (upd (upd r 7 (r 1)) 4 (r 1)) 8 (r 1)) 9 v0) 10 v1) 11 (r 1)) 12 v2) 13 v3) 14 v4) 15 (.int .i64 0)) h4 (blockK 2 (thenK (S41_l1_k2 G K) (blockK 1 K)))
def S41 (G : Hp) (K : Exit → Rg → Hp → Prop) (r : Rg) (h : Hp) : Prop :=
  loopP (S41_l1 G) r h (blockK 0 K)
theorem S41_eq (G : Hp) (K : Exit → Rg → Hp → Prop) (r : Rg) (h : Hp) : wpC Try.prog G 41 md41 (Try.f41.body.getD .skip) r h K = S41 G K r h := by kernel_rfl
theorem enter41 {G : Hp} {h : Hp} {args : Array Value} {R : Value → Hp → Prop} (hn : args.size ≤ 41) (H : S41 G (retK Try.prog G [] R) (regs args) h) : HCalls Try.prog G 41 args h R :=
  HCalls.enter (md := md41) mixed Try.func41 rfl hn (by rw [← S41_eq] at H; exact H)

/-! 42: (*skep/heap.Heap[skep/skeplaw10.V]).All: params #[24], results #[74] -/
def md42 : Nat → Hint
  | _ => ⟨false, [], [], [], [], false⟩
def S42 (G : Hp) (K : Exit → Rg → Hp → Prop) (r : Rg) (h : Hp) : Prop :=
  opH Try.prog G (sv (Instr.box 24 (r 0))) h fun v0 h0 =>
  K .ret (upd (upd (upd (upd r 1 v0) 2 .nilFunc) 3 (.func (.func 47) #[] #[v0])) 2 (.func (.func 47) #[] #[v0])) h0
theorem S42_eq (G : Hp) (K : Exit → Rg → Hp → Prop) (r : Rg) (h : Hp) : wpC Try.prog G 4 md42 (Try.f42.body.getD .skip) r h K = S42 G K r h := by kernel_rfl
theorem enter42 {G : Hp} {h : Hp} {args : Array Value} {R : Value → Hp → Prop} (hn : args.size ≤ 4) (H : S42 G (retK Try.prog G [.tmp 2] R) (regs args) h) : HCalls Try.prog G 42 args h R :=
  HCalls.enter (md := md42) mixed Try.func42 rfl hn (by rw [← S42_eq] at H; exact H)

/-! 43: skep/skeplaw10.all$1: params #[27], results #[4] -/
def md43 : Nat → Hint
  | _ => ⟨false, [], [], [], [], false⟩
def S43 (G : Hp) (K : Exit → Rg → Hp → Prop) (r : Rg) (h : Hp) : Prop :=
  opH Try.prog G (sv (Instr.box 27 (r 0))) h fun v0 h0 =>
  opH Try.prog G (sv (Instr.loadAt 44 (r 1))) h0 fun v1 h1 =>
  opH Try.prog G (sv (Instr.loadAt 27 v0)) h1 fun v2 h2 =>
  opH Try.prog G (sv (Instr.buildSlice 44 1 #[(0, v2)])) h2 fun v3 h3 =>
  opH Try.prog G (sv (Builtin.append_ #[44, 44] 44 #[v1, v3])) h3 fun v4 h4 =>
  opH Try.prog G (su (Instr.storeAt 44 (r 1) v4)) h4 fun v5 h5 =>
  opH Try.prog G (sv (Instr.loadAt 44 (r 1))) h5 fun v6 h6 =>
  opH Try.prog G (sv (Builtin.len_ #[44] 3 #[v6])) h6 fun v7 h7 =>
  opH Try.prog G (sv (Instr.loadAt 3 (r 2))) h7 fun v8 h8 =>
  opH Try.prog G (sv (binOp .lss 3 v7 v8)) h8 fun v9 h9 =>
  K .ret (upd (upd (upd (upd (upd (upd (upd (upd (upd (upd (upd r 3 v0) 4 (.bool false)) 5 v1) 6 v2) 7 v3) 8 v4) 9 v6) 10 v7) 11 v8) 12 v9) 4 v9) h9
theorem S43_eq (G : Hp) (K : Exit → Rg → Hp → Prop) (r : Rg) (h : Hp) : wpC Try.prog G 13 md43 (Try.f43.body.getD .skip) r h K = S43 G K r h := by kernel_rfl
theorem enter43 {G : Hp} {h : Hp} {args : Array Value} {R : Value → Hp → Prop} (hn : args.size ≤ 13) (H : S43 G (retK Try.prog G [.tmp 4] R) (regs args) h) : HCalls Try.prog G 43 args h R :=
  HCalls.enter (md := md43) mixed Try.func43 rfl hn (by rw [← S43_eq] at H; exact H)

/-! 44: (*skep/skepref10.H).first: params #[51], results #[3] -/
def md44 : Nat → Hint
  | 5 => ⟨false, [0, 1, 3, 7, 15, 31, 63, 7, 255, 511, 1023, 7, 2055, 6151, 14343, 7, 63495, 129031, 260103, 524287, 1048575], [.pureN, .pureN, .pureN, .pureN, .pureN, .pureN, .pureM, .pureN, .pureN, .pureN, .pureM, .pureN, .pureN, .pureN, .pureM, .pureN, .pureN, .pureN, .pureM, .pureN, .pureN], [.pureN, .pureN, .pureN, .pureN, .pureN, .pureN, .pureM, .pureN, .pureN, .pureN, .pureM, .pureN, .pureN, .pureN, .pureM, .pureN, .pureN, .pureN, .pureM, .pureN, .pureN], [false, false, false, false, false, false, false, false, false, false, false, false, false, false, false, false, false, false, false, false, false], false⟩
  | _ => ⟨false, [], [], [], [], false⟩
def S44_k1 (G : Hp) (K : Exit → Rg → Hp → Prop) (r : Rg) (h : Hp) : Prop :=
  K .ret (upd (upd r 36 (r 3)) 2 (r 3)) h
def S44_l2_k4 (G : Hp) (K : Exit → Rg → Hp → Prop) (r : Rg) (h : Hp) : Prop :=
  opH Try.prog G (sv (binOp .add 3 (r 4) (.int .i64 1))) h fun v5 h5 =>
  K .normal (upd (upd (upd r 12 (r 4)) 13 v5) 4 v5) h5
def S44_l2_k3 (G : Hp) (K : Exit → Rg → Hp → Prop) (r : Rg) (h : Hp) : Prop :=
  pureW Try.prog noHp noHp (sv (binOp .lss 3 (r 3) (.int .i64 0))) h fun v6 h6 =>
  gd (wantB v6 false) (fun K1 => K1 (r 0) h6) h6 fun v7 h7 =>
  gd (wantB v6 false) (pureW Try.prog noHp noHp (xNil v7) h7) h7 fun v8 h8 =>
  gd (wantB v6 false) (pureW Try.prog noHp noHp (sv (Instr.fieldAt 53 v8 0)) h8) h8 fun v9 h9 =>
  gd (wantB v6 false) (pureW Try.prog G h (sv (Instr.loadAt 44 v9)) h9) h9 fun v10 h10 =>
  gd (wantB v6 false) (fun K1 => K1 (r 4) h10) h10 fun v11 h11 =>
  gd (wantB v6 false) (pureW Try.prog noHp noHp (sv (Instr.indexAt 44 v10 v11)) h11) h11 fun v12 h12 =>
  gd (wantB v6 false) (pureW Try.prog noHp noHp (sv (Instr.fieldAt 27 v12 0)) h12) h12 fun v13 h13 =>
  gd (wantB v6 false) (pureW Try.prog G h (sv (Instr.loadAt 3 v13)) h13) h13 fun v14 h14 =>
  gd (wantB v6 false) (fun K1 => K1 (r 0) h14) h14 fun v15 h15 =>
  gd (wantB v6 false) (pureW Try.prog noHp noHp (xNil v15) h15) h15 fun v16 h16 =>
  gd (wantB v6 false) (pureW Try.prog noHp noHp (sv (Instr.fieldAt 53 v16 0)) h16) h16 fun v17 h17 =>
  gd (wantB v6 false) (pureW Try.prog G h (sv (Instr.loadAt 44 v17)) h17) h17 fun v18 h18 =>
  gd (wantB v6 false) (fun K1 => K1 (r 3) h18) h18 fun v19 h19 =>
  gd (wantB v6 false) (pureW Try.prog noHp noHp (sv (Instr.indexAt 44 v18 v19)) h19) h19 fun v20 h20 =>
  gd (wantB v6 false) (pureW Try.prog noHp noHp (sv (Instr.fieldAt 27 v20 0)) h20) h20 fun v21 h21 =>
  gd (wantB v6 false) (pureW Try.prog G h (sv (Instr.loadAt 3 v21)) h21) h21 fun v22 h22 =>
  gd (wantB v6 false) (pureW Try.prog noHp noHp (sv (binOp .lss 3 v14 v22)) h22) h22 fun v23 h23 =>
  pureW Try.prog noHp noHp (xPick v6 (.bool true) v23) h23 fun v24 h24 =>
  cond v24
  (S44_l2_k4 G K (upd (upd (upd (upd (upd (upd (upd (upd (upd (upd (upd (upd (upd (upd (upd (upd (upd (upd (upd (upd (upd (upd (upd r 14 (r 3)) 15 v6) 16 v6) 17 v7) 18 v8) 19 v9) 20 v10) 21 v11) 22 v12) 23 v13) 24 v14) 25 v15) 26 v16) 27 v17) 28 v18) 29 v19) 30 v20) 31 v21) 32 v22) 33 v23) 34 v24) 35 (r 4)) 3 (r 4)) h24)
  (S44_l2_k4 G K (upd (upd (upd (upd (upd (upd (upd (upd (upd (upd (upd (upd (upd (upd (upd (upd (upd (upd (upd (upd (upd r 14 (r 3)) 15 v6) 16 v6) 17 v7) 18 v8) 19 v9) 20 v10) 21 v11) 22 v12) 23 v13) 24 v14) 25 v15) 26 v16) 27 v17) 28 v18) 29 v19) 30 v20) 31 v21) 32 v22) 33 v23) 34 v24) h24)
def S44_l2 (G : Hp) (r : Rg) (h : Hp) (K : Exit → Rg → Hp → Prop) : Prop :=
  opH Try.prog G (xNil (r 0)) h fun v0 h0 =>
  opH Try.prog G (sv (Instr.fieldAt 53 v0 0)) h0 fun v1 h1 =>
  opH Try.prog G (sv (Instr.loadAt 44 v1)) h1 fun v2 h2 =>
  opH Try.prog G (sv (Builtin.len_ #[44] 3 #[v2])) h2 fun v3 h3 =>
  opH Try.prog G (sv (binOp .lss 3 (r 4) v3)) h3 fun v4 h4 =>
  cond v4
  (S44_l2_k3 G K (upd (upd (upd (upd (upd (upd (upd r 5 (r 4)) 6 (r 0)) 7 v0) 8 v1) 9 v2) 10 v3) 11 v4) h4)
  (K (.exit 0) (upd (upd (upd (upd (upd (upd (upd r 5 (r 4)) 6 (r 0)) 7 v0) 8 v1) 9 v2) 10 v3) 11 v4) h4)
def S44 (G : Hp) (K : Exit → Rg → Hp → Prop) (r : Rg) (h : Hp) : Prop :=
  loopP (S44_l2 G) (upd (upd (upd r 2 (.int .i64 0)) 3 (.int .i64 (-1))) 4 (.int .i64 0)) h (blockK 0 (thenK (S44_k1 G K) K))
theorem S44_eq (G : Hp) (K : Exit → Rg → Hp → Prop) (r : Rg) (h : Hp) : wpC Try.prog G 37 md44 (Try.f44.body.getD .skip) r h K = S44 G K r h := by kernel_rfl
theorem enter44 {G : Hp} {h : Hp} {args : Array Value} {R : Value → Hp → Prop} (hn : args.size ≤ 37) (H : S44 G (retK Try.prog G [.tmp 2] R) (regs args) h) : HCalls Try.prog G 44 args h R :=
  HCalls.enter (md := md44) mixed Try.func44 rfl hn (by rw [← S44_eq] at H; exact H)

/-! 45: (*skep/heap.Heap[skep/skeplaw10.V]).ahead: params #[24, 3, 3], results #[4] -/
def md45 : Nat → Hint
  | 1 => ⟨false, [0, 1, 3, 7, 0, 31, 63, 0, 128, 384, 896, 0, 3968, 8064, 0, 0, 49279, 131071], [.pureN, .pureN, .pureN, .pureM, .pureN, .pureN, .pureM, .pureN, .pureN, .pureN, .pureM, .pureN, .pureN, .pureM, .alloc, .alloc, .store, .store], [.pureN, .pureN, .pureN, .pureM, .pureN, .pureN, .pureM, .pureN, .pureN, .pureN, .pureM, .pureN, .pureN, .pureM, .alloc, .alloc, .store, .store], [false, false, false, false, false, false, false, false, false, false, false, false, false, false, false, false, true, false], false⟩
  | 2 => ⟨false, [0, 1, 3, 7, 0, 16, 0, 64, 255, 511], [.pureN, .pureN, .pureN, .pureM, .pureN, .pureM, .pureN, .pureM, .eff, .pureN], [.pureN, .pureN, .pureN, .pureM, .pureN, .pureM, .pureN, .pureM, .eff, .pureN], [false, false, false, false, false, false, false, false, false, false], false⟩
  | 4 => ⟨false, [0, 1, 3, 7, 0, 16, 0, 64, 255, 511], [.pureN, .pureN, .pureN, .pureM, .pureN, .pureM, .pureN, .pureM, .eff, .pureN], [.pureN, .pureN, .pureN, .pureM, .pureN, .pureM, .pureN, .pureM, .eff, .pureN], [false, false, false, false, false, false, false, false, false, false], false⟩
  | _ => ⟨false, [], [], [], [], false⟩
def S45_k1 (G : Hp) (K : Exit → Rg → Hp → Prop) (r : Rg) (h : Hp) : Prop :=
  opH Try.prog G (sv (Instr.fieldAt 65 (r 7) 1)) h fun v14 h14 =>
  opH Try.prog G (sv (Instr.loadAt 3 v14)) h14 fun v15 h15 =>
  opH Try.prog G (sv (Instr.fieldAt 65 (r 8) 1)) h15 fun v16 h16 =>
  opH Try.prog G (sv (Instr.loadAt 3 v16)) h16 fun v17 h17 =>
  opH Try.prog G (sv (binOp .lss 3 v15 v17)) h17 fun v18 h18 =>
  K .ret (upd (upd (upd (upd (upd (upd r 43 v14) 44 v15) 45 v16) 46 v17) 47 v18) 6 v18) h18
def S45 (G : Hp) (K : Exit → Rg → Hp → Prop) (r : Rg) (h : Hp) : Prop :=
  pureW Try.prog noHp noHp (xNil (r 0)) h fun v0 h0 =>
  pureW Try.prog noHp noHp (sv (Instr.fieldAt 63 v0 1)) h0 fun v1 h1 =>
  pureW Try.prog G h (sv (Instr.loadAt 61 v1)) h1 fun v2 h2 =>
  pureW Try.prog noHp noHp (sv (Instr.indexAt 61 v2 (r 1))) h2 fun v3 h3 =>
  pureW Try.prog G h (sv (Instr.loadAt 65 v3)) h3 fun v4 h4 =>
  pureW Try.prog noHp noHp (xNil (r 0)) h4 fun v5 h5 =>
  pureW Try.prog noHp noHp (sv (Instr.fieldAt 63 v5 1)) h5 fun v6 h6 =>
  pureW Try.prog G h (sv (Instr.loadAt 61 v6)) h6 fun v7 h7 =>
  pureW Try.prog noHp noHp (sv (Instr.indexAt 61 v7 (r 2))) h7 fun v8 h8 =>
  pureW Try.prog G h (sv (Instr.loadAt 65 v8)) h8 fun v9 h9 =>
  opH Try.prog G (sv (Instr.alloc 65 true (.tuple #[]))) h9 fun v10 h10 =>
  opH Try.prog G (sv (Instr.alloc 65 true (.tuple #[]))) h10 fun v11 h11 =>
  opH Try.prog G (su (Instr.storeAt 65 v10 v4)) h11 fun v12 h12 => h.le h12 ∧
  opH Try.prog G (su (Instr.storeAt 65 v11 v9)) h12 fun v13 h13 =>
  pureW Try.prog noHp noHp (xNil (r 0)) h13 fun v19 h19 =>
  pureW Try.prog noHp noHp (sv (Instr.fieldAt 63 v19 0)) h19 fun v20 h20 =>
  pureW Try.prog G h13 (sv (Instr.loadAt 28 v20)) h20 fun v21 h21 =>
  pureW Try.prog noHp noHp (sv (Instr.fieldAt 65 v10 0)) h21 fun v22 h22 =>
  pureW Try.prog G h13 (sv (Instr.loadAt 27 v22)) h22 fun v23 h23 =>
  pureW Try.prog noHp noHp (sv (Instr.fieldAt 65 v11 0)) h23 fun v24 h24 =>
  pureW Try.prog G h13 (sv (Instr.loadAt 27 v24)) h24 fun v25 h25 =>
  opH Try.prog G (xCallV v21 #[v23, v25]) h25 fun v26 h26 =>
  cond v26
  (K .ret (upd (upd (upd (upd (upd (upd (upd (upd (upd (upd (upd (upd (upd (upd (upd (upd (upd (upd (upd (upd (upd (upd (upd (upd (upd (upd (upd (upd r 6 (.bool false)) 9 (r 0)) 10 v0) 11 v1) 12 v2) 13 (r 1)) 14 v3) 15 v4) 16 (r 0)) 17 v5) 18 v6) 19 v7) 20 (r 2)) 21 v8) 22 v9) 7 v10) 8 v11) 24 (r 0)) 25 v19) 26 v20) 27 v21) 28 v22) 29 v23) 30 v24) 31 v25) 32 v26) 23 v26) 6 (.bool true)) h26)
  (pureW Try.prog noHp noHp (xNil (r 0)) h26 fun v27 h27 =>
  pureW Try.prog noHp noHp (sv (Instr.fieldAt 63 v27 0)) h27 fun v28 h28 =>
  pureW Try.prog G h26 (sv (Instr.loadAt 28 v28)) h28 fun v29 h29 =>
  pureW Try.prog noHp noHp (sv (Instr.fieldAt 65 v11 0)) h29 fun v30 h30 =>
  pureW Try.prog G h26 (sv (Instr.loadAt 27 v30)) h30 fun v31 h31 =>
  pureW Try.prog noHp noHp (sv (Instr.fieldAt 65 v10 0)) h31 fun v32 h32 =>
  pureW Try.prog G h26 (sv (Instr.loadAt 27 v32)) h32 fun v33 h33 =>
  opH Try.prog G (xCallV v29 #[v31, v33]) h33 fun v34 h34 =>
  cond v34
  (K .ret (upd (upd (upd (upd (upd (upd (upd (upd (upd (upd (upd (upd (upd (upd (upd (upd (upd (upd (upd (upd (upd (upd (upd (upd (upd (upd (upd (upd (upd (upd (upd (upd (upd (upd (upd (upd (upd (upd r 6 (.bool false)) 9 (r 0)) 10 v0) 11 v1) 12 v2) 13 (r 1)) 14 v3) 15 v4) 16 (r 0)) 17 v5) 18 v6) 19 v7) 20 (r 2)) 21 v8) 22 v9) 7 v10) 8 v11) 24 (r 0)) 25 v19) 26 v20) 27 v21) 28 v22) 29 v23) 30 v24) 31 v25) 32 v26) 23 v26) 34 (r 0)) 35 v27) 36 v28) 37 v29) 38 v30) 39 v31) 40 v32) 41 v33) 42 v34) 33 v34) 6 (.bool false)) h34)
  (S45_k1 G K (upd (upd (upd (upd (upd (upd (upd (upd (upd (upd (upd (upd (upd (upd (upd (upd (upd (upd (upd (upd (upd (upd (upd (upd (upd (upd (upd (upd (upd (upd (upd (upd (upd (upd (upd (upd (upd r 6 (.bool false)) 9 (r 0)) 10 v0) 11 v1) 12 v2) 13 (r 1)) 14 v3) 15 v4) 16 (r 0)) 17 v5) 18 v6) 19 v7) 20 (r 2)) 21 v8) 22 v9) 7 v10) 8 v11) 24 (r 0)) 25 v19) 26 v20) 27 v21) 28 v22) 29 v23) 30 v24) 31 v25) 32 v26) 23 v26) 34 (r 0)) 35 v27) 36 v28) 37 v29) 38 v30) 39 v31) 40 v32) 41 v33) 42 v34) 33 v34) h34))
theorem S45_eq (G : Hp) (K : Exit → Rg → Hp → Prop) (r : Rg) (h : Hp) : wpC Try.prog G 48 md45 (Try.f45.body.getD .skip) r h K = S45 G K r h := by kernel_rfl
theorem enter45 {G : Hp} {h : Hp} {args : Array Value} {R : Value → Hp → Prop} (hn : args.size ≤ 48) (H : S45 G (retK Try.prog G [.tmp 6] R) (regs args) h) : HCalls Try.prog G 45 args h R :=
  HCalls.enter (md := md45) mixed Try.func45 rfl hn (by rw [← S45_eq] at H; exact H)

/-! 46: (*skep/heap.Heap[string]).ahead: params #[37, 3, 3], results #[4] -/
def md46 : Nat → Hint
  | 1 => ⟨false, [0, 1, 3, 7, 0, 31, 63, 0, 128, 384, 896, 0, 3968, 8064, 0, 0, 49279, 131071], [.pureN, .pureN, .pureN, .pureM, .pureN, .pureN, .pureM, .pureN, .pureN, .pureN, .pureM, .pureN, .pureN, .pureM, .alloc, .alloc, .store, .store], [.pureN, .pureN, .pureN, .pureM, .pureN, .pureN, .pureM, .pureN, .pureN, .pureN, .pureM, .pureN, .pureN, .pureM, .alloc, .alloc, .store, .store], [false, false, false, false, false, false, false, false, false, false, false, false, false, false, false, false, true, false], false⟩
  | 2 => ⟨false, [0, 1, 3, 7, 0, 16, 0, 64, 255, 511], [.pureN, .pureN, .pureN, .pureM, .pureN, .pureM, .pureN, .pureM, .eff, .pureN], [.pureN, .pureN, .pureN, .pureM, .pureN, .pureM, .pureN, .pureM, .eff, .pureN], [false, false, false, false, false, false, false, false, false, false], false⟩
  | 4 => ⟨false, [0, 1, 3, 7, 0, 16, 0, 64, 255, 511], [.pureN, .pureN, .pureN, .pureM, .pureN, .pureM, .pureN, .pureM, .eff, .pureN], [.pureN, .pureN, .pureN, .pureM, .pureN, .pureM, .pureN, .pureM, .eff, .pureN], [false, false, false, false, false, false, false, false, false, false], false⟩
  | _ => ⟨false, [], [], [], [], false⟩
def S46_k1 (G : Hp) (K : Exit → Rg → Hp → Prop) (r : Rg) (h : Hp) : Prop :=
  opH Try.prog G (sv (Instr.fieldAt 72 (r 7) 1)) h fun v14 h14 =>
  opH Try.prog G (sv (Instr.loadAt 3 v14)) h14 fun v15 h15 =>
  opH Try.prog G (sv (Instr.fieldAt 72 (r 8) 1)) h15 fun v16 h16 =>
  opH Try.prog G (sv (Instr.loadAt 3 v16)) h16 fun v17 h17 =>
  opH Try.prog G (sv (binOp .lss 3 v15 v17)) h17 fun v18 h18 =>
  K .ret (upd (upd (upd (upd (upd (upd r 43 v14) 44 v15) 45 v16) 46 v17) 47 v18) 6 v18) h18
def S46 (G : Hp) (K : Exit → Rg → Hp → Prop) (r : Rg) (h : Hp) : Prop :=
  pureW Try.prog noHp noHp (xNil (r 0)) h fun v0 h0 =>
  pureW Try.prog noHp noHp (sv (Instr.fieldAt 70 v0 1)) h0 fun v1 h1 =>
  pureW Try.prog G h (sv (Instr.loadAt 68 v1)) h1 fun v2 h2 =>
  pureW Try.prog noHp noHp (sv (Instr.indexAt 68 v2 (r 1))) h2 fun v3 h3 =>
  pureW Try.prog G h (sv (Instr.loadAt 72 v3)) h3 fun v4 h4 =>
  pureW Try.prog noHp noHp (xNil (r 0)) h4 fun v5 h5 =>
  pureW Try.prog noHp noHp (sv (Instr.fieldAt 70 v5 1)) h5 fun v6 h6 =>
  pureW Try.prog G h (sv (Instr.loadAt 68 v6)) h6 fun v7 h7 =>
  pureW Try.prog noHp noHp (sv (Instr.indexAt 68 v7 (r 2))) h7 fun v8 h8 =>
  pureW Try.prog G h (sv (Instr.loadAt 72 v8)) h8 fun v9 h9 =>
  opH Try.prog G (sv (Instr.alloc 72 true (.tuple #[]))) h9 fun v10 h10 =>
  opH Try.prog G (sv (Instr.alloc 72 true (.tuple #[]))) h10 fun v11 h11 =>
  opH Try.prog G (su (Instr.storeAt 72 v10 v4)) h11 fun v12 h12 => h.le h12 ∧
  opH Try.prog G (su (Instr.storeAt 72 v11 v9)) h12 fun v13 h13 =>
  pureW Try.prog noHp noHp (xNil (r 0)) h13 fun v19 h19 =>
  pureW Try.prog noHp noHp (sv (Instr.fieldAt 70 v19 0)) h19 fun v20 h20 =>
  pureW Try.prog G h13 (sv (Instr.loadAt 39 v20)) h20 fun v21 h21 =>
  pureW Try.prog noHp noHp (sv (Instr.fieldAt 72 v10 0)) h21 fun v22 h22 =>
  pureW Try.prog G h13 (sv (Instr.loadAt 9 v22)) h22 fun v23 h23 =>
  pureW Try.prog noHp noHp (sv (Instr.fieldAt 72 v11 0)) h23 fun v24 h24 =>
  pureW Try.prog G h13 (sv (Instr.loadAt 9 v24)) h24 fun v25 h25 =>
  opH Try.prog G (xCallV v21 #[v23, v25]) h25 fun v26 h26 =>
  cond v26
  (K .ret (upd (upd (upd (upd (upd (upd (upd (upd (upd (upd (upd (upd (upd (upd (upd (upd (upd (upd (upd (upd (upd (upd (upd (upd (upd (upd (upd (upd r 6 (.bool false)) 9 (r 0)) 10 v0) 11 v1) 12 v2) 13 (r 1)) 14 v3) 15 v4) 16 (r 0)) 17 v5) 18 v6) 19 v7) 20 (r 2)) 21 v8) 22 v9) 7 v10) 8 v11) 24 (r 0)) 25 v19) 26 v20) 27 v21) 28 v22) 29 v23) 30 v24) 31 v25) 32 v26) 23 v26) 6 (.bool true)) h26)
  (pureW Try.prog noHp noHp (xNil (r 0)) h26 fun v27 h27 =>
  pureW Try.prog noHp noHp (sv (Instr.fieldAt 70 v27 0)) h27 fun v28 h28 =>
  pureW Try.prog G h26 (sv (Instr.loadAt 39 v28)) h28 fun v29 h29 =>
  pureW Try.prog noHp noHp (sv (Instr.fieldAt 72 v11 0)) h29 fun v30 h30 =>
  pureW Try.prog G h26 (sv (Instr.loadAt 9 v30)) h30 fun v31 h31 =>
  pureW Try.prog noHp noHp (sv (Instr.fieldAt 72 v10 0)) h31 fun v32 h32 =>
  pureW Try.prog G h26 (sv (Instr.loadAt 9 v32)) h32 fun v33 h33 =>
  opH Try.prog G (xCallV v29 #[v31, v33]) h33 fun v34 h34 =>
  cond v34
  (K .ret (upd (upd (upd (upd (upd (upd (upd (upd (upd (upd (upd (upd (upd (upd (upd (upd (upd (upd (upd (upd (upd (upd (upd (upd (upd (upd (upd (upd (upd (upd (upd (upd (upd (upd (upd (upd (upd (upd r 6 (.bool false)) 9 (r 0)) 10 v0) 11 v1) 12 v2) 13 (r 1)) 14 v3) 15 v4) 16 (r 0)) 17 v5) 18 v6) 19 v7) 20 (r 2)) 21 v8) 22 v9) 7 v10) 8 v11) 24 (r 0)) 25 v19) 26 v20) 27 v21) 28 v22) 29 v23) 30 v24) 31 v25) 32 v26) 23 v26) 34 (r 0)) 35 v27) 36 v28) 37 v29) 38 v30) 39 v31) 40 v32) 41 v33) 42 v34) 33 v34) 6 (.bool false)) h34)
  (S46_k1 G K (upd (upd (upd (upd (upd (upd (upd (upd (upd (upd (upd (upd (upd (upd (upd (upd (upd (upd (upd (upd (upd (upd (upd (upd (upd (upd (upd (upd (upd (upd (upd (upd (upd (upd (upd (upd (upd r 6 (.bool false)) 9 (r 0)) 10 v0) 11 v1) 12 v2) 13 (r 1)) 14 v3) 15 v4) 16 (r 0)) 17 v5) 18 v6) 19 v7) 20 (r 2)) 21 v8) 22 v9) 7 v10) 8 v11) 24 (r 0)) 25 v19) 26 v20) 27 v21) 28 v22) 29 v23) 30 v24) 31 v25) 32 v26) 23 v26) 34 (r 0)) 35 v27) 36 v28) 37 v29) 38 v30) 39 v31) 40 v32) 41 v33) 42 v34) 33 v34) h34))
theorem S46_eq (G : Hp) (K : Exit → Rg → Hp → Prop) (r : Rg) (h : Hp) : wpC Try.prog G 48 md46 (Try.f46.body.getD .skip) r h K = S46 G K r h := by kernel_rfl
theorem enter46 {G : Hp} {h : Hp} {args : Array Value} {R : Value → Hp → Prop} (hn : args.size ≤ 48) (H : S46 G (retK Try.prog G [.tmp 6] R) (regs args) h) : HCalls Try.prog G 46 args h R :=
  HCalls.enter (md := md46) mixed Try.func46 rfl hn (by rw [← S46_eq] at H; exact H)

/-! 47: (*skep/heap.Heap[skep/skeplaw10.V]).All$1: params #[58], results #[] -/
def md47 : Nat → Hint
  | 1 => ⟨false, [0, 1, 3, 7, 0, 0, 32, 96, 224, 496, 0, 1024, 3072, 7168, 16383, 32767, 65535], [.pureM, .pureN, .pureN, .pureM, .alloc, .pureM, .pureN, .pureN, .pureM, .eff, .pureM, .pureN, .pureN, .pureM, .pureN, .alloc, .pureN], [.pureM, .pureN, .pureN, .pureM, .alloc, .pureM, .pureN, .pureN, .pureM, .eff, .pureM, .pureN, .pureN, .pureM, .pureN, .alloc, .pureN], [false, false, false, false, false, false, false, false, false, true, false, false, false, false, false, false, false], false⟩
  | _ => ⟨false, [], [], [], [], false⟩
def S47_l2 (G : Hp) (r : Rg) (h : Hp) (K : Exit → Rg → Hp → Prop) : Prop :=
  opH Try.prog G (callFunc 15 #[(r 3)]) h fun v18 h18 =>
  opH Try.prog G (sv (Instr.extract v18 0)) h18 fun v19 h19 =>
  opH Try.prog G (sv (Instr.extract v18 1)) h19 fun v20 h20 =>
  opH Try.prog G (sv (Instr.alloc 27 true (.tuple #[]))) h20 fun v21 h21 =>
  opH Try.prog G (su (Instr.storeAt 27 v21 v19)) h21 fun v22 h22 =>
  opH Try.prog G (sv (Op.unary .not v20)) h22 fun v23 h23 =>
  gd (wantB v23 false) (fun K1 => K1 (r 0) h23) h23 fun v24 h24 =>
  gd (wantB v23 false) (opH Try.prog G (sv (Instr.loadAt 27 v21)) h24) h24 fun v25 h25 =>
  gd (wantB v23 false) (opH Try.prog G (xCallV v24 #[v25]) h25) h25 fun v26 h26 =>
  gd (wantB v23 false) (opH Try.prog G (sv (Op.unary .not v26)) h26) h26 fun v27 h27 =>
  opH Try.prog G (xPick v23 (.bool true) v27) h27 fun v28 h28 =>
  cond v28
  (K .ret (upd (upd (upd (upd (upd (upd (upd (upd (upd (upd (upd (upd (upd (upd (upd r 25 (r 3)) 26 v18) 24 v18) 27 v19) 28 v20) 4 v21) 5 v20) 29 v20) 30 v23) 31 v23) 32 v24) 33 v25) 34 v26) 35 v27) 36 v28) h28)
  (K .normal (upd (upd (upd (upd (upd (upd (upd (upd (upd (upd (upd (upd (upd (upd (upd r 25 (r 3)) 26 v18) 24 v18) 27 v19) 28 v20) 4 v21) 5 v20) 29 v20) 30 v23) 31 v23) 32 v24) 33 v25) 34 v26) 35 v27) 36 v28) h28)
def S47_k1 (G : Hp) (K : Exit → Rg → Hp → Prop) (r : Rg) (h : Hp) : Prop :=
  pureW Try.prog G h (sv (Instr.loadAt 24 (r 1))) h fun v2 h2 =>
  pureW Try.prog noHp noHp (xNil v2) h2 fun v3 h3 =>
  pureW Try.prog noHp noHp (sv (Instr.fieldAt 63 v3 0)) h3 fun v4 h4 =>
  pureW Try.prog G h (sv (Instr.loadAt 28 v4)) h4 fun v5 h5 =>
  opH Try.prog G (sv (Instr.buildSlice 61 0 #[])) h5 fun v6 h6 =>
  pureW Try.prog G h (sv (Instr.loadAt 24 (r 1))) h6 fun v7 h7 =>
  pureW Try.prog noHp noHp (xNil v7) h7 fun v8 h8 =>
  pureW Try.prog noHp noHp (sv (Instr.fieldAt 63 v8 1)) h8 fun v9 h9 =>
  pureW Try.prog G h (sv (Instr.loadAt 61 v9)) h9 fun v10 h10 =>
  opH Try.prog G (sv (Builtin.append_ #[61, 61] 61 #[v6, v10])) h10 fun v11 h11 => h.le h11 ∧
  pureW Try.prog G h (sv (Instr.loadAt 24 (r 1))) h11 fun v12 h12 =>
  pureW Try.prog noHp noHp (xNil v12) h12 fun v13 h13 =>
  pureW Try.prog noHp noHp (sv (Instr.fieldAt 63 v13 2)) h13 fun v14 h14 =>
  pureW Try.prog G h (sv (Instr.loadAt 3 v14)) h14 fun v15 h15 =>
  pureW Try.prog noHp noHp (sv (Instr.build 63 #[(0, v5), (1, v11), (2, v15)])) h15 fun v16 h16 =>
  opH Try.prog G (sv (Instr.box 63 v16)) h16 fun v17 h17 =>
  loopP (S47_l2 G) (upd (upd (upd (upd (upd (upd (upd (upd (upd (upd (upd (upd (upd (upd (upd (upd (upd r 8 v2) 9 v3) 10 v4) 11 v5) 12 v6) 13 v7) 14 v8) 15 v9) 16 v10) 17 v11) 18 v12) 19 v13) 20 v14) 21 v15) 22 v16) 23 v17) 3 v17) h17 (blockK 0 K)
def S47 (G : Hp) (K : Exit → Rg → Hp → Prop) (r : Rg) (h : Hp) : Prop :=
  opH Try.prog G (sv (Instr.loadAt 24 (r 1))) h fun v0 h0 =>
  opH Try.prog G (xEq .eql 24 (.tmp 0) (.const .nilFunc) v0 (.pointer none)) h0 fun v1 h1 =>
  cond v1
  (K .ret (upd (upd r 6 v0) 7 v1) h1)
  (S47_k1 G K (upd (upd r 6 v0) 7 v1) h1)
theorem S47_eq (G : Hp) (K : Exit → Rg → Hp → Prop) (r : Rg) (h : Hp) : wpC Try.prog G 37 md47 (Try.f47.body.getD .skip) r h K = S47 G K r h := by kernel_rfl
theorem enter47 {G : Hp} {h : Hp} {args : Array Value} {R : Value → Hp → Prop} (hn : args.size ≤ 37) (H : S47 G (retK Try.prog G [] R) (regs args) h) : HCalls Try.prog G 47 args h R :=
  HCalls.enter (md := md47) mixed Try.func47 rfl hn (by rw [← S47_eq] at H; exact H)

end Go.Proofs.Ytkekdpnlenpmiaa

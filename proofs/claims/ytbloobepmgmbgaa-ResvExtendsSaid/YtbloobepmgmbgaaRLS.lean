/- A text of the proofs. -/
import Derived.Test.YtbloobepmgmbgaaRI
set_option linter.unusedVariables false
set_option maxRecDepth 100000
namespace Go.Proofs.Ytbloobepmgmbgaa
open Go Go.HL
def md4 : Nat → Hint
  | _ => ⟨false, [], [], [], [], false⟩
def S4_k2 (G : Hp) (K : Exit → Rg → Hp → Prop) (r : Rg) (h : Hp) : Prop :=
  opH Try.prog G (xEq .eql 24 (.tmp 0) (.const .nilFunc) (r 12) (.int .i64 0)) h fun v38 h38 =>
  gd (wantB v38 true) (fun K1 => K1 (r 13) h38) h38 fun v39 h39 =>
  gd (wantB v38 true) (opH Try.prog G (sv (Builtin.len_ #[32] 3 #[v39])) h39) h39 fun v40 h40 =>
  gd (wantB v38 true) (opH Try.prog G (xEq .eql 3 (.tmp 0) (.const .nilFunc) v40 (.int .i64 2)) h40) h40 fun v41 h41 =>
  opH Try.prog G (xPick v38 v41 (.bool false)) h41 fun v42 h42 =>
  gd (wantB v42 true) (fun K1 => K1 (r 13) h42) h42 fun v43 h43 =>
  gd (wantB v42 true) (opH Try.prog G (sv (Instr.indexAt 32 v43 (.int .i64 0))) h43) h43 fun v44 h44 =>
  gd (wantB v42 true) (opH Try.prog G (sv (Instr.fieldAt 35 v44 0)) h44) h44 fun v45 h45 =>
  gd (wantB v42 true) (opH Try.prog G (sv (Instr.loadAt 3 v45)) h45) h45 fun v46 h46 =>
  gd (wantB v42 true) (fun K1 => K1 (r 0) h46) h46 fun v47 h47 =>
  gd (wantB v42 true) (opH Try.prog G (xEq .eql 3 (.tmp 0) (.tmp 0) v46 v47) h47) h47 fun v48 h48 =>
  opH Try.prog G (xPick v42 v48 (.bool false)) h48 fun v49 h49 =>
  gd (wantB v49 true) (fun K1 => K1 (r 13) h49) h49 fun v50 h50 =>
  gd (wantB v49 true) (opH Try.prog G (sv (Instr.indexAt 32 v50 (.int .i64 0))) h50) h50 fun v51 h51 =>
  gd (wantB v49 true) (opH Try.prog G (sv (Instr.fieldAt 35 v51 1)) h51) h51 fun v52 h52 =>
  gd (wantB v49 true) (opH Try.prog G (sv (Instr.loadAt 3 v52)) h52) h52 fun v53 h53 =>
  gd (wantB v49 true) (fun K1 => K1 (r 0) h53) h53 fun v54 h54 =>
  gd (wantB v49 true) (fun K1 => K1 (r 1) h54) h54 fun v55 h55 =>
  gd (wantB v49 true) (opH Try.prog G (sv (binOp .add 3 v54 v55)) h55) h55 fun v56 h56 =>
  gd (wantB v49 true) (fun K1 => K1 (r 9) h56) h56 fun v57 h57 =>
  gd (wantB v49 true) (opH Try.prog G (sv (binOp .add 3 v56 v57)) h57) h57 fun v58 h58 =>
  gd (wantB v49 true) (opH Try.prog G (xEq .eql 3 (.tmp 0) (.tmp 0) v53 v58) h58) h58 fun v59 h59 =>
  opH Try.prog G (xPick v49 v59 (.bool false)) h59 fun v60 h60 =>
  gd (wantB v60 true) (fun K1 => K1 (r 10) h60) h60 fun v61 h61 =>
  gd (wantB v60 true) (fun K1 => K1 (r 0) h61) h61 fun v62 h62 =>
  gd (wantB v60 true) (fun K1 => K1 (r 1) h62) h62 fun v63 h63 =>
  gd (wantB v60 true) (opH Try.prog G (sv (binOp .add 3 v62 v63)) h63) h63 fun v64 h64 =>
  gd (wantB v60 true) (fun K1 => K1 (r 9) h64) h64 fun v65 h65 =>
  gd (wantB v60 true) (opH Try.prog G (sv (binOp .add 3 v64 v65)) h65) h65 fun v66 h66 =>
  gd (wantB v60 true) (opH Try.prog G (callFunc 21 #[v61, (.int .i64 1), (.int .i64 0), v66, (.int .i64 1)]) h66) h66 fun v67 h67 =>
  gd (wantB v60 true) (opH Try.prog G (xEq .eql 24 (.tmp 0) (.const .nilFunc) v67 (.int .i64 3)) h67) h67 fun v68 h68 =>
  opH Try.prog G (xPick v60 v68 (.bool false)) h68 fun v69 h69 =>
  gd (wantB v69 true) (fun K1 => K1 (r 10) h69) h69 fun v70 h70 =>
  gd (wantB v69 true) (fun K1 => K1 (r 0) h70) h70 fun v71 h71 =>
  gd (wantB v69 true) (fun K1 => K1 (r 1) h71) h71 fun v72 h72 =>
  gd (wantB v69 true) (opH Try.prog G (sv (binOp .add 3 v71 v72)) h72) h72 fun v73 h73 =>
  gd (wantB v69 true) (fun K1 => K1 (r 3) h73) h73 fun v74 h74 =>
  gd (wantB v69 true) (opH Try.prog G (sv (binOp .add 3 v73 v74)) h74) h74 fun v75 h75 =>
  gd (wantB v69 true) (fun K1 => K1 (r 2) h75) h75 fun v76 h76 =>
  gd (wantB v69 true) (opH Try.prog G (callFunc 21 #[v70, (.int .i64 2), (.int .i64 0), v75, v76]) h76) h76 fun v77 h77 =>
  gd (wantB v69 true) (opH Try.prog G (xEq .eql 24 (.tmp 0) (.const .nilFunc) v77 (.int .i64 0)) h77) h77 fun v78 h78 =>
  opH Try.prog G (xPick v69 v78 (.bool false)) h78 fun v79 h79 =>
  gd (wantB v79 true) (opH Try.prog G (callFunc 13 #[]) h79) h79 fun v80 h80 =>
  opH Try.prog G (xPick v79 v80 (.bool false)) h80 fun v81 h81 =>
  K .ret (upd (upd (upd (upd (upd (upd (upd (upd (upd (upd (upd (upd (upd (upd (upd (upd (upd (upd (upd (upd (upd (upd (upd (upd (upd (upd (upd (upd (upd (upd (upd (upd (upd (upd (upd (upd (upd (upd (upd (upd (upd (upd (upd (upd (upd (upd (upd (upd (upd (upd (upd (upd r 88 (r 12)) 89 v38) 90 v38) 91 v39) 92 v40) 93 v41) 94 v42) 95 v42) 96 v43) 97 v44) 98 v45) 99 v46) 100 v47) 101 v48) 102 v49) 103 v49) 104 v50) 105 v51) 106 v52) 107 v53) 108 v54) 109 v55) 110 v56) 111 v57) 112 v58) 113 v59) 114 v60) 115 v60) 116 v61) 117 v62) 118 v63) 119 v64) 120 v65) 121 v66) 122 v67) 123 v68) 124 v69) 125 v69) 126 v70) 127 v71) 128 v72) 129 v73) 130 v74) 131 v75) 132 v76) 133 v77) 134 v78) 135 v79) 136 v79) 137 v80) 138 v81) 8 v81) h81
def S4_k1 (G : Hp) (K : Exit → Rg → Hp → Prop) (r : Rg) (h : Hp) : Prop :=
  opH Try.prog G (sv (binOp .add 3 (r 0) (r 1))) h fun v33 h33 =>
  opH Try.prog G (sv (binOp .sub 3 v33 (.int .i64 1))) h33 fun v34 h34 =>
  opH Try.prog G (callFunc 21 #[(r 10), (.int .i64 1), (.int .i64 0), v34, (r 9)]) h34 fun v35 h35 =>
  opH Try.prog G (callFunc 16 #[(r 10), (.int .i64 0)]) h35 fun v36 h36 =>
  opH Try.prog G (sv (binOp .gtr 3 (r 9) (r 3))) h36 fun v37 h37 =>
  cond v37
  (opH Try.prog G (xEq .eql 24 (.tmp 0) (.const .nilFunc) v35 (.int .i64 18)) h37 fun v82 h82 =>
  gd (wantB v82 true) (fun K1 => K1 v36 h82) h82 fun v83 h83 =>
  gd (wantB v82 true) (opH Try.prog G (sv (Builtin.len_ #[32] 3 #[v83])) h83) h83 fun v84 h84 =>
  gd (wantB v82 true) (opH Try.prog G (xEq .eql 3 (.tmp 0) (.const .nilFunc) v84 (.int .i64 2)) h84) h84 fun v85 h85 =>
  opH Try.prog G (xPick v82 v85 (.bool false)) h85 fun v86 h86 =>
  gd (wantB v86 true) (fun K1 => K1 v36 h86) h86 fun v87 h87 =>
  gd (wantB v86 true) (opH Try.prog G (sv (Instr.indexAt 32 v87 (.int .i64 0))) h87) h87 fun v88 h88 =>
  gd (wantB v86 true) (opH Try.prog G (sv (Instr.fieldAt 35 v88 1)) h88) h88 fun v89 h89 =>
  gd (wantB v86 true) (opH Try.prog G (sv (Instr.loadAt 3 v89)) h89) h89 fun v90 h90 =>
  gd (wantB v86 true) (fun K1 => K1 (r 0) h90) h90 fun v91 h91 =>
  gd (wantB v86 true) (fun K1 => K1 (r 1) h91) h91 fun v92 h92 =>
  gd (wantB v86 true) (opH Try.prog G (sv (binOp .add 3 v91 v92)) h92) h92 fun v93 h93 =>
  gd (wantB v86 true) (opH Try.prog G (xEq .eql 3 (.tmp 0) (.tmp 0) v90 v93) h93) h93 fun v94 h94 =>
  opH Try.prog G (xPick v86 v94 (.bool false)) h94 fun v95 h95 =>
  gd (wantB v95 true) (opH Try.prog G (callFunc 13 #[]) h95) h95 fun v96 h96 =>
  opH Try.prog G (xPick v95 v96 (.bool false)) h96 fun v97 h97 =>
  K .ret (upd (upd (upd (upd (upd (upd (upd (upd (upd (upd (upd (upd (upd (upd (upd (upd (upd (upd (upd (upd (upd (upd (upd (upd (upd (upd (upd (upd (upd (upd (upd (upd (upd (upd (upd r 56 (r 10)) 57 (r 0)) 58 (r 1)) 59 v33) 60 v34) 61 (r 9)) 62 v35) 12 v35) 63 (r 10)) 64 v36) 13 v36) 65 (r 9)) 66 (r 3)) 67 v37) 68 v35) 69 v82) 70 v82) 71 v83) 72 v84) 73 v85) 74 v86) 75 v86) 76 v87) 77 v88) 78 v89) 79 v90) 80 v91) 81 v92) 82 v93) 83 v94) 84 v95) 85 v95) 86 v96) 87 v97) 8 v97) h97)
  (S4_k2 G K (upd (upd (upd (upd (upd (upd (upd (upd (upd (upd (upd (upd (upd (upd r 56 (r 10)) 57 (r 0)) 58 (r 1)) 59 v33) 60 v34) 61 (r 9)) 62 v35) 12 v35) 63 (r 10)) 64 v36) 13 v36) 65 (r 9)) 66 (r 3)) 67 v37) h37)
def S4 (G : Hp) (K : Exit → Rg → Hp → Prop) (r : Rg) (h : Hp) : Prop :=
  opH Try.prog G (callFunc 14 #[(r 0), (.int .i64 1000)]) h fun v0 h0 =>
  opH Try.prog G (callFunc 14 #[(r 1), (.int .i64 1000)]) h0 fun v1 h1 =>
  opH Try.prog G (sv (binOp .add 3 (.int .i64 1) v1)) h1 fun v2 h2 =>
  opH Try.prog G (callFunc 14 #[(r 3), (.int .i64 50)]) h2 fun v3 h3 =>
  opH Try.prog G (callFunc 14 #[(r 2), (.int .i64 60)]) h3 fun v4 h4 =>
  opH Try.prog G (callFunc 12 #[(.int .i64 1)]) h4 fun v5 h5 =>
  opH Try.prog G (sv (Instr.extract v5 0)) h5 fun v6 h6 =>
  opH Try.prog G (sv (Instr.extract v5 1)) h6 fun v7 h7 =>
  opH Try.prog G (xEq .neq 24 (.tmp 0) (.const .nilFunc) v7 (.int .i64 0)) h7 fun v8 h8 =>
  gd (wantB v8 false) (fun K1 => K1 v6 h8) h8 fun v9 h9 =>
  gd (wantB v8 false) (opH Try.prog G (xEq .eql 23 (.tmp 0) (.const .nilFunc) v9 (.pointer none)) h9) h9 fun v10 h10 =>
  opH Try.prog G (xPick v8 (.bool true) v10) h10 fun v11 h11 =>
  gd (wantB v11 false) (fun K1 => K1 v6 h11) h11 fun v12 h12 =>
  gd (wantB v11 false) (fun K1 => K1 v0 h12) h12 fun v13 h13 =>
  gd (wantB v11 false) (fun K1 => K1 v0 h13) h13 fun v14 h14 =>
  gd (wantB v11 false) (fun K1 => K1 v2 h14) h14 fun v15 h15 =>
  gd (wantB v11 false) (opH Try.prog G (sv (binOp .add 3 v14 v15)) h15) h15 fun v16 h16 =>
  gd (wantB v11 false) (opH Try.prog G (sv (Instr.build 30 #[(1, v13), (2, v16)])) h16) h16 fun v17 h17 =>
  gd (wantB v11 false) (opH Try.prog G (sv (Instr.buildSlice 22 1 #[(0, v17)])) h17) h17 fun v18 h18 =>
  gd (wantB v11 false) (opH Try.prog G (callFunc 15 #[v12, (.int .i64 1), v18]) h18) h18 fun v19 h19 =>
  gd (wantB v11 false) (opH Try.prog G (xEq .neq 24 (.tmp 0) (.const .nilFunc) v19 (.int .i64 0)) h19) h19 fun v20 h20 =>
  opH Try.prog G (xPick v11 (.bool true) v20) h20 fun v21 h21 =>
  gd (wantB v21 false) (fun K1 => K1 v6 h21) h21 fun v22 h22 =>
  gd (wantB v21 false) (fun K1 => K1 v0 h22) h22 fun v23 h23 =>
  gd (wantB v21 false) (fun K1 => K1 v2 h23) h23 fun v24 h24 =>
  gd (wantB v21 false) (opH Try.prog G (sv (binOp .add 3 v23 v24)) h24) h24 fun v25 h25 =>
  gd (wantB v21 false) (fun K1 => K1 v3 h25) h25 fun v26 h26 =>
  gd (wantB v21 false) (opH Try.prog G (sv (binOp .add 3 v25 v26)) h26) h26 fun v27 h27 =>
  gd (wantB v21 false) (opH Try.prog G (sv (Instr.build 30 #[(1, v27), (2, (.int .i64 4611686018427387904))])) h27) h27 fun v28 h28 =>
  gd (wantB v21 false) (opH Try.prog G (sv (Instr.buildSlice 22 1 #[(0, v28)])) h28) h28 fun v29 h29 =>
  gd (wantB v21 false) (opH Try.prog G (callFunc 15 #[v22, (.int .i64 2), v29]) h29) h29 fun v30 h30 =>
  gd (wantB v21 false) (opH Try.prog G (xEq .neq 24 (.tmp 0) (.const .nilFunc) v30 (.int .i64 0)) h30) h30 fun v31 h31 =>
  opH Try.prog G (xPick v21 (.bool true) v31) h31 fun v32 h32 =>
  cond v32
  (K .ret (upd (upd (upd (upd (upd (upd (upd (upd (upd (upd (upd (upd (upd (upd (upd (upd (upd (upd (upd (upd (upd (upd (upd (upd (upd (upd (upd (upd (upd (upd (upd (upd (upd (upd (upd (upd (upd (upd (upd (upd (upd (upd (upd (upd (upd (upd (upd (upd (upd (upd r 8 (.bool false)) 14 (r 0)) 15 v0) 0 v0) 16 (r 1)) 17 v1) 18 v2) 1 v2) 19 (r 3)) 20 v3) 3 v3) 21 (r 2)) 22 v4) 9 v4) 24 v5) 23 v5) 25 v6) 26 v7) 10 v6) 11 v7) 27 v7) 28 v8) 29 v8) 30 v9) 31 v10) 32 v11) 33 v11) 34 v12) 35 v13) 36 v14) 37 v15) 38 v16) 39 v17) 40 v18) 41 v19) 42 v20) 43 v21) 44 v21) 45 v22) 46 v23) 47 v24) 48 v25) 49 v26) 50 v27) 51 v28) 52 v29) 53 v30) 54 v31) 55 v32) 8 (.bool false)) h32)
  (S4_k1 G K (upd (upd (upd (upd (upd (upd (upd (upd (upd (upd (upd (upd (upd (upd (upd (upd (upd (upd (upd (upd (upd (upd (upd (upd (upd (upd (upd (upd (upd (upd (upd (upd (upd (upd (upd (upd (upd (upd (upd (upd (upd (upd (upd (upd (upd (upd (upd (upd (upd r 8 (.bool false)) 14 (r 0)) 15 v0) 0 v0) 16 (r 1)) 17 v1) 18 v2) 1 v2) 19 (r 3)) 20 v3) 3 v3) 21 (r 2)) 22 v4) 9 v4) 24 v5) 23 v5) 25 v6) 26 v7) 10 v6) 11 v7) 27 v7) 28 v8) 29 v8) 30 v9) 31 v10) 32 v11) 33 v11) 34 v12) 35 v13) 36 v14) 37 v15) 38 v16) 39 v17) 40 v18) 41 v19) 42 v20) 43 v21) 44 v21) 45 v22) 46 v23) 47 v24) 48 v25) 49 v26) 50 v27) 51 v28) 52 v29) 53 v30) 54 v31) 55 v32) h32)
theorem S4_eq (G : Hp) (K : Exit → Rg → Hp → Prop) (r : Rg) (h : Hp) : wpC Try.prog G 139 md4 true (Try.f4.body.getD .skip) r h K = S4 G K r h := by kernel_rfl
theorem enter4 {G : Hp} {h : Hp} {args : Array Value} {R : Value → Hp → Prop} (hn : args.size ≤ 139) (H : S4 G (retK Try.prog G [.tmp 8] R) (regs args) h) : HCalls Try.prog G 4 args h R :=
  HCalls.enter (md := md4) mixed Try.func4 rfl hn (by rw [← S4_eq] at H; exact H)

def md13 : Nat → Hint
  | _ => ⟨false, [], [], [], [], false⟩
def S13_k1 (G : Hp) (K : Exit → Rg → Hp → Prop) (r : Rg) (h : Hp) : Prop :=
  opH Try.prog G (callFunc 17 #[(r 1), (.int .i64 3), (.int .i64 1)]) h fun v19 h19 =>
  opH Try.prog G (callFunc 18 #[v19, (.int .i64 9)]) h19 fun v20 h20 =>
  opH Try.prog G (callFunc 29 #[(r 1), (.int .i64 3)]) h20 fun v21 h21 =>
  opH Try.prog G (sv (Instr.extract v21 0)) h21 fun v22 h22 =>
  opH Try.prog G (sv (Instr.extract v21 1)) h22 fun v23 h23 =>
  opH Try.prog G (callFunc 22 #[(r 1)]) h23 fun v24 h24 =>
  opH Try.prog G (xEq .eql 3 (.tmp 0) (.const .nilFunc) v24 (.int .i64 5)) h24 fun v25 h25 =>
  gd (wantB v25 true) (fun K1 => K1 v20 h25) h25 fun v26 h26 =>
  gd (wantB v25 true) (opH Try.prog G (sv (Builtin.len_ #[39] 3 #[v26])) h26) h26 fun v27 h27 =>
  gd (wantB v25 true) (opH Try.prog G (xEq .eql 3 (.tmp 0) (.const .nilFunc) v27 (.int .i64 2)) h27) h27 fun v28 h28 =>
  opH Try.prog G (xPick v25 v28 (.bool false)) h28 fun v29 h29 =>
  gd (wantB v29 true) (fun K1 => K1 v20 h29) h29 fun v30 h30 =>
  gd (wantB v29 true) (opH Try.prog G (sv (Instr.indexAt 39 v30 (.int .i64 0))) h30) h30 fun v31 h31 =>
  gd (wantB v29 true) (opH Try.prog G (sv (Instr.loadAt 58 v31)) h31) h31 fun v32 h32 =>
  gd (wantB v29 true) (opH Try.prog G (sv (Instr.build 58 #[(0, (.int .i64 0)), (1, (.int .i64 5))])) h32) h32 fun v33 h33 =>
  gd (wantB v29 true) (opH Try.prog G (xEq .eql 58 (.tmp 0) (.tmp 0) v32 v33) h33) h33 fun v34 h34 =>
  opH Try.prog G (xPick v29 v34 (.bool false)) h34 fun v35 h35 =>
  gd (wantB v35 true) (fun K1 => K1 v20 h35) h35 fun v36 h36 =>
  gd (wantB v35 true) (opH Try.prog G (sv (Instr.indexAt 39 v36 (.int .i64 1))) h36) h36 fun v37 h37 =>
  gd (wantB v35 true) (opH Try.prog G (sv (Instr.loadAt 58 v37)) h37) h37 fun v38 h38 =>
  gd (wantB v35 true) (opH Try.prog G (sv (Instr.build 58 #[(0, (.int .i64 9)), (1, (.int .i64 4611686018427387904))])) h38) h38 fun v39 h39 =>
  gd (wantB v35 true) (opH Try.prog G (xEq .eql 58 (.tmp 0) (.tmp 0) v38 v39) h39) h39 fun v40 h40 =>
  opH Try.prog G (xPick v35 v40 (.bool false)) h40 fun v41 h41 =>
  gd (wantB v41 true) (fun K1 => K1 v22 h41) h41 fun v42 h42 =>
  gd (wantB v41 true) (opH Try.prog G (xEq .eql 3 (.tmp 0) (.const .nilFunc) v42 (.int .i64 0)) h42) h42 fun v43 h43 =>
  opH Try.prog G (xPick v41 v43 (.bool false)) h43 fun v44 h44 =>
  gd (wantB v44 true) (fun K1 => K1 v23 h44) h44 fun v45 h45 =>
  opH Try.prog G (xPick v44 v45 (.bool false)) h45 fun v46 h46 =>
  gd (wantB v46 true) (fun K1 => K1 (r 1) h46) h46 fun v47 h47 =>
  gd (wantB v46 true) (opH Try.prog G (callFunc 16 #[v47, (.int .i64 3)]) h47) h47 fun v48 h48 =>
  gd (wantB v46 true) (opH Try.prog G (sv (Builtin.len_ #[32] 3 #[v48])) h48) h48 fun v49 h49 =>
  gd (wantB v46 true) (opH Try.prog G (xEq .eql 3 (.tmp 0) (.const .nilFunc) v49 (.int .i64 1)) h49) h49 fun v50 h50 =>
  opH Try.prog G (xPick v46 v50 (.bool false)) h50 fun v51 h51 =>
  K .ret (upd (upd (upd (upd (upd (upd (upd (upd (upd (upd (upd (upd (upd (upd (upd (upd (upd (upd (upd (upd (upd (upd (upd (upd (upd (upd (upd (upd (upd (upd (upd (upd (upd (upd (upd (upd (upd (upd (upd (upd (upd (upd (upd (upd (upd (upd (upd r 30 (r 1)) 31 v19) 32 v20) 3 v20) 34 (r 1)) 35 v21) 33 v21) 36 v22) 37 v23) 4 v22) 5 v23) 38 (r 1)) 39 v24) 40 v25) 41 v25) 42 v26) 43 v27) 44 v28) 45 v29) 46 v29) 47 v30) 48 v31) 49 v32) 50 v33) 51 v34) 52 v35) 53 v35) 54 v36) 55 v37) 56 v38) 57 v39) 58 v40) 59 v41) 60 v41) 61 v42) 62 v43) 63 v44) 64 v44) 65 v45) 66 v46) 67 v46) 68 v47) 69 v48) 70 v49) 71 v50) 72 v51) 0 v51) h51
def S13 (G : Hp) (K : Exit → Rg → Hp → Prop) (r : Rg) (h : Hp) : Prop :=
  opH Try.prog G (callFunc 12 #[(.int .i64 5)]) h fun v0 h0 =>
  opH Try.prog G (sv (Instr.extract v0 0)) h0 fun v1 h1 =>
  opH Try.prog G (sv (Instr.extract v0 1)) h1 fun v2 h2 =>
  opH Try.prog G (xEq .neq 24 (.tmp 0) (.const .nilFunc) v2 (.int .i64 0)) h2 fun v3 h3 =>
  gd (wantB v3 false) (fun K1 => K1 v1 h3) h3 fun v4 h4 =>
  gd (wantB v3 false) (opH Try.prog G (xEq .eql 23 (.tmp 0) (.const .nilFunc) v4 (.pointer none)) h4) h4 fun v5 h5 =>
  opH Try.prog G (xPick v3 (.bool true) v5) h5 fun v6 h6 =>
  gd (wantB v6 false) (fun K1 => K1 v1 h6) h6 fun v7 h7 =>
  gd (wantB v6 false) (opH Try.prog G (sv (Instr.build 30 #[(0, (.int .i64 3)), (1, (.int .i64 5)), (2, (.int .i64 9))])) h7) h7 fun v8 h8 =>
  gd (wantB v6 false) (opH Try.prog G (sv (Instr.buildSlice 22 1 #[(0, v8)])) h8) h8 fun v9 h9 =>
  gd (wantB v6 false) (opH Try.prog G (callFunc 15 #[v7, (.int .i64 0), v9]) h9) h9 fun v10 h10 =>
  gd (wantB v6 false) (opH Try.prog G (xEq .neq 24 (.tmp 0) (.const .nilFunc) v10 (.int .i64 0)) h10) h10 fun v11 h11 =>
  opH Try.prog G (xPick v6 (.bool true) v11) h11 fun v12 h12 =>
  gd (wantB v12 false) (fun K1 => K1 v1 h12) h12 fun v13 h13 =>
  gd (wantB v12 false) (opH Try.prog G (sv (Instr.build 30 #[(0, (.int .i64 3)), (1, (.int .i64 8)), (2, (.int .i64 10))])) h13) h13 fun v14 h14 =>
  gd (wantB v12 false) (opH Try.prog G (sv (Instr.buildSlice 22 1 #[(0, v14)])) h14) h14 fun v15 h15 =>
  gd (wantB v12 false) (opH Try.prog G (callFunc 15 #[v13, (.int .i64 1), v15]) h15) h15 fun v16 h16 =>
  gd (wantB v12 false) (opH Try.prog G (xEq .neq 24 (.tmp 0) (.const .nilFunc) v16 (.int .i64 18)) h16) h16 fun v17 h17 =>
  opH Try.prog G (xPick v12 (.bool true) v17) h17 fun v18 h18 =>
  cond v18
  (K .ret (upd (upd (upd (upd (upd (upd (upd (upd (upd (upd (upd (upd (upd (upd (upd (upd (upd (upd (upd (upd (upd (upd (upd (upd (upd (upd (upd (upd r 0 (.bool false)) 7 v0) 6 v0) 8 v1) 9 v2) 1 v1) 2 v2) 10 v2) 11 v3) 12 v3) 13 v4) 14 v5) 15 v6) 16 v6) 17 v7) 18 v8) 19 v9) 20 v10) 21 v11) 22 v12) 23 v12) 24 v13) 25 v14) 26 v15) 27 v16) 28 v17) 29 v18) 0 (.bool false)) h18)
  (S13_k1 G K (upd (upd (upd (upd (upd (upd (upd (upd (upd (upd (upd (upd (upd (upd (upd (upd (upd (upd (upd (upd (upd (upd (upd (upd (upd (upd (upd r 0 (.bool false)) 7 v0) 6 v0) 8 v1) 9 v2) 1 v1) 2 v2) 10 v2) 11 v3) 12 v3) 13 v4) 14 v5) 15 v6) 16 v6) 17 v7) 18 v8) 19 v9) 20 v10) 21 v11) 22 v12) 23 v12) 24 v13) 25 v14) 26 v15) 27 v16) 28 v17) 29 v18) h18)
theorem S13_eq (G : Hp) (K : Exit → Rg → Hp → Prop) (r : Rg) (h : Hp) : wpC Try.prog G 73 md13 true (Try.f13.body.getD .skip) r h K = S13 G K r h := by kernel_rfl
theorem enter13 {G : Hp} {h : Hp} {args : Array Value} {R : Value → Hp → Prop} (hn : args.size ≤ 73) (H : S13 G (retK Try.prog G [.tmp 0] R) (regs args) h) : HCalls Try.prog G 13 args h R :=
  HCalls.enter (md := md13) mixed Try.func13 rfl hn (by rw [← S13_eq] at H; exact H)

def md14 : Nat → Hint
  | _ => ⟨false, [], [], [], [], false⟩
def S14_k1 (G : Hp) (K : Exit → Rg → Hp → Prop) (r : Rg) (h : Hp) : Prop :=
  K .ret (upd (upd r 14 (r 5)) 4 (r 5)) h
def S14 (G : Hp) (K : Exit → Rg → Hp → Prop) (r : Rg) (h : Hp) : Prop :=
  opH Try.prog G (sv (binOp .rem 3 (r 0) (r 1))) h fun v0 h0 =>
  opH Try.prog G (sv (binOp .lss 3 v0 (.int .i64 0))) h0 fun v1 h1 =>
  cond v1
  (opH Try.prog G (sv (binOp .add 3 v0 (r 1))) h1 fun v2 h2 =>
  S14_k1 G K (upd (upd (upd (upd (upd (upd (upd (upd (upd (upd (upd r 4 (.int .i64 0)) 6 (r 0)) 7 (r 1)) 8 v0) 5 v0) 9 v0) 10 v1) 11 v0) 12 (r 1)) 13 v2) 5 v2) h2)
  (S14_k1 G K (upd (upd (upd (upd (upd (upd (upd r 4 (.int .i64 0)) 6 (r 0)) 7 (r 1)) 8 v0) 5 v0) 9 v0) 10 v1) h1)
theorem S14_eq (G : Hp) (K : Exit → Rg → Hp → Prop) (r : Rg) (h : Hp) : wpC Try.prog G 15 md14 true (Try.f14.body.getD .skip) r h K = S14 G K r h := by kernel_rfl
theorem enter14 {G : Hp} {h : Hp} {args : Array Value} {R : Value → Hp → Prop} (hn : args.size ≤ 15) (H : S14 G (retK Try.prog G [.tmp 4] R) (regs args) h) : HCalls Try.prog G 14 args h R :=
  HCalls.enter (md := md14) mixed Try.func14 rfl hn (by rw [← S14_eq] at H; exact H)

def md18 : Nat → Hint
  | _ => ⟨false, [], [], [], [], false⟩
def S18_k1 (G : Hp) (K : Exit → Rg → Hp → Prop) (r : Rg) (h : Hp) : Prop :=
  opH Try.prog G (xCallV (r 0) #[(.func (.func 35) #[] #[(r 5), (r 3)])]) h fun v6 h6 =>
  opH Try.prog G (sv (Instr.loadAt 39 (r 5))) h6 fun v7 h7 =>
  K .ret (upd (upd (upd (upd (upd r 12 (r 0)) 13 (.func (.func 35) #[] #[(r 5), (r 3)])) 14 v6) 15 v7) 4 v7) h7
def S18 (G : Hp) (K : Exit → Rg → Hp → Prop) (r : Rg) (h : Hp) : Prop :=
  opH Try.prog G (sv (Instr.box 3 (r 1))) h fun v0 h0 =>
  opH Try.prog G (sv (Instr.alloc 39 true (.tuple #[]))) h0 fun v1 h1 =>
  opH Try.prog G (xEq .eql 37 (.tmp 0) (.const .nilFunc) (r 0) .nilFunc) h1 fun v2 h2 =>
  gd (wantB v2 false) (opH Try.prog G (sv (Instr.loadAt 3 v0)) h2) h2 fun v3 h3 =>
  gd (wantB v2 false) (opH Try.prog G (sv (binOp .lss 3 v3 (.int .i64 1))) h3) h3 fun v4 h4 =>
  opH Try.prog G (xPick v2 (.bool true) v4) h4 fun v5 h5 =>
  cond v5
  (K .ret (upd (upd (upd (upd (upd (upd (upd (upd (upd (upd r 3 v0) 4 (.slice none 0 0)) 5 v1) 6 (r 0)) 7 v2) 8 v2) 9 v3) 10 v4) 11 v5) 4 (.slice none 0 0)) h5)
  (S18_k1 G K (upd (upd (upd (upd (upd (upd (upd (upd (upd r 3 v0) 4 (.slice none 0 0)) 5 v1) 6 (r 0)) 7 v2) 8 v2) 9 v3) 10 v4) 11 v5) h5)
theorem S18_eq (G : Hp) (K : Exit → Rg → Hp → Prop) (r : Rg) (h : Hp) : wpC Try.prog G 16 md18 true (Try.f18.body.getD .skip) r h K = S18 G K r h := by kernel_rfl
theorem enter18 {G : Hp} {h : Hp} {args : Array Value} {R : Value → Hp → Prop} (hn : args.size ≤ 16) (H : S18 G (retK Try.prog G [.tmp 4] R) (regs args) h) : HCalls Try.prog G 18 args h R :=
  HCalls.enter (md := md18) mixed Try.func18 rfl hn (by rw [← S18_eq] at H; exact H)

def md35 : Nat → Hint
  | _ => ⟨false, [], [], [], [], false⟩
def S35 (G : Hp) (K : Exit → Rg → Hp → Prop) (r : Rg) (h : Hp) : Prop :=
  opH Try.prog G (sv (Instr.loadAt 39 (r 2))) h fun v0 h0 =>
  opH Try.prog G (sv (Instr.build 58 #[(0, (r 0)), (1, (r 1))])) h0 fun v1 h1 =>
  opH Try.prog G (sv (Instr.buildSlice 39 1 #[(0, v1)])) h1 fun v2 h2 =>
  opH Try.prog G (sv (Builtin.append_ #[39, 39] 39 #[v0, v2])) h2 fun v3 h3 =>
  opH Try.prog G (su (Instr.storeAt 39 (r 2) v3)) h3 fun v4 h4 =>
  opH Try.prog G (sv (Instr.loadAt 39 (r 2))) h4 fun v5 h5 =>
  opH Try.prog G (sv (Builtin.len_ #[39] 3 #[v5])) h5 fun v6 h6 =>
  opH Try.prog G (sv (Instr.loadAt 3 (r 3))) h6 fun v7 h7 =>
  opH Try.prog G (sv (binOp .lss 3 v6 v7)) h7 fun v8 h8 =>
  K .ret (upd (upd (upd (upd (upd (upd (upd (upd (upd (upd (upd (upd r 6 (.bool false)) 7 v0) 8 (r 0)) 9 (r 1)) 10 v1) 11 v2) 12 v3) 13 v5) 14 v6) 15 v7) 16 v8) 6 v8) h8
theorem S35_eq (G : Hp) (K : Exit → Rg → Hp → Prop) (r : Rg) (h : Hp) : wpC Try.prog G 17 md35 true (Try.f35.body.getD .skip) r h K = S35 G K r h := by kernel_rfl
theorem enter35 {G : Hp} {h : Hp} {args : Array Value} {R : Value → Hp → Prop} (hn : args.size ≤ 17) (H : S35 G (retK Try.prog G [.tmp 6] R) (regs args) h) : HCalls Try.prog G 35 args h R :=
  HCalls.enter (md := md35) mixed Try.func35 rfl hn (by rw [← S35_eq] at H; exact H)

end Go.Proofs.Ytbloobepmgmbgaa

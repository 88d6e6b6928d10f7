/- A text of the proofs. -/
import Derived.Test.YtbloobepmgmbgaaRI
set_option linter.unusedVariables false
set_option maxRecDepth 100000
namespace Go.Proofs.Ytbloobepmgmbgaa
open Go Go.HL
def md11 : Nat → Hint
  | _ => ⟨false, [], [], [], [], false⟩
def S11_k6 (G : Hp) (K : Exit → Rg → Hp → Prop) (r : Rg) (h : Hp) : Prop :=
  opH Try.prog G (xEq .eql 24 (.tmp 0) (.const .nilFunc) (r 20) (.int .i64 0)) h fun v18 h18 =>
  gd (wantB v18 true) (fun K1 => K1 (r 7) h18) h18 fun v19 h19 =>
  gd (wantB v18 true) (fun K1 => K1 (r 1) h19) h19 fun v20 h20 =>
  gd (wantB v18 true) (opH Try.prog G (callFunc 16 #[v19, v20]) h20) h20 fun v21 h21 =>
  gd (wantB v18 true) (fun K1 => K1 (r 9) h21) h21 fun v22 h22 =>
  gd (wantB v18 true) (fun K1 => K1 (r 1) h22) h22 fun v23 h23 =>
  gd (wantB v18 true) (opH Try.prog G (callFunc 16 #[v22, v23]) h23) h23 fun v24 h24 =>
  gd (wantB v18 true) (opH Try.prog G (callFunc 19 #[v21, v24]) h24) h24 fun v25 h25 =>
  opH Try.prog G (xPick v18 v25 (.bool false)) h25 fun v26 h26 =>
  gd (wantB v26 true) (opH Try.prog G (callFunc 13 #[]) h26) h26 fun v27 h27 =>
  opH Try.prog G (xPick v26 v27 (.bool false)) h27 fun v28 h28 =>
  K .ret (upd (upd (upd (upd (upd (upd (upd (upd (upd (upd (upd (upd (upd (upd (upd r 153 (r 20)) 154 v18) 155 v18) 156 v19) 157 v20) 158 v21) 159 v22) 160 v23) 161 v24) 162 v25) 163 v26) 164 v26) 165 v27) 166 v28) 6 v28) h28
def S11_k5 (G : Hp) (K : Exit → Rg → Hp → Prop) (r : Rg) (h : Hp) : Prop :=
  opH Try.prog G (xEq .neq 24 (.tmp 0) (.const .nilFunc) (r 19) (.int .i64 0)) h fun v17 h17 =>
  cond v17
  (opH Try.prog G (xEq .neq 24 (.tmp 0) (.const .nilFunc) (r 20) (.int .i64 0)) h17 fun v29 h29 =>
  gd (wantB v29 true) (opH Try.prog G (callFunc 13 #[]) h29) h29 fun v30 h30 =>
  opH Try.prog G (xPick v29 v30 (.bool false)) h30 fun v31 h31 =>
  K .ret (upd (upd (upd (upd (upd (upd (upd (upd r 146 (r 19)) 147 v17) 148 (r 20)) 149 v29) 150 v29) 151 v30) 152 v31) 6 v31) h31)
  (S11_k6 G K (upd (upd r 146 (r 19)) 147 v17) h17)
def S11_l7_k9 (G : Hp) (K : Exit → Rg → Hp → Prop) (r : Rg) (h : Hp) : Prop :=
  opH Try.prog G (sv (binOp .add 3 (r 21) (.int .i64 1))) h fun v34 h34 =>
  K .normal (upd (upd (upd r 134 (r 21)) 135 v34) 21 v34) h34
def S11_l7_k8 (G : Hp) (K : Exit → Rg → Hp → Prop) (r : Rg) (h : Hp) : Prop :=
  opH Try.prog G (sv (binOp .add 3 (r 21) (.int .i64 1))) h fun v35 h35 =>
  opH Try.prog G (sv (Instr.sliceAt 22 (r 14) (some (r 21)) (some v35) none)) h35 fun v36 h36 =>
  opH Try.prog G (callFunc 15 #[(r 9), (.int .i64 9), v36]) h36 fun v37 h37 =>
  opH Try.prog G (xEq .neq 24 (.tmp 0) (.const .nilFunc) v37 (.int .i64 0)) h37 fun v38 h38 =>
  cond v38
  (S11_l7_k9 G K (upd (upd (upd (upd (upd (upd (upd (upd (upd (upd (upd (upd r 136 (r 9)) 137 (r 14)) 138 (r 21)) 139 (r 21)) 140 v35) 141 v36) 142 v37) 22 v37) 143 v37) 144 v38) 145 v37) 20 v37) h38)
  (S11_l7_k9 G K (upd (upd (upd (upd (upd (upd (upd (upd (upd (upd r 136 (r 9)) 137 (r 14)) 138 (r 21)) 139 (r 21)) 140 v35) 141 v36) 142 v37) 22 v37) 143 v37) 144 v38) h38)
def S11_l7 (G : Hp) (r : Rg) (h : Hp) (K : Exit → Rg → Hp → Prop) : Prop :=
  opH Try.prog G (sv (Builtin.len_ #[22] 3 #[(r 14)])) h fun v32 h32 =>
  opH Try.prog G (sv (binOp .lss 3 (r 21) v32)) h32 fun v33 h33 =>
  cond v33
  (S11_l7_k8 G K (upd (upd (upd (upd r 130 (r 21)) 131 (r 14)) 132 v32) 133 v33) h33)
  (K (.exit 4) (upd (upd (upd (upd r 130 (r 21)) 131 (r 14)) 132 v32) 133 v33) h33)
def S11_k4 (G : Hp) (K : Exit → Rg → Hp → Prop) (r : Rg) (h : Hp) : Prop :=
  opH Try.prog G (sv (Instr.build 30 #[(0, (r 1)), (1, (r 15)), (2, (r 16))])) h fun v14 h14 =>
  opH Try.prog G (sv (Instr.buildSlice 22 1 #[(0, v14)])) h14 fun v15 h15 =>
  opH Try.prog G (callFunc 15 #[(r 7), (.int .i64 9), v15]) h15 fun v16 h16 =>
  loopP (S11_l7 G) (upd (upd (upd (upd (upd (upd (upd (upd (upd (upd r 123 (r 7)) 124 (r 1)) 125 (r 15)) 126 (r 16)) 127 v14) 128 v15) 129 v16) 19 v16) 20 (.int .i64 0)) 21 (.int .i64 0)) h16 (blockK 4 (thenK (S11_k5 G K) K))
def S11_k3 (G : Hp) (K : Exit → Rg → Hp → Prop) (r : Rg) (h : Hp) : Prop :=
  opH Try.prog G (xEq .eql 3 (.tmp 0) (.tmp 0) (r 15) (r 16)) h fun v13 h13 =>
  cond v13
  (opH Try.prog G (callFunc 13 #[]) h13 fun v39 h39 =>
  K .ret (upd (upd (upd (upd (upd r 119 (r 15)) 120 (r 16)) 121 v13) 122 v39) 6 v39) h39)
  (S11_k4 G K (upd (upd (upd r 119 (r 15)) 120 (r 16)) 121 v13) h13)
def S11_l10_k12 (G : Hp) (K : Exit → Rg → Hp → Prop) (r : Rg) (h : Hp) : Prop :=
  opH Try.prog G (sv (binOp .add 3 (r 17) (.int .i64 1))) h fun v45 h45 =>
  K .normal (upd (upd (upd r 81 (r 17)) 82 v45) 17 v45) h45
def S11_l10_k11 (G : Hp) (K : Exit → Rg → Hp → Prop) (r : Rg) (h : Hp) : Prop :=
  opH Try.prog G (sv (Instr.indexAt 64 (r 2) (r 17))) h fun v46 h46 =>
  opH Try.prog G (sv (Instr.loadAt 3 v46)) h46 fun v47 h47 =>
  opH Try.prog G (callFunc 14 #[v47, (.int .i64 9)]) h47 fun v48 h48 =>
  opH Try.prog G (sv (binOp .add 3 (.int .i64 1) v48)) h48 fun v49 h49 =>
  opH Try.prog G (sv (Instr.indexAt 64 (r 2) (r 17))) h49 fun v50 h50 =>
  opH Try.prog G (sv (Instr.loadAt 3 v50)) h50 fun v51 h51 =>
  opH Try.prog G (sv (binOp .rem 3 v51 (.int .i64 2))) h51 fun v52 h52 =>
  opH Try.prog G (xEq .eql 3 (.tmp 0) (.const .nilFunc) v52 (.int .i64 0)) h52 fun v53 h53 =>
  cond v53
  (opH Try.prog G (sv (binOp .add 3 (r 16) v49)) h53 fun v54 h54 =>
  opH Try.prog G (sv (Instr.build 30 #[(0, (r 1)), (1, (r 16)), (2, v54)])) h54 fun v55 h55 =>
  opH Try.prog G (sv (Instr.buildSlice 22 1 #[(0, v55)])) h55 fun v56 h56 =>
  opH Try.prog G (sv (Builtin.append_ #[22, 22] 22 #[(r 14), v56])) h56 fun v57 h57 =>
  opH Try.prog G (sv (binOp .add 3 (r 16) v49)) h57 fun v58 h58 =>
  S11_l10_k12 G K (upd (upd (upd (upd (upd (upd (upd (upd (upd (upd (upd (upd (upd (upd (upd (upd (upd (upd (upd (upd (upd (upd (upd (upd (upd (upd (upd r 83 (r 2)) 84 (r 17)) 85 v46) 86 v47) 87 v48) 88 v49) 18 v49) 89 (r 2)) 90 (r 17)) 91 v50) 92 v51) 93 v52) 94 v53) 95 (r 14)) 96 (r 1)) 97 (r 16)) 98 (r 16)) 99 v49) 100 v54) 101 v55) 102 v56) 103 v57) 14 v57) 104 (r 16)) 105 v49) 106 v58) 16 v58) h58)
  (opH Try.prog G (sv (binOp .sub 3 (r 15) v49)) h53 fun v59 h59 =>
  opH Try.prog G (sv (Instr.build 30 #[(0, (r 1)), (1, v59), (2, (r 15))])) h59 fun v60 h60 =>
  opH Try.prog G (sv (Instr.buildSlice 22 1 #[(0, v60)])) h60 fun v61 h61 =>
  opH Try.prog G (sv (Builtin.append_ #[22, 22] 22 #[(r 14), v61])) h61 fun v62 h62 =>
  opH Try.prog G (sv (binOp .sub 3 (r 15) v49)) h62 fun v63 h63 =>
  S11_l10_k12 G K (upd (upd (upd (upd (upd (upd (upd (upd (upd (upd (upd (upd (upd (upd (upd (upd (upd (upd (upd (upd (upd (upd (upd (upd (upd (upd (upd r 83 (r 2)) 84 (r 17)) 85 v46) 86 v47) 87 v48) 88 v49) 18 v49) 89 (r 2)) 90 (r 17)) 91 v50) 92 v51) 93 v52) 94 v53) 107 (r 14)) 108 (r 1)) 109 (r 15)) 110 v49) 111 v59) 112 (r 15)) 113 v60) 114 v61) 115 v62) 14 v62) 116 (r 15)) 117 v49) 118 v63) 15 v63) h63)
def S11_l10 (G : Hp) (r : Rg) (h : Hp) (K : Exit → Rg → Hp → Prop) : Prop :=
  opH Try.prog G (sv (Builtin.len_ #[64] 3 #[(r 2)])) h fun v40 h40 =>
  opH Try.prog G (sv (binOp .lss 3 (r 17) v40)) h40 fun v41 h41 =>
  gd (wantB v41 true) (fun K1 => K1 (r 17) h41) h41 fun v42 h42 =>
  gd (wantB v41 true) (opH Try.prog G (sv (binOp .lss 3 v42 (.int .i64 12))) h42) h42 fun v43 h43 =>
  opH Try.prog G (xPick v41 v43 (.bool false)) h43 fun v44 h44 =>
  cond v44
  (S11_l10_k11 G K (upd (upd (upd (upd (upd (upd (upd (upd r 73 (r 17)) 74 (r 2)) 75 v40) 76 v41) 77 v41) 78 v42) 79 v43) 80 v44) h44)
  (K (.exit 2) (upd (upd (upd (upd (upd (upd (upd (upd r 73 (r 17)) 74 (r 2)) 75 v40) 76 v41) 77 v41) 78 v42) 79 v43) 80 v44) h44)
def S11_k2 (G : Hp) (K : Exit → Rg → Hp → Prop) (r : Rg) (h : Hp) : Prop :=
  loopP (S11_l10 G) (upd (upd (upd (upd r 14 (.slice none 0 0)) 15 (.int .i64 1048576)) 16 (.int .i64 1048576)) 17 (.int .i64 0)) h (blockK 2 (thenK (S11_k3 G K) K))
def S11_l13_k15 (G : Hp) (K : Exit → Rg → Hp → Prop) (r : Rg) (h : Hp) : Prop :=
  opH Try.prog G (sv (binOp .add 3 (r 13) (.int .i64 1))) h fun v69 h69 =>
  K .normal (upd (upd (upd r 49 (r 13)) 50 v69) 13 v69) h69
def S11_l13_k16 (G : Hp) (K : Exit → Rg → Hp → Prop) (r : Rg) (h : Hp) : Prop :=
  opH Try.prog G (sv (Instr.indexAt 46 (r 0) (r 13))) h fun v75 h75 =>
  opH Try.prog G (sv (Instr.loadAt 51 v75)) h75 fun v76 h76 =>
  opH Try.prog G (callFunc 24 #[(r 7), (r 11), v76]) h76 fun v77 h77 =>
  opH Try.prog G (sv (Instr.indexAt 46 (r 0) (r 13))) h77 fun v78 h78 =>
  opH Try.prog G (sv (Instr.loadAt 51 v78)) h78 fun v79 h79 =>
  opH Try.prog G (callFunc 24 #[(r 9), (r 12), v79]) h79 fun v80 h80 =>
  S11_l13_k15 G K (upd (upd (upd (upd (upd (upd (upd (upd (upd (upd (upd (upd (upd (upd r 59 (r 7)) 60 (r 11)) 61 (r 0)) 62 (r 13)) 63 v75) 64 v76) 65 v77) 66 (r 9)) 67 (r 12)) 68 (r 0)) 69 (r 13)) 70 v78) 71 v79) 72 v80) h80
def S11_l13_k14 (G : Hp) (K : Exit → Rg → Hp → Prop) (r : Rg) (h : Hp) : Prop :=
  opH Try.prog G (sv (Instr.indexAt 46 (r 0) (r 13))) h fun v70 h70 =>
  opH Try.prog G (sv (Instr.fieldAt 51 v70 5)) h70 fun v71 h71 =>
  opH Try.prog G (sv (Instr.loadAt 22 v71)) h71 fun v72 h72 =>
  opH Try.prog G (sv (Builtin.len_ #[22] 3 #[v72])) h72 fun v73 h73 =>
  opH Try.prog G (sv (binOp .gtr 3 v73 (.int .i64 30))) h73 fun v74 h74 =>
  cond v74
  (opH Try.prog G (callFunc 13 #[]) h74 fun v81 h81 =>
  K .ret (upd (upd (upd (upd (upd (upd (upd (upd (upd r 51 (r 0)) 52 (r 13)) 53 v70) 54 v71) 55 v72) 56 v73) 57 v74) 58 v81) 6 v81) h81)
  (S11_l13_k16 G K (upd (upd (upd (upd (upd (upd (upd r 51 (r 0)) 52 (r 13)) 53 v70) 54 v71) 55 v72) 56 v73) 57 v74) h74)
def S11_l13 (G : Hp) (r : Rg) (h : Hp) (K : Exit → Rg → Hp → Prop) : Prop :=
  opH Try.prog G (sv (Builtin.len_ #[46] 3 #[(r 0)])) h fun v64 h64 =>
  opH Try.prog G (sv (binOp .lss 3 (r 13) v64)) h64 fun v65 h65 =>
  gd (wantB v65 true) (fun K1 => K1 (r 13) h65) h65 fun v66 h66 =>
  gd (wantB v65 true) (opH Try.prog G (sv (binOp .lss 3 v66 (.int .i64 20))) h66) h66 fun v67 h67 =>
  opH Try.prog G (xPick v65 v67 (.bool false)) h67 fun v68 h68 =>
  cond v68
  (S11_l13_k14 G K (upd (upd (upd (upd (upd (upd (upd (upd r 41 (r 13)) 42 (r 0)) 43 v64) 44 v65) 45 v65) 46 v66) 47 v67) 48 v68) h68)
  (K (.exit 0) (upd (upd (upd (upd (upd (upd (upd (upd r 41 (r 13)) 42 (r 0)) 43 v64) 44 v65) 45 v65) 46 v66) 47 v67) 48 v68) h68)
def S11_k1 (G : Hp) (K : Exit → Rg → Hp → Prop) (r : Rg) (h : Hp) : Prop :=
  opH Try.prog G (callFunc 23 #[(.int .i64 6)]) h fun v11 h11 =>
  opH Try.prog G (callFunc 23 #[(.int .i64 6)]) h11 fun v12 h12 =>
  loopP (S11_l13 G) (upd (upd (upd (upd (upd r 39 v11) 11 v11) 40 v12) 12 v12) 13 (.int .i64 0)) h12 (blockK 0 (thenK (S11_k2 G K) K))
def S11 (G : Hp) (K : Exit → Rg → Hp → Prop) (r : Rg) (h : Hp) : Prop :=
  opH Try.prog G (callFunc 14 #[(r 1), (.int .i64 6)]) h fun v0 h0 =>
  opH Try.prog G (callFunc 12 #[(.int .i64 6)]) h0 fun v1 h1 =>
  opH Try.prog G (sv (Instr.extract v1 0)) h1 fun v2 h2 =>
  opH Try.prog G (sv (Instr.extract v1 1)) h2 fun v3 h3 =>
  opH Try.prog G (callFunc 12 #[(.int .i64 6)]) h3 fun v4 h4 =>
  opH Try.prog G (sv (Instr.extract v4 0)) h4 fun v5 h5 =>
  opH Try.prog G (sv (Instr.extract v4 1)) h5 fun v6 h6 =>
  opH Try.prog G (xEq .neq 24 (.tmp 0) (.const .nilFunc) v3 (.int .i64 0)) h6 fun v7 h7 =>
  gd (wantB v7 false) (fun K1 => K1 v6 h7) h7 fun v8 h8 =>
  gd (wantB v7 false) (opH Try.prog G (xEq .neq 24 (.tmp 0) (.const .nilFunc) v8 (.int .i64 0)) h8) h8 fun v9 h9 =>
  opH Try.prog G (xPick v7 (.bool true) v9) h9 fun v10 h10 =>
  cond v10
  (K .ret (upd (upd (upd (upd (upd (upd (upd (upd (upd (upd (upd (upd (upd (upd (upd (upd (upd (upd (upd (upd (upd (upd (upd r 6 (.bool false)) 23 (r 1)) 24 v0) 1 v0) 26 v1) 25 v1) 27 v2) 28 v3) 7 v2) 8 v3) 30 v4) 29 v4) 31 v5) 32 v6) 9 v5) 10 v6) 33 v3) 34 v7) 35 v7) 36 v8) 37 v9) 38 v10) 6 (.bool false)) h10)
  (S11_k1 G K (upd (upd (upd (upd (upd (upd (upd (upd (upd (upd (upd (upd (upd (upd (upd (upd (upd (upd (upd (upd (upd (upd r 6 (.bool false)) 23 (r 1)) 24 v0) 1 v0) 26 v1) 25 v1) 27 v2) 28 v3) 7 v2) 8 v3) 30 v4) 29 v4) 31 v5) 32 v6) 9 v5) 10 v6) 33 v3) 34 v7) 35 v7) 36 v8) 37 v9) 38 v10) h10)
theorem S11_eq (G : Hp) (K : Exit → Rg → Hp → Prop) (r : Rg) (h : Hp) : wpC Try.prog G 167 md11 true (Try.f11.body.getD .skip) r h K = S11 G K r h := by kernel_rfl
theorem enter11 {G : Hp} {h : Hp} {args : Array Value} {R : Value → Hp → Prop} (hn : args.size ≤ 167) (H : S11 G (retK Try.prog G [.tmp 6] R) (regs args) h) : HCalls Try.prog G 11 args h R :=
  HCalls.enter (md := md11) mixed Try.func11 rfl hn (by rw [← S11_eq] at H; exact H)

def md13 : Nat → Hint
  | _ => ⟨false, [], [], [], [], false⟩
def S13_k1 (G : Hp) (K : Exit → Rg → Hp → Prop) (r : Rg) (h : Hp) : Prop :=
  opH Try.prog G (callFunc 17 #[(r 1), (.int .i64 3), (.int .i64 1)]) h fun v19 h19 =>
  opH Try.prog G (callFunc 18 #[v19, (.int .i64 9)]) h19 fun v20 h20 =>
  opH Try.prog G (callFunc 29 #[(r 1), (.int .i64 3)]) h20 fun v21 h21 =>
  opH Try.prog G (sv (Instr.extract v21 0)) h21 fun v22 h22 =>
  opH Try.prog G (sv (Instr.extract v21 1)) h22 fun v23 h23 =>
  opH Try.prog G (callFunc 22 #[(r 1)]) h23 fun v24 h24 =>
  opH Try.prog G (xEq .eql 3 (.tmp 0) (.const .nilFunc) v24 (.int .i64 5)) h24 fun v25 h25 =>
  gd (wantB v25 true) (fun K1 => K1 v20 h25) h25 fun v26 h26 =>
  gd (wantB v25 true) (opH Try.prog G (sv (Builtin.len_ #[39] 3 #[v26])) h26) h26 fun v27 h27 =>
  gd (wantB v25 true) (opH Try.prog G (xEq .eql 3 (.tmp 0) (.const .nilFunc) v27 (.int .i64 2)) h27) h27 fun v28 h28 =>
  opH Try.prog G (xPick v25 v28 (.bool false)) h28 fun v29 h29 =>
  gd (wantB v29 true) (fun K1 => K1 v20 h29) h29 fun v30 h30 =>
  gd (wantB v29 true) (opH Try.prog G (sv (Instr.indexAt 39 v30 (.int .i64 0))) h30) h30 fun v31 h31 =>
  gd (wantB v29 true) (opH Try.prog G (sv (Instr.loadAt 58 v31)) h31) h31 fun v32 h32 =>
  gd (wantB v29 true) (opH Try.prog G (sv (Instr.build 58 #[(0, (.int .i64 0)), (1, (.int .i64 5))])) h32) h32 fun v33 h33 =>
  gd (wantB v29 true) (opH Try.prog G (xEq .eql 58 (.tmp 0) (.tmp 0) v32 v33) h33) h33 fun v34 h34 =>
  opH Try.prog G (xPick v29 v34 (.bool false)) h34 fun v35 h35 =>
  gd (wantB v35 true) (fun K1 => K1 v20 h35) h35 fun v36 h36 =>
  gd (wantB v35 true) (opH Try.prog G (sv (Instr.indexAt 39 v36 (.int .i64 1))) h36) h36 fun v37 h37 =>
  gd (wantB v35 true) (opH Try.prog G (sv (Instr.loadAt 58 v37)) h37) h37 fun v38 h38 =>
  gd (wantB v35 true) (opH Try.prog G (sv (Instr.build 58 #[(0, (.int .i64 9)), (1, (.int .i64 4611686018427387904))])) h38) h38 fun v39 h39 =>
  gd (wantB v35 true) (opH Try.prog G (xEq .eql 58 (.tmp 0) (.tmp 0) v38 v39) h39) h39 fun v40 h40 =>
  opH Try.prog G (xPick v35 v40 (.bool false)) h40 fun v41 h41 =>
  gd (wantB v41 true) (fun K1 => K1 v22 h41) h41 fun v42 h42 =>
  gd (wantB v41 true) (opH Try.prog G (xEq .eql 3 (.tmp 0) (.const .nilFunc) v42 (.int .i64 0)) h42) h42 fun v43 h43 =>
  opH Try.prog G (xPick v41 v43 (.bool false)) h43 fun v44 h44 =>
  gd (wantB v44 true) (fun K1 => K1 v23 h44) h44 fun v45 h45 =>
  opH Try.prog G (xPick v44 v45 (.bool false)) h45 fun v46 h46 =>
  gd (wantB v46 true) (fun K1 => K1 (r 1) h46) h46 fun v47 h47 =>
  gd (wantB v46 true) (opH Try.prog G (callFunc 16 #[v47, (.int .i64 3)]) h47) h47 fun v48 h48 =>
  gd (wantB v46 true) (opH Try.prog G (sv (Builtin.len_ #[32] 3 #[v48])) h48) h48 fun v49 h49 =>
  gd (wantB v46 true) (opH Try.prog G (xEq .eql 3 (.tmp 0) (.const .nilFunc) v49 (.int .i64 1)) h49) h49 fun v50 h50 =>
  opH Try.prog G (xPick v46 v50 (.bool false)) h50 fun v51 h51 =>
  K .ret (upd (upd (upd (upd (upd (upd (upd (upd (upd (upd (upd (upd (upd (upd (upd (upd (upd (upd (upd (upd (upd (upd (upd (upd (upd (upd (upd (upd (upd (upd (upd (upd (upd (upd (upd (upd (upd (upd (upd (upd (upd (upd (upd (upd (upd (upd (upd r 30 (r 1)) 31 v19) 32 v20) 3 v20) 34 (r 1)) 35 v21) 33 v21) 36 v22) 37 v23) 4 v22) 5 v23) 38 (r 1)) 39 v24) 40 v25) 41 v25) 42 v26) 43 v27) 44 v28) 45 v29) 46 v29) 47 v30) 48 v31) 49 v32) 50 v33) 51 v34) 52 v35) 53 v35) 54 v36) 55 v37) 56 v38) 57 v39) 58 v40) 59 v41) 60 v41) 61 v42) 62 v43) 63 v44) 64 v44) 65 v45) 66 v46) 67 v46) 68 v47) 69 v48) 70 v49) 71 v50) 72 v51) 0 v51) h51
def S13 (G : Hp) (K : Exit → Rg → Hp → Prop) (r : Rg) (h : Hp) : Prop :=
  opH Try.prog G (callFunc 12 #[(.int .i64 5)]) h fun v0 h0 =>
  opH Try.prog G (sv (Instr.extract v0 0)) h0 fun v1 h1 =>
  opH Try.prog G (sv (Instr.extract v0 1)) h1 fun v2 h2 =>
  opH Try.prog G (xEq .neq 24 (.tmp 0) (.const .nilFunc) v2 (.int .i64 0)) h2 fun v3 h3 =>
  gd (wantB v3 false) (fun K1 => K1 v1 h3) h3 fun v4 h4 =>
  gd (wantB v3 false) (opH Try.prog G (xEq .eql 23 (.tmp 0) (.const .nilFunc) v4 (.pointer none)) h4) h4 fun v5 h5 =>
  opH Try.prog G (xPick v3 (.bool true) v5) h5 fun v6 h6 =>
  gd (wantB v6 false) (fun K1 => K1 v1 h6) h6 fun v7 h7 =>
  gd (wantB v6 false) (opH Try.prog G (sv (Instr.build 30 #[(0, (.int .i64 3)), (1, (.int .i64 5)), (2, (.int .i64 9))])) h7) h7 fun v8 h8 =>
  gd (wantB v6 false) (opH Try.prog G (sv (Instr.buildSlice 22 1 #[(0, v8)])) h8) h8 fun v9 h9 =>
  gd (wantB v6 false) (opH Try.prog G (callFunc 15 #[v7, (.int .i64 0), v9]) h9) h9 fun v10 h10 =>
  gd (wantB v6 false) (opH Try.prog G (xEq .neq 24 (.tmp 0) (.const .nilFunc) v10 (.int .i64 0)) h10) h10 fun v11 h11 =>
  opH Try.prog G (xPick v6 (.bool true) v11) h11 fun v12 h12 =>
  gd (wantB v12 false) (fun K1 => K1 v1 h12) h12 fun v13 h13 =>
  gd (wantB v12 false) (opH Try.prog G (sv (Instr.build 30 #[(0, (.int .i64 3)), (1, (.int .i64 8)), (2, (.int .i64 10))])) h13) h13 fun v14 h14 =>
  gd (wantB v12 false) (opH Try.prog G (sv (Instr.buildSlice 22 1 #[(0, v14)])) h14) h14 fun v15 h15 =>
  gd (wantB v12 false) (opH Try.prog G (callFunc 15 #[v13, (.int .i64 1), v15]) h15) h15 fun v16 h16 =>
  gd (wantB v12 false) (opH Try.prog G (xEq .neq 24 (.tmp 0) (.const .nilFunc) v16 (.int .i64 18)) h16) h16 fun v17 h17 =>
  opH Try.prog G (xPick v12 (.bool true) v17) h17 fun v18 h18 =>
  cond v18
  (K .ret (upd (upd (upd (upd (upd (upd (upd (upd (upd (upd (upd (upd (upd (upd (upd (upd (upd (upd (upd (upd (upd (upd (upd (upd (upd (upd (upd (upd r 0 (.bool false)) 7 v0) 6 v0) 8 v1) 9 v2) 1 v1) 2 v2) 10 v2) 11 v3) 12 v3) 13 v4) 14 v5) 15 v6) 16 v6) 17 v7) 18 v8) 19 v9) 20 v10) 21 v11) 22 v12) 23 v12) 24 v13) 25 v14) 26 v15) 27 v16) 28 v17) 29 v18) 0 (.bool false)) h18)
  (S13_k1 G K (upd (upd (upd (upd (upd (upd (upd (upd (upd (upd (upd (upd (upd (upd (upd (upd (upd (upd (upd (upd (upd (upd (upd (upd (upd (upd (upd r 0 (.bool false)) 7 v0) 6 v0) 8 v1) 9 v2) 1 v1) 2 v2) 10 v2) 11 v3) 12 v3) 13 v4) 14 v5) 15 v6) 16 v6) 17 v7) 18 v8) 19 v9) 20 v10) 21 v11) 22 v12) 23 v12) 24 v13) 25 v14) 26 v15) 27 v16) 28 v17) 29 v18) h18)
theorem S13_eq (G : Hp) (K : Exit → Rg → Hp → Prop) (r : Rg) (h : Hp) : wpC Try.prog G 73 md13 true (Try.f13.body.getD .skip) r h K = S13 G K r h := by kernel_rfl
theorem enter13 {G : Hp} {h : Hp} {args : Array Value} {R : Value → Hp → Prop} (hn : args.size ≤ 73) (H : S13 G (retK Try.prog G [.tmp 0] R) (regs args) h) : HCalls Try.prog G 13 args h R :=
  HCalls.enter (md := md13) mixed Try.func13 rfl hn (by rw [← S13_eq] at H; exact H)

def md14 : Nat → Hint
  | _ => ⟨false, [], [], [], [], false⟩
def S14_k1 (G : Hp) (K : Exit → Rg → Hp → Prop) (r : Rg) (h : Hp) : Prop :=
  K .ret (upd (upd r 14 (r 5)) 4 (r 5)) h
def S14 (G : Hp) (K : Exit → Rg → Hp → Prop) (r : Rg) (h : Hp) : Prop :=
  opH Try.prog G (sv (binOp .rem 3 (r 0) (r 1))) h fun v0 h0 =>
  opH Try.prog G (sv (binOp .lss 3 v0 (.int .i64 0))) h0 fun v1 h1 =>
  cond v1
  (opH Try.prog G (sv (binOp .add 3 v0 (r 1))) h1 fun v2 h2 =>
  S14_k1 G K (upd (upd (upd (upd (upd (upd (upd (upd (upd (upd (upd r 4 (.int .i64 0)) 6 (r 0)) 7 (r 1)) 8 v0) 5 v0) 9 v0) 10 v1) 11 v0) 12 (r 1)) 13 v2) 5 v2) h2)
  (S14_k1 G K (upd (upd (upd (upd (upd (upd (upd r 4 (.int .i64 0)) 6 (r 0)) 7 (r 1)) 8 v0) 5 v0) 9 v0) 10 v1) h1)
theorem S14_eq (G : Hp) (K : Exit → Rg → Hp → Prop) (r : Rg) (h : Hp) : wpC Try.prog G 15 md14 true (Try.f14.body.getD .skip) r h K = S14 G K r h := by kernel_rfl
theorem enter14 {G : Hp} {h : Hp} {args : Array Value} {R : Value → Hp → Prop} (hn : args.size ≤ 15) (H : S14 G (retK Try.prog G [.tmp 4] R) (regs args) h) : HCalls Try.prog G 14 args h R :=
  HCalls.enter (md := md14) mixed Try.func14 rfl hn (by rw [← S14_eq] at H; exact H)

def md18 : Nat → Hint
  | _ => ⟨false, [], [], [], [], false⟩
def S18_k1 (G : Hp) (K : Exit → Rg → Hp → Prop) (r : Rg) (h : Hp) : Prop :=
  opH Try.prog G (xCallV (r 0) #[(.func (.func 35) #[] #[(r 5), (r 3)])]) h fun v6 h6 =>
  opH Try.prog G (sv (Instr.loadAt 39 (r 5))) h6 fun v7 h7 =>
  K .ret (upd (upd (upd (upd (upd r 12 (r 0)) 13 (.func (.func 35) #[] #[(r 5), (r 3)])) 14 v6) 15 v7) 4 v7) h7
def S18 (G : Hp) (K : Exit → Rg → Hp → Prop) (r : Rg) (h : Hp) : Prop :=
  opH Try.prog G (sv (Instr.box 3 (r 1))) h fun v0 h0 =>
  opH Try.prog G (sv (Instr.alloc 39 true (.tuple #[]))) h0 fun v1 h1 =>
  opH Try.prog G (xEq .eql 37 (.tmp 0) (.const .nilFunc) (r 0) .nilFunc) h1 fun v2 h2 =>
  gd (wantB v2 false) (opH Try.prog G (sv (Instr.loadAt 3 v0)) h2) h2 fun v3 h3 =>
  gd (wantB v2 false) (opH Try.prog G (sv (binOp .lss 3 v3 (.int .i64 1))) h3) h3 fun v4 h4 =>
  opH Try.prog G (xPick v2 (.bool true) v4) h4 fun v5 h5 =>
  cond v5
  (K .ret (upd (upd (upd (upd (upd (upd (upd (upd (upd (upd r 3 v0) 4 (.slice none 0 0)) 5 v1) 6 (r 0)) 7 v2) 8 v2) 9 v3) 10 v4) 11 v5) 4 (.slice none 0 0)) h5)
  (S18_k1 G K (upd (upd (upd (upd (upd (upd (upd (upd (upd r 3 v0) 4 (.slice none 0 0)) 5 v1) 6 (r 0)) 7 v2) 8 v2) 9 v3) 10 v4) 11 v5) h5)
theorem S18_eq (G : Hp) (K : Exit → Rg → Hp → Prop) (r : Rg) (h : Hp) : wpC Try.prog G 16 md18 true (Try.f18.body.getD .skip) r h K = S18 G K r h := by kernel_rfl
theorem enter18 {G : Hp} {h : Hp} {args : Array Value} {R : Value → Hp → Prop} (hn : args.size ≤ 16) (H : S18 G (retK Try.prog G [.tmp 4] R) (regs args) h) : HCalls Try.prog G 18 args h R :=
  HCalls.enter (md := md18) mixed Try.func18 rfl hn (by rw [← S18_eq] at H; exact H)

def md19 : Nat → Hint
  | 6 => ⟨false, [0, 0, 3, 7, 0, 0, 48, 112, 255], [.pureN, .pureN, .pureN, .pureM, .pureN, .pureN, .pureN, .pureM, .pureM], [.pureN, .pureN, .pureN, .pureM, .pureN, .pureN, .pureN, .pureM, .pureM], [false, false, false, false, false, false, false, false, false], false⟩
  | _ => ⟨false, [], [], [], [], false⟩
def S19_k2 (G : Hp) (K : Exit → Rg → Hp → Prop) (r : Rg) (h : Hp) : Prop :=
  K .ret (upd r 4 (.bool true)) h
def S19_l3_k5 (G : Hp) (K : Exit → Rg → Hp → Prop) (r : Rg) (h : Hp) : Prop :=
  opH Try.prog G (sv (binOp .add 3 (r 5) (.int .i64 1))) h fun v5 h5 =>
  K .normal (upd (upd (upd r 15 (r 5)) 16 v5) 5 v5) h5
def S19_l3_k4 (G : Hp) (K : Exit → Rg → Hp → Prop) (r : Rg) (h : Hp) : Prop :=
  pureW Try.prog noHp noHp (sv (Instr.indexAt 32 (r 0) (r 5))) h fun v6 h6 =>
  pureW Try.prog G h (sv (Instr.loadAt 35 v6)) h6 fun v7 h7 =>
  pureW Try.prog noHp noHp (sv (Instr.indexAt 32 (r 1) (r 5))) h7 fun v8 h8 =>
  pureW Try.prog G h (sv (Instr.loadAt 35 v8)) h8 fun v9 h9 =>
  pureW Try.prog G h (xEq .neq 35 (.tmp 0) (.tmp 0) v7 v9) h9 fun v10 h10 =>
  cond v10
  (K .ret (upd (upd (upd (upd (upd (upd (upd (upd (upd (upd r 17 (r 0)) 18 (r 5)) 19 v6) 20 v7) 21 (r 1)) 22 (r 5)) 23 v8) 24 v9) 25 v10) 4 (.bool false)) h10)
  (S19_l3_k5 G K (upd (upd (upd (upd (upd (upd (upd (upd (upd r 17 (r 0)) 18 (r 5)) 19 v6) 20 v7) 21 (r 1)) 22 (r 5)) 23 v8) 24 v9) 25 v10) h10)
def S19_l3 (G : Hp) (r : Rg) (h : Hp) (K : Exit → Rg → Hp → Prop) : Prop :=
  opH Try.prog G (sv (Builtin.len_ #[32] 3 #[(r 0)])) h fun v3 h3 =>
  opH Try.prog G (sv (binOp .lss 3 (r 5) v3)) h3 fun v4 h4 =>
  cond v4
  (S19_l3_k4 G K (upd (upd (upd (upd r 11 (r 5)) 12 (r 0)) 13 v3) 14 v4) h4)
  (K (.exit 0) (upd (upd (upd (upd r 11 (r 5)) 12 (r 0)) 13 v3) 14 v4) h4)
def S19_k1 (G : Hp) (K : Exit → Rg → Hp → Prop) (r : Rg) (h : Hp) : Prop :=
  loopP (S19_l3 G) (upd r 5 (.int .i64 0)) h (blockK 0 (thenK (S19_k2 G K) K))
def S19 (G : Hp) (K : Exit → Rg → Hp → Prop) (r : Rg) (h : Hp) : Prop :=
  opH Try.prog G (sv (Builtin.len_ #[32] 3 #[(r 0)])) h fun v0 h0 =>
  opH Try.prog G (sv (Builtin.len_ #[32] 3 #[(r 1)])) h0 fun v1 h1 =>
  opH Try.prog G (xEq .neq 3 (.tmp 0) (.tmp 0) v0 v1) h1 fun v2 h2 =>
  cond v2
  (K .ret (upd (upd (upd (upd (upd (upd (upd r 4 (.bool false)) 6 (r 0)) 7 v0) 8 (r 1)) 9 v1) 10 v2) 4 (.bool false)) h2)
  (S19_k1 G K (upd (upd (upd (upd (upd (upd r 4 (.bool false)) 6 (r 0)) 7 v0) 8 (r 1)) 9 v1) 10 v2) h2)
theorem S19_eq (G : Hp) (K : Exit → Rg → Hp → Prop) (r : Rg) (h : Hp) : wpC Try.prog G 26 md19 true (Try.f19.body.getD .skip) r h K = S19 G K r h := by kernel_rfl
theorem enter19 {G : Hp} {h : Hp} {args : Array Value} {R : Value → Hp → Prop} (hn : args.size ≤ 26) (H : S19 G (retK Try.prog G [.tmp 4] R) (regs args) h) : HCalls Try.prog G 19 args h R :=
  HCalls.enter (md := md19) mixed Try.func19 rfl hn (by rw [← S19_eq] at H; exact H)

def md24 : Nat → Hint
  | 4 => ⟨false, [0, 0, 2, 0, 8, 0, 32, 0, 128, 511, 0, 0, 2048, 0, 8192, 0, 32768, 0, 131072, 524287, 1048575, 2097151], [.pureN, .pureN, .pureM, .pureN, .pureM, .pureN, .pureM, .pureN, .pureM, .eff, .pureN, .pureN, .pureM, .pureN, .pureM, .pureN, .pureM, .pureN, .pureM, .eff, .pureM, .pureN], [.pureN, .pureN, .pureM, .pureN, .pureM, .pureN, .pureM, .pureN, .pureM, .eff, .pureN, .pureN, .pureM, .pureN, .pureM, .pureN, .pureM, .pureN, .pureM, .eff, .late, .pureN], [false, false, false, false, false, false, false, false, false, true, false, false, false, false, false, false, false, false, false, false, false, false], true⟩
  | 2 => ⟨false, [0, 0, 2, 0, 8, 24, 63, 0, 0, 256, 0, 1024, 3199, 8191, 16383, 32767], [.pureN, .pureN, .pureM, .pureN, .pureM, .eff, .eff, .pureN, .pureN, .pureM, .pureN, .pureM, .eff, .eff, .pureM, .pureN], [.pureN, .pureN, .pureM, .pureN, .pureM, .eff, .eff, .pureN, .pureN, .pureM, .pureN, .pureM, .eff, .eff, .late, .pureN], [false, false, false, false, false, true, true, false, false, false, false, false, true, false, false, false], true⟩
  | _ => ⟨false, [], [], [], [], false⟩
def S24_k1 (G : Hp) (K : Exit → Rg → Hp → Prop) (r : Rg) (h : Hp) : Prop :=
  K .ret (upd r 6 (.bool true)) h
def S24 (G : Hp) (K : Exit → Rg → Hp → Prop) (r : Rg) (h : Hp) : Prop :=
  opH Try.prog G (sv (Instr.box 51 (r 2))) h fun v0 h0 =>
  opH Try.prog G (sv (Instr.fieldAt 51 v0 0)) h0 fun v1 h1 =>
  opH Try.prog G (sv (Instr.loadAt 3 v1)) h1 fun v2 h2 =>
  opH Try.prog G (callFunc 14 #[v2, (.int .i64 8)]) h2 fun v3 h3 =>
  opH Try.prog G (xEq .eql 3 (.tmp 0) (.const .nilFunc) v3 (.int .i64 4)) h3 fun v4 h4 =>
  cond v4
  (∃ q5 : Hp, q5.le h4 ∧
  pureW Try.prog noHp noHp (sv (Instr.fieldAt 51 v0 1)) h4 fun v6 h6 =>
  pureW Try.prog G q5 (sv (Instr.loadAt 3 v6)) h6 fun v7 h7 =>
  pureW Try.prog noHp noHp (sv (Instr.fieldAt 51 v0 2)) h7 fun v8 h8 =>
  pureW Try.prog G q5 (sv (Instr.loadAt 3 v8)) h8 fun v9 h9 =>
  pureW Try.prog noHp noHp (sv (Instr.fieldAt 51 v0 3)) h9 fun v10 h10 =>
  pureW Try.prog G q5 (sv (Instr.loadAt 3 v10)) h10 fun v11 h11 =>
  pureW Try.prog noHp noHp (sv (Instr.fieldAt 51 v0 4)) h11 fun v12 h12 =>
  pureW Try.prog G q5 (sv (Instr.loadAt 3 v12)) h12 fun v13 h13 =>
  opH Try.prog G (callFunc 21 #[(r 0), v7, v9, v11, v13]) h13 fun v14 h14 => q5.le h14 ∧
  pureW Try.prog noHp noHp (sv (Instr.fieldAt 51 v0 1)) h14 fun v15 h15 =>
  pureW Try.prog G q5 (sv (Instr.loadAt 3 v15)) h15 fun v16 h16 =>
  pureW Try.prog noHp noHp (sv (Instr.fieldAt 51 v0 2)) h16 fun v17 h17 =>
  pureW Try.prog G q5 (sv (Instr.loadAt 3 v17)) h17 fun v18 h18 =>
  pureW Try.prog noHp noHp (sv (Instr.fieldAt 51 v0 3)) h18 fun v19 h19 =>
  pureW Try.prog G q5 (sv (Instr.loadAt 3 v19)) h19 fun v20 h20 =>
  pureW Try.prog noHp noHp (sv (Instr.fieldAt 51 v0 4)) h20 fun v21 h21 =>
  pureW Try.prog G q5 (sv (Instr.loadAt 3 v21)) h21 fun v22 h22 =>
  opH Try.prog G (callFunc 37 #[(r 1), v16, v18, v20, v22]) h22 fun v23 h23 =>
  pureW Try.prog G h23 (xEq .eql 24 (.tmp 0) (.tmp 0) v14 v23) h23 fun v24 h24 =>
  K .ret (upd (upd (upd (upd (upd (upd (upd (upd (upd (upd (upd (upd (upd (upd (upd (upd (upd (upd (upd (upd (upd (upd (upd (upd (upd (upd (upd (upd (upd r 5 v0) 6 (.bool false)) 7 v1) 8 v2) 9 v3) 26 v4) 25 v4) 27 (r 0)) 28 v6) 29 v7) 30 v8) 31 v9) 32 v10) 33 v11) 34 v12) 35 v13) 36 v14) 37 (r 1)) 38 v15) 39 v16) 40 v17) 41 v18) 42 v19) 43 v20) 44 v21) 45 v22) 46 v23) 47 v24) 6 v24) h24)
  (opH Try.prog G (xEq .eql 3 (.tmp 0) (.const .nilFunc) v3 (.int .i64 5)) h4 fun v25 h25 =>
  cond v25
  (opH Try.prog G (sv (Instr.fieldAt 51 v0 1)) h25 fun v26 h26 =>
  opH Try.prog G (sv (Instr.loadAt 3 v26)) h26 fun v27 h27 =>
  opH Try.prog G (sv (Instr.fieldAt 51 v0 3)) h27 fun v28 h28 =>
  opH Try.prog G (sv (Instr.loadAt 3 v28)) h28 fun v29 h29 =>
  opH Try.prog G (callFunc 27 #[(r 0), v27, v29]) h29 fun v30 h30 =>
  opH Try.prog G (sv (Instr.fieldAt 51 v0 1)) h30 fun v31 h31 =>
  opH Try.prog G (sv (Instr.loadAt 3 v31)) h31 fun v32 h32 =>
  opH Try.prog G (sv (Instr.fieldAt 51 v0 3)) h32 fun v33 h33 =>
  opH Try.prog G (sv (Instr.loadAt 3 v33)) h33 fun v34 h34 =>
  opH Try.prog G (callFunc 38 #[(r 1), v32, v34]) h34 fun v35 h35 =>
  S24_k1 G K (upd (upd (upd (upd (upd (upd (upd (upd (upd (upd (upd (upd (upd (upd (upd (upd (upd (upd (upd (upd (upd r 5 v0) 6 (.bool false)) 7 v1) 8 v2) 9 v3) 26 v4) 25 v4) 49 v25) 48 v25) 50 (r 0)) 51 v26) 52 v27) 53 v28) 54 v29) 55 v30) 56 (r 1)) 57 v31) 58 v32) 59 v33) 60 v34) 61 v35) h35)
  (opH Try.prog G (xEq .eql 3 (.tmp 0) (.const .nilFunc) v3 (.int .i64 6)) h25 fun v36 h36 =>
  cond v36
  (opH Try.prog G (sv (Instr.fieldAt 51 v0 3)) h36 fun v37 h37 =>
  opH Try.prog G (sv (Instr.loadAt 3 v37)) h37 fun v38 h38 =>
  opH Try.prog G (callFunc 26 #[(r 0), v38]) h38 fun v39 h39 =>
  opH Try.prog G (sv (Instr.fieldAt 51 v0 3)) h39 fun v40 h40 =>
  opH Try.prog G (sv (Instr.loadAt 3 v40)) h40 fun v41 h41 =>
  opH Try.prog G (callFunc 39 #[(r 1), v41]) h41 fun v42 h42 =>
  S24_k1 G K (upd (upd (upd (upd (upd (upd (upd (upd (upd (upd (upd (upd (upd (upd (upd (upd (upd (upd (upd r 5 v0) 6 (.bool false)) 7 v1) 8 v2) 9 v3) 26 v4) 25 v4) 49 v25) 48 v25) 63 v36) 62 v36) 64 (r 0)) 65 v37) 66 v38) 67 v39) 68 (r 1)) 69 v40) 70 v41) 71 v42) h42)
  (opH Try.prog G (xEq .eql 3 (.tmp 0) (.const .nilFunc) v3 (.int .i64 7)) h36 fun v43 h43 =>
  cond v43
  (opH Try.prog G (sv (Instr.fieldAt 51 v0 1)) h43 fun v44 h44 =>
  opH Try.prog G (sv (Instr.loadAt 3 v44)) h44 fun v45 h45 =>
  opH Try.prog G (callFunc 28 #[(r 0), v45]) h45 fun v46 h46 =>
  opH Try.prog G (sv (Instr.fieldAt 51 v0 1)) h46 fun v47 h47 =>
  opH Try.prog G (sv (Instr.loadAt 3 v47)) h47 fun v48 h48 =>
  opH Try.prog G (callFunc 40 #[(r 1), v48]) h48 fun v49 h49 =>
  S24_k1 G K (upd (upd (upd (upd (upd (upd (upd (upd (upd (upd (upd (upd (upd (upd (upd (upd (upd (upd (upd (upd (upd r 5 v0) 6 (.bool false)) 7 v1) 8 v2) 9 v3) 26 v4) 25 v4) 49 v25) 48 v25) 63 v36) 62 v36) 73 v43) 72 v43) 74 (r 0)) 75 v44) 76 v45) 77 v46) 78 (r 1)) 79 v47) 80 v48) 81 v49) h49)
  (∃ q50 : Hp, q50.le h43 ∧
  pureW Try.prog noHp noHp (sv (Instr.fieldAt 51 v0 1)) h43 fun v51 h51 =>
  pureW Try.prog G q50 (sv (Instr.loadAt 3 v51)) h51 fun v52 h52 =>
  pureW Try.prog noHp noHp (sv (Instr.fieldAt 51 v0 5)) h52 fun v53 h53 =>
  pureW Try.prog G q50 (sv (Instr.loadAt 22 v53)) h53 fun v54 h54 =>
  opH Try.prog G (sv (Builtin.append_ #[22, 22] 22 #[(.slice none 0 0), v54])) h54 fun v55 h55 => q50.le h55 ∧
  opH Try.prog G (callFunc 15 #[(r 0), v52, v55]) h55 fun v56 h56 => q50.le h56 ∧
  pureW Try.prog noHp noHp (sv (Instr.fieldAt 51 v0 1)) h56 fun v57 h57 =>
  pureW Try.prog G q50 (sv (Instr.loadAt 3 v57)) h57 fun v58 h58 =>
  pureW Try.prog noHp noHp (sv (Instr.fieldAt 51 v0 5)) h58 fun v59 h59 =>
  pureW Try.prog G q50 (sv (Instr.loadAt 22 v59)) h59 fun v60 h60 =>
  opH Try.prog G (callFunc 42 #[v60]) h60 fun v61 h61 => q50.le h61 ∧
  opH Try.prog G (callFunc 41 #[(r 1), v58, v61]) h61 fun v62 h62 =>
  pureW Try.prog G h62 (xEq .eql 24 (.tmp 0) (.tmp 0) v56 v62) h62 fun v63 h63 =>
  K .ret (upd (upd (upd (upd (upd (upd (upd (upd (upd (upd (upd (upd (upd (upd (upd (upd (upd (upd (upd (upd (upd (upd (upd (upd (upd (upd (upd (upd (upd r 5 v0) 6 (.bool false)) 7 v1) 8 v2) 9 v3) 26 v4) 25 v4) 49 v25) 48 v25) 63 v36) 62 v36) 73 v43) 72 v43) 10 (r 0)) 11 v51) 12 v52) 13 v53) 14 v54) 15 v55) 16 v56) 17 (r 1)) 18 v57) 19 v58) 20 v59) 21 v60) 22 v61) 23 v62) 24 v63) 6 v63) h63))))
theorem S24_eq (G : Hp) (K : Exit → Rg → Hp → Prop) (r : Rg) (h : Hp) : wpC Try.prog G 82 md24 true (Try.f24.body.getD .skip) r h K = S24 G K r h := by kernel_rfl
theorem enter24 {G : Hp} {h : Hp} {args : Array Value} {R : Value → Hp → Prop} (hn : args.size ≤ 82) (H : S24 G (retK Try.prog G [.tmp 6] R) (regs args) h) : HCalls Try.prog G 24 args h R :=
  HCalls.enter (md := md24) mixed Try.func24 rfl hn (by rw [← S24_eq] at H; exact H)

def md35 : Nat → Hint
  | _ => ⟨false, [], [], [], [], false⟩
def S35 (G : Hp) (K : Exit → Rg → Hp → Prop) (r : Rg) (h : Hp) : Prop :=
  opH Try.prog G (sv (Instr.loadAt 39 (r 2))) h fun v0 h0 =>
  opH Try.prog G (sv (Instr.build 58 #[(0, (r 0)), (1, (r 1))])) h0 fun v1 h1 =>
  opH Try.prog G (sv (Instr.buildSlice 39 1 #[(0, v1)])) h1 fun v2 h2 =>
  opH Try.prog G (sv (Builtin.append_ #[39, 39] 39 #[v0, v2])) h2 fun v3 h3 =>
  opH Try.prog G (su (Instr.storeAt 39 (r 2) v3)) h3 fun v4 h4 =>
  opH Try.prog G (sv (Instr.loadAt 39 (r 2))) h4 fun v5 h5 =>
  opH Try.prog G (sv (Builtin.len_ #[39] 3 #[v5])) h5 fun v6 h6 =>
  opH Try.prog G (sv (Instr.loadAt 3 (r 3))) h6 fun v7 h7 =>
  opH Try.prog G (sv (binOp .lss 3 v6 v7)) h7 fun v8 h8 =>
  K .ret (upd (upd (upd (upd (upd (upd (upd (upd (upd (upd (upd (upd r 6 (.bool false)) 7 v0) 8 (r 0)) 9 (r 1)) 10 v1) 11 v2) 12 v3) 13 v5) 14 v6) 15 v7) 16 v8) 6 v8) h8
theorem S35_eq (G : Hp) (K : Exit → Rg → Hp → Prop) (r : Rg) (h : Hp) : wpC Try.prog G 17 md35 true (Try.f35.body.getD .skip) r h K = S35 G K r h := by kernel_rfl
theorem enter35 {G : Hp} {h : Hp} {args : Array Value} {R : Value → Hp → Prop} (hn : args.size ≤ 17) (H : S35 G (retK Try.prog G [.tmp 6] R) (regs args) h) : HCalls Try.prog G 35 args h R :=
  HCalls.enter (md := md35) mixed Try.func35 rfl hn (by rw [← S35_eq] at H; exact H)

def md42 : Nat → Hint
  | 5 => ⟨false, [0, 0, 0, 6, 14, 30, 0, 0, 192, 448, 960, 0, 0, 6144, 14336, 30720, 65534, 131070, 262143, 524287], [.pureN, .pureN, .pureN, .pureN, .pureN, .pureM, .pureN, .pureN, .pureN, .pureN, .pureM, .pureN, .pureN, .pureN, .pureN, .pureM, .pureN, .alloc, .eff, .pureN], [.pureN, .pureN, .pureN, .pureN, .pureN, .pureM, .pureN, .pureN, .pureN, .pureN, .pureM, .pureN, .pureN, .pureN, .pureN, .pureM, .pureN, .alloc, .eff, .pureN], [false, false, false, false, false, false, false, false, false, false, false, false, false, false, false, false, false, false, false, false], false⟩
  | _ => ⟨false, [], [], [], [], false⟩
def S42_k1 (G : Hp) (K : Exit → Rg → Hp → Prop) (r : Rg) (h : Hp) : Prop :=
  K .ret (upd (upd r 30 (r 3)) 2 (r 3)) h
def S42_l2_k4 (G : Hp) (K : Exit → Rg → Hp → Prop) (r : Rg) (h : Hp) : Prop :=
  opH Try.prog G (sv (binOp .add 3 (r 4) (.int .i64 1))) h fun v2 h2 =>
  K .normal (upd (upd (upd r 9 (r 4)) 10 v2) 4 v2) h2
def S42_l2_k3 (G : Hp) (K : Exit → Rg → Hp → Prop) (r : Rg) (h : Hp) : Prop :=
  pureW Try.prog noHp noHp (sv (Instr.indexAt 22 (r 0) (r 4))) h fun v3 h3 =>
  pureW Try.prog noHp noHp (sv (Instr.fieldAt 30 v3 0)) h3 fun v4 h4 =>
  pureW Try.prog G h (sv (Instr.loadAt 3 v4)) h4 fun v5 h5 =>
  pureW Try.prog noHp noHp (sv (Instr.indexAt 22 (r 0) (r 4))) h5 fun v6 h6 =>
  pureW Try.prog noHp noHp (sv (Instr.fieldAt 30 v6 1)) h6 fun v7 h7 =>
  pureW Try.prog G h (sv (Instr.loadAt 3 v7)) h7 fun v8 h8 =>
  pureW Try.prog noHp noHp (sv (Instr.indexAt 22 (r 0) (r 4))) h8 fun v9 h9 =>
  pureW Try.prog noHp noHp (sv (Instr.fieldAt 30 v9 2)) h9 fun v10 h10 =>
  pureW Try.prog G h (sv (Instr.loadAt 3 v10)) h10 fun v11 h11 =>
  pureW Try.prog noHp noHp (sv (Instr.build 88 #[(0, v5), (1, v8), (2, v11)])) h11 fun v12 h12 =>
  opH Try.prog G (sv (Instr.buildSlice 78 1 #[(0, v12)])) h12 fun v13 h13 =>
  opH Try.prog G (sv (Builtin.append_ #[78, 78] 78 #[(r 3), v13])) h13 fun v14 h14 =>
  S42_l2_k4 G K (upd (upd (upd (upd (upd (upd (upd (upd (upd (upd (upd (upd (upd (upd (upd (upd (upd (upd (upd (upd r 11 (r 3)) 12 (r 0)) 13 (r 4)) 14 v3) 15 v4) 16 v5) 17 (r 0)) 18 (r 4)) 19 v6) 20 v7) 21 v8) 22 (r 0)) 23 (r 4)) 24 v9) 25 v10) 26 v11) 27 v12) 28 v13) 29 v14) 3 v14) h14
def S42_l2 (G : Hp) (r : Rg) (h : Hp) (K : Exit → Rg → Hp → Prop) : Prop :=
  opH Try.prog G (sv (Builtin.len_ #[22] 3 #[(r 0)])) h fun v0 h0 =>
  opH Try.prog G (sv (binOp .lss 3 (r 4) v0)) h0 fun v1 h1 =>
  cond v1
  (S42_l2_k3 G K (upd (upd (upd (upd r 5 (r 4)) 6 (r 0)) 7 v0) 8 v1) h1)
  (K (.exit 0) (upd (upd (upd (upd r 5 (r 4)) 6 (r 0)) 7 v0) 8 v1) h1)
def S42 (G : Hp) (K : Exit → Rg → Hp → Prop) (r : Rg) (h : Hp) : Prop :=
  loopP (S42_l2 G) (upd (upd (upd r 2 (.slice none 0 0)) 3 (.slice none 0 0)) 4 (.int .i64 0)) h (blockK 0 (thenK (S42_k1 G K) K))
theorem S42_eq (G : Hp) (K : Exit → Rg → Hp → Prop) (r : Rg) (h : Hp) : wpC Try.prog G 31 md42 true (Try.f42.body.getD .skip) r h K = S42 G K r h := by kernel_rfl
theorem enter42 {G : Hp} {h : Hp} {args : Array Value} {R : Value → Hp → Prop} (hn : args.size ≤ 31) (H : S42 G (retK Try.prog G [.tmp 2] R) (regs args) h) : HCalls Try.prog G 42 args h R :=
  HCalls.enter (md := md42) mixed Try.func42 rfl hn (by rw [← S42_eq] at H; exact H)

end Go.Proofs.Ytbloobepmgmbgaa

/- A text of the proofs. -/
import Derived.Test.YtbloobepmgmbgaaRI
set_option linter.unusedVariables false
set_option maxRecDepth 100000
namespace Go.Proofs.Ytbloobepmgmbgaa
open Go Go.HL
def md3 : Nat → Hint
  | _ => ⟨false, [], [], [], [], false⟩
def S3_k4 (G : Hp) (K : Exit → Rg → Hp → Prop) (r : Rg) (h : Hp) : Prop :=
  opH Try.prog G (callFunc 13 #[]) h fun v13 h13 =>
  K .ret (upd (upd r 126 v13) 4 v13) h13
def S3_l5_k7 (G : Hp) (K : Exit → Rg → Hp → Prop) (r : Rg) (h : Hp) : Prop :=
  opH Try.prog G (sv (binOp .add 3 (r 10) (.int .i64 1))) h fun v15 h15 =>
  K .normal (upd (upd (upd r 74 (r 10)) 75 v15) 10 v15) h15
def S3_l5_k8 (G : Hp) (K : Exit → Rg → Hp → Prop) (r : Rg) (h : Hp) : Prop :=
  opH Try.prog G (callFunc 17 #[(r 5), (r 10), (.int .i64 1)]) h fun v18 h18 =>
  opH Try.prog G (callFunc 14 #[(r 1), (.int .i64 9)]) h18 fun v19 h19 =>
  opH Try.prog G (sv (binOp .add 3 (.int .i64 1) v19)) h19 fun v20 h20 =>
  opH Try.prog G (callFunc 18 #[v18, v20]) h20 fun v21 h21 =>
  opH Try.prog G (callFunc 18 #[v18, (.int .i64 10000)]) h21 fun v22 h22 =>
  opH Try.prog G (callFunc 16 #[(r 5), (r 10)]) h22 fun v23 h23 =>
  opH Try.prog G (callFunc 19 #[v23, (r 12)]) h23 fun v24 h24 =>
  opH Try.prog G (sv (Op.unary .not v24)) h24 fun v25 h25 =>
  gd (wantB v25 false) (fun K1 => K1 v21 h25) h25 fun v26 h26 =>
  gd (wantB v25 false) (fun K1 => K1 v22 h26) h26 fun v27 h27 =>
  gd (wantB v25 false) (fun K1 => K1 v21 h27) h27 fun v28 h28 =>
  gd (wantB v25 false) (opH Try.prog G (sv (Builtin.len_ #[39] 3 #[v28])) h28) h28 fun v29 h29 =>
  gd (wantB v25 false) (fun K1 => K1 v22 h29) h29 fun v30 h30 =>
  gd (wantB v25 false) (opH Try.prog G (sv (Builtin.len_ #[39] 3 #[v30])) h30) h30 fun v31 h31 =>
  gd (wantB v25 false) (opH Try.prog G (sv (Builtin.min_ #[3, 3] 3 #[v29, v31])) h31) h31 fun v32 h32 =>
  gd (wantB v25 false) (opH Try.prog G (sv (Instr.sliceAt 39 v27 none (some v32) none)) h32) h32 fun v33 h33 =>
  gd (wantB v25 false) (opH Try.prog G (callFunc 20 #[v26, v33]) h33) h33 fun v34 h34 =>
  gd (wantB v25 false) (opH Try.prog G (sv (Op.unary .not v34)) h34) h34 fun v35 h35 =>
  opH Try.prog G (xPick v25 (.bool true) v35) h35 fun v36 h36 =>
  gd (wantB v36 false) (fun K1 => K1 v21 h36) h36 fun v37 h37 =>
  gd (wantB v36 false) (opH Try.prog G (sv (Builtin.len_ #[39] 3 #[v37])) h37) h37 fun v38 h38 =>
  gd (wantB v36 false) (fun K1 => K1 v22 h38) h38 fun v39 h39 =>
  gd (wantB v36 false) (opH Try.prog G (sv (Builtin.len_ #[39] 3 #[v39])) h39) h39 fun v40 h40 =>
  gd (wantB v36 false) (opH Try.prog G (sv (binOp .gtr 3 v38 v40)) h40) h40 fun v41 h41 =>
  opH Try.prog G (xPick v36 (.bool true) v41) h41 fun v42 h42 =>
  cond v42
  (K .ret (upd (upd (upd (upd (upd (upd (upd (upd (upd (upd (upd (upd (upd (upd (upd (upd (upd (upd (upd (upd (upd (upd (upd (upd (upd (upd (upd (upd (upd (upd (upd (upd (upd (upd (upd (upd (upd (upd (upd r 91 (r 5)) 92 (r 10)) 93 v18) 14 v18) 94 v18) 95 (r 1)) 96 v19) 97 v20) 98 v21) 15 v21) 99 v18) 100 v22) 16 v22) 101 (r 5)) 102 (r 10)) 103 v23) 104 (r 12)) 105 v24) 106 v25) 107 v25) 108 v26) 109 v27) 110 v28) 111 v29) 112 v30) 113 v31) 114 v32) 115 v33) 116 v34) 117 v35) 118 v36) 119 v36) 120 v37) 121 v38) 122 v39) 123 v40) 124 v41) 125 v42) 4 (.bool false)) h42)
  (S3_l5_k7 G K (upd (upd (upd (upd (upd (upd (upd (upd (upd (upd (upd (upd (upd (upd (upd (upd (upd (upd (upd (upd (upd (upd (upd (upd (upd (upd (upd (upd (upd (upd (upd (upd (upd (upd (upd (upd (upd (upd r 91 (r 5)) 92 (r 10)) 93 v18) 14 v18) 94 v18) 95 (r 1)) 96 v19) 97 v20) 98 v21) 15 v21) 99 v18) 100 v22) 16 v22) 101 (r 5)) 102 (r 10)) 103 v23) 104 (r 12)) 105 v24) 106 v25) 107 v25) 108 v26) 109 v27) 110 v28) 111 v29) 112 v30) 113 v31) 114 v32) 115 v33) 116 v34) 117 v35) 118 v36) 119 v36) 120 v37) 121 v38) 122 v39) 123 v40) 124 v41) 125 v42) h42)
def S3_l5_l9_k11 (G : Hp) (K : Exit → Rg → Hp → Prop) (r : Rg) (h : Hp) : Prop :=
  opH Try.prog G (sv (binOp .add 3 (r 13) (.int .i64 1))) h fun v45 h45 =>
  K .normal (upd (upd (upd r 85 (r 13)) 86 v45) 13 v45) h45
def S3_l5_l9_k10 (G : Hp) (K : Exit → Rg → Hp → Prop) (r : Rg) (h : Hp) : Prop :=
  opH Try.prog G (sv (Instr.build 35 #[(0, (.int .i64 (-1)))])) h fun v46 h46 =>
  opH Try.prog G (sv (Instr.indexAt 32 (r 11) (r 13))) h46 fun v47 h47 =>
  opH Try.prog G (su (Instr.storeAt 35 v47 v46)) h47 fun v48 h48 =>
  S3_l5_l9_k11 G K (upd (upd (upd (upd r 87 (r 11)) 88 (r 13)) 89 v46) 90 v47) h48
def S3_l5_l9 (G : Hp) (r : Rg) (h : Hp) (K : Exit → Rg → Hp → Prop) : Prop :=
  opH Try.prog G (sv (Builtin.len_ #[32] 3 #[(r 11)])) h fun v43 h43 =>
  opH Try.prog G (sv (binOp .lss 3 (r 13) v43)) h43 fun v44 h44 =>
  cond v44
  (S3_l5_l9_k10 G K (upd (upd (upd (upd r 81 (r 13)) 82 (r 11)) 83 v43) 84 v44) h44)
  (K (.exit 6) (upd (upd (upd (upd r 81 (r 13)) 82 (r 11)) 83 v43) 84 v44) h44)
def S3_l5_k6 (G : Hp) (K : Exit → Rg → Hp → Prop) (r : Rg) (h : Hp) : Prop :=
  opH Try.prog G (callFunc 16 #[(r 5), (r 10)]) h fun v16 h16 =>
  opH Try.prog G (sv (Builtin.append_ #[32, 32] 32 #[(.slice none 0 0), v16])) h16 fun v17 h17 =>
  loopP (S3_l5_l9 G) (upd (upd (upd (upd (upd (upd (upd (upd r 76 (r 5)) 77 (r 10)) 78 v16) 11 v16) 79 v16) 80 v17) 12 v17) 13 (.int .i64 0)) h17 (blockK 6 (thenK (S3_l5_k8 G K) (blockK 5 (thenK (S3_l5_k7 G K) K))))
def S3_l5 (G : Hp) (r : Rg) (h : Hp) (K : Exit → Rg → Hp → Prop) : Prop :=
  opH Try.prog G (sv (binOp .lss 3 (r 10) (.int .i64 6))) h fun v14 h14 =>
  cond v14
  (S3_l5_k6 G K (upd (upd r 72 (r 10)) 73 v14) h14)
  (K (.exit 4) (upd (upd r 72 (r 10)) 73 v14) h14)
def S3_k3 (G : Hp) (K : Exit → Rg → Hp → Prop) (r : Rg) (h : Hp) : Prop :=
  loopP (S3_l5 G) (upd r 10 (.int .i64 0)) h (blockK 4 (thenK (S3_k4 G K) K))
def S3_l12_k14 (G : Hp) (K : Exit → Rg → Hp → Prop) (r : Rg) (h : Hp) : Prop :=
  opH Try.prog G (sv (binOp .add 3 (r 9) (.int .i64 1))) h fun v51 h51 =>
  K .normal (upd (upd (upd r 66 (r 9)) 67 v51) 9 v51) h51
def S3_l12_k13 (G : Hp) (K : Exit → Rg → Hp → Prop) (r : Rg) (h : Hp) : Prop :=
  opH Try.prog G (sv (Instr.build 30 #[(1, (.int .i64 (-9)))])) h fun v52 h52 =>
  opH Try.prog G (sv (Instr.indexAt 22 (r 7) (r 9))) h52 fun v53 h53 =>
  opH Try.prog G (su (Instr.storeAt 30 v53 v52)) h53 fun v54 h54 =>
  S3_l12_k14 G K (upd (upd (upd (upd r 68 (r 7)) 69 (r 9)) 70 v52) 71 v53) h54
def S3_l12 (G : Hp) (r : Rg) (h : Hp) (K : Exit → Rg → Hp → Prop) : Prop :=
  opH Try.prog G (sv (Builtin.len_ #[22] 3 #[(r 7)])) h fun v49 h49 =>
  opH Try.prog G (sv (binOp .lss 3 (r 9) v49)) h49 fun v50 h50 =>
  cond v50
  (S3_l12_k13 G K (upd (upd (upd (upd r 62 (r 9)) 63 (r 7)) 64 v49) 65 v50) h50)
  (K (.exit 2) (upd (upd (upd (upd r 62 (r 9)) 63 (r 7)) 64 v49) 65 v50) h50)
def S3_k2 (G : Hp) (K : Exit → Rg → Hp → Prop) (r : Rg) (h : Hp) : Prop :=
  opH Try.prog G (callFunc 15 #[(r 5), (.int .i64 3), (r 7)]) h fun v12 h12 =>
  loopP (S3_l12 G) (upd (upd (upd (upd r 59 (r 5)) 60 (r 7)) 61 v12) 9 (.int .i64 0)) h12 (blockK 2 (thenK (S3_k3 G K) K))
def S3_l15_k17 (G : Hp) (K : Exit → Rg → Hp → Prop) (r : Rg) (h : Hp) : Prop :=
  opH Try.prog G (sv (binOp .add 3 (r 8) (.int .i64 1))) h fun v57 h57 =>
  K .normal (upd (upd (upd r 47 (r 8)) 48 v57) 8 v57) h57
def S3_l15_k16 (G : Hp) (K : Exit → Rg → Hp → Prop) (r : Rg) (h : Hp) : Prop :=
  opH Try.prog G (sv (Instr.indexAt 22 (r 7) (r 8))) h fun v58 h58 =>
  opH Try.prog G (sv (Instr.fieldAt 30 v58 0)) h58 fun v59 h59 =>
  opH Try.prog G (sv (Instr.loadAt 3 v59)) h59 fun v60 h60 =>
  opH Try.prog G (callFunc 14 #[v60, (.int .i64 6)]) h60 fun v61 h61 =>
  opH Try.prog G (sv (Instr.indexAt 22 (r 7) (r 8))) h61 fun v62 h62 =>
  opH Try.prog G (sv (Instr.fieldAt 30 v62 0)) h62 fun v63 h63 =>
  opH Try.prog G (su (Instr.storeAt 3 v63 v61)) h63 fun v64 h64 =>
  S3_l15_k17 G K (upd (upd (upd (upd (upd (upd (upd (upd (upd (upd r 49 (r 7)) 50 (r 8)) 51 (r 7)) 52 (r 8)) 53 v58) 54 v59) 55 v60) 56 v61) 57 v62) 58 v63) h64
def S3_l15 (G : Hp) (r : Rg) (h : Hp) (K : Exit → Rg → Hp → Prop) : Prop :=
  opH Try.prog G (sv (Builtin.len_ #[22] 3 #[(r 7)])) h fun v55 h55 =>
  opH Try.prog G (sv (binOp .lss 3 (r 8) v55)) h55 fun v56 h56 =>
  cond v56
  (S3_l15_k16 G K (upd (upd (upd (upd r 43 (r 8)) 44 (r 7)) 45 v55) 46 v56) h56)
  (K (.exit 0) (upd (upd (upd (upd r 43 (r 8)) 44 (r 7)) 45 v55) 46 v56) h56)
def S3_k1 (G : Hp) (K : Exit → Rg → Hp → Prop) (r : Rg) (h : Hp) : Prop :=
  opH Try.prog G (sv (Builtin.append_ #[22, 22] 22 #[(.slice none 0 0), (r 0)])) h fun v11 h11 =>
  loopP (S3_l15 G) (upd (upd (upd (upd r 41 (r 0)) 42 v11) 7 v11) 8 (.int .i64 0)) h11 (blockK 0 (thenK (S3_k2 G K) K))
def S3 (G : Hp) (K : Exit → Rg → Hp → Prop) (r : Rg) (h : Hp) : Prop :=
  opH Try.prog G (callFunc 12 #[(.int .i64 6)]) h fun v0 h0 =>
  opH Try.prog G (sv (Instr.extract v0 0)) h0 fun v1 h1 =>
  opH Try.prog G (sv (Instr.extract v0 1)) h1 fun v2 h2 =>
  opH Try.prog G (xEq .neq 24 (.tmp 0) (.const .nilFunc) v2 (.int .i64 0)) h2 fun v3 h3 =>
  gd (wantB v3 false) (fun K1 => K1 v1 h3) h3 fun v4 h4 =>
  gd (wantB v3 false) (opH Try.prog G (xEq .eql 23 (.tmp 0) (.const .nilFunc) v4 (.pointer none)) h4) h4 fun v5 h5 =>
  opH Try.prog G (xPick v3 (.bool true) v5) h5 fun v6 h6 =>
  gd (wantB v6 false) (fun K1 => K1 (r 0) h6) h6 fun v7 h7 =>
  gd (wantB v6 false) (opH Try.prog G (sv (Builtin.len_ #[22] 3 #[v7])) h7) h7 fun v8 h8 =>
  gd (wantB v6 false) (opH Try.prog G (sv (binOp .gtr 3 v8 (.int .i64 60))) h8) h8 fun v9 h9 =>
  opH Try.prog G (xPick v6 (.bool true) v9) h9 fun v10 h10 =>
  cond v10
  (opH Try.prog G (xEq .eql 24 (.tmp 0) (.const .nilFunc) v2 (.int .i64 0)) h10 fun v65 h65 =>
  gd (wantB v65 true) (fun K1 => K1 v1 h65) h65 fun v66 h66 =>
  gd (wantB v65 true) (opH Try.prog G (xEq .neq 23 (.tmp 0) (.const .nilFunc) v66 (.pointer none)) h66) h66 fun v67 h67 =>
  opH Try.prog G (xPick v65 v67 (.bool false)) h67 fun v68 h68 =>
  gd (wantB v68 true) (opH Try.prog G (callFunc 13 #[]) h68) h68 fun v69 h69 =>
  opH Try.prog G (xPick v68 v69 (.bool false)) h69 fun v70 h70 =>
  K .ret (upd (upd (upd (upd (upd (upd (upd (upd (upd (upd (upd (upd (upd (upd (upd (upd (upd (upd (upd (upd (upd (upd (upd (upd (upd (upd (upd (upd r 4 (.bool false)) 18 v0) 17 v0) 19 v1) 20 v2) 5 v1) 6 v2) 21 v2) 22 v3) 23 v3) 24 v4) 25 v5) 26 v6) 27 v6) 28 v7) 29 v8) 30 v9) 31 v10) 32 v2) 33 v65) 34 v65) 35 v66) 36 v67) 37 v68) 38 v68) 39 v69) 40 v70) 4 v70) h70)
  (S3_k1 G K (upd (upd (upd (upd (upd (upd (upd (upd (upd (upd (upd (upd (upd (upd (upd (upd (upd (upd r 4 (.bool false)) 18 v0) 17 v0) 19 v1) 20 v2) 5 v1) 6 v2) 21 v2) 22 v3) 23 v3) 24 v4) 25 v5) 26 v6) 27 v6) 28 v7) 29 v8) 30 v9) 31 v10) h10)
theorem S3_eq (G : Hp) (K : Exit → Rg → Hp → Prop) (r : Rg) (h : Hp) : wpC Try.prog G 127 md3 true (Try.f3.body.getD .skip) r h K = S3 G K r h := by kernel_rfl
theorem enter3 {G : Hp} {h : Hp} {args : Array Value} {R : Value → Hp → Prop} (hn : args.size ≤ 127) (H : S3 G (retK Try.prog G [.tmp 4] R) (regs args) h) : HCalls Try.prog G 3 args h R :=
  HCalls.enter (md := md3) mixed Try.func3 rfl hn (by rw [← S3_eq] at H; exact H)

def md13 : Nat → Hint
  | _ => ⟨false, [], [], [], [], false⟩
def S13_k1 (G : Hp) (K : Exit → Rg → Hp → Prop) (r : Rg) (h : Hp) : Prop :=
  opH Try.prog G (callFunc 17 #[(r 1), (.int .i64 3), (.int .i64 1)]) h fun v19 h19 =>
  opH Try.prog G (callFunc 18 #[v19, (.int .i64 9)]) h19 fun v20 h20 =>
  opH Try.prog G (callFunc 29 #[(r 1), (.int .i64 3)]) h20 fun v21 h21 =>
  opH Try.prog G (sv (Instr.extract v21 0)) h21 fun v22 h22 =>
  opH Try.prog G (sv (Instr.extract v21 1)) h22 fun v23 h23 =>
  opH Try.prog G (callFunc 22 #[(r 1)]) h23 fun v24 h24 =>
  opH Try.prog G (xEq .eql 3 (.tmp 0) (.const .nilFunc) v24 (.int .i64 5)) h24 fun v25 h25 =>
  gd (wantB v25 true) (fun K1 => K1 v20 h25) h25 fun v26 h26 =>
  gd (wantB v25 true) (opH Try.prog G (sv (Builtin.len_ #[39] 3 #[v26])) h26) h26 fun v27 h27 =>
  gd (wantB v25 true) (opH Try.prog G (xEq .eql 3 (.tmp 0) (.const .nilFunc) v27 (.int .i64 2)) h27) h27 fun v28 h28 =>
  opH Try.prog G (xPick v25 v28 (.bool false)) h28 fun v29 h29 =>
  gd (wantB v29 true) (fun K1 => K1 v20 h29) h29 fun v30 h30 =>
  gd (wantB v29 true) (opH Try.prog G (sv (Instr.indexAt 39 v30 (.int .i64 0))) h30) h30 fun v31 h31 =>
  gd (wantB v29 true) (opH Try.prog G (sv (Instr.loadAt 58 v31)) h31) h31 fun v32 h32 =>
  gd (wantB v29 true) (opH Try.prog G (sv (Instr.build 58 #[(0, (.int .i64 0)), (1, (.int .i64 5))])) h32) h32 fun v33 h33 =>
  gd (wantB v29 true) (opH Try.prog G (xEq .eql 58 (.tmp 0) (.tmp 0) v32 v33) h33) h33 fun v34 h34 =>
  opH Try.prog G (xPick v29 v34 (.bool false)) h34 fun v35 h35 =>
  gd (wantB v35 true) (fun K1 => K1 v20 h35) h35 fun v36 h36 =>
  gd (wantB v35 true) (opH Try.prog G (sv (Instr.indexAt 39 v36 (.int .i64 1))) h36) h36 fun v37 h37 =>
  gd (wantB v35 true) (opH Try.prog G (sv (Instr.loadAt 58 v37)) h37) h37 fun v38 h38 =>
  gd (wantB v35 true) (opH Try.prog G (sv (Instr.build 58 #[(0, (.int .i64 9)), (1, (.int .i64 4611686018427387904))])) h38) h38 fun v39 h39 =>
  gd (wantB v35 true) (opH Try.prog G (xEq .eql 58 (.tmp 0) (.tmp 0) v38 v39) h39) h39 fun v40 h40 =>
  opH Try.prog G (xPick v35 v40 (.bool false)) h40 fun v41 h41 =>
  gd (wantB v41 true) (fun K1 => K1 v22 h41) h41 fun v42 h42 =>
  gd (wantB v41 true) (opH Try.prog G (xEq .eql 3 (.tmp 0) (.const .nilFunc) v42 (.int .i64 0)) h42) h42 fun v43 h43 =>
  opH Try.prog G (xPick v41 v43 (.bool false)) h43 fun v44 h44 =>
  gd (wantB v44 true) (fun K1 => K1 v23 h44) h44 fun v45 h45 =>
  opH Try.prog G (xPick v44 v45 (.bool false)) h45 fun v46 h46 =>
  gd (wantB v46 true) (fun K1 => K1 (r 1) h46) h46 fun v47 h47 =>
  gd (wantB v46 true) (opH Try.prog G (callFunc 16 #[v47, (.int .i64 3)]) h47) h47 fun v48 h48 =>
  gd (wantB v46 true) (opH Try.prog G (sv (Builtin.len_ #[32] 3 #[v48])) h48) h48 fun v49 h49 =>
  gd (wantB v46 true) (opH Try.prog G (xEq .eql 3 (.tmp 0) (.const .nilFunc) v49 (.int .i64 1)) h49) h49 fun v50 h50 =>
  opH Try.prog G (xPick v46 v50 (.bool false)) h50 fun v51 h51 =>
  K .ret (upd (upd (upd (upd (upd (upd (upd (upd (upd (upd (upd (upd (upd (upd (upd (upd (upd (upd (upd (upd (upd (upd (upd (upd (upd (upd (upd (upd (upd (upd (upd (upd (upd (upd (upd (upd (upd (upd (upd (upd (upd (upd (upd (upd (upd (upd (upd r 30 (r 1)) 31 v19) 32 v20) 3 v20) 34 (r 1)) 35 v21) 33 v21) 36 v22) 37 v23) 4 v22) 5 v23) 38 (r 1)) 39 v24) 40 v25) 41 v25) 42 v26) 43 v27) 44 v28) 45 v29) 46 v29) 47 v30) 48 v31) 49 v32) 50 v33) 51 v34) 52 v35) 53 v35) 54 v36) 55 v37) 56 v38) 57 v39) 58 v40) 59 v41) 60 v41) 61 v42) 62 v43) 63 v44) 64 v44) 65 v45) 66 v46) 67 v46) 68 v47) 69 v48) 70 v49) 71 v50) 72 v51) 0 v51) h51
def S13 (G : Hp) (K : Exit → Rg → Hp → Prop) (r : Rg) (h : Hp) : Prop :=
  opH Try.prog G (callFunc 12 #[(.int .i64 5)]) h fun v0 h0 =>
  opH Try.prog G (sv (Instr.extract v0 0)) h0 fun v1 h1 =>
  opH Try.prog G (sv (Instr.extract v0 1)) h1 fun v2 h2 =>
  opH Try.prog G (xEq .neq 24 (.tmp 0) (.const .nilFunc) v2 (.int .i64 0)) h2 fun v3 h3 =>
  gd (wantB v3 false) (fun K1 => K1 v1 h3) h3 fun v4 h4 =>
  gd (wantB v3 false) (opH Try.prog G (xEq .eql 23 (.tmp 0) (.const .nilFunc) v4 (.pointer none)) h4) h4 fun v5 h5 =>
  opH Try.prog G (xPick v3 (.bool true) v5) h5 fun v6 h6 =>
  gd (wantB v6 false) (fun K1 => K1 v1 h6) h6 fun v7 h7 =>
  gd (wantB v6 false) (opH Try.prog G (sv (Instr.build 30 #[(0, (.int .i64 3)), (1, (.int .i64 5)), (2, (.int .i64 9))])) h7) h7 fun v8 h8 =>
  gd (wantB v6 false) (opH Try.prog G (sv (Instr.buildSlice 22 1 #[(0, v8)])) h8) h8 fun v9 h9 =>
  gd (wantB v6 false) (opH Try.prog G (callFunc 15 #[v7, (.int .i64 0), v9]) h9) h9 fun v10 h10 =>
  gd (wantB v6 false) (opH Try.prog G (xEq .neq 24 (.tmp 0) (.const .nilFunc) v10 (.int .i64 0)) h10) h10 fun v11 h11 =>
  opH Try.prog G (xPick v6 (.bool true) v11) h11 fun v12 h12 =>
  gd (wantB v12 false) (fun K1 => K1 v1 h12) h12 fun v13 h13 =>
  gd (wantB v12 false) (opH Try.prog G (sv (Instr.build 30 #[(0, (.int .i64 3)), (1, (.int .i64 8)), (2, (.int .i64 10))])) h13) h13 fun v14 h14 =>
  gd (wantB v12 false) (opH Try.prog G (sv (Instr.buildSlice 22 1 #[(0, v14)])) h14) h14 fun v15 h15 =>
  gd (wantB v12 false) (opH Try.prog G (callFunc 15 #[v13, (.int .i64 1), v15]) h15) h15 fun v16 h16 =>
  gd (wantB v12 false) (opH Try.prog G (xEq .neq 24 (.tmp 0) (.const .nilFunc) v16 (.int .i64 18)) h16) h16 fun v17 h17 =>
  opH Try.prog G (xPick v12 (.bool true) v17) h17 fun v18 h18 =>
  cond v18
  (K .ret (upd (upd (upd (upd (upd (upd (upd (upd (upd (upd (upd (upd (upd (upd (upd (upd (upd (upd (upd (upd (upd (upd (upd (upd (upd (upd (upd (upd r 0 (.bool false)) 7 v0) 6 v0) 8 v1) 9 v2) 1 v1) 2 v2) 10 v2) 11 v3) 12 v3) 13 v4) 14 v5) 15 v6) 16 v6) 17 v7) 18 v8) 19 v9) 20 v10) 21 v11) 22 v12) 23 v12) 24 v13) 25 v14) 26 v15) 27 v16) 28 v17) 29 v18) 0 (.bool false)) h18)
  (S13_k1 G K (upd (upd (upd (upd (upd (upd (upd (upd (upd (upd (upd (upd (upd (upd (upd (upd (upd (upd (upd (upd (upd (upd (upd (upd (upd (upd (upd r 0 (.bool false)) 7 v0) 6 v0) 8 v1) 9 v2) 1 v1) 2 v2) 10 v2) 11 v3) 12 v3) 13 v4) 14 v5) 15 v6) 16 v6) 17 v7) 18 v8) 19 v9) 20 v10) 21 v11) 22 v12) 23 v12) 24 v13) 25 v14) 26 v15) 27 v16) 28 v17) 29 v18) h18)
theorem S13_eq (G : Hp) (K : Exit → Rg → Hp → Prop) (r : Rg) (h : Hp) : wpC Try.prog G 73 md13 true (Try.f13.body.getD .skip) r h K = S13 G K r h := by kernel_rfl
theorem enter13 {G : Hp} {h : Hp} {args : Array Value} {R : Value → Hp → Prop} (hn : args.size ≤ 73) (H : S13 G (retK Try.prog G [.tmp 0] R) (regs args) h) : HCalls Try.prog G 13 args h R :=
  HCalls.enter (md := md13) mixed Try.func13 rfl hn (by rw [← S13_eq] at H; exact H)

def md14 : Nat → Hint
  | _ => ⟨false, [], [], [], [], false⟩
def S14_k1 (G : Hp) (K : Exit → Rg → Hp → Prop) (r : Rg) (h : Hp) : Prop :=
  K .ret (upd (upd r 14 (r 5)) 4 (r 5)) h
def S14 (G : Hp) (K : Exit → Rg → Hp → Prop) (r : Rg) (h : Hp) : Prop :=
  opH Try.prog G (sv (binOp .rem 3 (r 0) (r 1))) h fun v0 h0 =>
  opH Try.prog G (sv (binOp .lss 3 v0 (.int .i64 0))) h0 fun v1 h1 =>
  cond v1
  (opH Try.prog G (sv (binOp .add 3 v0 (r 1))) h1 fun v2 h2 =>
  S14_k1 G K (upd (upd (upd (upd (upd (upd (upd (upd (upd (upd (upd r 4 (.int .i64 0)) 6 (r 0)) 7 (r 1)) 8 v0) 5 v0) 9 v0) 10 v1) 11 v0) 12 (r 1)) 13 v2) 5 v2) h2)
  (S14_k1 G K (upd (upd (upd (upd (upd (upd (upd r 4 (.int .i64 0)) 6 (r 0)) 7 (r 1)) 8 v0) 5 v0) 9 v0) 10 v1) h1)
theorem S14_eq (G : Hp) (K : Exit → Rg → Hp → Prop) (r : Rg) (h : Hp) : wpC Try.prog G 15 md14 true (Try.f14.body.getD .skip) r h K = S14 G K r h := by kernel_rfl
theorem enter14 {G : Hp} {h : Hp} {args : Array Value} {R : Value → Hp → Prop} (hn : args.size ≤ 15) (H : S14 G (retK Try.prog G [.tmp 4] R) (regs args) h) : HCalls Try.prog G 14 args h R :=
  HCalls.enter (md := md14) mixed Try.func14 rfl hn (by rw [← S14_eq] at H; exact H)

def md18 : Nat → Hint
  | _ => ⟨false, [], [], [], [], false⟩
def S18_k1 (G : Hp) (K : Exit → Rg → Hp → Prop) (r : Rg) (h : Hp) : Prop :=
  opH Try.prog G (xCallV (r 0) #[(.func (.func 35) #[] #[(r 5), (r 3)])]) h fun v6 h6 =>
  opH Try.prog G (sv (Instr.loadAt 39 (r 5))) h6 fun v7 h7 =>
  K .ret (upd (upd (upd (upd (upd r 12 (r 0)) 13 (.func (.func 35) #[] #[(r 5), (r 3)])) 14 v6) 15 v7) 4 v7) h7
def S18 (G : Hp) (K : Exit → Rg → Hp → Prop) (r : Rg) (h : Hp) : Prop :=
  opH Try.prog G (sv (Instr.box 3 (r 1))) h fun v0 h0 =>
  opH Try.prog G (sv (Instr.alloc 39 true (.tuple #[]))) h0 fun v1 h1 =>
  opH Try.prog G (xEq .eql 37 (.tmp 0) (.const .nilFunc) (r 0) .nilFunc) h1 fun v2 h2 =>
  gd (wantB v2 false) (opH Try.prog G (sv (Instr.loadAt 3 v0)) h2) h2 fun v3 h3 =>
  gd (wantB v2 false) (opH Try.prog G (sv (binOp .lss 3 v3 (.int .i64 1))) h3) h3 fun v4 h4 =>
  opH Try.prog G (xPick v2 (.bool true) v4) h4 fun v5 h5 =>
  cond v5
  (K .ret (upd (upd (upd (upd (upd (upd (upd (upd (upd (upd r 3 v0) 4 (.slice none 0 0)) 5 v1) 6 (r 0)) 7 v2) 8 v2) 9 v3) 10 v4) 11 v5) 4 (.slice none 0 0)) h5)
  (S18_k1 G K (upd (upd (upd (upd (upd (upd (upd (upd (upd r 3 v0) 4 (.slice none 0 0)) 5 v1) 6 (r 0)) 7 v2) 8 v2) 9 v3) 10 v4) 11 v5) h5)
theorem S18_eq (G : Hp) (K : Exit → Rg → Hp → Prop) (r : Rg) (h : Hp) : wpC Try.prog G 16 md18 true (Try.f18.body.getD .skip) r h K = S18 G K r h := by kernel_rfl
theorem enter18 {G : Hp} {h : Hp} {args : Array Value} {R : Value → Hp → Prop} (hn : args.size ≤ 16) (H : S18 G (retK Try.prog G [.tmp 4] R) (regs args) h) : HCalls Try.prog G 18 args h R :=
  HCalls.enter (md := md18) mixed Try.func18 rfl hn (by rw [← S18_eq] at H; exact H)

def md19 : Nat → Hint
  | 6 => ⟨false, [0, 0, 3, 7, 0, 0, 48, 112, 255], [.pureN, .pureN, .pureN, .pureM, .pureN, .pureN, .pureN, .pureM, .pureM], [.pureN, .pureN, .pureN, .pureM, .pureN, .pureN, .pureN, .pureM, .pureM], [false, false, false, false, false, false, false, false, false], false⟩
  | _ => ⟨false, [], [], [], [], false⟩
def S19_k2 (G : Hp) (K : Exit → Rg → Hp → Prop) (r : Rg) (h : Hp) : Prop :=
  K .ret (upd r 4 (.bool true)) h
def S19_l3_k5 (G : Hp) (K : Exit → Rg → Hp → Prop) (r : Rg) (h : Hp) : Prop :=
  opH Try.prog G (sv (binOp .add 3 (r 5) (.int .i64 1))) h fun v5 h5 =>
  K .normal (upd (upd (upd r 15 (r 5)) 16 v5) 5 v5) h5
def S19_l3_k4 (G : Hp) (K : Exit → Rg → Hp → Prop) (r : Rg) (h : Hp) : Prop :=
  pureW Try.prog noHp noHp (sv (Instr.indexAt 32 (r 0) (r 5))) h fun v6 h6 =>
  pureW Try.prog G h (sv (Instr.loadAt 35 v6)) h6 fun v7 h7 =>
  pureW Try.prog noHp noHp (sv (Instr.indexAt 32 (r 1) (r 5))) h7 fun v8 h8 =>
  pureW Try.prog G h (sv (Instr.loadAt 35 v8)) h8 fun v9 h9 =>
  pureW Try.prog G h (xEq .neq 35 (.tmp 0) (.tmp 0) v7 v9) h9 fun v10 h10 =>
  cond v10
  (K .ret (upd (upd (upd (upd (upd (upd (upd (upd (upd (upd r 17 (r 0)) 18 (r 5)) 19 v6) 20 v7) 21 (r 1)) 22 (r 5)) 23 v8) 24 v9) 25 v10) 4 (.bool false)) h10)
  (S19_l3_k5 G K (upd (upd (upd (upd (upd (upd (upd (upd (upd r 17 (r 0)) 18 (r 5)) 19 v6) 20 v7) 21 (r 1)) 22 (r 5)) 23 v8) 24 v9) 25 v10) h10)
def S19_l3 (G : Hp) (r : Rg) (h : Hp) (K : Exit → Rg → Hp → Prop) : Prop :=
  opH Try.prog G (sv (Builtin.len_ #[32] 3 #[(r 0)])) h fun v3 h3 =>
  opH Try.prog G (sv (binOp .lss 3 (r 5) v3)) h3 fun v4 h4 =>
  cond v4
  (S19_l3_k4 G K (upd (upd (upd (upd r 11 (r 5)) 12 (r 0)) 13 v3) 14 v4) h4)
  (K (.exit 0) (upd (upd (upd (upd r 11 (r 5)) 12 (r 0)) 13 v3) 14 v4) h4)
def S19_k1 (G : Hp) (K : Exit → Rg → Hp → Prop) (r : Rg) (h : Hp) : Prop :=
  loopP (S19_l3 G) (upd r 5 (.int .i64 0)) h (blockK 0 (thenK (S19_k2 G K) K))
def S19 (G : Hp) (K : Exit → Rg → Hp → Prop) (r : Rg) (h : Hp) : Prop :=
  opH Try.prog G (sv (Builtin.len_ #[32] 3 #[(r 0)])) h fun v0 h0 =>
  opH Try.prog G (sv (Builtin.len_ #[32] 3 #[(r 1)])) h0 fun v1 h1 =>
  opH Try.prog G (xEq .neq 3 (.tmp 0) (.tmp 0) v0 v1) h1 fun v2 h2 =>
  cond v2
  (K .ret (upd (upd (upd (upd (upd (upd (upd r 4 (.bool false)) 6 (r 0)) 7 v0) 8 (r 1)) 9 v1) 10 v2) 4 (.bool false)) h2)
  (S19_k1 G K (upd (upd (upd (upd (upd (upd r 4 (.bool false)) 6 (r 0)) 7 v0) 8 (r 1)) 9 v1) 10 v2) h2)
theorem S19_eq (G : Hp) (K : Exit → Rg → Hp → Prop) (r : Rg) (h : Hp) : wpC Try.prog G 26 md19 true (Try.f19.body.getD .skip) r h K = S19 G K r h := by kernel_rfl
theorem enter19 {G : Hp} {h : Hp} {args : Array Value} {R : Value → Hp → Prop} (hn : args.size ≤ 26) (H : S19 G (retK Try.prog G [.tmp 4] R) (regs args) h) : HCalls Try.prog G 19 args h R :=
  HCalls.enter (md := md19) mixed Try.func19 rfl hn (by rw [← S19_eq] at H; exact H)

def md20 : Nat → Hint
  | 6 => ⟨false, [0, 0, 3, 7, 0, 0, 48, 112, 255], [.pureN, .pureN, .pureN, .pureM, .pureN, .pureN, .pureN, .pureM, .pureM], [.pureN, .pureN, .pureN, .pureM, .pureN, .pureN, .pureN, .pureM, .pureM], [false, false, false, false, false, false, false, false, false], false⟩
  | _ => ⟨false, [], [], [], [], false⟩
def S20_k2 (G : Hp) (K : Exit → Rg → Hp → Prop) (r : Rg) (h : Hp) : Prop :=
  K .ret (upd r 4 (.bool true)) h
def S20_l3_k5 (G : Hp) (K : Exit → Rg → Hp → Prop) (r : Rg) (h : Hp) : Prop :=
  opH Try.prog G (sv (binOp .add 3 (r 5) (.int .i64 1))) h fun v5 h5 =>
  K .normal (upd (upd (upd r 15 (r 5)) 16 v5) 5 v5) h5
def S20_l3_k4 (G : Hp) (K : Exit → Rg → Hp → Prop) (r : Rg) (h : Hp) : Prop :=
  pureW Try.prog noHp noHp (sv (Instr.indexAt 39 (r 0) (r 5))) h fun v6 h6 =>
  pureW Try.prog G h (sv (Instr.loadAt 58 v6)) h6 fun v7 h7 =>
  pureW Try.prog noHp noHp (sv (Instr.indexAt 39 (r 1) (r 5))) h7 fun v8 h8 =>
  pureW Try.prog G h (sv (Instr.loadAt 58 v8)) h8 fun v9 h9 =>
  pureW Try.prog G h (xEq .neq 58 (.tmp 0) (.tmp 0) v7 v9) h9 fun v10 h10 =>
  cond v10
  (K .ret (upd (upd (upd (upd (upd (upd (upd (upd (upd (upd r 17 (r 0)) 18 (r 5)) 19 v6) 20 v7) 21 (r 1)) 22 (r 5)) 23 v8) 24 v9) 25 v10) 4 (.bool false)) h10)
  (S20_l3_k5 G K (upd (upd (upd (upd (upd (upd (upd (upd (upd r 17 (r 0)) 18 (r 5)) 19 v6) 20 v7) 21 (r 1)) 22 (r 5)) 23 v8) 24 v9) 25 v10) h10)
def S20_l3 (G : Hp) (r : Rg) (h : Hp) (K : Exit → Rg → Hp → Prop) : Prop :=
  opH Try.prog G (sv (Builtin.len_ #[39] 3 #[(r 0)])) h fun v3 h3 =>
  opH Try.prog G (sv (binOp .lss 3 (r 5) v3)) h3 fun v4 h4 =>
  cond v4
  (S20_l3_k4 G K (upd (upd (upd (upd r 11 (r 5)) 12 (r 0)) 13 v3) 14 v4) h4)
  (K (.exit 0) (upd (upd (upd (upd r 11 (r 5)) 12 (r 0)) 13 v3) 14 v4) h4)
def S20_k1 (G : Hp) (K : Exit → Rg → Hp → Prop) (r : Rg) (h : Hp) : Prop :=
  loopP (S20_l3 G) (upd r 5 (.int .i64 0)) h (blockK 0 (thenK (S20_k2 G K) K))
def S20 (G : Hp) (K : Exit → Rg → Hp → Prop) (r : Rg) (h : Hp) : Prop :=
  opH Try.prog G (sv (Builtin.len_ #[39] 3 #[(r 0)])) h fun v0 h0 =>
  opH Try.prog G (sv (Builtin.len_ #[39] 3 #[(r 1)])) h0 fun v1 h1 =>
  opH Try.prog G (xEq .neq 3 (.tmp 0) (.tmp 0) v0 v1) h1 fun v2 h2 =>
  cond v2
  (K .ret (upd (upd (upd (upd (upd (upd (upd r 4 (.bool false)) 6 (r 0)) 7 v0) 8 (r 1)) 9 v1) 10 v2) 4 (.bool false)) h2)
  (S20_k1 G K (upd (upd (upd (upd (upd (upd r 4 (.bool false)) 6 (r 0)) 7 v0) 8 (r 1)) 9 v1) 10 v2) h2)
theorem S20_eq (G : Hp) (K : Exit → Rg → Hp → Prop) (r : Rg) (h : Hp) : wpC Try.prog G 26 md20 true (Try.f20.body.getD .skip) r h K = S20 G K r h := by kernel_rfl
theorem enter20 {G : Hp} {h : Hp} {args : Array Value} {R : Value → Hp → Prop} (hn : args.size ≤ 26) (H : S20 G (retK Try.prog G [.tmp 4] R) (regs args) h) : HCalls Try.prog G 20 args h R :=
  HCalls.enter (md := md20) mixed Try.func20 rfl hn (by rw [← S20_eq] at H; exact H)

def md35 : Nat → Hint
  | _ => ⟨false, [], [], [], [], false⟩
def S35 (G : Hp) (K : Exit → Rg → Hp → Prop) (r : Rg) (h : Hp) : Prop :=
  opH Try.prog G (sv (Instr.loadAt 39 (r 2))) h fun v0 h0 =>
  opH Try.prog G (sv (Instr.build 58 #[(0, (r 0)), (1, (r 1))])) h0 fun v1 h1 =>
  opH Try.prog G (sv (Instr.buildSlice 39 1 #[(0, v1)])) h1 fun v2 h2 =>
  opH Try.prog G (sv (Builtin.append_ #[39, 39] 39 #[v0, v2])) h2 fun v3 h3 =>
  opH Try.prog G (su (Instr.storeAt 39 (r 2) v3)) h3 fun v4 h4 =>
  opH Try.prog G (sv (Instr.loadAt 39 (r 2))) h4 fun v5 h5 =>
  opH Try.prog G (sv (Builtin.len_ #[39] 3 #[v5])) h5 fun v6 h6 =>
  opH Try.prog G (sv (Instr.loadAt 3 (r 3))) h6 fun v7 h7 =>
  opH Try.prog G (sv (binOp .lss 3 v6 v7)) h7 fun v8 h8 =>
  K .ret (upd (upd (upd (upd (upd (upd (upd (upd (upd (upd (upd (upd r 6 (.bool false)) 7 v0) 8 (r 0)) 9 (r 1)) 10 v1) 11 v2) 12 v3) 13 v5) 14 v6) 15 v7) 16 v8) 6 v8) h8
theorem S35_eq (G : Hp) (K : Exit → Rg → Hp → Prop) (r : Rg) (h : Hp) : wpC Try.prog G 17 md35 true (Try.f35.body.getD .skip) r h K = S35 G K r h := by kernel_rfl
theorem enter35 {G : Hp} {h : Hp} {args : Array Value} {R : Value → Hp → Prop} (hn : args.size ≤ 17) (H : S35 G (retK Try.prog G [.tmp 6] R) (regs args) h) : HCalls Try.prog G 35 args h R :=
  HCalls.enter (md := md35) mixed Try.func35 rfl hn (by rw [← S35_eq] at H; exact H)

end Go.Proofs.Ytbloobepmgmbgaa

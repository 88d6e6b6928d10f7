/- A text of the proofs. -/
import Derived.Test.YtbloobepmgmbgaaRI
set_option linter.unusedVariables false
set_option maxRecDepth 100000
namespace Go.Proofs.Ytbloobepmgmbgaa
open Go Go.HL
def md12 : Nat → Hint
  | _ => ⟨false, [], [], [], [], false⟩
def S12_k1 (G : Hp) (K : Exit → Rg → Hp → Prop) (r : Rg) (h : Hp) : Prop :=
  opH Try.prog G (sv (Instr.makeSlice 66 (r 0) (r 0))) h fun v4 h4 =>
  opH Try.prog G (sv (Instr.build 68 #[(0, v4)])) h4 fun v5 h5 =>
  opH Try.prog G (sv (Instr.box 68 v5)) h5 fun v6 h6 =>
  K .ret (upd (upd (upd (upd (upd (upd r 10 (r 0)) 11 v4) 12 v5) 13 v6) 2 v6) 3 (.int .i64 0)) h6
def S12 (G : Hp) (K : Exit → Rg → Hp → Prop) (r : Rg) (h : Hp) : Prop :=
  opH Try.prog G (sv (binOp .lss 3 (r 0) (.int .i64 1))) h fun v0 h0 =>
  gd (wantB v0 false) (fun K1 => K1 (r 0) h0) h0 fun v1 h1 =>
  gd (wantB v0 false) (opH Try.prog G (sv (binOp .gtr 3 v1 (.int .i64 256))) h1) h1 fun v2 h2 =>
  opH Try.prog G (xPick v0 (.bool true) v2) h2 fun v3 h3 =>
  cond v3
  (K .ret (upd (upd (upd (upd (upd (upd (upd (upd (upd (upd r 2 (.pointer none)) 3 (.int .i64 0)) 4 (r 0)) 5 v0) 6 v0) 7 v1) 8 v2) 9 v3) 2 (.pointer none)) 3 (.int .i64 1)) h3)
  (S12_k1 G K (upd (upd (upd (upd (upd (upd (upd (upd r 2 (.pointer none)) 3 (.int .i64 0)) 4 (r 0)) 5 v0) 6 v0) 7 v1) 8 v2) 9 v3) h3)
theorem S12_eq (G : Hp) (K : Exit → Rg → Hp → Prop) (r : Rg) (h : Hp) : wpC Try.prog G 14 md12 true (Try.f12.body.getD .skip) r h K = S12 G K r h := by kernel_rfl
theorem enter12 {G : Hp} {h : Hp} {args : Array Value} {R : Value → Hp → Prop} (hn : args.size ≤ 14) (H : S12 G (retK Try.prog G [.tmp 2, .tmp 3] R) (regs args) h) : HCalls Try.prog G 12 args h R :=
  HCalls.enter (md := md12) mixed Try.func12 rfl hn (by rw [← S12_eq] at H; exact H)

def md15 : Nat → Hint
  | _ => ⟨false, [], [], [], [], false⟩
def S15_k4 (G : Hp) (K : Exit → Rg → Hp → Prop) (r : Rg) (h : Hp) : Prop :=
  K .ret (upd r 6 (.int .i64 0)) h
def S15_l5_k7 (G : Hp) (K : Exit → Rg → Hp → Prop) (r : Rg) (h : Hp) : Prop :=
  opH Try.prog G (sv (binOp .add 3 (r 67) (.int .i64 1))) h fun v8 h8 =>
  K .normal (upd (upd r 80 v8) 67 v8) h8
def S15_l5_k6 (G : Hp) (K : Exit → Rg → Hp → Prop) (r : Rg) (h : Hp) : Prop :=
  opH Try.prog G (sv (Instr.indexAt 22 (r 65) (r 67))) h fun v9 h9 =>
  opH Try.prog G (sv (Instr.loadAt 30 v9)) h9 fun v10 h10 =>
  opH Try.prog G (sv (Instr.alloc 30 true (.tuple #[]))) h10 fun v11 h11 =>
  opH Try.prog G (su (Instr.storeAt 30 v11 v10)) h11 fun v12 h12 =>
  opH Try.prog G (sv (Instr.fieldAt 30 v11 0)) h12 fun v13 h13 =>
  opH Try.prog G (sv (Instr.loadAt 3 v13)) h13 fun v14 h14 =>
  opH Try.prog G (sv (Instr.fieldAt 30 v11 1)) h14 fun v15 h15 =>
  opH Try.prog G (sv (Instr.loadAt 3 v15)) h15 fun v16 h16 =>
  opH Try.prog G (sv (Instr.fieldAt 30 v11 2)) h16 fun v17 h17 =>
  opH Try.prog G (sv (Instr.loadAt 3 v17)) h17 fun v18 h18 =>
  opH Try.prog G (callFunc 32 #[(r 0), (r 1), v14, v16, v18]) h18 fun v19 h19 =>
  S15_l5_k7 G K (upd (upd (upd (upd (upd (upd (upd (upd (upd (upd (upd (upd r 69 v9) 70 v10) 12 v11) 71 (r 0)) 72 (r 1)) 73 v13) 74 v14) 75 v15) 76 v16) 77 v17) 78 v18) 79 v19) h19
def S15_l5 (G : Hp) (r : Rg) (h : Hp) (K : Exit → Rg → Hp → Prop) : Prop :=
  opH Try.prog G (sv (binOp .lss 3 (r 67) (r 66))) h fun v7 h7 =>
  cond v7
  (S15_l5_k6 G K (upd r 68 v7) h7)
  (K (.exit 4) (upd r 68 v7) h7)
def S15_k3 (G : Hp) (K : Exit → Rg → Hp → Prop) (r : Rg) (h : Hp) : Prop :=
  opH Try.prog G (sv (Builtin.len_ #[22] 3 #[(r 2)])) h fun v6 h6 =>
  loopP (S15_l5 G) (upd (upd (upd r 65 (r 2)) 66 v6) 67 (.int .i64 0)) h6 (blockK 4 (thenK (S15_k4 G K) K))
def S15_l8_k10 (G : Hp) (K : Exit → Rg → Hp → Prop) (r : Rg) (h : Hp) : Prop :=
  opH Try.prog G (sv (binOp .add 3 (r 50) (.int .i64 1))) h fun v21 h21 =>
  K .normal (upd (upd r 64 v21) 50 v21) h21
def S15_l8_k9 (G : Hp) (K : Exit → Rg → Hp → Prop) (r : Rg) (h : Hp) : Prop :=
  opH Try.prog G (sv (Instr.indexAt 22 (r 48) (r 50))) h fun v22 h22 =>
  opH Try.prog G (sv (Instr.loadAt 30 v22)) h22 fun v23 h23 =>
  opH Try.prog G (sv (Instr.alloc 30 true (.tuple #[]))) h23 fun v24 h24 =>
  opH Try.prog G (su (Instr.storeAt 30 v24 v23)) h24 fun v25 h25 =>
  opH Try.prog G (sv (Instr.fieldAt 30 v24 0)) h25 fun v26 h26 =>
  opH Try.prog G (sv (Instr.loadAt 3 v26)) h26 fun v27 h27 =>
  opH Try.prog G (sv (Instr.fieldAt 30 v24 1)) h27 fun v28 h28 =>
  opH Try.prog G (sv (Instr.loadAt 3 v28)) h28 fun v29 h29 =>
  opH Try.prog G (sv (Instr.fieldAt 30 v24 2)) h29 fun v30 h30 =>
  opH Try.prog G (sv (Instr.loadAt 3 v30)) h30 fun v31 h31 =>
  opH Try.prog G (callFunc 31 #[(r 0), (r 1), v27, v29, v31]) h31 fun v32 h32 =>
  opH Try.prog G (sv (Op.unary .not v32)) h32 fun v33 h33 =>
  cond v33
  (K .ret (upd (upd (upd (upd (upd (upd (upd (upd (upd (upd (upd (upd (upd (upd r 52 v22) 53 v23) 10 v24) 54 (r 0)) 55 (r 1)) 56 v26) 57 v27) 58 v28) 59 v29) 60 v30) 61 v31) 62 v32) 63 v33) 6 (.int .i64 18)) h33)
  (S15_l8_k10 G K (upd (upd (upd (upd (upd (upd (upd (upd (upd (upd (upd (upd (upd r 52 v22) 53 v23) 10 v24) 54 (r 0)) 55 (r 1)) 56 v26) 57 v27) 58 v28) 59 v29) 60 v30) 61 v31) 62 v32) 63 v33) h33)
def S15_l8 (G : Hp) (r : Rg) (h : Hp) (K : Exit → Rg → Hp → Prop) : Prop :=
  opH Try.prog G (sv (binOp .lss 3 (r 50) (r 49))) h fun v20 h20 =>
  cond v20
  (S15_l8_k9 G K (upd r 51 v20) h20)
  (K (.exit 2) (upd r 51 v20) h20)
def S15_k2 (G : Hp) (K : Exit → Rg → Hp → Prop) (r : Rg) (h : Hp) : Prop :=
  opH Try.prog G (sv (Builtin.len_ #[22] 3 #[(r 2)])) h fun v5 h5 =>
  loopP (S15_l8 G) (upd (upd (upd r 48 (r 2)) 49 v5) 50 (.int .i64 0)) h5 (blockK 2 (thenK (S15_k3 G K) K))
def S15_l11_k13 (G : Hp) (K : Exit → Rg → Hp → Prop) (r : Rg) (h : Hp) : Prop :=
  opH Try.prog G (sv (binOp .add 3 (r 21) (.int .i64 1))) h fun v35 h35 =>
  K .normal (upd (upd r 47 v35) 21 v35) h35
def S15_l11_k12 (G : Hp) (K : Exit → Rg → Hp → Prop) (r : Rg) (h : Hp) : Prop :=
  opH Try.prog G (sv (Instr.indexAt 22 (r 19) (r 21))) h fun v36 h36 =>
  opH Try.prog G (sv (Instr.loadAt 30 v36)) h36 fun v37 h37 =>
  opH Try.prog G (sv (Instr.alloc 30 true (.tuple #[]))) h37 fun v38 h38 =>
  opH Try.prog G (su (Instr.storeAt 30 v38 v37)) h38 fun v39 h39 =>
  opH Try.prog G (sv (Instr.fieldAt 30 v38 0)) h39 fun v40 h40 =>
  opH Try.prog G (sv (Instr.loadAt 3 v40)) h40 fun v41 h41 =>
  opH Try.prog G (callFunc 30 #[(r 0), v41]) h41 fun v42 h42 =>
  opH Try.prog G (sv (Op.unary .not v42)) h42 fun v43 h43 =>
  gd (wantB v43 false) (opH Try.prog G (sv (Instr.fieldAt 30 v38 1)) h43) h43 fun v44 h44 =>
  gd (wantB v43 false) (opH Try.prog G (sv (Instr.loadAt 3 v44)) h44) h44 fun v45 h45 =>
  gd (wantB v43 false) (opH Try.prog G (sv (binOp .lss 3 v45 (.int .i64 0))) h45) h45 fun v46 h46 =>
  opH Try.prog G (xPick v43 (.bool true) v46) h46 fun v47 h47 =>
  gd (wantB v47 false) (opH Try.prog G (sv (Instr.fieldAt 30 v38 1)) h47) h47 fun v48 h48 =>
  gd (wantB v47 false) (opH Try.prog G (sv (Instr.loadAt 3 v48)) h48) h48 fun v49 h49 =>
  gd (wantB v47 false) (opH Try.prog G (sv (Instr.fieldAt 30 v38 2)) h49) h49 fun v50 h50 =>
  gd (wantB v47 false) (opH Try.prog G (sv (Instr.loadAt 3 v50)) h50) h50 fun v51 h51 =>
  gd (wantB v47 false) (opH Try.prog G (sv (binOp .geq 3 v49 v51)) h51) h51 fun v52 h52 =>
  opH Try.prog G (xPick v47 (.bool true) v52) h52 fun v53 h53 =>
  gd (wantB v53 false) (opH Try.prog G (sv (Instr.fieldAt 30 v38 2)) h53) h53 fun v54 h54 =>
  gd (wantB v53 false) (opH Try.prog G (sv (Instr.loadAt 3 v54)) h54) h54 fun v55 h55 =>
  gd (wantB v53 false) (opH Try.prog G (sv (binOp .gtr 3 v55 (.int .i64 4611686018427387904))) h55) h55 fun v56 h56 =>
  opH Try.prog G (xPick v53 (.bool true) v56) h56 fun v57 h57 =>
  cond v57
  (K .ret (upd (upd (upd (upd (upd (upd (upd (upd (upd (upd (upd (upd (upd (upd (upd (upd (upd (upd (upd (upd (upd (upd (upd (upd (upd (upd r 23 v36) 24 v37) 8 v38) 25 (r 0)) 26 v40) 27 v41) 28 v42) 29 v43) 30 v43) 31 v44) 32 v45) 33 v46) 34 v47) 35 v47) 36 v48) 37 v49) 38 v50) 39 v51) 40 v52) 41 v53) 42 v53) 43 v54) 44 v55) 45 v56) 46 v57) 6 (.int .i64 1)) h57)
  (S15_l11_k13 G K (upd (upd (upd (upd (upd (upd (upd (upd (upd (upd (upd (upd (upd (upd (upd (upd (upd (upd (upd (upd (upd (upd (upd (upd (upd r 23 v36) 24 v37) 8 v38) 25 (r 0)) 26 v40) 27 v41) 28 v42) 29 v43) 30 v43) 31 v44) 32 v45) 33 v46) 34 v47) 35 v47) 36 v48) 37 v49) 38 v50) 39 v51) 40 v52) 41 v53) 42 v53) 43 v54) 44 v55) 45 v56) 46 v57) h57)
def S15_l11 (G : Hp) (r : Rg) (h : Hp) (K : Exit → Rg → Hp → Prop) : Prop :=
  opH Try.prog G (sv (binOp .lss 3 (r 21) (r 20))) h fun v34 h34 =>
  cond v34
  (S15_l11_k12 G K (upd r 22 v34) h34)
  (K (.exit 0) (upd r 22 v34) h34)
def S15_k1 (G : Hp) (K : Exit → Rg → Hp → Prop) (r : Rg) (h : Hp) : Prop :=
  opH Try.prog G (sv (Builtin.len_ #[22] 3 #[(r 2)])) h fun v4 h4 =>
  loopP (S15_l11 G) (upd (upd (upd r 19 (r 2)) 20 v4) 21 (.int .i64 0)) h4 (blockK 0 (thenK (S15_k2 G K) K))
def S15 (G : Hp) (K : Exit → Rg → Hp → Prop) (r : Rg) (h : Hp) : Prop :=
  opH Try.prog G (xEq .eql 23 (.tmp 0) (.const .nilFunc) (r 0) (.pointer none)) h fun v0 h0 =>
  gd (wantB v0 false) (fun K1 => K1 (r 1) h0) h0 fun v1 h1 =>
  gd (wantB v0 false) (opH Try.prog G (sv (binOp .lss 3 v1 (.int .i64 0))) h1) h1 fun v2 h2 =>
  opH Try.prog G (xPick v0 (.bool true) v2) h2 fun v3 h3 =>
  cond v3
  (K .ret (upd (upd (upd (upd (upd (upd (upd (upd r 6 (.int .i64 0)) 13 (r 0)) 14 v0) 15 v0) 16 v1) 17 v2) 18 v3) 6 (.int .i64 1)) h3)
  (S15_k1 G K (upd (upd (upd (upd (upd (upd (upd r 6 (.int .i64 0)) 13 (r 0)) 14 v0) 15 v0) 16 v1) 17 v2) 18 v3) h3)
theorem S15_eq (G : Hp) (K : Exit → Rg → Hp → Prop) (r : Rg) (h : Hp) : wpC Try.prog G 81 md15 true (Try.f15.body.getD .skip) r h K = S15 G K r h := by kernel_rfl
theorem enter15 {G : Hp} {h : Hp} {args : Array Value} {R : Value → Hp → Prop} (hn : args.size ≤ 81) (H : S15 G (retK Try.prog G [.tmp 6] R) (regs args) h) : HCalls Try.prog G 15 args h R :=
  HCalls.enter (md := md15) mixed Try.func15 rfl hn (by rw [← S15_eq] at H; exact H)

def md16 : Nat → Hint
  | _ => ⟨false, [], [], [], [], false⟩
def S16_k1 (G : Hp) (K : Exit → Rg → Hp → Prop) (r : Rg) (h : Hp) : Prop :=
  opH Try.prog G (xNil (r 0)) h fun v2 h2 =>
  opH Try.prog G (sv (Instr.fieldAt 68 v2 0)) h2 fun v3 h3 =>
  opH Try.prog G (sv (Instr.loadAt 66 v3)) h3 fun v4 h4 =>
  opH Try.prog G (sv (Instr.indexAt 66 v4 (r 1))) h4 fun v5 h5 =>
  opH Try.prog G (sv (Instr.loadAt 32 v5)) h5 fun v6 h6 =>
  opH Try.prog G (callFunc 33 #[v6]) h6 fun v7 h7 =>
  K .ret (upd (upd (upd (upd (upd (upd (upd (upd (upd r 9 (r 0)) 10 v2) 11 v3) 12 v4) 13 (r 1)) 14 v5) 15 v6) 16 v7) 4 v7) h7
def S16 (G : Hp) (K : Exit → Rg → Hp → Prop) (r : Rg) (h : Hp) : Prop :=
  opH Try.prog G (callFunc 30 #[(r 0), (r 1)]) h fun v0 h0 =>
  opH Try.prog G (sv (Op.unary .not v0)) h0 fun v1 h1 =>
  cond v1
  (K .ret (upd (upd (upd (upd (upd (upd r 4 (.slice none 0 0)) 5 (r 0)) 6 (r 1)) 7 v0) 8 v1) 4 (.slice none 0 0)) h1)
  (S16_k1 G K (upd (upd (upd (upd (upd r 4 (.slice none 0 0)) 5 (r 0)) 6 (r 1)) 7 v0) 8 v1) h1)
theorem S16_eq (G : Hp) (K : Exit → Rg → Hp → Prop) (r : Rg) (h : Hp) : wpC Try.prog G 17 md16 true (Try.f16.body.getD .skip) r h K = S16 G K r h := by kernel_rfl
theorem enter16 {G : Hp} {h : Hp} {args : Array Value} {R : Value → Hp → Prop} (hn : args.size ≤ 17) (H : S16 G (retK Try.prog G [.tmp 4] R) (regs args) h) : HCalls Try.prog G 16 args h R :=
  HCalls.enter (md := md16) mixed Try.func16 rfl hn (by rw [← S16_eq] at H; exact H)

def md17 : Nat → Hint
  | _ => ⟨false, [], [], [], [], false⟩
def S17 (G : Hp) (K : Exit → Rg → Hp → Prop) (r : Rg) (h : Hp) : Prop :=
  opH Try.prog G (sv (Instr.box 23 (r 0))) h fun v0 h0 =>
  opH Try.prog G (sv (Instr.box 3 (r 1))) h0 fun v1 h1 =>
  opH Try.prog G (sv (Instr.box 3 (r 2))) h1 fun v2 h2 =>
  K .ret (upd (upd (upd (upd (upd (upd r 3 v0) 4 v1) 5 v2) 6 .nilFunc) 7 (.func (.func 34) #[] #[v0, v1, v2])) 6 (.func (.func 34) #[] #[v0, v1, v2])) h2
theorem S17_eq (G : Hp) (K : Exit → Rg → Hp → Prop) (r : Rg) (h : Hp) : wpC Try.prog G 8 md17 true (Try.f17.body.getD .skip) r h K = S17 G K r h := by kernel_rfl
theorem enter17 {G : Hp} {h : Hp} {args : Array Value} {R : Value → Hp → Prop} (hn : args.size ≤ 8) (H : S17 G (retK Try.prog G [.tmp 6] R) (regs args) h) : HCalls Try.prog G 17 args h R :=
  HCalls.enter (md := md17) mixed Try.func17 rfl hn (by rw [← S17_eq] at H; exact H)

def md21 : Nat → Hint
  | _ => ⟨false, [], [], [], [], false⟩
def S21_k2 (G : Hp) (K : Exit → Rg → Hp → Prop) (r : Rg) (h : Hp) : Prop :=
  K .ret (upd r 10 (.int .i64 3)) h
def S21_l3_k5 (G : Hp) (K : Exit → Rg → Hp → Prop) (r : Rg) (h : Hp) : Prop :=
  opH Try.prog G (sv (binOp .add 3 (r 26) (.int .i64 1))) h fun v9 h9 =>
  K .normal (upd (upd r 65 v9) 26 v9) h9
def S21_l3_k7 (G : Hp) (K : Exit → Rg → Hp → Prop) (r : Rg) (h : Hp) : Prop :=
  opH Try.prog G (sv (Instr.fieldAt 35 (r 12) 0)) h fun v34 h34 =>
  opH Try.prog G (sv (Instr.loadAt 3 v34)) h34 fun v35 h35 =>
  opH Try.prog G (callFunc 32 #[(r 0), (r 1), (r 2), v35, (r 13)]) h35 fun v36 h36 =>
  K .ret (upd (upd (upd (upd (upd (upd (upd (upd r 58 (r 0)) 59 (r 1)) 60 (r 2)) 61 v34) 62 v35) 63 (r 13)) 64 v36) 10 (.int .i64 0)) h36
def S21_l3_k6 (G : Hp) (K : Exit → Rg → Hp → Prop) (r : Rg) (h : Hp) : Prop :=
  opH Try.prog G (sv (Instr.fieldAt 35 (r 12) 1)) h fun v27 h27 =>
  opH Try.prog G (sv (Instr.loadAt 3 v27)) h27 fun v28 h28 =>
  opH Try.prog G (callFunc 36 #[v28, (r 4)]) h28 fun v29 h29 =>
  opH Try.prog G (sv (Instr.fieldAt 35 (r 12) 0)) h29 fun v30 h30 =>
  opH Try.prog G (sv (Instr.loadAt 3 v30)) h30 fun v31 h31 =>
  opH Try.prog G (callFunc 31 #[(r 0), (r 1), (r 2), v31, v29]) h31 fun v32 h32 =>
  opH Try.prog G (sv (Op.unary .not v32)) h32 fun v33 h33 =>
  cond v33
  (K .ret (upd (upd (upd (upd (upd (upd (upd (upd (upd (upd (upd (upd (upd (upd r 46 v27) 47 v28) 48 (r 4)) 49 v29) 13 v29) 50 (r 0)) 51 (r 1)) 52 (r 2)) 53 v30) 54 v31) 55 v29) 56 v32) 57 v33) 10 (.int .i64 18)) h33)
  (S21_l3_k7 G K (upd (upd (upd (upd (upd (upd (upd (upd (upd (upd (upd (upd (upd r 46 v27) 47 v28) 48 (r 4)) 49 v29) 13 v29) 50 (r 0)) 51 (r 1)) 52 (r 2)) 53 v30) 54 v31) 55 v29) 56 v32) 57 v33) h33)
def S21_l3_k4 (G : Hp) (K : Exit → Rg → Hp → Prop) (r : Rg) (h : Hp) : Prop :=
  opH Try.prog G (sv (Instr.indexAt 32 (r 24) (r 26))) h fun v10 h10 =>
  opH Try.prog G (sv (Instr.loadAt 35 v10)) h10 fun v11 h11 =>
  opH Try.prog G (sv (Instr.alloc 35 true (.tuple #[]))) h11 fun v12 h12 =>
  opH Try.prog G (su (Instr.storeAt 35 v12 v11)) h12 fun v13 h13 =>
  opH Try.prog G (sv (Instr.fieldAt 35 v12 2)) h13 fun v14 h14 =>
  opH Try.prog G (sv (Instr.loadAt 3 v14)) h14 fun v15 h15 =>
  opH Try.prog G (xEq .neq 3 (.tmp 0) (.tmp 0) v15 (r 1)) h15 fun v16 h16 =>
  gd (wantB v16 false) (fun K1 => K1 (r 3) h16) h16 fun v17 h17 =>
  gd (wantB v16 false) (opH Try.prog G (sv (Instr.fieldAt 35 v12 0)) h17) h17 fun v18 h18 =>
  gd (wantB v16 false) (opH Try.prog G (sv (Instr.loadAt 3 v18)) h18) h18 fun v19 h19 =>
  gd (wantB v16 false) (opH Try.prog G (sv (binOp .lss 3 v17 v19)) h19) h19 fun v20 h20 =>
  opH Try.prog G (xPick v16 (.bool true) v20) h20 fun v21 h21 =>
  gd (wantB v21 false) (fun K1 => K1 (r 3) h21) h21 fun v22 h22 =>
  gd (wantB v21 false) (opH Try.prog G (sv (Instr.fieldAt 35 v12 1)) h22) h22 fun v23 h23 =>
  gd (wantB v21 false) (opH Try.prog G (sv (Instr.loadAt 3 v23)) h23) h23 fun v24 h24 =>
  gd (wantB v21 false) (opH Try.prog G (sv (binOp .geq 3 v22 v24)) h24) h24 fun v25 h25 =>
  opH Try.prog G (xPick v21 (.bool true) v25) h25 fun v26 h26 =>
  cond v26
  (S21_l3_k5 G K (upd (upd (upd (upd (upd (upd (upd (upd (upd (upd (upd (upd (upd (upd (upd (upd (upd (upd (upd r 28 v10) 29 v11) 12 v12) 30 v14) 31 v15) 32 (r 1)) 33 v16) 34 v16) 35 v17) 36 v18) 37 v19) 38 v20) 39 v21) 40 v21) 41 v22) 42 v23) 43 v24) 44 v25) 45 v26) h26)
  (S21_l3_k6 G K (upd (upd (upd (upd (upd (upd (upd (upd (upd (upd (upd (upd (upd (upd (upd (upd (upd (upd (upd r 28 v10) 29 v11) 12 v12) 30 v14) 31 v15) 32 (r 1)) 33 v16) 34 v16) 35 v17) 36 v18) 37 v19) 38 v20) 39 v21) 40 v21) 41 v22) 42 v23) 43 v24) 44 v25) 45 v26) h26)
def S21_l3 (G : Hp) (r : Rg) (h : Hp) (K : Exit → Rg → Hp → Prop) : Prop :=
  opH Try.prog G (sv (binOp .lss 3 (r 26) (r 25))) h fun v8 h8 =>
  cond v8
  (S21_l3_k4 G K (upd r 27 v8) h8)
  (K (.exit 0) (upd r 27 v8) h8)
def S21_k1 (G : Hp) (K : Exit → Rg → Hp → Prop) (r : Rg) (h : Hp) : Prop :=
  opH Try.prog G (xNil (r 0)) h fun v2 h2 =>
  opH Try.prog G (sv (Instr.fieldAt 68 v2 0)) h2 fun v3 h3 =>
  opH Try.prog G (sv (Instr.loadAt 66 v3)) h3 fun v4 h4 =>
  opH Try.prog G (sv (Instr.indexAt 66 v4 (r 2))) h4 fun v5 h5 =>
  opH Try.prog G (sv (Instr.loadAt 32 v5)) h5 fun v6 h6 =>
  opH Try.prog G (sv (Builtin.len_ #[32] 3 #[v6])) h6 fun v7 h7 =>
  loopP (S21_l3 G) (upd (upd (upd (upd (upd (upd (upd (upd (upd r 18 (r 0)) 19 v2) 20 v3) 21 v4) 22 (r 2)) 23 v5) 24 v6) 25 v7) 26 (.int .i64 0)) h7 (blockK 0 (thenK (S21_k2 G K) K))
def S21 (G : Hp) (K : Exit → Rg → Hp → Prop) (r : Rg) (h : Hp) : Prop :=
  opH Try.prog G (callFunc 30 #[(r 0), (r 2)]) h fun v0 h0 =>
  opH Try.prog G (sv (Op.unary .not v0)) h0 fun v1 h1 =>
  cond v1
  (K .ret (upd (upd (upd (upd (upd (upd r 10 (.int .i64 0)) 14 (r 0)) 15 (r 2)) 16 v0) 17 v1) 10 (.int .i64 3)) h1)
  (S21_k1 G K (upd (upd (upd (upd (upd r 10 (.int .i64 0)) 14 (r 0)) 15 (r 2)) 16 v0) 17 v1) h1)
theorem S21_eq (G : Hp) (K : Exit → Rg → Hp → Prop) (r : Rg) (h : Hp) : wpC Try.prog G 66 md21 true (Try.f21.body.getD .skip) r h K = S21 G K r h := by kernel_rfl
theorem enter21 {G : Hp} {h : Hp} {args : Array Value} {R : Value → Hp → Prop} (hn : args.size ≤ 66) (H : S21 G (retK Try.prog G [.tmp 10] R) (regs args) h) : HCalls Try.prog G 21 args h R :=
  HCalls.enter (md := md21) mixed Try.func21 rfl hn (by rw [← S21_eq] at H; exact H)

def md22 : Nat → Hint
  | _ => ⟨false, [], [], [], [], false⟩
def S22_k1 (G : Hp) (K : Exit → Rg → Hp → Prop) (r : Rg) (h : Hp) : Prop :=
  opH Try.prog G (xNil (r 0)) h fun v1 h1 =>
  opH Try.prog G (sv (Instr.fieldAt 68 v1 0)) h1 fun v2 h2 =>
  opH Try.prog G (sv (Instr.loadAt 66 v2)) h2 fun v3 h3 =>
  opH Try.prog G (sv (Builtin.len_ #[66] 3 #[v3])) h3 fun v4 h4 =>
  K .ret (upd (upd (upd (upd (upd (upd r 5 (r 0)) 6 v1) 7 v2) 8 v3) 9 v4) 2 v4) h4
def S22 (G : Hp) (K : Exit → Rg → Hp → Prop) (r : Rg) (h : Hp) : Prop :=
  opH Try.prog G (xEq .eql 23 (.tmp 0) (.const .nilFunc) (r 0) (.pointer none)) h fun v0 h0 =>
  cond v0
  (K .ret (upd (upd (upd (upd r 2 (.int .i64 0)) 3 (r 0)) 4 v0) 2 (.int .i64 0)) h0)
  (S22_k1 G K (upd (upd (upd r 2 (.int .i64 0)) 3 (r 0)) 4 v0) h0)
theorem S22_eq (G : Hp) (K : Exit → Rg → Hp → Prop) (r : Rg) (h : Hp) : wpC Try.prog G 10 md22 true (Try.f22.body.getD .skip) r h K = S22 G K r h := by kernel_rfl
theorem enter22 {G : Hp} {h : Hp} {args : Array Value} {R : Value → Hp → Prop} (hn : args.size ≤ 10) (H : S22 G (retK Try.prog G [.tmp 2] R) (regs args) h) : HCalls Try.prog G 22 args h R :=
  HCalls.enter (md := md22) mixed Try.func22 rfl hn (by rw [← S22_eq] at H; exact H)

def md26 : Nat → Hint
  | _ => ⟨false, [], [], [], [], false⟩
def S26 (G : Hp) (K : Exit → Rg → Hp → Prop) (r : Rg) (h : Hp) : Prop :=
  opH Try.prog G (callFunc 47 #[(r 0), (r 1), (.func (.func 48) #[] #[])]) h fun v0 h0 =>
  K .normal (upd (upd (upd r 4 (r 0)) 5 (r 1)) 6 v0) h0
theorem S26_eq (G : Hp) (K : Exit → Rg → Hp → Prop) (r : Rg) (h : Hp) : wpC Try.prog G 7 md26 true (Try.f26.body.getD .skip) r h K = S26 G K r h := by kernel_rfl
theorem enter26 {G : Hp} {h : Hp} {args : Array Value} {R : Value → Hp → Prop} (hn : args.size ≤ 7) (H : S26 G (retK Try.prog G [] R) (regs args) h) : HCalls Try.prog G 26 args h R :=
  HCalls.enter (md := md26) mixed Try.func26 rfl hn (by rw [← S26_eq] at H; exact H)

def md27 : Nat → Hint
  | _ => ⟨false, [], [], [], [], false⟩
def S27 (G : Hp) (K : Exit → Rg → Hp → Prop) (r : Rg) (h : Hp) : Prop :=
  opH Try.prog G (sv (Instr.box 3 (r 1))) h fun v0 h0 =>
  opH Try.prog G (callFunc 47 #[(r 0), (r 2), (.func (.func 49) #[] #[v0])]) h0 fun v1 h1 =>
  K .normal (upd (upd (upd (upd (upd r 4 v0) 6 (r 0)) 7 (r 2)) 8 (.func (.func 49) #[] #[v0])) 9 v1) h1
theorem S27_eq (G : Hp) (K : Exit → Rg → Hp → Prop) (r : Rg) (h : Hp) : wpC Try.prog G 10 md27 true (Try.f27.body.getD .skip) r h K = S27 G K r h := by kernel_rfl
theorem enter27 {G : Hp} {h : Hp} {args : Array Value} {R : Value → Hp → Prop} (hn : args.size ≤ 10) (H : S27 G (retK Try.prog G [] R) (regs args) h) : HCalls Try.prog G 27 args h R :=
  HCalls.enter (md := md27) mixed Try.func27 rfl hn (by rw [← S27_eq] at H; exact H)

def md28 : Nat → Hint
  | _ => ⟨false, [], [], [], [], false⟩
def S28 (G : Hp) (K : Exit → Rg → Hp → Prop) (r : Rg) (h : Hp) : Prop :=
  opH Try.prog G (callFunc 27 #[(r 0), (r 1), (.int .i64 4611686018427387904)]) h fun v0 h0 =>
  K .normal (upd (upd (upd r 4 (r 0)) 5 (r 1)) 6 v0) h0
theorem S28_eq (G : Hp) (K : Exit → Rg → Hp → Prop) (r : Rg) (h : Hp) : wpC Try.prog G 7 md28 true (Try.f28.body.getD .skip) r h K = S28 G K r h := by kernel_rfl
theorem enter28 {G : Hp} {h : Hp} {args : Array Value} {R : Value → Hp → Prop} (hn : args.size ≤ 7) (H : S28 G (retK Try.prog G [] R) (regs args) h) : HCalls Try.prog G 28 args h R :=
  HCalls.enter (md := md28) mixed Try.func28 rfl hn (by rw [← S28_eq] at H; exact H)

def md29 : Nat → Hint
  | _ => ⟨false, [], [], [], [], false⟩
def S29_k1 (G : Hp) (K : Exit → Rg → Hp → Prop) (r : Rg) (h : Hp) : Prop :=
  opH Try.prog G (xNil (r 0)) h fun v12 h12 =>
  opH Try.prog G (sv (Instr.fieldAt 68 v12 0)) h12 fun v13 h13 =>
  opH Try.prog G (sv (Instr.loadAt 66 v13)) h13 fun v14 h14 =>
  opH Try.prog G (sv (Instr.indexAt 66 v14 (r 1))) h14 fun v15 h15 =>
  opH Try.prog G (sv (Instr.loadAt 32 v15)) h15 fun v16 h16 =>
  opH Try.prog G (sv (Instr.indexAt 32 v16 (.int .i64 0))) h16 fun v17 h17 =>
  opH Try.prog G (sv (Instr.fieldAt 35 v17 2)) h17 fun v18 h18 =>
  opH Try.prog G (sv (Instr.loadAt 3 v18)) h18 fun v19 h19 =>
  K .ret (upd (upd (upd (upd (upd (upd (upd (upd (upd (upd (upd (upd r 21 (r 0)) 22 v12) 23 v13) 24 v14) 25 (r 1)) 26 v15) 27 v16) 28 v17) 29 v18) 30 v19) 4 v19) 5 (.bool true)) h19
def S29 (G : Hp) (K : Exit → Rg → Hp → Prop) (r : Rg) (h : Hp) : Prop :=
  opH Try.prog G (callFunc 30 #[(r 0), (r 1)]) h fun v0 h0 =>
  opH Try.prog G (sv (Op.unary .not v0)) h0 fun v1 h1 =>
  gd (wantB v1 false) (fun K1 => K1 (r 0) h1) h1 fun v2 h2 =>
  gd (wantB v1 false) (opH Try.prog G (xNil v2) h2) h2 fun v3 h3 =>
  gd (wantB v1 false) (opH Try.prog G (sv (Instr.fieldAt 68 v3 0)) h3) h3 fun v4 h4 =>
  gd (wantB v1 false) (opH Try.prog G (sv (Instr.loadAt 66 v4)) h4) h4 fun v5 h5 =>
  gd (wantB v1 false) (fun K1 => K1 (r 1) h5) h5 fun v6 h6 =>
  gd (wantB v1 false) (opH Try.prog G (sv (Instr.indexAt 66 v5 v6)) h6) h6 fun v7 h7 =>
  gd (wantB v1 false) (opH Try.prog G (sv (Instr.loadAt 32 v7)) h7) h7 fun v8 h8 =>
  gd (wantB v1 false) (opH Try.prog G (sv (Builtin.len_ #[32] 3 #[v8])) h8) h8 fun v9 h9 =>
  gd (wantB v1 false) (opH Try.prog G (xEq .eql 3 (.tmp 0) (.const .nilFunc) v9 (.int .i64 0)) h9) h9 fun v10 h10 =>
  opH Try.prog G (xPick v1 (.bool true) v10) h10 fun v11 h11 =>
  cond v11
  (K .ret (upd (upd (upd (upd (upd (upd (upd (upd (upd (upd (upd (upd (upd (upd (upd (upd (upd (upd (upd r 4 (.int .i64 0)) 5 (.bool false)) 6 (r 0)) 7 (r 1)) 8 v0) 9 v1) 10 v1) 11 v2) 12 v3) 13 v4) 14 v5) 15 v6) 16 v7) 17 v8) 18 v9) 19 v10) 20 v11) 4 (.int .i64 0)) 5 (.bool false)) h11)
  (S29_k1 G K (upd (upd (upd (upd (upd (upd (upd (upd (upd (upd (upd (upd (upd (upd (upd (upd (upd r 4 (.int .i64 0)) 5 (.bool false)) 6 (r 0)) 7 (r 1)) 8 v0) 9 v1) 10 v1) 11 v2) 12 v3) 13 v4) 14 v5) 15 v6) 16 v7) 17 v8) 18 v9) 19 v10) 20 v11) h11)
theorem S29_eq (G : Hp) (K : Exit → Rg → Hp → Prop) (r : Rg) (h : Hp) : wpC Try.prog G 31 md29 true (Try.f29.body.getD .skip) r h K = S29 G K r h := by kernel_rfl
theorem enter29 {G : Hp} {h : Hp} {args : Array Value} {R : Value → Hp → Prop} (hn : args.size ≤ 31) (H : S29 G (retK Try.prog G [.tmp 4, .tmp 5] R) (regs args) h) : HCalls Try.prog G 29 args h R :=
  HCalls.enter (md := md29) mixed Try.func29 rfl hn (by rw [← S29_eq] at H; exact H)

def md30 : Nat → Hint
  | _ => ⟨false, [], [], [], [], false⟩
def S30 (G : Hp) (K : Exit → Rg → Hp → Prop) (r : Rg) (h : Hp) : Prop :=
  opH Try.prog G (xEq .neq 23 (.tmp 0) (.const .nilFunc) (r 0) (.pointer none)) h fun v0 h0 =>
  gd (wantB v0 true) (fun K1 => K1 (r 1) h0) h0 fun v1 h1 =>
  gd (wantB v0 true) (opH Try.prog G (sv (binOp .geq 3 v1 (.int .i64 0))) h1) h1 fun v2 h2 =>
  opH Try.prog G (xPick v0 v2 (.bool false)) h2 fun v3 h3 =>
  gd (wantB v3 true) (fun K1 => K1 (r 1) h3) h3 fun v4 h4 =>
  gd (wantB v3 true) (fun K1 => K1 (r 0) h4) h4 fun v5 h5 =>
  gd (wantB v3 true) (opH Try.prog G (xNil v5) h5) h5 fun v6 h6 =>
  gd (wantB v3 true) (opH Try.prog G (sv (Instr.fieldAt 68 v6 0)) h6) h6 fun v7 h7 =>
  gd (wantB v3 true) (opH Try.prog G (sv (Instr.loadAt 66 v7)) h7) h7 fun v8 h8 =>
  gd (wantB v3 true) (opH Try.prog G (sv (Builtin.len_ #[66] 3 #[v8])) h8) h8 fun v9 h9 =>
  gd (wantB v3 true) (opH Try.prog G (sv (binOp .lss 3 v4 v9)) h9) h9 fun v10 h10 =>
  opH Try.prog G (xPick v3 v10 (.bool false)) h10 fun v11 h11 =>
  K .ret (upd (upd (upd (upd (upd (upd (upd (upd (upd (upd (upd (upd (upd (upd (upd (upd (upd r 4 (.bool false)) 5 (r 0)) 6 v0) 7 v0) 8 v1) 9 v2) 10 v3) 11 v3) 12 v4) 13 v5) 14 v6) 15 v7) 16 v8) 17 v9) 18 v10) 19 v11) 4 v11) h11
theorem S30_eq (G : Hp) (K : Exit → Rg → Hp → Prop) (r : Rg) (h : Hp) : wpC Try.prog G 20 md30 true (Try.f30.body.getD .skip) r h K = S30 G K r h := by kernel_rfl
theorem enter30 {G : Hp} {h : Hp} {args : Array Value} {R : Value → Hp → Prop} (hn : args.size ≤ 20) (H : S30 G (retK Try.prog G [.tmp 4] R) (regs args) h) : HCalls Try.prog G 30 args h R :=
  HCalls.enter (md := md30) mixed Try.func30 rfl hn (by rw [← S30_eq] at H; exact H)

def md31 : Nat → Hint
  | _ => ⟨false, [], [], [], [], false⟩
def S31_k1 (G : Hp) (K : Exit → Rg → Hp → Prop) (r : Rg) (h : Hp) : Prop :=
  K .ret (upd r 10 (.bool true)) h
def S31_l2_k4 (G : Hp) (K : Exit → Rg → Hp → Prop) (r : Rg) (h : Hp) : Prop :=
  opH Try.prog G (sv (binOp .add 3 (r 21) (.int .i64 1))) h fun v7 h7 =>
  K .normal (upd (upd r 41 v7) 21 v7) h7
def S31_l2_k3 (G : Hp) (K : Exit → Rg → Hp → Prop) (r : Rg) (h : Hp) : Prop :=
  opH Try.prog G (sv (Instr.indexAt 32 (r 19) (r 21))) h fun v8 h8 =>
  opH Try.prog G (sv (Instr.loadAt 35 v8)) h8 fun v9 h9 =>
  opH Try.prog G (sv (Instr.alloc 35 true (.tuple #[]))) h9 fun v10 h10 =>
  opH Try.prog G (su (Instr.storeAt 35 v10 v9)) h10 fun v11 h11 =>
  opH Try.prog G (sv (Instr.fieldAt 35 v10 2)) h11 fun v12 h12 =>
  opH Try.prog G (sv (Instr.loadAt 3 v12)) h12 fun v13 h13 =>
  opH Try.prog G (xEq .neq 3 (.tmp 0) (.tmp 0) v13 (r 1)) h13 fun v14 h14 =>
  gd (wantB v14 true) (opH Try.prog G (sv (Instr.fieldAt 35 v10 0)) h14) h14 fun v15 h15 =>
  gd (wantB v14 true) (opH Try.prog G (sv (Instr.loadAt 3 v15)) h15) h15 fun v16 h16 =>
  gd (wantB v14 true) (fun K1 => K1 (r 4) h16) h16 fun v17 h17 =>
  gd (wantB v14 true) (opH Try.prog G (sv (binOp .lss 3 v16 v17)) h17) h17 fun v18 h18 =>
  opH Try.prog G (xPick v14 v18 (.bool false)) h18 fun v19 h19 =>
  gd (wantB v19 true) (fun K1 => K1 (r 3) h19) h19 fun v20 h20 =>
  gd (wantB v19 true) (opH Try.prog G (sv (Instr.fieldAt 35 v10 1)) h20) h20 fun v21 h21 =>
  gd (wantB v19 true) (opH Try.prog G (sv (Instr.loadAt 3 v21)) h21) h21 fun v22 h22 =>
  gd (wantB v19 true) (opH Try.prog G (sv (binOp .lss 3 v20 v22)) h22) h22 fun v23 h23 =>
  opH Try.prog G (xPick v19 v23 (.bool false)) h23 fun v24 h24 =>
  cond v24
  (K .ret (upd (upd (upd (upd (upd (upd (upd (upd (upd (upd (upd (upd (upd (upd (upd (upd (upd (upd (upd (upd r 23 v8) 24 v9) 12 v10) 25 v12) 26 v13) 27 (r 1)) 28 v14) 29 v14) 30 v15) 31 v16) 32 v17) 33 v18) 34 v19) 35 v19) 36 v20) 37 v21) 38 v22) 39 v23) 40 v24) 10 (.bool false)) h24)
  (S31_l2_k4 G K (upd (upd (upd (upd (upd (upd (upd (upd (upd (upd (upd (upd (upd (upd (upd (upd (upd (upd (upd r 23 v8) 24 v9) 12 v10) 25 v12) 26 v13) 27 (r 1)) 28 v14) 29 v14) 30 v15) 31 v16) 32 v17) 33 v18) 34 v19) 35 v19) 36 v20) 37 v21) 38 v22) 39 v23) 40 v24) h24)
def S31_l2 (G : Hp) (r : Rg) (h : Hp) (K : Exit → Rg → Hp → Prop) : Prop :=
  opH Try.prog G (sv (binOp .lss 3 (r 21) (r 20))) h fun v6 h6 =>
  cond v6
  (S31_l2_k3 G K (upd r 22 v6) h6)
  (K (.exit 0) (upd r 22 v6) h6)
def S31 (G : Hp) (K : Exit → Rg → Hp → Prop) (r : Rg) (h : Hp) : Prop :=
  opH Try.prog G (xNil (r 0)) h fun v0 h0 =>
  opH Try.prog G (sv (Instr.fieldAt 68 v0 0)) h0 fun v1 h1 =>
  opH Try.prog G (sv (Instr.loadAt 66 v1)) h1 fun v2 h2 =>
  opH Try.prog G (sv (Instr.indexAt 66 v2 (r 2))) h2 fun v3 h3 =>
  opH Try.prog G (sv (Instr.loadAt 32 v3)) h3 fun v4 h4 =>
  opH Try.prog G (sv (Builtin.len_ #[32] 3 #[v4])) h4 fun v5 h5 =>
  loopP (S31_l2 G) (upd (upd (upd (upd (upd (upd (upd (upd (upd (upd r 10 (.bool false)) 13 (r 0)) 14 v0) 15 v1) 16 v2) 17 (r 2)) 18 v3) 19 v4) 20 v5) 21 (.int .i64 0)) h5 (blockK 0 (thenK (S31_k1 G K) K))
theorem S31_eq (G : Hp) (K : Exit → Rg → Hp → Prop) (r : Rg) (h : Hp) : wpC Try.prog G 42 md31 true (Try.f31.body.getD .skip) r h K = S31 G K r h := by kernel_rfl
theorem enter31 {G : Hp} {h : Hp} {args : Array Value} {R : Value → Hp → Prop} (hn : args.size ≤ 42) (H : S31 G (retK Try.prog G [.tmp 10] R) (regs args) h) : HCalls Try.prog G 31 args h R :=
  HCalls.enter (md := md31) mixed Try.func31 rfl hn (by rw [← S31_eq] at H; exact H)

def md32 : Nat → Hint
  | 5 => ⟨false, [0, 0, 2, 7, 0, 0, 32, 112, 15, 511], [.pureN, .pureN, .pureM, .pureN, .pureN, .pureN, .pureM, .pureN, .pureN, .pureN], [.pureN, .pureN, .pureM, .pureN, .pureN, .pureN, .pureM, .pureN, .pureN, .pureN], [false, false, false, false, false, false, false, false, false, false], false⟩
  | 9 => ⟨false, [0, 1, 3, 7, 0, 0, 0, 0, 0, 0, 896, 1920, 4064, 8191, 16383], [.pureN, .pureN, .pureN, .pureM, .pureN, .pureN, .pureN, .pureN, .pureN, .pureN, .pureN, .alloc, .eff, .pureN, .store], [.pureN, .pureN, .pureN, .pureM, .pureN, .pureN, .pureN, .pureN, .pureN, .pureN, .pureN, .alloc, .eff, .pureN, .store], [false, false, false, false, false, false, false, false, false, false, false, false, true, false, false], true⟩
  | _ => ⟨false, [], [], [], [], false⟩
def S32_k1 (G : Hp) (K : Exit → Rg → Hp → Prop) (r : Rg) (h : Hp) : Prop :=
  opH Try.prog G (callFunc 50 #[(r 10), (r 3), (.func (.func 51) #[] #[])]) h fun v6 h6 =>
  opH Try.prog G (sv (Instr.extract v6 0)) h6 fun v7 h7 =>
  opH Try.prog G (sv (Instr.extract v6 1)) h7 fun v8 h8 =>
  ∃ q9 : Hp, q9.le h8 ∧
  pureW Try.prog noHp noHp (xNil (r 0)) h8 fun v10 h10 =>
  pureW Try.prog noHp noHp (sv (Instr.fieldAt 68 v10 0)) h10 fun v11 h11 =>
  pureW Try.prog G q9 (sv (Instr.loadAt 66 v11)) h11 fun v12 h12 =>
  pureW Try.prog noHp noHp (sv (Instr.build 35 #[(0, (r 3)), (1, (r 4)), (2, (r 1))])) h12 fun v13 h13 =>
  opH Try.prog G (sv (Instr.buildSlice 32 1 #[(0, v13)])) h13 fun v14 h14 =>
  opH Try.prog G (callFunc 52 #[(r 10), v7, v14]) h14 fun v15 h15 => q9.le h15 ∧
  pureW Try.prog noHp noHp (sv (Instr.indexAt 66 v12 (r 2))) h15 fun v16 h16 =>
  opH Try.prog G (su (Instr.storeAt 32 v16 v15)) h16 fun v17 h17 =>
  K .normal (upd (upd (upd (upd (upd (upd (upd (upd (upd (upd (upd (upd (upd (upd (upd (upd (upd (upd (upd (upd (upd (upd r 57 (r 10)) 58 (r 3)) 59 v6) 56 v6) 60 v7) 61 v8) 13 v7) 14 v8) 62 (r 0)) 63 v10) 64 v11) 65 v12) 66 (r 2)) 67 (r 10)) 68 v7) 69 (r 3)) 70 (r 4)) 71 (r 1)) 72 v13) 73 v14) 74 v15) 75 v16) h17
def S32_l2_k4 (G : Hp) (K : Exit → Rg → Hp → Prop) (r : Rg) (h : Hp) : Prop :=
  opH Try.prog G (sv (binOp .add 3 (r 23) (.int .i64 1))) h fun v19 h19 =>
  K .normal (upd (upd r 55 v19) 23 v19) h19
def S32_l2_k5 (G : Hp) (K : Exit → Rg → Hp → Prop) (r : Rg) (h : Hp) : Prop :=
  opH Try.prog G (sv (Instr.loadAt 35 (r 12))) h fun v37 h37 =>
  opH Try.prog G (sv (Instr.buildSlice 32 1 #[(0, v37)])) h37 fun v38 h38 =>
  opH Try.prog G (sv (Builtin.append_ #[32, 32] 32 #[(r 10), v38])) h38 fun v39 h39 =>
  S32_l2_k4 G K (upd (upd (upd (upd (upd r 51 (r 10)) 52 v37) 53 v38) 54 v39) 10 v39) h39
def S32_l2_k3 (G : Hp) (K : Exit → Rg → Hp → Prop) (r : Rg) (h : Hp) : Prop :=
  opH Try.prog G (sv (Instr.indexAt 32 (r 21) (r 23))) h fun v20 h20 =>
  opH Try.prog G (sv (Instr.loadAt 35 v20)) h20 fun v21 h21 =>
  opH Try.prog G (sv (Instr.alloc 35 true (.tuple #[]))) h21 fun v22 h22 =>
  opH Try.prog G (su (Instr.storeAt 35 v22 v21)) h22 fun v23 h23 =>
  opH Try.prog G (sv (Instr.fieldAt 35 v22 2)) h23 fun v24 h24 =>
  opH Try.prog G (sv (Instr.loadAt 3 v24)) h24 fun v25 h25 =>
  opH Try.prog G (xEq .eql 3 (.tmp 0) (.tmp 0) v25 (r 1)) h25 fun v26 h26 =>
  gd (wantB v26 true) (opH Try.prog G (sv (Instr.fieldAt 35 v22 0)) h26) h26 fun v27 h27 =>
  gd (wantB v26 true) (opH Try.prog G (sv (Instr.loadAt 3 v27)) h27) h27 fun v28 h28 =>
  gd (wantB v26 true) (fun K1 => K1 (r 4) h28) h28 fun v29 h29 =>
  gd (wantB v26 true) (opH Try.prog G (sv (binOp .leq 3 v28 v29)) h29) h29 fun v30 h30 =>
  opH Try.prog G (xPick v26 v30 (.bool false)) h30 fun v31 h31 =>
  gd (wantB v31 true) (fun K1 => K1 (r 3) h31) h31 fun v32 h32 =>
  gd (wantB v31 true) (opH Try.prog G (sv (Instr.fieldAt 35 v22 1)) h32) h32 fun v33 h33 =>
  gd (wantB v31 true) (opH Try.prog G (sv (Instr.loadAt 3 v33)) h33) h33 fun v34 h34 =>
  gd (wantB v31 true) (opH Try.prog G (sv (binOp .leq 3 v32 v34)) h34) h34 fun v35 h35 =>
  opH Try.prog G (xPick v31 v35 (.bool false)) h35 fun v36 h36 =>
  cond v36
  (pureW Try.prog noHp noHp (sv (Instr.fieldAt 35 v22 0)) h36 fun v40 h40 =>
  pureW Try.prog G h36 (sv (Instr.loadAt 3 v40)) h40 fun v41 h41 =>
  pureW Try.prog noHp noHp (sv (Builtin.min_ #[3, 3] 3 #[(r 3), v41])) h41 fun v42 h42 =>
  pureW Try.prog noHp noHp (sv (Instr.fieldAt 35 v22 1)) h42 fun v43 h43 =>
  pureW Try.prog G h36 (sv (Instr.loadAt 3 v43)) h43 fun v44 h44 =>
  pureW Try.prog noHp noHp (sv (Builtin.max_ #[3, 3] 3 #[(r 4), v44])) h44 fun v45 h45 =>
  S32_l2_k4 G K (upd (upd (upd (upd (upd (upd (upd (upd (upd (upd (upd (upd (upd (upd (upd (upd (upd (upd (upd (upd (upd (upd (upd (upd (upd (upd (upd (upd (upd r 25 v20) 26 v21) 12 v22) 27 v24) 28 v25) 29 (r 1)) 30 v26) 31 v26) 32 v27) 33 v28) 34 v29) 35 v30) 36 v31) 37 v31) 38 v32) 39 v33) 40 v34) 41 v35) 42 v36) 43 (r 3)) 44 v40) 45 v41) 46 v42) 47 (r 4)) 48 v43) 49 v44) 50 v45) 3 v42) 4 v45) h45)
  (S32_l2_k5 G K (upd (upd (upd (upd (upd (upd (upd (upd (upd (upd (upd (upd (upd (upd (upd (upd (upd (upd (upd r 25 v20) 26 v21) 12 v22) 27 v24) 28 v25) 29 (r 1)) 30 v26) 31 v26) 32 v27) 33 v28) 34 v29) 35 v30) 36 v31) 37 v31) 38 v32) 39 v33) 40 v34) 41 v35) 42 v36) h36)
def S32_l2 (G : Hp) (r : Rg) (h : Hp) (K : Exit → Rg → Hp → Prop) : Prop :=
  opH Try.prog G (sv (binOp .lss 3 (r 23) (r 22))) h fun v18 h18 =>
  cond v18
  (S32_l2_k3 G K (upd r 24 v18) h18)
  (K (.exit 0) (upd r 24 v18) h18)
def S32 (G : Hp) (K : Exit → Rg → Hp → Prop) (r : Rg) (h : Hp) : Prop :=
  opH Try.prog G (xNil (r 0)) h fun v0 h0 =>
  opH Try.prog G (sv (Instr.fieldAt 68 v0 0)) h0 fun v1 h1 =>
  opH Try.prog G (sv (Instr.loadAt 66 v1)) h1 fun v2 h2 =>
  opH Try.prog G (sv (Instr.indexAt 66 v2 (r 2))) h2 fun v3 h3 =>
  opH Try.prog G (sv (Instr.loadAt 32 v3)) h3 fun v4 h4 =>
  opH Try.prog G (sv (Builtin.len_ #[32] 3 #[v4])) h4 fun v5 h5 =>
  loopP (S32_l2 G) (upd (upd (upd (upd (upd (upd (upd (upd (upd (upd r 10 (.slice none 0 0)) 15 (r 0)) 16 v0) 17 v1) 18 v2) 19 (r 2)) 20 v3) 21 v4) 22 v5) 23 (.int .i64 0)) h5 (blockK 0 (thenK (S32_k1 G K) (scopeK K)))
theorem S32_eq (G : Hp) (K : Exit → Rg → Hp → Prop) (r : Rg) (h : Hp) : wpC Try.prog G 76 md32 true (Try.f32.body.getD .skip) r h K = S32 G K r h := by kernel_rfl
theorem enter32 {G : Hp} {h : Hp} {args : Array Value} {R : Value → Hp → Prop} (hn : args.size ≤ 76) (H : S32 G (retK Try.prog G [] R) (regs args) h) : HCalls Try.prog G 32 args h R :=
  HCalls.enter (md := md32) mixed Try.func32 rfl hn (by rw [← S32_eq] at H; exact H)

def md33 : Nat → Hint
  | _ => ⟨false, [], [], [], [], false⟩
def S33_k1 (G : Hp) (K : Exit → Rg → Hp → Prop) (r : Rg) (h : Hp) : Prop :=
  opH Try.prog G (sv (Builtin.len_ #[32] 3 #[(r 0)])) h fun v2 h2 =>
  opH Try.prog G (sv (Instr.makeSlice 32 v2 v2)) h2 fun v3 h3 =>
  opH Try.prog G (sv (Builtin.copy_ #[32, 32] 3 #[v3, (r 0)])) h3 fun v4 h4 =>
  K .ret (upd (upd (upd (upd (upd (upd (upd (upd (upd r 7 (r 0)) 8 v2) 9 v3) 3 v3) 10 v3) 11 (r 0)) 12 v4) 13 v3) 2 v3) h4
def S33 (G : Hp) (K : Exit → Rg → Hp → Prop) (r : Rg) (h : Hp) : Prop :=
  opH Try.prog G (sv (Builtin.len_ #[32] 3 #[(r 0)])) h fun v0 h0 =>
  opH Try.prog G (xEq .eql 3 (.tmp 0) (.const .nilFunc) v0 (.int .i64 0)) h0 fun v1 h1 =>
  cond v1
  (K .ret (upd (upd (upd (upd (upd r 2 (.slice none 0 0)) 4 (r 0)) 5 v0) 6 v1) 2 (.slice none 0 0)) h1)
  (S33_k1 G K (upd (upd (upd (upd r 2 (.slice none 0 0)) 4 (r 0)) 5 v0) 6 v1) h1)
theorem S33_eq (G : Hp) (K : Exit → Rg → Hp → Prop) (r : Rg) (h : Hp) : wpC Try.prog G 14 md33 true (Try.f33.body.getD .skip) r h K = S33 G K r h := by kernel_rfl
theorem enter33 {G : Hp} {h : Hp} {args : Array Value} {R : Value → Hp → Prop} (hn : args.size ≤ 14) (H : S33 G (retK Try.prog G [.tmp 2] R) (regs args) h) : HCalls Try.prog G 33 args h R :=
  HCalls.enter (md := md33) mixed Try.func33 rfl hn (by rw [← S33_eq] at H; exact H)

def md34 : Nat → Hint
  | 2 => ⟨false, [0, 1, 3, 7, 0, 31, 63, 127, 0], [.pureM, .pureN, .pureN, .pureM, .pureM, .pureN, .pureM, .pureM, .pureN], [.pureM, .pureN, .pureN, .pureM, .pureM, .pureN, .pureM, .pureM, .pureN], [false, false, false, false, false, false, false, false, false], false⟩
  | _ => ⟨false, [], [], [], [], false⟩
def S34_k2 (G : Hp) (K : Exit → Rg → Hp → Prop) (r : Rg) (h : Hp) : Prop :=
  opH Try.prog G (sv (binOp .lss 3 (r 5) (.int .i64 4611686018427387904))) h fun v12 h12 =>
  cond v12
  (opH Try.prog G (xCallV (r 0) #[(r 5), (.int .i64 4611686018427387904)]) h12 fun v13 h13 =>
  K .normal (upd (upd (upd (upd (upd r 43 (r 5)) 44 v12) 45 (r 0)) 46 (r 5)) 47 v13) h13)
  (K .normal (upd (upd r 43 (r 5)) 44 v12) h12)
def S34_l3_k5 (G : Hp) (K : Exit → Rg → Hp → Prop) (r : Rg) (h : Hp) : Prop :=
  opH Try.prog G (sv (binOp .add 3 (r 20) (.int .i64 1))) h fun v15 h15 =>
  K .normal (upd (upd r 42 v15) 20 v15) h15
def S34_l3_k7 (G : Hp) (K : Exit → Rg → Hp → Prop) (r : Rg) (h : Hp) : Prop :=
  opH Try.prog G (sv (Instr.fieldAt 35 (r 7) 1)) h fun v34 h34 =>
  opH Try.prog G (sv (Instr.loadAt 3 v34)) h34 fun v35 h35 =>
  S34_l3_k5 G K (upd (upd (upd r 40 v34) 41 v35) 5 v35) h35
def S34_l3_k6 (G : Hp) (K : Exit → Rg → Hp → Prop) (r : Rg) (h : Hp) : Prop :=
  opH Try.prog G (sv (Instr.fieldAt 35 (r 7) 0)) h fun v24 h24 =>
  opH Try.prog G (sv (Instr.loadAt 3 v24)) h24 fun v25 h25 =>
  opH Try.prog G (sv (binOp .gtr 3 v25 (r 5))) h25 fun v26 h26 =>
  gd (wantB v26 true) (fun K1 => K1 (r 0) h26) h26 fun v27 h27 =>
  gd (wantB v26 true) (fun K1 => K1 (r 5) h27) h27 fun v28 h28 =>
  gd (wantB v26 true) (opH Try.prog G (sv (Instr.fieldAt 35 (r 7) 0)) h28) h28 fun v29 h29 =>
  gd (wantB v26 true) (opH Try.prog G (sv (Instr.loadAt 3 v29)) h29) h29 fun v30 h30 =>
  gd (wantB v26 true) (opH Try.prog G (xCallV v27 #[v28, v30]) h30) h30 fun v31 h31 =>
  gd (wantB v26 true) (opH Try.prog G (sv (Op.unary .not v31)) h31) h31 fun v32 h32 =>
  opH Try.prog G (xPick v26 v32 (.bool false)) h32 fun v33 h33 =>
  cond v33
  (K .ret (upd (upd (upd (upd (upd (upd (upd (upd (upd (upd (upd (upd r 28 v24) 29 v25) 30 (r 5)) 31 v26) 32 v26) 33 v27) 34 v28) 35 v29) 36 v30) 37 v31) 38 v32) 39 v33) h33)
  (S34_l3_k7 G K (upd (upd (upd (upd (upd (upd (upd (upd (upd (upd (upd (upd r 28 v24) 29 v25) 30 (r 5)) 31 v26) 32 v26) 33 v27) 34 v28) 35 v29) 36 v30) 37 v31) 38 v32) 39 v33) h33)
def S34_l3_k4 (G : Hp) (K : Exit → Rg → Hp → Prop) (r : Rg) (h : Hp) : Prop :=
  opH Try.prog G (sv (Instr.indexAt 32 (r 18) (r 20))) h fun v16 h16 =>
  opH Try.prog G (sv (Instr.loadAt 35 v16)) h16 fun v17 h17 =>
  opH Try.prog G (sv (Instr.alloc 35 true (.tuple #[]))) h17 fun v18 h18 =>
  opH Try.prog G (su (Instr.storeAt 35 v18 v17)) h18 fun v19 h19 =>
  opH Try.prog G (sv (Instr.fieldAt 35 v18 2)) h19 fun v20 h20 =>
  opH Try.prog G (sv (Instr.loadAt 3 v20)) h20 fun v21 h21 =>
  opH Try.prog G (sv (Instr.loadAt 3 (r 3))) h21 fun v22 h22 =>
  opH Try.prog G (xEq .eql 3 (.tmp 0) (.tmp 0) v21 v22) h22 fun v23 h23 =>
  cond v23
  (S34_l3_k5 G K (upd (upd (upd (upd (upd (upd (upd r 22 v16) 23 v17) 7 v18) 24 v20) 25 v21) 26 v22) 27 v23) h23)
  (S34_l3_k6 G K (upd (upd (upd (upd (upd (upd (upd r 22 v16) 23 v17) 7 v18) 24 v20) 25 v21) 26 v22) 27 v23) h23)
def S34_l3 (G : Hp) (r : Rg) (h : Hp) (K : Exit → Rg → Hp → Prop) : Prop :=
  opH Try.prog G (sv (binOp .lss 3 (r 20) (r 19))) h fun v14 h14 =>
  cond v14
  (S34_l3_k4 G K (upd r 21 v14) h14)
  (K (.exit 0) (upd r 21 v14) h14)
def S34_k1 (G : Hp) (K : Exit → Rg → Hp → Prop) (r : Rg) (h : Hp) : Prop :=
  pureW Try.prog G h (sv (Instr.loadAt 23 (r 1))) h fun v4 h4 =>
  pureW Try.prog noHp noHp (xNil v4) h4 fun v5 h5 =>
  pureW Try.prog noHp noHp (sv (Instr.fieldAt 68 v5 0)) h5 fun v6 h6 =>
  pureW Try.prog G h (sv (Instr.loadAt 66 v6)) h6 fun v7 h7 =>
  pureW Try.prog G h (sv (Instr.loadAt 3 (r 2))) h7 fun v8 h8 =>
  pureW Try.prog noHp noHp (sv (Instr.indexAt 66 v7 v8)) h8 fun v9 h9 =>
  pureW Try.prog G h (sv (Instr.loadAt 32 v9)) h9 fun v10 h10 =>
  pureW Try.prog G h (sv (Builtin.len_ #[32] 3 #[v10])) h10 fun v11 h11 =>
  loopP (S34_l3 G) (upd (upd (upd (upd (upd (upd (upd (upd (upd (upd r 5 (.int .i64 0)) 12 v4) 13 v5) 14 v6) 15 v7) 16 v8) 17 v9) 18 v10) 19 v11) 20 (.int .i64 0)) h11 (blockK 0 (thenK (S34_k2 G K) (scopeK K)))
def S34 (G : Hp) (K : Exit → Rg → Hp → Prop) (r : Rg) (h : Hp) : Prop :=
  opH Try.prog G (sv (Instr.loadAt 23 (r 1))) h fun v0 h0 =>
  opH Try.prog G (sv (Instr.loadAt 3 (r 2))) h0 fun v1 h1 =>
  opH Try.prog G (callFunc 30 #[v0, v1]) h1 fun v2 h2 =>
  opH Try.prog G (sv (Op.unary .not v2)) h2 fun v3 h3 =>
  cond v3
  (K .ret (upd (upd (upd (upd r 8 v0) 9 v1) 10 v2) 11 v3) h3)
  (S34_k1 G K (upd (upd (upd (upd r 8 v0) 9 v1) 10 v2) 11 v3) h3)
theorem S34_eq (G : Hp) (K : Exit → Rg → Hp → Prop) (r : Rg) (h : Hp) : wpC Try.prog G 48 md34 true (Try.f34.body.getD .skip) r h K = S34 G K r h := by kernel_rfl
theorem enter34 {G : Hp} {h : Hp} {args : Array Value} {R : Value → Hp → Prop} (hn : args.size ≤ 48) (H : S34 G (retK Try.prog G [] R) (regs args) h) : HCalls Try.prog G 34 args h R :=
  HCalls.enter (md := md34) mixed Try.func34 rfl hn (by rw [← S34_eq] at H; exact H)

def md36 : Nat → Hint
  | _ => ⟨false, [], [], [], [], false⟩
def S36_k1 (G : Hp) (K : Exit → Rg → Hp → Prop) (r : Rg) (h : Hp) : Prop :=
  opH Try.prog G (sv (Instr.indexAt 58 (r 5) (.int .i64 0))) h fun v9 h9 =>
  opH Try.prog G (sv (Instr.loadAt 3 v9)) h9 fun v10 h10 =>
  opH Try.prog G (sv (Instr.indexAt 58 (r 5) (.int .i64 1))) h10 fun v11 h11 =>
  opH Try.prog G (sv (Instr.loadAt 3 v11)) h11 fun v12 h12 =>
  opH Try.prog G (sv (binOp .add 3 v10 v12)) h12 fun v13 h13 =>
  K .ret (upd (upd (upd (upd (upd (upd r 15 v9) 16 v10) 17 v11) 18 v12) 19 v13) 4 v13) h13
def S36 (G : Hp) (K : Exit → Rg → Hp → Prop) (r : Rg) (h : Hp) : Prop :=
  opH Try.prog G (callFunc 53 #[(r 0), (r 1)]) h fun v0 h0 =>
  opH Try.prog G (sv (Instr.alloc 58 true (.tuple #[]))) h0 fun v1 h1 =>
  opH Try.prog G (su (Instr.storeAt 58 v1 v0)) h1 fun v2 h2 =>
  opH Try.prog G (sv (Instr.indexAt 58 v1 (.int .i64 0))) h2 fun v3 h3 =>
  opH Try.prog G (sv (Instr.loadAt 3 v3)) h3 fun v4 h4 =>
  opH Try.prog G (sv (Instr.indexAt 58 v1 (.int .i64 1))) h4 fun v5 h5 =>
  opH Try.prog G (sv (Instr.loadAt 3 v5)) h5 fun v6 h6 =>
  opH Try.prog G (sv (binOp .sub 3 (.int .i64 4611686018427387904) v6)) h6 fun v7 h7 =>
  opH Try.prog G (sv (binOp .gtr 3 v4 v7)) h7 fun v8 h8 =>
  cond v8
  (K .ret (upd (upd (upd (upd (upd (upd (upd (upd (upd (upd (upd (upd r 4 (.int .i64 0)) 6 (r 0)) 7 (r 1)) 8 v0) 5 v1) 9 v3) 10 v4) 11 v5) 12 v6) 13 v7) 14 v8) 4 (.int .i64 4611686018427387904)) h8)
  (S36_k1 G K (upd (upd (upd (upd (upd (upd (upd (upd (upd (upd (upd r 4 (.int .i64 0)) 6 (r 0)) 7 (r 1)) 8 v0) 5 v1) 9 v3) 10 v4) 11 v5) 12 v6) 13 v7) 14 v8) h8)
theorem S36_eq (G : Hp) (K : Exit → Rg → Hp → Prop) (r : Rg) (h : Hp) : wpC Try.prog G 20 md36 true (Try.f36.body.getD .skip) r h K = S36 G K r h := by kernel_rfl
theorem enter36 {G : Hp} {h : Hp} {args : Array Value} {R : Value → Hp → Prop} (hn : args.size ≤ 20) (H : S36 G (retK Try.prog G [.tmp 4] R) (regs args) h) : HCalls Try.prog G 36 args h R :=
  HCalls.enter (md := md36) mixed Try.func36 rfl hn (by rw [← S36_eq] at H; exact H)

def md47 : Nat → Hint
  | _ => ⟨false, [], [], [], [], false⟩
def S47_l2_k4 (G : Hp) (K : Exit → Rg → Hp → Prop) (r : Rg) (h : Hp) : Prop :=
  opH Try.prog G (sv (binOp .add 3 (r 17) (.int .i64 1))) h fun v6 h6 =>
  K .normal (upd (upd r 58 v6) 17 v6) h6
def S47_l2_k5 (G : Hp) (K : Exit → Rg → Hp → Prop) (r : Rg) (h : Hp) : Prop :=
  opH Try.prog G (xNil (r 0)) h fun v13 h13 =>
  opH Try.prog G (sv (Instr.fieldAt 68 v13 0)) h13 fun v14 h14 =>
  opH Try.prog G (sv (Instr.loadAt 66 v14)) h14 fun v15 h15 =>
  opH Try.prog G (sv (Instr.indexAt 66 v15 (r 6))) h15 fun v16 h16 =>
  opH Try.prog G (su (Instr.storeAt 32 v16 (r 7))) h16 fun v17 h17 =>
  S47_l2_k4 G K (upd (upd (upd (upd (upd (upd (upd r 51 (r 0)) 52 v13) 53 v14) 54 v15) 55 (r 6)) 56 (r 7)) 57 v16) h17
def S47_l2_l6_k8 (G : Hp) (K : Exit → Rg → Hp → Prop) (r : Rg) (h : Hp) : Prop :=
  opH Try.prog G (sv (binOp .add 3 (r 28) (.int .i64 1))) h fun v19 h19 =>
  K .normal (upd (upd r 50 v19) 28 v19) h19
def S47_l2_l6_k9 (G : Hp) (K : Exit → Rg → Hp → Prop) (r : Rg) (h : Hp) : Prop :=
  opH Try.prog G (sv (Instr.loadAt 35 (r 9))) h fun v27 h27 =>
  opH Try.prog G (sv (Instr.buildSlice 32 1 #[(0, v27)])) h27 fun v28 h28 =>
  opH Try.prog G (sv (Builtin.append_ #[32, 32] 32 #[(r 7), v28])) h28 fun v29 h29 =>
  S47_l2_l6_k8 G K (upd (upd (upd (upd (upd r 46 (r 7)) 47 v27) 48 v28) 49 v29) 7 v29) h29
def S47_l2_l6_k7 (G : Hp) (K : Exit → Rg → Hp → Prop) (r : Rg) (h : Hp) : Prop :=
  opH Try.prog G (sv (Instr.indexAt 32 (r 26) (r 28))) h fun v20 h20 =>
  opH Try.prog G (sv (Instr.loadAt 35 v20)) h20 fun v21 h21 =>
  opH Try.prog G (sv (Instr.alloc 35 true (.tuple #[]))) h21 fun v22 h22 =>
  opH Try.prog G (su (Instr.storeAt 35 v22 v21)) h22 fun v23 h23 =>
  opH Try.prog G (sv (Instr.fieldAt 35 v22 2)) h23 fun v24 h24 =>
  opH Try.prog G (sv (Instr.loadAt 3 v24)) h24 fun v25 h25 =>
  opH Try.prog G (xCallV (r 2) #[v25]) h25 fun v26 h26 =>
  cond v26
  (opH Try.prog G (sv (Instr.fieldAt 35 v22 0)) h26 fun v30 h30 =>
  opH Try.prog G (sv (Instr.loadAt 3 v30)) h30 fun v31 h31 =>
  opH Try.prog G (sv (Builtin.max_ #[3, 3] 3 #[v31, (r 1)])) h31 fun v32 h32 =>
  opH Try.prog G (sv (Instr.fieldAt 35 v22 0)) h32 fun v33 h33 =>
  opH Try.prog G (su (Instr.storeAt 3 v33 v32)) h33 fun v34 h34 =>
  opH Try.prog G (sv (Instr.fieldAt 35 v22 0)) h34 fun v35 h35 =>
  opH Try.prog G (sv (Instr.loadAt 3 v35)) h35 fun v36 h36 =>
  opH Try.prog G (sv (Instr.fieldAt 35 v22 1)) h36 fun v37 h37 =>
  opH Try.prog G (sv (Instr.loadAt 3 v37)) h37 fun v38 h38 =>
  opH Try.prog G (sv (binOp .geq 3 v36 v38)) h38 fun v39 h39 =>
  cond v39
  (S47_l2_l6_k8 G K (upd (upd (upd (upd (upd (upd (upd (upd (upd (upd (upd (upd (upd (upd (upd (upd (upd r 30 v20) 31 v21) 9 v22) 32 (r 2)) 33 v24) 34 v25) 35 v26) 36 v30) 37 v31) 38 (r 1)) 39 v32) 40 v33) 41 v35) 42 v36) 43 v37) 44 v38) 45 v39) h39)
  (S47_l2_l6_k9 G K (upd (upd (upd (upd (upd (upd (upd (upd (upd (upd (upd (upd (upd (upd (upd (upd (upd r 30 v20) 31 v21) 9 v22) 32 (r 2)) 33 v24) 34 v25) 35 v26) 36 v30) 37 v31) 38 (r 1)) 39 v32) 40 v33) 41 v35) 42 v36) 43 v37) 44 v38) 45 v39) h39))
  (S47_l2_l6_k9 G K (upd (upd (upd (upd (upd (upd (upd r 30 v20) 31 v21) 9 v22) 32 (r 2)) 33 v24) 34 v25) 35 v26) h26)
def S47_l2_l6 (G : Hp) (r : Rg) (h : Hp) (K : Exit → Rg → Hp → Prop) : Prop :=
  opH Try.prog G (sv (binOp .lss 3 (r 28) (r 27))) h fun v18 h18 =>
  cond v18
  (S47_l2_l6_k7 G K (upd r 29 v18) h18)
  (K (.exit 2) (upd r 29 v18) h18)
def S47_l2_k3 (G : Hp) (K : Exit → Rg → Hp → Prop) (r : Rg) (h : Hp) : Prop :=
  opH Try.prog G (xNil (r 0)) h fun v7 h7 =>
  opH Try.prog G (sv (Instr.fieldAt 68 v7 0)) h7 fun v8 h8 =>
  opH Try.prog G (sv (Instr.loadAt 66 v8)) h8 fun v9 h9 =>
  opH Try.prog G (sv (Instr.indexAt 66 v9 (r 17))) h9 fun v10 h10 =>
  opH Try.prog G (sv (Instr.loadAt 32 v10)) h10 fun v11 h11 =>
  opH Try.prog G (sv (Builtin.len_ #[32] 3 #[v11])) h11 fun v12 h12 =>
  loopP (S47_l2_l6 G) (upd (upd (upd (upd (upd (upd (upd (upd (upd (upd (upd (upd r 19 (r 17)) 6 (r 17)) 7 (.slice none 0 0)) 20 (r 0)) 21 v7) 22 v8) 23 v9) 24 (r 17)) 25 v10) 26 v11) 27 v12) 28 (.int .i64 0)) h12 (blockK 2 (thenK (S47_l2_k5 G K) (scopeK (blockK 1 (thenK (S47_l2_k4 G K) K)))))
def S47_l2 (G : Hp) (r : Rg) (h : Hp) (K : Exit → Rg → Hp → Prop) : Prop :=
  opH Try.prog G (sv (binOp .lss 3 (r 17) (r 16))) h fun v5 h5 =>
  cond v5
  (S47_l2_k3 G K (upd r 18 v5) h5)
  (K (.exit 0) (upd r 18 v5) h5)
def S47_k1 (G : Hp) (K : Exit → Rg → Hp → Prop) (r : Rg) (h : Hp) : Prop :=
  opH Try.prog G (xNil (r 0)) h fun v1 h1 =>
  opH Try.prog G (sv (Instr.fieldAt 68 v1 0)) h1 fun v2 h2 =>
  opH Try.prog G (sv (Instr.loadAt 66 v2)) h2 fun v3 h3 =>
  opH Try.prog G (sv (Builtin.len_ #[66] 3 #[v3])) h3 fun v4 h4 =>
  loopP (S47_l2 G) (upd (upd (upd (upd (upd (upd r 12 (r 0)) 13 v1) 14 v2) 15 v3) 16 v4) 17 (.int .i64 0)) h4 (blockK 0 K)
def S47 (G : Hp) (K : Exit → Rg → Hp → Prop) (r : Rg) (h : Hp) : Prop :=
  opH Try.prog G (xEq .eql 23 (.tmp 0) (.const .nilFunc) (r 0) (.pointer none)) h fun v0 h0 =>
  cond v0
  (K .ret (upd (upd r 10 (r 0)) 11 v0) h0)
  (S47_k1 G K (upd (upd r 10 (r 0)) 11 v0) h0)
theorem S47_eq (G : Hp) (K : Exit → Rg → Hp → Prop) (r : Rg) (h : Hp) : wpC Try.prog G 59 md47 true (Try.f47.body.getD .skip) r h K = S47 G K r h := by kernel_rfl
theorem enter47 {G : Hp} {h : Hp} {args : Array Value} {R : Value → Hp → Prop} (hn : args.size ≤ 59) (H : S47 G (retK Try.prog G [] R) (regs args) h) : HCalls Try.prog G 47 args h R :=
  HCalls.enter (md := md47) mixed Try.func47 rfl hn (by rw [← S47_eq] at H; exact H)

def md48 : Nat → Hint
  | _ => ⟨false, [], [], [], [], false⟩
def S48 (G : Hp) (K : Exit → Rg → Hp → Prop) (r : Rg) (h : Hp) : Prop :=
  K .ret (upd (upd r 2 (.bool false)) 2 (.bool true)) h
theorem S48_eq (G : Hp) (K : Exit → Rg → Hp → Prop) (r : Rg) (h : Hp) : wpC Try.prog G 3 md48 true (Try.f48.body.getD .skip) r h K = S48 G K r h := by kernel_rfl
theorem enter48 {G : Hp} {h : Hp} {args : Array Value} {R : Value → Hp → Prop} (hn : args.size ≤ 3) (H : S48 G (retK Try.prog G [.tmp 2] R) (regs args) h) : HCalls Try.prog G 48 args h R :=
  HCalls.enter (md := md48) mixed Try.func48 rfl hn (by rw [← S48_eq] at H; exact H)

def md49 : Nat → Hint
  | _ => ⟨false, [], [], [], [], false⟩
def S49 (G : Hp) (K : Exit → Rg → Hp → Prop) (r : Rg) (h : Hp) : Prop :=
  opH Try.prog G (sv (Instr.loadAt 3 (r 1))) h fun v0 h0 =>
  opH Try.prog G (xEq .eql 3 (.tmp 0) (.tmp 0) (r 0) v0) h0 fun v1 h1 =>
  K .ret (upd (upd (upd (upd (upd r 3 (.bool false)) 4 (r 0)) 5 v0) 6 v1) 3 v1) h1
theorem S49_eq (G : Hp) (K : Exit → Rg → Hp → Prop) (r : Rg) (h : Hp) : wpC Try.prog G 7 md49 true (Try.f49.body.getD .skip) r h K = S49 G K r h := by kernel_rfl
theorem enter49 {G : Hp} {h : Hp} {args : Array Value} {R : Value → Hp → Prop} (hn : args.size ≤ 7) (H : S49 G (retK Try.prog G [.tmp 3] R) (regs args) h) : HCalls Try.prog G 49 args h R :=
  HCalls.enter (md := md49) mixed Try.func49 rfl hn (by rw [← S49_eq] at H; exact H)

def md50 : Nat → Hint
  | _ => ⟨false, [], [], [], [], false⟩
def S50_k1 (G : Hp) (K : Exit → Rg → Hp → Prop) (r : Rg) (h : Hp) : Prop :=
  opH Try.prog G (sv (binOp .lss 3 (r 9) (r 8))) h fun v1 h1 =>
  gd (wantB v1 true) (fun K1 => K1 (r 2) h1) h1 fun v2 h2 =>
  gd (wantB v1 true) (fun K1 => K1 (r 0) h2) h2 fun v3 h3 =>
  gd (wantB v1 true) (fun K1 => K1 (r 9) h3) h3 fun v4 h4 =>
  gd (wantB v1 true) (opH Try.prog G (sv (Instr.indexAt 32 v3 v4)) h4) h4 fun v5 h5 =>
  gd (wantB v1 true) (opH Try.prog G (sv (Instr.loadAt 35 v5)) h5) h5 fun v6 h6 =>
  gd (wantB v1 true) (fun K1 => K1 (r 1) h6) h6 fun v7 h7 =>
  gd (wantB v1 true) (opH Try.prog G (xCallV v2 #[v6, v7]) h7) h7 fun v8 h8 =>
  gd (wantB v1 true) (opH Try.prog G (xEq .eql 3 (.tmp 0) (.const .nilFunc) v8 (.int .i64 0)) h8) h8 fun v9 h9 =>
  opH Try.prog G (xPick v1 v9 (.bool false)) h9 fun v10 h10 =>
  K .ret (upd (upd (upd (upd (upd (upd (upd (upd (upd (upd (upd (upd (upd (upd (upd (upd r 35 (r 9)) 36 (r 9)) 37 (r 8)) 38 v1) 39 v1) 40 v2) 41 v3) 42 v4) 43 v5) 44 v6) 45 v7) 46 v8) 47 v9) 48 v10) 6 (r 9)) 7 v10) h10
def S50_l2_k3 (G : Hp) (K : Exit → Rg → Hp → Prop) (r : Rg) (h : Hp) : Prop :=
  opH Try.prog G (sv (binOp .add 3 (r 9) (r 10))) h fun v12 h12 =>
  opH Try.prog G (sv (convert 3 91 v12)) h12 fun v13 h13 =>
  opH Try.prog G (sv (binOp .shr 91 v13 (.int .u64 1))) h13 fun v14 h14 =>
  opH Try.prog G (sv (convert 91 3 v14)) h14 fun v15 h15 =>
  opH Try.prog G (sv (Instr.indexAt 32 (r 0) v15)) h15 fun v16 h16 =>
  opH Try.prog G (sv (Instr.loadAt 35 v16)) h16 fun v17 h17 =>
  opH Try.prog G (xCallV (r 2) #[v17, (r 1)]) h17 fun v18 h18 =>
  opH Try.prog G (sv (binOp .lss 3 v18 (.int .i64 0))) h18 fun v19 h19 =>
  cond v19
  (opH Try.prog G (sv (binOp .add 3 v15 (.int .i64 1))) h19 fun v20 h20 =>
  K .normal (upd (upd (upd (upd (upd (upd (upd (upd (upd (upd (upd (upd (upd (upd (upd (upd (upd (upd r 18 (r 9)) 19 (r 10)) 20 v12) 21 v13) 22 v14) 23 v15) 11 v15) 24 (r 2)) 25 (r 0)) 26 v15) 27 v16) 28 v17) 29 (r 1)) 30 v18) 31 v19) 32 v15) 33 v20) 9 v20) h20)
  (K .normal (upd (upd (upd (upd (upd (upd (upd (upd (upd (upd (upd (upd (upd (upd (upd (upd (upd r 18 (r 9)) 19 (r 10)) 20 v12) 21 v13) 22 v14) 23 v15) 11 v15) 24 (r 2)) 25 (r 0)) 26 v15) 27 v16) 28 v17) 29 (r 1)) 30 v18) 31 v19) 34 v15) 10 v15) h19)
def S50_l2 (G : Hp) (r : Rg) (h : Hp) (K : Exit → Rg → Hp → Prop) : Prop :=
  opH Try.prog G (sv (binOp .lss 3 (r 9) (r 10))) h fun v11 h11 =>
  cond v11
  (S50_l2_k3 G K (upd (upd (upd r 15 (r 9)) 16 (r 10)) 17 v11) h11)
  (K (.exit 0) (upd (upd (upd r 15 (r 9)) 16 (r 10)) 17 v11) h11)
def S50 (G : Hp) (K : Exit → Rg → Hp → Prop) (r : Rg) (h : Hp) : Prop :=
  opH Try.prog G (sv (Builtin.len_ #[32] 3 #[(r 0)])) h fun v0 h0 =>
  loopP (S50_l2 G) (upd (upd (upd (upd (upd (upd (upd (upd r 6 (.int .i64 0)) 7 (.bool false)) 12 (r 0)) 13 v0) 8 v0) 14 v0) 9 (.int .i64 0)) 10 v0) h0 (blockK 0 (thenK (S50_k1 G K) K))
theorem S50_eq (G : Hp) (K : Exit → Rg → Hp → Prop) (r : Rg) (h : Hp) : wpC Try.prog G 49 md50 true (Try.f50.body.getD .skip) r h K = S50 G K r h := by kernel_rfl
theorem enter50 {G : Hp} {h : Hp} {args : Array Value} {R : Value → Hp → Prop} (hn : args.size ≤ 49) (H : S50 G (retK Try.prog G [.tmp 6, .tmp 7] R) (regs args) h) : HCalls Try.prog G 50 args h R :=
  HCalls.enter (md := md50) mixed Try.func50 rfl hn (by rw [← S50_eq] at H; exact H)

def md51 : Nat → Hint
  | _ => ⟨false, [], [], [], [], false⟩
def S51 (G : Hp) (K : Exit → Rg → Hp → Prop) (r : Rg) (h : Hp) : Prop :=
  opH Try.prog G (sv (Instr.box 35 (r 0))) h fun v0 h0 =>
  opH Try.prog G (sv (Instr.fieldAt 35 v0 0)) h0 fun v1 h1 =>
  opH Try.prog G (sv (Instr.loadAt 3 v1)) h1 fun v2 h2 =>
  opH Try.prog G (sv (binOp .sub 3 v2 (r 1))) h2 fun v3 h3 =>
  K .ret (upd (upd (upd (upd (upd (upd (upd r 2 v0) 4 (.int .i64 0)) 5 v1) 6 v2) 7 (r 1)) 8 v3) 4 v3) h3
theorem S51_eq (G : Hp) (K : Exit → Rg → Hp → Prop) (r : Rg) (h : Hp) : wpC Try.prog G 9 md51 true (Try.f51.body.getD .skip) r h K = S51 G K r h := by kernel_rfl
theorem enter51 {G : Hp} {h : Hp} {args : Array Value} {R : Value → Hp → Prop} (hn : args.size ≤ 9) (H : S51 G (retK Try.prog G [.tmp 4] R) (regs args) h) : HCalls Try.prog G 51 args h R :=
  HCalls.enter (md := md51) mixed Try.func51 rfl hn (by rw [← S51_eq] at H; exact H)

def md52 : Nat → Hint
  | 11 => ⟨false, [0, 0, 0, 6, 15, 0, 0, 96, 255], [.pureN, .pureN, .pureN, .pureN, .pureN, .pureN, .pureN, .pureN, .eff], [.pureN, .pureN, .pureN, .pureN, .pureN, .pureN, .pureN, .pureN, .eff], [false, false, false, false, false, false, false, false, false], false⟩
  | 15 => ⟨false, [0, 0, 0, 6, 15, 0, 0, 96, 255], [.pureN, .pureN, .pureN, .pureN, .pureN, .pureN, .pureN, .pureN, .eff], [.pureN, .pureN, .pureN, .pureN, .pureN, .pureN, .pureN, .pureN, .eff], [false, false, false, false, false, false, false, false, false], false⟩
  | _ => ⟨false, [], [], [], [], false⟩
def S52_k4 (G : Hp) (K : Exit → Rg → Hp → Prop) (r : Rg) (h : Hp) : Prop :=
  opH Try.prog G (sv (Instr.sliceAt 32 (r 0) (some (r 8)) none none)) h fun v14 h14 =>
  opH Try.prog G (sv (Builtin.copy_ #[32, 32] 3 #[v14, (r 2)])) h14 fun v15 h15 =>
  opH Try.prog G (sv (Instr.sliceAt 32 (r 0) (some (r 1)) none none)) h15 fun v16 h16 =>
  opH Try.prog G (callFunc 60 #[v16, (r 7)]) h16 fun v17 h17 =>
  K .ret (upd (upd (upd (upd (upd (upd (upd (upd (upd (upd (upd (upd r 84 (r 0)) 85 (r 8)) 86 v14) 87 (r 2)) 88 v15) 89 (r 0)) 90 (r 1)) 91 v16) 92 (r 7)) 93 v17) 94 (r 0)) 6 (r 0)) h17
def S52_k3 (G : Hp) (K : Exit → Rg → Hp → Prop) (r : Rg) (h : Hp) : Prop :=
  opH Try.prog G (sv (binOp .add 3 (r 8) (r 7))) h fun v8 h8 =>
  opH Try.prog G (sv (Instr.sliceAt 32 (r 0) none (some v8) none)) h8 fun v9 h9 =>
  opH Try.prog G (sv (binOp .add 3 (r 1) (r 7))) h9 fun v10 h10 =>
  opH Try.prog G (sv (Instr.sliceAt 32 v9 (some v10) none none)) h10 fun v11 h11 =>
  opH Try.prog G (callFunc 59 #[(r 2), v11]) h11 fun v12 h12 =>
  opH Try.prog G (sv (Op.unary .not v12)) h12 fun v13 h13 =>
  cond v13
  (pureW Try.prog noHp noHp (sv (binOp .add 3 (r 1) (r 7))) h13 fun v18 h18 =>
  pureW Try.prog noHp noHp (sv (Instr.sliceAt 32 v9 (some v18) none none)) h18 fun v19 h19 =>
  pureW Try.prog noHp noHp (sv (Instr.sliceAt 32 v9 (some (r 1)) none none)) h19 fun v20 h20 =>
  opH Try.prog G (sv (Builtin.copy_ #[32, 32] 3 #[v19, v20])) h20 fun v21 h21 =>
  opH Try.prog G (sv (Instr.sliceAt 32 v9 (some (r 1)) none none)) h21 fun v22 h22 =>
  opH Try.prog G (sv (Builtin.copy_ #[32, 32] 3 #[v22, (r 2)])) h22 fun v23 h23 =>
  K .ret (upd (upd (upd (upd (upd (upd (upd (upd (upd (upd (upd (upd (upd (upd (upd (upd (upd (upd (upd (upd (upd (upd (upd (upd (upd (upd (upd (upd (upd (upd r 56 (r 0)) 57 (r 8)) 58 (r 7)) 59 v8) 60 v9) 0 v9) 61 (r 2)) 62 v9) 63 (r 1)) 64 (r 7)) 65 v10) 66 v11) 67 v12) 68 v13) 69 v9) 70 (r 1)) 71 (r 7)) 72 v18) 73 v19) 74 v9) 75 (r 1)) 76 v20) 77 v21) 78 v9) 79 (r 1)) 80 v22) 81 (r 2)) 82 v23) 83 v9) 6 v9) h23)
  (S52_k4 G K (upd (upd (upd (upd (upd (upd (upd (upd (upd (upd (upd (upd (upd (upd r 56 (r 0)) 57 (r 8)) 58 (r 7)) 59 v8) 60 v9) 0 v9) 61 (r 2)) 62 v9) 63 (r 1)) 64 (r 7)) 65 v10) 66 v11) 67 v12) 68 v13) h13)
def S52_k2 (G : Hp) (K : Exit → Rg → Hp → Prop) (r : Rg) (h : Hp) : Prop :=
  opH Try.prog G (sv (binOp .add 3 (r 8) (r 7))) h fun v5 h5 =>
  opH Try.prog G (sv (Builtin.cap_ #[32] 3 #[(r 0)])) h5 fun v6 h6 =>
  opH Try.prog G (sv (binOp .gtr 3 v5 v6)) h6 fun v7 h7 =>
  cond v7
  (opH Try.prog G (sv (Instr.sliceAt 32 (r 0) none (some (r 1)) none)) h7 fun v24 h24 =>
  opH Try.prog G (sv (binOp .add 3 (r 8) (r 7))) h24 fun v25 h25 =>
  opH Try.prog G (sv (binOp .sub 3 v25 (r 1))) h25 fun v26 h26 =>
  opH Try.prog G (sv (Builtin.append_ #[32, 3] 32 #[v24, v26])) h26 fun v27 h27 =>
  opH Try.prog G (sv (Instr.sliceAt 32 v27 (some (r 1)) none none)) h27 fun v28 h28 =>
  opH Try.prog G (sv (Builtin.copy_ #[32, 32] 3 #[v28, (r 2)])) h28 fun v29 h29 =>
  pureW Try.prog noHp noHp (sv (binOp .add 3 (r 1) (r 7))) h29 fun v30 h30 =>
  pureW Try.prog noHp noHp (sv (Instr.sliceAt 32 v27 (some v30) none none)) h30 fun v31 h31 =>
  pureW Try.prog noHp noHp (sv (Instr.sliceAt 32 (r 0) (some (r 1)) none none)) h31 fun v32 h32 =>
  opH Try.prog G (sv (Builtin.copy_ #[32, 32] 3 #[v31, v32])) h32 fun v33 h33 =>
  K .ret (upd (upd (upd (upd (upd (upd (upd (upd (upd (upd (upd (upd (upd (upd (upd (upd (upd (upd (upd (upd (upd (upd (upd (upd (upd (upd (upd (upd (upd (upd (upd (upd r 26 (r 8)) 27 (r 7)) 28 v5) 29 (r 0)) 30 v6) 31 v7) 32 (r 0)) 33 (r 1)) 34 v24) 35 (r 8)) 36 (r 7)) 37 v25) 38 (r 1)) 39 v26) 40 v27) 9 v27) 41 v27) 42 (r 1)) 43 v28) 44 (r 2)) 45 v29) 46 v27) 47 (r 1)) 48 (r 7)) 49 v30) 50 v31) 51 (r 0)) 52 (r 1)) 53 v32) 54 v33) 55 v27) 6 v27) h33)
  (S52_k3 G K (upd (upd (upd (upd (upd (upd r 26 (r 8)) 27 (r 7)) 28 v5) 29 (r 0)) 30 v6) 31 v7) h7)
def S52_k1 (G : Hp) (K : Exit → Rg → Hp → Prop) (r : Rg) (h : Hp) : Prop :=
  opH Try.prog G (sv (Builtin.len_ #[32] 3 #[(r 0)])) h fun v3 h3 =>
  opH Try.prog G (xEq .eql 3 (.tmp 0) (.tmp 0) (r 1) v3) h3 fun v4 h4 =>
  cond v4
  (opH Try.prog G (sv (Builtin.append_ #[32, 32] 32 #[(r 0), (r 2)])) h4 fun v34 h34 =>
  K .ret (upd (upd (upd (upd (upd (upd (upd (upd (upd (upd r 18 (r 0)) 19 v3) 8 v3) 20 (r 1)) 21 v3) 22 v4) 23 (r 0)) 24 (r 2)) 25 v34) 6 v34) h34)
  (S52_k2 G K (upd (upd (upd (upd (upd (upd r 18 (r 0)) 19 v3) 8 v3) 20 (r 1)) 21 v3) 22 v4) h4)
def S52 (G : Hp) (K : Exit → Rg → Hp → Prop) (r : Rg) (h : Hp) : Prop :=
  opH Try.prog G (sv (Instr.sliceAt 32 (r 0) (some (r 1)) none none)) h fun v0 h0 =>
  opH Try.prog G (sv (Builtin.len_ #[32] 3 #[(r 2)])) h0 fun v1 h1 =>
  opH Try.prog G (xEq .eql 3 (.tmp 0) (.const .nilFunc) v1 (.int .i64 0)) h1 fun v2 h2 =>
  cond v2
  (K .ret (upd (upd (upd (upd (upd (upd (upd (upd (upd (upd (upd r 6 (.slice none 0 0)) 10 (r 0)) 11 (r 1)) 12 v0) 13 (r 2)) 14 v1) 7 v1) 15 v1) 16 v2) 17 (r 0)) 6 (r 0)) h2)
  (S52_k1 G K (upd (upd (upd (upd (upd (upd (upd (upd (upd r 6 (.slice none 0 0)) 10 (r 0)) 11 (r 1)) 12 v0) 13 (r 2)) 14 v1) 7 v1) 15 v1) 16 v2) h2)
theorem S52_eq (G : Hp) (K : Exit → Rg → Hp → Prop) (r : Rg) (h : Hp) : wpC Try.prog G 95 md52 true (Try.f52.body.getD .skip) r h K = S52 G K r h := by kernel_rfl
theorem enter52 {G : Hp} {h : Hp} {args : Array Value} {R : Value → Hp → Prop} (hn : args.size ≤ 95) (H : S52 G (retK Try.prog G [.tmp 6] R) (regs args) h) : HCalls Try.prog G 52 args h R :=
  HCalls.enter (md := md52) mixed Try.func52 rfl hn (by rw [← S52_eq] at H; exact H)

def md53 : Nat → Hint
  | _ => ⟨false, [], [], [], [], false⟩
def S53 (G : Hp) (K : Exit → Rg → Hp → Prop) (r : Rg) (h : Hp) : Prop :=
  opH Try.prog G (sv (Instr.alloc 58 true (.tuple #[]))) h fun v0 h0 =>
  opH Try.prog G (callFunc 61 #[(r 0)]) h0 fun v1 h1 =>
  opH Try.prog G (callFunc 61 #[(r 1)]) h1 fun v2 h2 =>
  opH Try.prog G (sv (Instr.build 58 #[(0, v1), (1, v2)])) h2 fun v3 h3 =>
  opH Try.prog G (su (Instr.storeAt 58 v0 v3)) h3 fun v4 h4 =>
  K .ret (upd (upd (upd (upd (upd (upd r 4 v0) 5 (r 0)) 6 v1) 7 (r 1)) 8 v2) 9 v3) h4
theorem S53_eq (G : Hp) (K : Exit → Rg → Hp → Prop) (r : Rg) (h : Hp) : wpC Try.prog G 10 md53 true (Try.f53.body.getD .skip) r h K = S53 G K r h := by kernel_rfl
theorem enter53 {G : Hp} {h : Hp} {args : Array Value} {R : Value → Hp → Prop} (hn : args.size ≤ 10) (H : S53 G (retK Try.prog G [.cell 4 58] R) (regs args) h) : HCalls Try.prog G 53 args h R :=
  HCalls.enter (md := md53) mixed Try.func53 rfl hn (by rw [← S53_eq] at H; exact H)

def md61 : Nat → Hint
  | _ => ⟨false, [], [], [], [], false⟩
def S61 (G : Hp) (K : Exit → Rg → Hp → Prop) (r : Rg) (h : Hp) : Prop :=
  opH Try.prog G (sv (Builtin.min_ #[3, 3] 3 #[(r 0), (.int .i64 4611686018427387904)])) h fun v0 h0 =>
  opH Try.prog G (sv (Builtin.max_ #[3, 3] 3 #[(.int .i64 0), v0])) h0 fun v1 h1 =>
  K .ret (upd (upd (upd (upd (upd r 2 (.int .i64 0)) 3 (r 0)) 4 v0) 5 v1) 2 v1) h1
theorem S61_eq (G : Hp) (K : Exit → Rg → Hp → Prop) (r : Rg) (h : Hp) : wpC Try.prog G 6 md61 true (Try.f61.body.getD .skip) r h K = S61 G K r h := by kernel_rfl
theorem enter61 {G : Hp} {h : Hp} {args : Array Value} {R : Value → Hp → Prop} (hn : args.size ≤ 6) (H : S61 G (retK Try.prog G [.tmp 2] R) (regs args) h) : HCalls Try.prog G 61 args h R :=
  HCalls.enter (md := md61) mixed Try.func61 rfl hn (by rw [← S61_eq] at H; exact H)

end Go.Proofs.Ytbloobepmgmbgaa

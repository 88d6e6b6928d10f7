/- A text of the proofs. -/
import Derived.Test.YtnpdploihlgcgaaDoorGI
set_option linter.unusedVariables false
set_option maxRecDepth 100000
namespace Go.Proofs.YtnpdploihlgcgaaDoor
open Go Go.HL
def md14 : Nat → Hint
  | _ => ⟨false, [], [], [], [], false⟩
def S14_k1 (G : Hp) (K : Exit → Rg → Hp → Prop) (r : Rg) (h : Hp) : Prop :=
  K .ret (upd (upd (upd r 9 (r 4)) 2 (r 4)) 3 (.int .i64 0)) h
def S14 (G : Hp) (K : Exit → Rg → Hp → Prop) (r : Rg) (h : Hp) : Prop :=
  opH Tryd.prog G (sv (Instr.box 26 (r 0))) h fun v0 h0 =>
  opH Tryd.prog G (sv (Instr.loadAt 26 v0)) h0 fun v1 h1 =>
  opH Tryd.prog G (callFunc 49 #[v1]) h1 fun v2 h2 =>
  opH Tryd.prog G (xEq .eql 31 (.tmp 0) (.const .nilFunc) v2 (.pointer none)) h2 fun v3 h3 =>
  cond v3
  (K .ret (upd (upd (upd (upd (upd (upd (upd (upd (upd (upd r 1 v0) 2 (.pointer none)) 3 (.int .i64 0)) 5 v1) 6 v2) 4 v2) 7 v2) 8 v3) 2 (.pointer none)) 3 (.int .i64 5)) h3)
  (S14_k1 G K (upd (upd (upd (upd (upd (upd (upd (upd r 1 v0) 2 (.pointer none)) 3 (.int .i64 0)) 5 v1) 6 v2) 4 v2) 7 v2) 8 v3) h3)
theorem S14_eq (G : Hp) (K : Exit → Rg → Hp → Prop) (r : Rg) (h : Hp) : wpC Tryd.prog G 10 md14 true (Tryd.f14.body.getD .skip) r h K = S14 G K r h := by kernel_rfl
theorem enter14 {G : Hp} {h : Hp} {args : Array Value} {R : Value → Hp → Prop} (hn : args.size ≤ 10) (H : S14 G (retK Tryd.prog G [.tmp 2, .tmp 3] R) (regs args) h) : HCalls Tryd.prog G 14 args h R :=
  HCalls.enter (md := md14) mixed Tryd.func14 rfl hn (by rw [← S14_eq] at H; exact H)

def md18 : Nat → Hint
  | 3 => ⟨false, [0, 1, 3, 0, 0, 16, 48, 112, 248, 511, 1023, 2047, 4095], [.pureN, .pureN, .pureM, .pureN, .pureN, .pureN, .pureN, .pureM, .pureN, .pureN, .pureN, .pureN, .store], [.pureN, .pureN, .pureM, .pureN, .pureN, .pureN, .pureN, .pureM, .pureN, .pureN, .pureN, .pureN, .store], [false, false, false, false, false, false, false, false, false, false, false, false, false], false⟩
  | 4 => ⟨false, [0, 1, 3, 0, 0, 16, 48, 112, 248, 511, 1023, 2047, 4095], [.pureN, .pureN, .pureM, .pureN, .pureN, .pureN, .pureN, .pureM, .pureN, .pureN, .pureN, .pureN, .store], [.pureN, .pureN, .pureM, .pureN, .pureN, .pureN, .pureN, .pureM, .pureN, .pureN, .pureN, .pureN, .store], [false, false, false, false, false, false, false, false, false, false, false, false, false], false⟩
  | _ => ⟨false, [], [], [], [], false⟩
def S18_k1 (G : Hp) (K : Exit → Rg → Hp → Prop) (r : Rg) (h : Hp) : Prop :=
  pureW Tryd.prog noHp noHp (sv (Instr.fieldAt 30 (r 5) 0)) h fun v8 h8 =>
  pureW Tryd.prog noHp noHp (sv (Instr.fieldAt 28 v8 0)) h8 fun v9 h9 =>
  pureW Tryd.prog G h (sv (Instr.loadAt 3 v9)) h9 fun v10 h10 =>
  pureW Tryd.prog noHp noHp (sv (Instr.indexAt 81 (.pointer (some ⟨0, 0, none⟩)) (r 2))) h10 fun v11 h11 =>
  pureW Tryd.prog noHp noHp (sv (Instr.fieldAt 28 v11 0)) h11 fun v12 h12 =>
  pureW Tryd.prog G h (sv (Instr.loadAt 3 v12)) h12 fun v13 h13 =>
  pureW Tryd.prog noHp noHp (sv (binOp .mul 3 (r 3) v13)) h13 fun v14 h14 =>
  pureW Tryd.prog noHp noHp (sv (binOp .add 3 v10 v14)) h14 fun v15 h15 =>
  pureW Tryd.prog noHp noHp (sv (Instr.fieldAt 30 (r 5) 0)) h15 fun v16 h16 =>
  pureW Tryd.prog noHp noHp (sv (Instr.fieldAt 28 v16 0)) h16 fun v17 h17 =>
  opH Tryd.prog G (su (Instr.storeAt 3 v17 v15)) h17 fun v18 h18 =>
  pureW Tryd.prog noHp noHp (sv (Instr.fieldAt 30 (r 5) 0)) h18 fun v19 h19 =>
  pureW Tryd.prog noHp noHp (sv (Instr.fieldAt 28 v19 1)) h19 fun v20 h20 =>
  pureW Tryd.prog G h18 (sv (Instr.loadAt 3 v20)) h20 fun v21 h21 =>
  pureW Tryd.prog noHp noHp (sv (Instr.indexAt 81 (.pointer (some ⟨0, 0, none⟩)) (r 2))) h21 fun v22 h22 =>
  pureW Tryd.prog noHp noHp (sv (Instr.fieldAt 28 v22 1)) h22 fun v23 h23 =>
  pureW Tryd.prog G h18 (sv (Instr.loadAt 3 v23)) h23 fun v24 h24 =>
  pureW Tryd.prog noHp noHp (sv (binOp .mul 3 (r 3) v24)) h24 fun v25 h25 =>
  pureW Tryd.prog noHp noHp (sv (binOp .add 3 v21 v25)) h25 fun v26 h26 =>
  pureW Tryd.prog noHp noHp (sv (Instr.fieldAt 30 (r 5) 0)) h26 fun v27 h27 =>
  pureW Tryd.prog noHp noHp (sv (Instr.fieldAt 28 v27 1)) h27 fun v28 h28 =>
  opH Tryd.prog G (su (Instr.storeAt 3 v28 v26)) h28 fun v29 h29 =>
  opH Tryd.prog G (sv (Instr.loadAt 30 (r 5))) h29 fun v30 h30 =>
  opH Tryd.prog G (su (Instr.storeAt 30 (r 8) v30)) h30 fun v31 h31 =>
  K .ret (upd (upd (upd (upd (upd (upd (upd (upd (upd (upd (upd (upd (upd (upd (upd (upd (upd (upd (upd (upd (upd (upd (upd (upd (upd (upd r 19 v8) 20 v9) 21 v10) 22 (r 3)) 23 (r 2)) 24 v11) 25 v12) 26 v13) 27 v14) 28 v15) 29 v16) 30 v17) 31 v19) 32 v20) 33 v21) 34 (r 3)) 35 (r 2)) 36 v22) 37 v23) 38 v24) 39 v25) 40 v26) 41 v27) 42 v28) 43 v30) 9 (.bool true)) h31
def S18 (G : Hp) (K : Exit → Rg → Hp → Prop) (r : Rg) (h : Hp) : Prop :=
  opH Tryd.prog G (sv (Instr.box 30 (r 1))) h fun v0 h0 =>
  opH Tryd.prog G (sv (Instr.alloc 30 true (.tuple #[]))) h0 fun v1 h1 =>
  opH Tryd.prog G (callFunc 57 #[(r 3), (.int .i64 0), (.int .i64 16)]) h1 fun v2 h2 =>
  opH Tryd.prog G (sv (Op.unary .not v2)) h2 fun v3 h3 =>
  gd (wantB v3 false) (fun K1 => K1 (r 2) h3) h3 fun v4 h4 =>
  gd (wantB v3 false) (opH Tryd.prog G (callFunc 57 #[v4, (.int .i64 0), (.int .i64 3)]) h4) h4 fun v5 h5 =>
  gd (wantB v3 false) (opH Tryd.prog G (sv (Op.unary .not v5)) h5) h5 fun v6 h6 =>
  opH Tryd.prog G (xPick v3 (.bool true) v6) h6 fun v7 h7 =>
  cond v7
  (opH Tryd.prog G (sv (Instr.build 30 #[])) h7 fun v32 h32 =>
  opH Tryd.prog G (su (Instr.storeAt 30 v1 v32)) h32 fun v33 h33 =>
  K .ret (upd (upd (upd (upd (upd (upd (upd (upd (upd (upd (upd (upd (upd r 5 v0) 8 v1) 9 (.bool false)) 10 (r 3)) 11 v2) 12 v3) 13 v3) 14 v4) 15 v5) 16 v6) 17 v7) 18 v32) 9 (.bool false)) h33)
  (S18_k1 G K (upd (upd (upd (upd (upd (upd (upd (upd (upd (upd (upd r 5 v0) 8 v1) 9 (.bool false)) 10 (r 3)) 11 v2) 12 v3) 13 v3) 14 v4) 15 v5) 16 v6) 17 v7) h7)
theorem S18_eq (G : Hp) (K : Exit → Rg → Hp → Prop) (r : Rg) (h : Hp) : wpC Tryd.prog G 44 md18 true (Tryd.f18.body.getD .skip) r h K = S18 G K r h := by kernel_rfl
theorem enter18 {G : Hp} {h : Hp} {args : Array Value} {R : Value → Hp → Prop} (hn : args.size ≤ 44) (H : S18 G (retK Tryd.prog G [.cell 8 30, .tmp 9] R) (regs args) h) : HCalls Tryd.prog G 18 args h R :=
  HCalls.enter (md := md18) mixed Tryd.func18 rfl hn (by rw [← S18_eq] at H; exact H)

def md21 : Nat → Hint
  | _ => ⟨false, [], [], [], [], false⟩
def S21_k1 (G : Hp) (K : Exit → Rg → Hp → Prop) (r : Rg) (h : Hp) : Prop :=
  opH Tryd.prog G (sv (Instr.fieldAt 30 (r 3) 0)) h fun v7 h7 =>
  opH Tryd.prog G (sv (Instr.loadAt 28 v7)) h7 fun v8 h8 =>
  opH Tryd.prog G (sv (Instr.fieldAt 30 (r 3) 0)) h8 fun v9 h9 =>
  opH Tryd.prog G (sv (Instr.fieldAt 28 v9 0)) h9 fun v10 h10 =>
  opH Tryd.prog G (sv (Instr.loadAt 3 v10)) h10 fun v11 h11 =>
  opH Tryd.prog G (sv (Instr.fieldAt 28 (r 5) 0)) h11 fun v12 h12 =>
  opH Tryd.prog G (sv (Instr.loadAt 3 v12)) h12 fun v13 h13 =>
  opH Tryd.prog G (sv (binOp .add 3 v11 v13)) h13 fun v14 h14 =>
  opH Tryd.prog G (sv (Instr.fieldAt 30 (r 3) 0)) h14 fun v15 h15 =>
  opH Tryd.prog G (sv (Instr.fieldAt 28 v15 1)) h15 fun v16 h16 =>
  opH Tryd.prog G (sv (Instr.loadAt 3 v16)) h16 fun v17 h17 =>
  opH Tryd.prog G (sv (Instr.fieldAt 28 (r 5) 1)) h17 fun v18 h18 =>
  opH Tryd.prog G (sv (Instr.loadAt 3 v18)) h18 fun v19 h19 =>
  opH Tryd.prog G (sv (binOp .add 3 v17 v19)) h19 fun v20 h20 =>
  opH Tryd.prog G (sv (Instr.build 28 #[(0, v14), (1, v20)])) h20 fun v21 h21 =>
  opH Tryd.prog G (sv (Instr.buildSlice 22 2 #[(0, v8), (1, v21)])) h21 fun v22 h22 =>
  K .ret (upd (upd (upd (upd (upd (upd (upd (upd (upd (upd (upd (upd (upd (upd (upd (upd (upd r 12 v7) 13 v8) 14 v9) 15 v10) 16 v11) 17 v12) 18 v13) 19 v14) 20 v15) 21 v16) 22 v17) 23 v18) 24 v19) 25 v20) 26 v21) 27 v22) 4 v22) h22
def S21 (G : Hp) (K : Exit → Rg → Hp → Prop) (r : Rg) (h : Hp) : Prop :=
  opH Tryd.prog G (sv (Instr.box 30 (r 1))) h fun v0 h0 =>
  opH Tryd.prog G (sv (Instr.indexAt 81 (.pointer (some ⟨0, 0, none⟩)) (.int .i64 1))) h0 fun v1 h1 =>
  opH Tryd.prog G (sv (Instr.loadAt 28 v1)) h1 fun v2 h2 =>
  opH Tryd.prog G (sv (Instr.alloc 28 true (.tuple #[]))) h2 fun v3 h3 =>
  opH Tryd.prog G (su (Instr.storeAt 28 v3 v2)) h3 fun v4 h4 =>
  opH Tryd.prog G (sv (Instr.fieldAt 30 v0 1)) h4 fun v5 h5 =>
  opH Tryd.prog G (sv (Instr.loadAt 4 v5)) h5 fun v6 h6 =>
  cond v6
  (opH Tryd.prog G (sv (Instr.indexAt 81 (.pointer (some ⟨0, 0, none⟩)) (.int .i64 2))) h6 fun v23 h23 =>
  opH Tryd.prog G (sv (Instr.loadAt 28 v23)) h23 fun v24 h24 =>
  opH Tryd.prog G (su (Instr.storeAt 28 v3 v24)) h24 fun v25 h25 =>
  S21_k1 G K (upd (upd (upd (upd (upd (upd (upd (upd (upd r 3 v0) 4 (.slice none 0 0)) 6 v1) 7 v2) 5 v3) 8 v5) 9 v6) 10 v23) 11 v24) h25)
  (S21_k1 G K (upd (upd (upd (upd (upd (upd (upd r 3 v0) 4 (.slice none 0 0)) 6 v1) 7 v2) 5 v3) 8 v5) 9 v6) h6)
theorem S21_eq (G : Hp) (K : Exit → Rg → Hp → Prop) (r : Rg) (h : Hp) : wpC Tryd.prog G 28 md21 true (Tryd.f21.body.getD .skip) r h K = S21 G K r h := by kernel_rfl
theorem enter21 {G : Hp} {h : Hp} {args : Array Value} {R : Value → Hp → Prop} (hn : args.size ≤ 28) (H : S21 G (retK Tryd.prog G [.tmp 4] R) (regs args) h) : HCalls Tryd.prog G 21 args h R :=
  HCalls.enter (md := md21) mixed Tryd.func21 rfl hn (by rw [← S21_eq] at H; exact H)

def md23 : Nat → Hint
  | _ => ⟨false, [], [], [], [], false⟩
def S23 (G : Hp) (K : Exit → Rg → Hp → Prop) (r : Rg) (h : Hp) : Prop :=
  opH Tryd.prog G (sv (Instr.box 30 (r 1))) h fun v0 h0 =>
  opH Tryd.prog G (sv (Instr.loadAt 30 v0)) h0 fun v1 h1 =>
  opH Tryd.prog G (callFunc 21 #[(r 0), v1]) h1 fun v2 h2 =>
  opH Tryd.prog G (sv (Instr.indexAt 22 v2 (.int .i64 0))) h2 fun v3 h3 =>
  opH Tryd.prog G (sv (Instr.loadAt 28 v3)) h3 fun v4 h4 =>
  opH Tryd.prog G (callFunc 31 #[(r 0), v4]) h4 fun v5 h5 =>
  gd (wantB v5 true) (fun K1 => K1 (r 0) h5) h5 fun v6 h6 =>
  gd (wantB v5 true) (fun K1 => K1 v2 h6) h6 fun v7 h7 =>
  gd (wantB v5 true) (opH Tryd.prog G (sv (Instr.indexAt 22 v7 (.int .i64 1))) h7) h7 fun v8 h8 =>
  gd (wantB v5 true) (opH Tryd.prog G (sv (Instr.loadAt 28 v8)) h8) h8 fun v9 h9 =>
  gd (wantB v5 true) (opH Tryd.prog G (callFunc 31 #[v6, v9]) h9) h9 fun v10 h10 =>
  opH Tryd.prog G (xPick v5 v10 (.bool false)) h10 fun v11 h11 =>
  K .ret (upd (upd (upd (upd (upd (upd (upd (upd (upd (upd (upd (upd (upd (upd (upd (upd (upd (upd (upd r 3 v0) 4 (.bool false)) 6 (r 0)) 7 v1) 8 v2) 5 v2) 9 (r 0)) 10 v2) 11 v3) 12 v4) 13 v5) 14 v5) 15 v6) 16 v7) 17 v8) 18 v9) 19 v10) 20 v11) 4 v11) h11
theorem S23_eq (G : Hp) (K : Exit → Rg → Hp → Prop) (r : Rg) (h : Hp) : wpC Tryd.prog G 21 md23 true (Tryd.f23.body.getD .skip) r h K = S23 G K r h := by kernel_rfl
theorem enter23 {G : Hp} {h : Hp} {args : Array Value} {R : Value → Hp → Prop} (hn : args.size ≤ 21) (H : S23 G (retK Tryd.prog G [.tmp 4] R) (regs args) h) : HCalls Tryd.prog G 23 args h R :=
  HCalls.enter (md := md23) mixed Tryd.func23 rfl hn (by rw [← S23_eq] at H; exact H)

def md26 : Nat → Hint
  | _ => ⟨false, [], [], [], [], false⟩
def S26 (G : Hp) (K : Exit → Rg → Hp → Prop) (r : Rg) (h : Hp) : Prop :=
  opH Tryd.prog G (sv (Instr.box 31 (r 0))) h fun v0 h0 =>
  opH Tryd.prog G (sv (Instr.box 30 (r 1))) h0 fun v1 h1 =>
  K .ret (upd (upd (upd (upd (upd r 2 v0) 3 v1) 4 .nilFunc) 5 (.func (.func 61) #[] #[v0, v1])) 4 (.func (.func 61) #[] #[v0, v1])) h1
theorem S26_eq (G : Hp) (K : Exit → Rg → Hp → Prop) (r : Rg) (h : Hp) : wpC Tryd.prog G 6 md26 true (Tryd.f26.body.getD .skip) r h K = S26 G K r h := by kernel_rfl
theorem enter26 {G : Hp} {h : Hp} {args : Array Value} {R : Value → Hp → Prop} (hn : args.size ≤ 6) (H : S26 G (retK Tryd.prog G [.tmp 4] R) (regs args) h) : HCalls Tryd.prog G 26 args h R :=
  HCalls.enter (md := md26) mixed Tryd.func26 rfl hn (by rw [← S26_eq] at H; exact H)

def md27 : Nat → Hint
  | _ => ⟨false, [], [], [], [], false⟩
def S27 (G : Hp) (K : Exit → Rg → Hp → Prop) (r : Rg) (h : Hp) : Prop :=
  opH Tryd.prog G (sv (Instr.box 46 (r 1))) h fun v0 h0 =>
  opH Tryd.prog G (sv (Instr.loadAt 46 v0)) h0 fun v1 h1 =>
  opH Tryd.prog G (callFunc 63 #[(r 0), v1]) h1 fun v2 h2 =>
  opH Tryd.prog G (sv (Instr.extract v2 0)) h2 fun v3 h3 =>
  opH Tryd.prog G (sv (Instr.extract v2 1)) h3 fun v4 h4 =>
  K .ret (upd (upd (upd (upd (upd (upd (upd (upd (upd (upd (upd (upd r 3 v0) 4 (.bool false)) 8 (r 0)) 9 v1) 10 v2) 7 v2) 11 v3) 12 v4) 5 v3) 6 v4) 13 v4) 4 v4) h4
theorem S27_eq (G : Hp) (K : Exit → Rg → Hp → Prop) (r : Rg) (h : Hp) : wpC Tryd.prog G 14 md27 true (Tryd.f27.body.getD .skip) r h K = S27 G K r h := by kernel_rfl
theorem enter27 {G : Hp} {h : Hp} {args : Array Value} {R : Value → Hp → Prop} (hn : args.size ≤ 14) (H : S27 G (retK Tryd.prog G [.tmp 4] R) (regs args) h) : HCalls Tryd.prog G 27 args h R :=
  HCalls.enter (md := md27) mixed Tryd.func27 rfl hn (by rw [← S27_eq] at H; exact H)

def md31 : Nat → Hint
  | _ => ⟨false, [], [], [], [], false⟩
def S31 (G : Hp) (K : Exit → Rg → Hp → Prop) (r : Rg) (h : Hp) : Prop :=
  opH Tryd.prog G (sv (Instr.box 28 (r 1))) h fun v0 h0 =>
  opH Tryd.prog G (sv (Instr.loadAt 28 v0)) h0 fun v1 h1 =>
  opH Tryd.prog G (callFunc 37 #[(r 0), v1]) h1 fun v2 h2 =>
  opH Tryd.prog G (sv (binOp .geq 3 v2 (.int .i64 0))) h2 fun v3 h3 =>
  gd (wantB v3 true) (fun K1 => K1 (r 0) h3) h3 fun v4 h4 =>
  gd (wantB v3 true) (opH Tryd.prog G (xNil v4) h4) h4 fun v5 h5 =>
  gd (wantB v3 true) (opH Tryd.prog G (sv (Instr.fieldAt 86 v5 2)) h5) h5 fun v6 h6 =>
  gd (wantB v3 true) (opH Tryd.prog G (sv (Instr.loadAt 57 v6)) h6) h6 fun v7 h7 =>
  gd (wantB v3 true) (fun K1 => K1 v2 h7) h7 fun v8 h8 =>
  gd (wantB v3 true) (opH Tryd.prog G (sv (Instr.indexAt 57 v7 v8)) h8) h8 fun v9 h9 =>
  gd (wantB v3 true) (opH Tryd.prog G (sv (Instr.loadAt 3 v9)) h9) h9 fun v10 h10 =>
  gd (wantB v3 true) (opH Tryd.prog G (xEq .neq 3 (.tmp 0) (.const .nilFunc) v10 (.int .i64 (-1))) h10) h10 fun v11 h11 =>
  opH Tryd.prog G (xPick v3 v11 (.bool false)) h11 fun v12 h12 =>
  K .ret (upd (upd (upd (upd (upd (upd (upd (upd (upd (upd (upd (upd (upd (upd (upd (upd (upd (upd (upd r 3 v0) 4 (.bool false)) 6 (r 0)) 7 v1) 8 v2) 5 v2) 9 v2) 10 v3) 11 v3) 12 v4) 13 v5) 14 v6) 15 v7) 16 v8) 17 v9) 18 v10) 19 v11) 20 v12) 4 v12) h12
theorem S31_eq (G : Hp) (K : Exit → Rg → Hp → Prop) (r : Rg) (h : Hp) : wpC Tryd.prog G 21 md31 true (Tryd.f31.body.getD .skip) r h K = S31 G K r h := by kernel_rfl
theorem enter31 {G : Hp} {h : Hp} {args : Array Value} {R : Value → Hp → Prop} (hn : args.size ≤ 21) (H : S31 G (retK Tryd.prog G [.tmp 4] R) (regs args) h) : HCalls Tryd.prog G 31 args h R :=
  HCalls.enter (md := md31) mixed Tryd.func31 rfl hn (by rw [← S31_eq] at H; exact H)

def md35 : Nat → Hint
  | _ => ⟨false, [], [], [], [], false⟩
def S35 (G : Hp) (K : Exit → Rg → Hp → Prop) (r : Rg) (h : Hp) : Prop :=
  opH Tryd.prog G (sv (Instr.box 28 (r 1))) h fun v0 h0 =>
  opH Tryd.prog G (sv (Instr.loadAt 28 v0)) h0 fun v1 h1 =>
  opH Tryd.prog G (callFunc 37 #[(r 0), v1]) h1 fun v2 h2 =>
  opH Tryd.prog G (sv (binOp .geq 3 v2 (.int .i64 0))) h2 fun v3 h3 =>
  gd (wantB v3 true) (fun K1 => K1 (r 0) h3) h3 fun v4 h4 =>
  gd (wantB v3 true) (opH Tryd.prog G (xNil v4) h4) h4 fun v5 h5 =>
  gd (wantB v3 true) (opH Tryd.prog G (sv (Instr.fieldAt 86 v5 2)) h5) h5 fun v6 h6 =>
  gd (wantB v3 true) (opH Tryd.prog G (sv (Instr.loadAt 57 v6)) h6) h6 fun v7 h7 =>
  gd (wantB v3 true) (fun K1 => K1 v2 h7) h7 fun v8 h8 =>
  gd (wantB v3 true) (opH Tryd.prog G (sv (Instr.indexAt 57 v7 v8)) h8) h8 fun v9 h9 =>
  gd (wantB v3 true) (opH Tryd.prog G (sv (Instr.loadAt 3 v9)) h9) h9 fun v10 h10 =>
  gd (wantB v3 true) (opH Tryd.prog G (xEq .eql 3 (.tmp 0) (.const .nilFunc) v10 (.int .i64 0)) h10) h10 fun v11 h11 =>
  opH Tryd.prog G (xPick v3 v11 (.bool false)) h11 fun v12 h12 =>
  K .ret (upd (upd (upd (upd (upd (upd (upd (upd (upd (upd (upd (upd (upd (upd (upd (upd (upd (upd (upd r 3 v0) 4 (.bool false)) 6 (r 0)) 7 v1) 8 v2) 5 v2) 9 v2) 10 v3) 11 v3) 12 v4) 13 v5) 14 v6) 15 v7) 16 v8) 17 v9) 18 v10) 19 v11) 20 v12) 4 v12) h12
theorem S35_eq (G : Hp) (K : Exit → Rg → Hp → Prop) (r : Rg) (h : Hp) : wpC Tryd.prog G 21 md35 true (Tryd.f35.body.getD .skip) r h K = S35 G K r h := by kernel_rfl
theorem enter35 {G : Hp} {h : Hp} {args : Array Value} {R : Value → Hp → Prop} (hn : args.size ≤ 21) (H : S35 G (retK Tryd.prog G [.tmp 4] R) (regs args) h) : HCalls Tryd.prog G 35 args h R :=
  HCalls.enter (md := md35) mixed Tryd.func35 rfl hn (by rw [← S35_eq] at H; exact H)

def md37 : Nat → Hint
  | 1 => ⟨false, [0, 1, 3, 7, 15, 7, 39, 103, 231, 487, 1023, 2047, 4095, 8191, 16383, 32767, 16383, 81919, 212991, 475135, 999423, 2097151, 4194303, 8388607], [.pureN, .pureM, .pureN, .pureN, .pureM, .pureN, .pureN, .pureN, .pureM, .pureN, .eff, .pureN, .pureN, .pureN, .pureN, .pureM, .pureN, .pureN, .pureN, .pureM, .pureN, .eff, .pureN, .pureN], [.pureN, .pureM, .pureN, .pureN, .pureM, .pureN, .pureN, .pureN, .pureM, .pureN, .eff, .pureN, .pureN, .pureN, .pureN, .late, .pureN, .pureN, .pureN, .late, .pureN, .eff, .pureN, .pureN], [false, false, false, false, false, false, false, false, false, false, false, false, false, false, false, false, false, false, false, false, false, false, false, false], false⟩
  | 3 => ⟨false, [0, 1, 0, 4, 12, 28, 63, 0, 128, 511, 1023], [.pureN, .pureM, .pureN, .pureN, .pureN, .pureM, .pureN, .pureN, .pureM, .pureN, .pureN], [.pureN, .pureM, .pureN, .pureN, .pureN, .pureM, .pureN, .pureN, .pureM, .pureN, .pureN], [false, false, false, false, false, false, false, false, false, false, false], false⟩
  | _ => ⟨false, [], [], [], [], false⟩
def S37_k1 (G : Hp) (K : Exit → Rg → Hp → Prop) (r : Rg) (h : Hp) : Prop :=
  pureW Tryd.prog noHp noHp (sv (Instr.fieldAt 28 (r 3) 1)) h fun v22 h22 =>
  pureW Tryd.prog G h (sv (Instr.loadAt 3 v22)) h22 fun v23 h23 =>
  pureW Tryd.prog noHp noHp (xNil (r 0)) h23 fun v24 h24 =>
  pureW Tryd.prog noHp noHp (sv (Instr.fieldAt 86 v24 0)) h24 fun v25 h25 =>
  pureW Tryd.prog G h (sv (Instr.loadAt 3 v25)) h25 fun v26 h26 =>
  pureW Tryd.prog noHp noHp (sv (binOp .mul 3 v23 v26)) h26 fun v27 h27 =>
  pureW Tryd.prog noHp noHp (sv (Instr.fieldAt 28 (r 3) 0)) h27 fun v28 h28 =>
  pureW Tryd.prog G h (sv (Instr.loadAt 3 v28)) h28 fun v29 h29 =>
  pureW Tryd.prog noHp noHp (sv (binOp .add 3 v27 v29)) h29 fun v30 h30 =>
  K .ret (upd (upd (upd (upd (upd (upd (upd (upd (upd (upd (upd r 29 v22) 30 v23) 31 (r 0)) 32 v24) 33 v25) 34 v26) 35 v27) 36 v28) 37 v29) 38 v30) 4 v30) h30
def S37 (G : Hp) (K : Exit → Rg → Hp → Prop) (r : Rg) (h : Hp) : Prop :=
  opH Tryd.prog G (sv (Instr.box 28 (r 1))) h fun v0 h0 =>
  pureW Tryd.prog G h0 (xEq .eql 31 (.tmp 0) (.const .nilFunc) (r 0) (.pointer none)) h0 fun v1 h1 =>
  gd (wantB v1 false) (pureW Tryd.prog noHp noHp (sv (Instr.fieldAt 28 v0 0)) h1) h1 fun v2 h2 =>
  gd (wantB v1 false) (pureW Tryd.prog G h0 (sv (Instr.loadAt 3 v2)) h2) h2 fun v3 h3 =>
  gd (wantB v1 false) (fun K1 => K1 (r 0) h3) h3 fun v4 h4 =>
  gd (wantB v1 false) (pureW Tryd.prog noHp noHp (xNil v4) h4) h4 fun v5 h5 =>
  gd (wantB v1 false) (pureW Tryd.prog noHp noHp (sv (Instr.fieldAt 86 v5 0)) h5) h5 fun v6 h6 =>
  gd (wantB v1 false) (pureW Tryd.prog G h0 (sv (Instr.loadAt 3 v6)) h6) h6 fun v7 h7 =>
  gd (wantB v1 false) (pureW Tryd.prog noHp noHp (sv (binOp .sub 3 v7 (.int .i64 1))) h7) h7 fun v8 h8 =>
  gd (wantB v1 false) (opH Tryd.prog G (callFunc 57 #[v3, (.int .i64 0), v8]) h8) h8 fun v9 h9 =>
  gd (wantB v1 false) (pureW Tryd.prog noHp noHp (sv (Op.unary .not v9)) h9) h9 fun v10 h10 =>
  pureW Tryd.prog noHp noHp (xPick v1 (.bool true) v10) h10 fun v11 h11 =>
  gd (wantB v11 false) (pureW Tryd.prog noHp noHp (sv (Instr.fieldAt 28 v0 1)) h11) h11 fun v12 h12 =>
  gd (wantB v11 false) (pureW Tryd.prog G h12 (sv (Instr.loadAt 3 v12)) h12) h12 fun v13 h13 =>
  gd (wantB v11 false) (fun K1 => K1 (r 0) h13) h13 fun v14 h14 =>
  gd (wantB v11 false) (pureW Tryd.prog noHp noHp (xNil v14) h14) h14 fun v15 h15 =>
  gd (wantB v11 false) (pureW Tryd.prog noHp noHp (sv (Instr.fieldAt 86 v15 1)) h15) h15 fun v16 h16 =>
  gd (wantB v11 false) (pureW Tryd.prog G h16 (sv (Instr.loadAt 3 v16)) h16) h16 fun v17 h17 =>
  gd (wantB v11 false) (pureW Tryd.prog noHp noHp (sv (binOp .sub 3 v17 (.int .i64 1))) h17) h17 fun v18 h18 =>
  gd (wantB v11 false) (opH Tryd.prog G (callFunc 57 #[v13, (.int .i64 0), v18]) h18) h18 fun v19 h19 =>
  gd (wantB v11 false) (pureW Tryd.prog noHp noHp (sv (Op.unary .not v19)) h19) h19 fun v20 h20 =>
  pureW Tryd.prog noHp noHp (xPick v11 (.bool true) v20) h20 fun v21 h21 =>
  cond v21
  (K .ret (upd (upd (upd (upd (upd (upd (upd (upd (upd (upd (upd (upd (upd (upd (upd (upd (upd (upd (upd (upd (upd (upd (upd (upd (upd (upd (upd r 3 v0) 4 (.int .i64 0)) 5 (r 0)) 6 v1) 7 v1) 8 v2) 9 v3) 10 v4) 11 v5) 12 v6) 13 v7) 14 v8) 15 v9) 16 v10) 17 v11) 18 v11) 19 v12) 20 v13) 21 v14) 22 v15) 23 v16) 24 v17) 25 v18) 26 v19) 27 v20) 28 v21) 4 (.int .i64 (-1))) h21)
  (S37_k1 G K (upd (upd (upd (upd (upd (upd (upd (upd (upd (upd (upd (upd (upd (upd (upd (upd (upd (upd (upd (upd (upd (upd (upd (upd (upd (upd r 3 v0) 4 (.int .i64 0)) 5 (r 0)) 6 v1) 7 v1) 8 v2) 9 v3) 10 v4) 11 v5) 12 v6) 13 v7) 14 v8) 15 v9) 16 v10) 17 v11) 18 v11) 19 v12) 20 v13) 21 v14) 22 v15) 23 v16) 24 v17) 25 v18) 26 v19) 27 v20) 28 v21) h21)
theorem S37_eq (G : Hp) (K : Exit → Rg → Hp → Prop) (r : Rg) (h : Hp) : wpC Tryd.prog G 39 md37 true (Tryd.f37.body.getD .skip) r h K = S37 G K r h := by kernel_rfl
theorem enter37 {G : Hp} {h : Hp} {args : Array Value} {R : Value → Hp → Prop} (hn : args.size ≤ 39) (H : S37 G (retK Tryd.prog G [.tmp 4] R) (regs args) h) : HCalls Tryd.prog G 37 args h R :=
  HCalls.enter (md := md37) mixed Tryd.func37 rfl hn (by rw [← S37_eq] at H; exact H)

def md49 : Nat → Hint
  | _ => ⟨false, [], [], [], [], false⟩
def S49_k3 (G : Hp) (K : Exit → Rg → Hp → Prop) (r : Rg) (h : Hp) : Prop :=
  K .ret (upd (upd r 68 (r 5)) 2 (r 5)) h
def S49_k2 (G : Hp) (K : Exit → Rg → Hp → Prop) (r : Rg) (h : Hp) : Prop :=
  opH Tryd.prog G (sv (Instr.loadAt 26 (r 1))) h fun v29 h29 =>
  opH Tryd.prog G (callFunc 72 #[v29]) h29 fun v30 h30 =>
  opH Tryd.prog G (sv (Instr.extract v30 0)) h30 fun v31 h31 =>
  opH Tryd.prog G (sv (Instr.extract v30 1)) h31 fun v32 h32 =>
  opH Tryd.prog G (sv (Op.unary .not v32)) h32 fun v33 h33 =>
  gd (wantB v33 false) (fun K1 => K1 v31 h33) h33 fun v34 h34 =>
  gd (wantB v33 false) (opH Tryd.prog G (sv (Instr.fieldAt 26 (r 1) 5)) h34) h34 fun v35 h35 =>
  gd (wantB v33 false) (opH Tryd.prog G (sv (Instr.loadAt 23 v35)) h35) h35 fun v36 h36 =>
  gd (wantB v33 false) (opH Tryd.prog G (callFunc 73 #[v34, v36]) h36) h36 fun v37 h37 =>
  gd (wantB v33 false) (opH Tryd.prog G (sv (Op.unary .not v37)) h37) h37 fun v38 h38 =>
  opH Tryd.prog G (xPick v33 (.bool true) v38) h38 fun v39 h39 =>
  gd (wantB v39 false) (fun K1 => K1 v31 h39) h39 fun v40 h40 =>
  gd (wantB v39 false) (opH Tryd.prog G (sv (Instr.fieldAt 26 (r 1) 6)) h40) h40 fun v41 h41 =>
  gd (wantB v39 false) (opH Tryd.prog G (sv (Instr.loadAt 24 v41)) h41) h41 fun v42 h42 =>
  gd (wantB v39 false) (opH Tryd.prog G (sv (Instr.fieldAt 26 (r 1) 2)) h42) h42 fun v43 h43 =>
  gd (wantB v39 false) (opH Tryd.prog G (sv (Instr.loadAt 3 v43)) h43) h43 fun v44 h44 =>
  gd (wantB v39 false) (opH Tryd.prog G (callFunc 74 #[v40, v42, v44]) h44) h44 fun v45 h45 =>
  gd (wantB v39 false) (opH Tryd.prog G (sv (Op.unary .not v45)) h45) h45 fun v46 h46 =>
  opH Tryd.prog G (xPick v39 (.bool true) v46) h46 fun v47 h47 =>
  cond v47
  (K .ret (upd (upd (upd (upd (upd (upd (upd (upd (upd (upd (upd (upd (upd (upd (upd (upd (upd (upd (upd (upd (upd (upd (upd (upd (upd (upd r 46 v29) 47 v30) 45 v30) 48 v31) 49 v32) 5 v31) 6 v32) 50 v32) 51 v33) 52 v33) 53 v34) 54 v35) 55 v36) 56 v37) 57 v38) 58 v39) 59 v39) 60 v40) 61 v41) 62 v42) 63 v43) 64 v44) 65 v45) 66 v46) 67 v47) 2 (.pointer none)) h47)
  (S49_k3 G K (upd (upd (upd (upd (upd (upd (upd (upd (upd (upd (upd (upd (upd (upd (upd (upd (upd (upd (upd (upd (upd (upd (upd (upd (upd r 46 v29) 47 v30) 45 v30) 48 v31) 49 v32) 5 v31) 6 v32) 50 v32) 51 v33) 52 v33) 53 v34) 54 v35) 55 v36) 56 v37) 57 v38) 58 v39) 59 v39) 60 v40) 61 v41) 62 v42) 63 v43) 64 v44) 65 v45) 66 v46) 67 v47) h47)
def S49_k1 (G : Hp) (K : Exit → Rg → Hp → Prop) (r : Rg) (h : Hp) : Prop :=
  opH Tryd.prog G (sv (Instr.fieldAt 26 (r 1) 2)) h fun v15 h15 =>
  opH Tryd.prog G (sv (Instr.loadAt 3 v15)) h15 fun v16 h16 =>
  opH Tryd.prog G (callFunc 57 #[v16, (.int .i64 1), (.int .i64 8)]) h16 fun v17 h17 =>
  opH Tryd.prog G (sv (Op.unary .not v17)) h17 fun v18 h18 =>
  gd (wantB v18 false) (opH Tryd.prog G (sv (Instr.fieldAt 26 (r 1) 12)) h18) h18 fun v19 h19 =>
  gd (wantB v18 false) (opH Tryd.prog G (sv (Instr.loadAt 3 v19)) h19) h19 fun v20 h20 =>
  gd (wantB v18 false) (opH Tryd.prog G (callFunc 57 #[v20, (.int .i64 1), (.int .i64 16)]) h20) h20 fun v21 h21 =>
  gd (wantB v18 false) (opH Tryd.prog G (sv (Op.unary .not v21)) h21) h21 fun v22 h22 =>
  opH Tryd.prog G (xPick v18 (.bool true) v22) h22 fun v23 h23 =>
  gd (wantB v23 false) (opH Tryd.prog G (sv (Instr.fieldAt 26 (r 1) 14)) h23) h23 fun v24 h24 =>
  gd (wantB v23 false) (opH Tryd.prog G (sv (Instr.loadAt 3 v24)) h24) h24 fun v25 h25 =>
  gd (wantB v23 false) (opH Tryd.prog G (callFunc 57 #[v25, (.int .i64 1), (.int .i64 1048576)]) h25) h25 fun v26 h26 =>
  gd (wantB v23 false) (opH Tryd.prog G (sv (Op.unary .not v26)) h26) h26 fun v27 h27 =>
  opH Tryd.prog G (xPick v23 (.bool true) v27) h27 fun v28 h28 =>
  cond v28
  (K .ret (upd (upd (upd (upd (upd (upd (upd (upd (upd (upd (upd (upd (upd (upd (upd (upd (upd r 29 v15) 30 v16) 31 v17) 32 v18) 33 v18) 34 v19) 35 v20) 36 v21) 37 v22) 38 v23) 39 v23) 40 v24) 41 v25) 42 v26) 43 v27) 44 v28) 2 (.pointer none)) h28)
  (S49_k2 G K (upd (upd (upd (upd (upd (upd (upd (upd (upd (upd (upd (upd (upd (upd (upd (upd r 29 v15) 30 v16) 31 v17) 32 v18) 33 v18) 34 v19) 35 v20) 36 v21) 37 v22) 38 v23) 39 v23) 40 v24) 41 v25) 42 v26) 43 v27) 44 v28) h28)
def S49_l4_k6 (G : Hp) (K : Exit → Rg → Hp → Prop) (r : Rg) (h : Hp) : Prop :=
  opH Tryd.prog G (sv (binOp .add 3 (r 21) (.int .i64 1))) h fun v49 h49 =>
  K .normal (upd (upd r 28 v49) 21 v49) h49
def S49_l4_k5 (G : Hp) (K : Exit → Rg → Hp → Prop) (r : Rg) (h : Hp) : Prop :=
  opH Tryd.prog G (sv (Instr.indexAt 57 (r 19) (r 21))) h fun v50 h50 =>
  opH Tryd.prog G (sv (Instr.loadAt 3 v50)) h50 fun v51 h51 =>
  opH Tryd.prog G (callFunc 57 #[v51, (.int .i64 1), (.int .i64 1000)]) h51 fun v52 h52 =>
  opH Tryd.prog G (sv (Op.unary .not v52)) h52 fun v53 h53 =>
  cond v53
  (K .ret (upd (upd (upd (upd (upd (upd (upd r 23 v50) 24 v51) 4 v51) 25 v51) 26 v52) 27 v53) 2 (.pointer none)) h53)
  (S49_l4_k6 G K (upd (upd (upd (upd (upd (upd r 23 v50) 24 v51) 4 v51) 25 v51) 26 v52) 27 v53) h53)
def S49_l4 (G : Hp) (r : Rg) (h : Hp) (K : Exit → Rg → Hp → Prop) : Prop :=
  opH Tryd.prog G (sv (binOp .lss 3 (r 21) (r 20))) h fun v48 h48 =>
  cond v48
  (S49_l4_k5 G K (upd r 22 v48) h48)
  (K (.exit 0) (upd r 22 v48) h48)
def S49 (G : Hp) (K : Exit → Rg → Hp → Prop) (r : Rg) (h : Hp) : Prop :=
  opH Tryd.prog G (sv (Instr.box 26 (r 0))) h fun v0 h0 =>
  opH Tryd.prog G (sv (Instr.fieldAt 26 v0 7)) h0 fun v1 h1 =>
  opH Tryd.prog G (sv (Instr.loadAt 3 v1)) h1 fun v2 h2 =>
  opH Tryd.prog G (sv (Instr.fieldAt 26 v0 8)) h2 fun v3 h3 =>
  opH Tryd.prog G (sv (Instr.loadAt 3 v3)) h3 fun v4 h4 =>
  opH Tryd.prog G (sv (Instr.fieldAt 26 v0 9)) h4 fun v5 h5 =>
  opH Tryd.prog G (sv (Instr.loadAt 3 v5)) h5 fun v6 h6 =>
  opH Tryd.prog G (sv (Instr.fieldAt 26 v0 10)) h6 fun v7 h7 =>
  opH Tryd.prog G (sv (Instr.loadAt 3 v7)) h7 fun v8 h8 =>
  opH Tryd.prog G (sv (Instr.fieldAt 26 v0 11)) h8 fun v9 h9 =>
  opH Tryd.prog G (sv (Instr.loadAt 3 v9)) h9 fun v10 h10 =>
  opH Tryd.prog G (sv (Instr.fieldAt 26 v0 13)) h10 fun v11 h11 =>
  opH Tryd.prog G (sv (Instr.loadAt 3 v11)) h11 fun v12 h12 =>
  opH Tryd.prog G (sv (Instr.buildSlice 57 6 #[(0, v2), (1, v4), (2, v6), (3, v8), (4, v10), (5, v12)])) h12 fun v13 h13 =>
  opH Tryd.prog G (sv (Builtin.len_ #[57] 3 #[v13])) h13 fun v14 h14 =>
  loopP (S49_l4 G) (upd (upd (upd (upd (upd (upd (upd (upd (upd (upd (upd (upd (upd (upd (upd (upd (upd r 1 v0) 2 (.pointer none)) 7 v1) 8 v2) 9 v3) 10 v4) 11 v5) 12 v6) 13 v7) 14 v8) 15 v9) 16 v10) 17 v11) 18 v12) 19 v13) 20 v14) 21 (.int .i64 0)) h14 (blockK 0 (thenK (S49_k1 G K) K))
theorem S49_eq (G : Hp) (K : Exit → Rg → Hp → Prop) (r : Rg) (h : Hp) : wpC Tryd.prog G 69 md49 true (Tryd.f49.body.getD .skip) r h K = S49 G K r h := by kernel_rfl
theorem enter49 {G : Hp} {h : Hp} {args : Array Value} {R : Value → Hp → Prop} (hn : args.size ≤ 69) (H : S49 G (retK Tryd.prog G [.tmp 2] R) (regs args) h) : HCalls Tryd.prog G 49 args h R :=
  HCalls.enter (md := md49) mixed Tryd.func49 rfl hn (by rw [← S49_eq] at H; exact H)

def md57 : Nat → Hint
  | _ => ⟨false, [], [], [], [], false⟩
def S57 (G : Hp) (K : Exit → Rg → Hp → Prop) (r : Rg) (h : Hp) : Prop :=
  opH Tryd.prog G (sv (binOp .geq 3 (r 0) (r 1))) h fun v0 h0 =>
  gd (wantB v0 true) (fun K1 => K1 (r 0) h0) h0 fun v1 h1 =>
  gd (wantB v0 true) (fun K1 => K1 (r 2) h1) h1 fun v2 h2 =>
  gd (wantB v0 true) (opH Tryd.prog G (sv (binOp .leq 3 v1 v2)) h2) h2 fun v3 h3 =>
  opH Tryd.prog G (xPick v0 v3 (.bool false)) h3 fun v4 h4 =>
  K .ret (upd (upd (upd (upd (upd (upd (upd (upd (upd (upd r 6 (.bool false)) 7 (r 0)) 8 (r 1)) 9 v0) 10 v0) 11 v1) 12 v2) 13 v3) 14 v4) 6 v4) h4
theorem S57_eq (G : Hp) (K : Exit → Rg → Hp → Prop) (r : Rg) (h : Hp) : wpC Tryd.prog G 15 md57 true (Tryd.f57.body.getD .skip) r h K = S57 G K r h := by kernel_rfl
theorem enter57 {G : Hp} {h : Hp} {args : Array Value} {R : Value → Hp → Prop} (hn : args.size ≤ 15) (H : S57 G (retK Tryd.prog G [.tmp 6] R) (regs args) h) : HCalls Tryd.prog G 57 args h R :=
  HCalls.enter (md := md57) mixed Tryd.func57 rfl hn (by rw [← S57_eq] at H; exact H)

def md61 : Nat → Hint
  | _ => ⟨false, [], [], [], [], false⟩
def S61_k2 (G : Hp) (K : Exit → Rg → Hp → Prop) (r : Rg) (h : Hp) : Prop :=
  opH Tryd.prog G (sv (Instr.loadAt 30 (r 2))) h fun v8 h8 =>
  opH Tryd.prog G (sv (Instr.fieldAt 30 (r 2) 0)) h8 fun v9 h9 =>
  opH Tryd.prog G (sv (Instr.loadAt 28 v9)) h9 fun v10 h10 =>
  opH Tryd.prog G (sv (Instr.fieldAt 30 (r 2) 1)) h10 fun v11 h11 =>
  opH Tryd.prog G (sv (Instr.loadAt 4 v11)) h11 fun v12 h12 =>
  opH Tryd.prog G (sv (Op.unary .not v12)) h12 fun v13 h13 =>
  opH Tryd.prog G (sv (Instr.build 30 #[(0, v10), (1, v13)])) h13 fun v14 h14 =>
  opH Tryd.prog G (sv (Instr.build 46 #[(0, (.int .i64 2)), (3, v8), (4, v14)])) h14 fun v15 h15 =>
  opH Tryd.prog G (sv (Instr.alloc 46 true (.tuple #[]))) h15 fun v16 h16 =>
  opH Tryd.prog G (su (Instr.storeAt 46 v16 v15)) h16 fun v17 h17 =>
  opH Tryd.prog G (sv (Instr.loadAt 31 (r 1))) h17 fun v18 h18 =>
  opH Tryd.prog G (sv (Instr.loadAt 46 v16)) h18 fun v19 h19 =>
  opH Tryd.prog G (callFunc 27 #[v18, v19]) h19 fun v20 h20 =>
  cond v20
  (opH Tryd.prog G (sv (Instr.loadAt 52 (r 3))) h20 fun v21 h21 =>
  opH Tryd.prog G (sv (Instr.loadAt 46 v16)) h21 fun v22 h22 =>
  opH Tryd.prog G (xCallV v21 #[v22]) h22 fun v23 h23 =>
  K .normal (upd (upd (upd (upd (upd (upd (upd (upd (upd (upd (upd (upd (upd (upd (upd r 18 v8) 19 v9) 20 v10) 21 v11) 22 v12) 23 v13) 24 v14) 25 v15) 5 v16) 26 v18) 27 v19) 28 v20) 29 v21) 30 v22) 31 v23) h23)
  (K .normal (upd (upd (upd (upd (upd (upd (upd (upd (upd (upd (upd (upd r 18 v8) 19 v9) 20 v10) 21 v11) 22 v12) 23 v13) 24 v14) 25 v15) 5 v16) 26 v18) 27 v19) 28 v20) h20)
def S61_a3 (G : Hp) (r : Rg) (h : Hp) (K : Exit → Rg → Hp → Prop) : Prop :=
  opH Tryd.prog G (sv (Instr.alloc 46 true (.tuple #[]))) h fun v24 h24 =>
  opH Tryd.prog G (su (Instr.storeAt 46 v24 (r 13))) h24 fun v25 h25 =>
  K .normal (upd r 4 v24) h25
def S61_b3 (G : Hp) (r : Rg) (h : Hp) (K : Exit → Rg → Hp → Prop) : Prop :=
  opH Tryd.prog G (sv (Instr.loadAt 52 (r 3))) h fun v26 h26 =>
  opH Tryd.prog G (sv (Instr.loadAt 46 (r 4))) h26 fun v27 h27 =>
  opH Tryd.prog G (xCallV v26 #[v27]) h27 fun v28 h28 =>
  opH Tryd.prog G (sv (Op.unary .not v28)) h28 fun v29 h29 =>
  cond v29
  (K .ret (upd (upd (upd (upd r 14 v26) 15 v27) 16 v28) 17 v29) h29)
  (K .normal (upd (upd (upd (upd r 14 v26) 15 v27) 16 v28) 17 v29) h29)
def S61_k1 (G : Hp) (K : Exit → Rg → Hp → Prop) (r : Rg) (h : Hp) : Prop :=
  opH Tryd.prog G (sv (Instr.loadAt 31 (r 1))) h fun v5 h5 =>
  opH Tryd.prog G (sv (Instr.loadAt 30 (r 2))) h5 fun v6 h6 =>
  opH Tryd.prog G (callFunc 62 #[v5, v6]) h6 fun v7 h7 =>
  RangeW Tryd.prog G 1 (S61_a3 G) (S61_b3 G) (setR 32 #[13]) v7 (upd (upd (upd r 10 v5) 11 v6) 12 v7) h7 (blockK 0 (thenK (S61_k2 G K) K))
def S61 (G : Hp) (K : Exit → Rg → Hp → Prop) (r : Rg) (h : Hp) : Prop :=
  opH Tryd.prog G (sv (Instr.box 52 (r 0))) h fun v0 h0 =>
  opH Tryd.prog G (sv (Instr.loadAt 31 (r 1))) h0 fun v1 h1 =>
  opH Tryd.prog G (sv (Instr.loadAt 30 (r 2))) h1 fun v2 h2 =>
  opH Tryd.prog G (callFunc 23 #[v1, v2]) h2 fun v3 h3 =>
  opH Tryd.prog G (sv (Op.unary .not v3)) h3 fun v4 h4 =>
  cond v4
  (K .ret (upd (upd (upd (upd (upd r 3 v0) 6 v1) 7 v2) 8 v3) 9 v4) h4)
  (S61_k1 G K (upd (upd (upd (upd (upd r 3 v0) 6 v1) 7 v2) 8 v3) 9 v4) h4)
theorem S61_eq (G : Hp) (K : Exit → Rg → Hp → Prop) (r : Rg) (h : Hp) : wpC Tryd.prog G 32 md61 true (Tryd.f61.body.getD .skip) r h K = S61 G K r h := by kernel_rfl
theorem enter61 {G : Hp} {h : Hp} {args : Array Value} {R : Value → Hp → Prop} (hn : args.size ≤ 32) (H : S61 G (retK Tryd.prog G [] R) (regs args) h) : HCalls Tryd.prog G 61 args h R :=
  HCalls.enter (md := md61) mixed Tryd.func61 rfl hn (by rw [← S61_eq] at H; exact H)

def md62 : Nat → Hint
  | _ => ⟨false, [], [], [], [], false⟩
def S62 (G : Hp) (K : Exit → Rg → Hp → Prop) (r : Rg) (h : Hp) : Prop :=
  opH Tryd.prog G (sv (Instr.box 31 (r 0))) h fun v0 h0 =>
  opH Tryd.prog G (sv (Instr.box 30 (r 1))) h0 fun v1 h1 =>
  K .ret (upd (upd (upd (upd (upd r 2 v0) 3 v1) 4 .nilFunc) 5 (.func (.func 76) #[] #[v0, v1])) 4 (.func (.func 76) #[] #[v0, v1])) h1
theorem S62_eq (G : Hp) (K : Exit → Rg → Hp → Prop) (r : Rg) (h : Hp) : wpC Tryd.prog G 6 md62 true (Tryd.f62.body.getD .skip) r h K = S62 G K r h := by kernel_rfl
theorem enter62 {G : Hp} {h : Hp} {args : Array Value} {R : Value → Hp → Prop} (hn : args.size ≤ 6) (H : S62 G (retK Tryd.prog G [.tmp 4] R) (regs args) h) : HCalls Tryd.prog G 62 args h R :=
  HCalls.enter (md := md62) mixed Tryd.func62 rfl hn (by rw [← S62_eq] at H; exact H)

def md63 : Nat → Hint
  | 17 => ⟨false, [0, 0, 2, 6, 14, 30, 62, 30, 254, 510, 31, 2047], [.pureN, .pureN, .pureM, .pureN, .pureN, .pureN, .pureM, .pureM, .pureM, .pureN, .pureN, .pureN], [.pureN, .pureN, .pureM, .pureN, .pureN, .pureN, .pureM, .pureM, .pureM, .pureN, .pureN, .pureN], [false, false, false, false, false, false, false, false, false, false, false, false], false⟩
  | 26 => ⟨false, [0, 0, 2, 0, 8, 24, 0, 64, 192, 448, 1016, 2046, 1, 8191], [.pureN, .pureN, .pureM, .pureN, .pureN, .pureM, .pureN, .pureN, .pureM, .pureN, .pureN, .pureM, .pureN, .pureN], [.pureN, .pureN, .pureM, .pureN, .pureN, .pureM, .pureN, .pureN, .pureM, .pureN, .pureN, .pureM, .pureN, .pureN], [false, false, false, false, false, false, false, false, false, false, false, false, false, false], false⟩
  | 29 => ⟨false, [0, 0, 2, 7, 0, 16, 0, 64, 240, 15, 1023], [.pureN, .pureN, .pureM, .eff, .pureN, .pureM, .pureN, .pureM, .pureM, .pureN, .pureN], [.pureN, .pureN, .pureM, .eff, .pureN, .pureM, .pureN, .pureM, .pureM, .pureN, .pureN], [false, false, false, true, false, false, false, false, false, false, false], true⟩
  | _ => ⟨false, [], [], [], [], false⟩
def S63_k3 (G : Hp) (K : Exit → Rg → Hp → Prop) (r : Rg) (h : Hp) : Prop :=
  K .ret (upd (upd r 4 (.slice none 0 0)) 5 (.bool false)) h
def S63_k4 (G : Hp) (K : Exit → Rg → Hp → Prop) (r : Rg) (h : Hp) : Prop :=
  pureW Tryd.prog noHp noHp (sv (Instr.fieldAt 46 (r 3) 2)) h fun v24 h24 =>
  pureW Tryd.prog G h (sv (Instr.loadAt 3 v24)) h24 fun v25 h25 =>
  pureW Tryd.prog noHp noHp (sv (binOp .geq 3 v25 (.int .i64 1))) h25 fun v26 h26 =>
  gd (wantB v26 true) (pureW Tryd.prog noHp noHp (sv (Instr.fieldAt 46 (r 3) 4)) h26) h26 fun v27 h27 =>
  gd (wantB v26 true) (pureW Tryd.prog G h (sv (Instr.loadAt 30 v27)) h27) h27 fun v28 h28 =>
  gd (wantB v26 true) (pureW Tryd.prog G h (sv (Instr.loadAt 30 (r 7))) h28) h28 fun v29 h29 =>
  gd (wantB v26 true) (pureW Tryd.prog G h (xEq .eql 30 (.tmp 0) (.tmp 0) v28 v29) h29) h29 fun v30 h30 =>
  pureW Tryd.prog noHp noHp (xPick v26 v30 (.bool false)) h30 fun v31 h31 =>
  K .ret (upd (upd (upd (upd (upd (upd (upd (upd (upd (upd (upd (upd r 68 (r 6)) 69 v24) 70 v25) 71 v26) 72 v26) 73 v27) 74 v28) 75 v29) 76 v30) 77 v31) 4 (r 6)) 5 v31) h31
def S63_l5_k7 (G : Hp) (K : Exit → Rg → Hp → Prop) (r : Rg) (h : Hp) : Prop :=
  opH Tryd.prog G (sv (binOp .add 3 (r 8) (.int .i64 1))) h fun v35 h35 =>
  K .normal (upd (upd (upd r 42 (r 8)) 43 v35) 8 v35) h35
def S63_l5_k8 (G : Hp) (K : Exit → Rg → Hp → Prop) (r : Rg) (h : Hp) : Prop :=
  opH Tryd.prog G (sv (Instr.loadAt 30 (r 9))) h fun v51 h51 =>
  opH Tryd.prog G (callFunc 21 #[(r 0), v51]) h51 fun v52 h52 =>
  opH Tryd.prog G (sv (Builtin.append_ #[22, 22] 22 #[(r 6), v52])) h52 fun v53 h53 =>
  opH Tryd.prog G (sv (Instr.loadAt 30 (r 9))) h53 fun v54 h54 =>
  opH Tryd.prog G (su (Instr.storeAt 30 (r 7) v54)) h54 fun v55 h55 =>
  S63_l5_k7 G K (upd (upd (upd (upd (upd (upd (upd r 62 (r 6)) 63 (r 0)) 64 v51) 65 v52) 66 v53) 6 v53) 67 v54) h55
def S63_l5_k6 (G : Hp) (K : Exit → Rg → Hp → Prop) (r : Rg) (h : Hp) : Prop :=
  opH Tryd.prog G (sv (Instr.fieldAt 46 (r 3) 3)) h fun v36 h36 =>
  opH Tryd.prog G (sv (Instr.loadAt 30 v36)) h36 fun v37 h37 =>
  opH Tryd.prog G (sv (Instr.fieldAt 46 (r 3) 1)) h37 fun v38 h38 =>
  opH Tryd.prog G (sv (Instr.loadAt 3 v38)) h38 fun v39 h39 =>
  opH Tryd.prog G (callFunc 18 #[(r 0), v37, v39, (r 8)]) h39 fun v40 h40 =>
  opH Tryd.prog G (sv (Instr.extract v40 0)) h40 fun v41 h41 =>
  opH Tryd.prog G (sv (Instr.extract v40 1)) h41 fun v42 h42 =>
  opH Tryd.prog G (sv (Instr.alloc 30 true (.tuple #[]))) h42 fun v43 h43 =>
  opH Tryd.prog G (su (Instr.storeAt 30 v43 v41)) h43 fun v44 h44 =>
  opH Tryd.prog G (sv (Op.unary .not v42)) h44 fun v45 h45 =>
  gd (wantB v45 false) (fun K1 => K1 (r 0) h45) h45 fun v46 h46 =>
  gd (wantB v45 false) (opH Tryd.prog G (sv (Instr.loadAt 30 v43)) h46) h46 fun v47 h47 =>
  gd (wantB v45 false) (opH Tryd.prog G (callFunc 23 #[v46, v47]) h47) h47 fun v48 h48 =>
  gd (wantB v45 false) (opH Tryd.prog G (sv (Op.unary .not v48)) h48) h48 fun v49 h49 =>
  opH Tryd.prog G (xPick v45 (.bool true) v49) h49 fun v50 h50 =>
  cond v50
  (K .ret (upd (upd (upd (upd (upd (upd (upd (upd (upd (upd (upd (upd (upd (upd (upd (upd (upd (upd (upd (upd (upd (upd r 45 (r 0)) 46 v36) 47 v37) 48 v38) 49 v39) 50 (r 8)) 51 v40) 44 v40) 52 v41) 53 v42) 9 v43) 10 v42) 54 v42) 55 v45) 56 v45) 57 v46) 58 v47) 59 v48) 60 v49) 61 v50) 4 (.slice none 0 0)) 5 (.bool false)) h50)
  (S63_l5_k8 G K (upd (upd (upd (upd (upd (upd (upd (upd (upd (upd (upd (upd (upd (upd (upd (upd (upd (upd (upd (upd r 45 (r 0)) 46 v36) 47 v37) 48 v38) 49 v39) 50 (r 8)) 51 v40) 44 v40) 52 v41) 53 v42) 9 v43) 10 v42) 54 v42) 55 v45) 56 v45) 57 v46) 58 v47) 59 v48) 60 v49) 61 v50) h50)
def S63_l5 (G : Hp) (r : Rg) (h : Hp) (K : Exit → Rg → Hp → Prop) : Prop :=
  opH Tryd.prog G (sv (Instr.fieldAt 46 (r 3) 2)) h fun v32 h32 =>
  opH Tryd.prog G (sv (Instr.loadAt 3 v32)) h32 fun v33 h33 =>
  opH Tryd.prog G (sv (binOp .leq 3 (r 8) v33)) h33 fun v34 h34 =>
  cond v34
  (S63_l5_k6 G K (upd (upd (upd (upd r 38 (r 8)) 39 v32) 40 v33) 41 v34) h34)
  (K (.exit 1) (upd (upd (upd (upd r 38 (r 8)) 39 v32) 40 v33) 41 v34) h34)
def S63_k9 (G : Hp) (K : Exit → Rg → Hp → Prop) (r : Rg) (h : Hp) : Prop :=
  pureW Tryd.prog noHp noHp (sv (Instr.fieldAt 46 (r 3) 4)) h fun v62 h62 =>
  pureW Tryd.prog G h (sv (Instr.loadAt 30 v62)) h62 fun v63 h63 =>
  pureW Tryd.prog noHp noHp (sv (Instr.fieldAt 46 (r 3) 3)) h63 fun v64 h64 =>
  pureW Tryd.prog noHp noHp (sv (Instr.fieldAt 30 v64 0)) h64 fun v65 h65 =>
  pureW Tryd.prog G h (sv (Instr.loadAt 28 v65)) h65 fun v66 h66 =>
  pureW Tryd.prog noHp noHp (sv (Instr.fieldAt 46 (r 3) 3)) h66 fun v67 h67 =>
  pureW Tryd.prog noHp noHp (sv (Instr.fieldAt 30 v67 1)) h67 fun v68 h68 =>
  pureW Tryd.prog G h (sv (Instr.loadAt 4 v68)) h68 fun v69 h69 =>
  pureW Tryd.prog noHp noHp (sv (Op.unary .not v69)) h69 fun v70 h70 =>
  pureW Tryd.prog noHp noHp (sv (Instr.build 30 #[(0, v66), (1, v70)])) h70 fun v71 h71 =>
  pureW Tryd.prog G h (xEq .eql 30 (.tmp 0) (.tmp 0) v63 v71) h71 fun v72 h72 =>
  K .ret (upd (upd (upd (upd (upd (upd (upd (upd (upd (upd (upd (upd (upd (upd r 95 (r 11)) 96 v62) 97 v63) 98 v64) 99 v65) 100 v66) 101 v67) 102 v68) 103 v69) 104 v70) 105 v71) 106 v72) 4 (r 11)) 5 v72) h72
def S63_l10_k12 (G : Hp) (K : Exit → Rg → Hp → Prop) (r : Rg) (h : Hp) : Prop :=
  opH Tryd.prog G (sv (binOp .add 3 (r 86) (.int .i64 1))) h fun v74 h74 =>
  K .normal (upd (upd r 94 v74) 86 v74) h74
def S63_l10_k11 (G : Hp) (K : Exit → Rg → Hp → Prop) (r : Rg) (h : Hp) : Prop :=
  opH Tryd.prog G (sv (Instr.indexAt 22 (r 84) (r 86))) h fun v75 h75 =>
  opH Tryd.prog G (sv (Instr.loadAt 28 v75)) h75 fun v76 h76 =>
  opH Tryd.prog G (sv (Instr.alloc 28 true (.tuple #[]))) h76 fun v77 h77 =>
  opH Tryd.prog G (su (Instr.storeAt 28 v77 v76)) h77 fun v78 h78 =>
  opH Tryd.prog G (sv (Instr.loadAt 28 v77)) h78 fun v79 h79 =>
  opH Tryd.prog G (callFunc 31 #[(r 0), v79]) h79 fun v80 h80 =>
  opH Tryd.prog G (sv (Op.unary .not v80)) h80 fun v81 h81 =>
  cond v81
  (K .ret (upd (upd (upd (upd (upd (upd (upd (upd (upd r 88 v75) 89 v76) 13 v77) 90 (r 0)) 91 v79) 92 v80) 93 v81) 4 (.slice none 0 0)) 5 (.bool false)) h81)
  (S63_l10_k12 G K (upd (upd (upd (upd (upd (upd (upd r 88 v75) 89 v76) 13 v77) 90 (r 0)) 91 v79) 92 v80) 93 v81) h81)
def S63_l10 (G : Hp) (r : Rg) (h : Hp) (K : Exit → Rg → Hp → Prop) : Prop :=
  opH Tryd.prog G (sv (binOp .lss 3 (r 86) (r 85))) h fun v73 h73 =>
  cond v73
  (S63_l10_k11 G K (upd r 87 v73) h73)
  (K (.exit 3) (upd r 87 v73) h73)
def S63_k13 (G : Hp) (K : Exit → Rg → Hp → Prop) (r : Rg) (h : Hp) : Prop :=
  cond (r 107)
  (∃ q83 : Hp, q83.le h ∧
  pureW Tryd.prog noHp noHp (sv (Instr.fieldAt 46 (r 3) 3)) h fun v84 h84 =>
  pureW Tryd.prog G q83 (sv (Instr.loadAt 30 v84)) h84 fun v85 h85 =>
  opH Tryd.prog G (callFunc 21 #[(r 0), v85]) h85 fun v86 h86 => q83.le h86 ∧
  pureW Tryd.prog noHp noHp (sv (Instr.fieldAt 46 (r 3) 4)) h86 fun v87 h87 =>
  pureW Tryd.prog G q83 (sv (Instr.loadAt 30 v87)) h87 fun v88 h88 =>
  pureW Tryd.prog noHp noHp (sv (Instr.fieldAt 46 (r 3) 3)) h88 fun v89 h89 =>
  pureW Tryd.prog G q83 (sv (Instr.loadAt 30 v89)) h89 fun v90 h90 =>
  pureW Tryd.prog G q83 (xEq .eql 30 (.tmp 0) (.tmp 0) v88 v90) h90 fun v91 h91 =>
  K .ret (upd (upd (upd (upd (upd (upd (upd (upd (upd (upd (upd r 110 (r 0)) 111 v84) 112 v85) 113 v86) 114 v87) 115 v88) 116 v89) 117 v90) 118 v91) 4 v86) 5 v91) h91)
  (S63_k3 G K r h)
def S63_k2 (G : Hp) (K : Exit → Rg → Hp → Prop) (r : Rg) (h : Hp) : Prop :=
  opH Tryd.prog G (sv (Instr.fieldAt 46 (r 3) 0)) h fun v17 h17 =>
  opH Tryd.prog G (sv (Instr.loadAt 3 v17)) h17 fun v18 h18 =>
  opH Tryd.prog G (xEq .eql 3 (.tmp 0) (.const .nilFunc) v18 (.int .i64 1)) h18 fun v19 h19 =>
  cond v19
  (opH Tryd.prog G (sv (Instr.fieldAt 46 (r 3) 3)) h19 fun v20 h20 =>
  opH Tryd.prog G (sv (Instr.loadAt 30 v20)) h20 fun v21 h21 =>
  opH Tryd.prog G (sv (Instr.alloc 30 true (.tuple #[]))) h21 fun v22 h22 =>
  opH Tryd.prog G (su (Instr.storeAt 30 v22 v21)) h22 fun v23 h23 =>
  loopP (S63_l5 G) (upd (upd (upd (upd (upd (upd (upd (upd (upd r 32 v17) 33 v18) 35 v19) 34 v19) 6 (.slice none 0 0)) 36 v20) 37 v21) 7 v22) 8 (.int .i64 0)) h23 (blockK 1 (thenK (S63_k4 G K) (blockK 0 (thenK (S63_k3 G K) K)))))
  (opH Tryd.prog G (xEq .eql 3 (.tmp 0) (.const .nilFunc) v18 (.int .i64 2)) h19 fun v56 h56 =>
  cond v56
  (opH Tryd.prog G (sv (Instr.fieldAt 46 (r 3) 3)) h56 fun v57 h57 =>
  opH Tryd.prog G (sv (Instr.fieldAt 30 v57 0)) h57 fun v58 h58 =>
  opH Tryd.prog G (sv (Instr.loadAt 28 v58)) h58 fun v59 h59 =>
  opH Tryd.prog G (callFunc 77 #[v59]) h59 fun v60 h60 =>
  opH Tryd.prog G (sv (Builtin.len_ #[22] 3 #[v60])) h60 fun v61 h61 =>
  loopP (S63_l10 G) (upd (upd (upd (upd (upd (upd (upd (upd (upd (upd (upd (upd (upd (upd r 32 v17) 33 v18) 35 v19) 34 v19) 79 v56) 78 v56) 80 v57) 81 v58) 82 v59) 83 v60) 11 v60) 84 v60) 85 v61) 86 (.int .i64 0)) h61 (blockK 3 (thenK (S63_k9 G K) (blockK 0 (thenK (S63_k3 G K) K)))))
  (opH Tryd.prog G (xEq .eql 3 (.tmp 0) (.const .nilFunc) v18 (.int .i64 3)) h56 fun v82 h82 =>
  cond v82
  (S63_k13 G K (upd (upd (upd (upd (upd (upd (upd (upd r 32 v17) 33 v18) 35 v19) 34 v19) 79 v56) 78 v56) 108 v82) 107 v82) h82)
  (opH Tryd.prog G (xEq .eql 3 (.tmp 0) (.const .nilFunc) v18 (.int .i64 4)) h82 fun v92 h92 =>
  S63_k13 G K (upd (upd (upd (upd (upd (upd (upd (upd (upd (upd r 32 v17) 33 v18) 35 v19) 34 v19) 79 v56) 78 v56) 108 v82) 107 v82) 109 v92) 107 v92) h92)))
def S63_k1 (G : Hp) (K : Exit → Rg → Hp → Prop) (r : Rg) (h : Hp) : Prop :=
  opH Tryd.prog G (sv (Instr.fieldAt 46 (r 3) 0)) h fun v5 h5 =>
  opH Tryd.prog G (sv (Instr.loadAt 3 v5)) h5 fun v6 h6 =>
  opH Tryd.prog G (xEq .neq 3 (.tmp 0) (.const .nilFunc) v6 (.int .i64 1)) h6 fun v7 h7 =>
  gd (wantB v7 true) (opH Tryd.prog G (sv (Instr.fieldAt 46 (r 3) 1)) h7) h7 fun v8 h8 =>
  gd (wantB v7 true) (opH Tryd.prog G (sv (Instr.loadAt 3 v8)) h8) h8 fun v9 h9 =>
  gd (wantB v7 true) (opH Tryd.prog G (xEq .neq 3 (.tmp 0) (.const .nilFunc) v9 (.int .i64 0)) h9) h9 fun v10 h10 =>
  gd (wantB v7 true) (fun K1 => K1 v10 h10) h10 fun v11 h11 =>
  gd (wantB v11 false) (opH Tryd.prog G (sv (Instr.fieldAt 46 (r 3) 2)) h11) h11 fun v12 h12 =>
  gd (wantB v11 false) (opH Tryd.prog G (sv (Instr.loadAt 3 v12)) h12) h12 fun v13 h13 =>
  gd (wantB v11 false) (opH Tryd.prog G (xEq .neq 3 (.tmp 0) (.const .nilFunc) v13 (.int .i64 0)) h13) h13 fun v14 h14 =>
  gd (wantB v7 true) (opH Tryd.prog G (xPick v11 (.bool true) v14) h14) h14 fun v15 h15 =>
  opH Tryd.prog G (xPick v7 v15 (.bool false)) h15 fun v16 h16 =>
  cond v16
  (K .ret (upd (upd (upd (upd (upd (upd (upd (upd (upd (upd (upd (upd (upd (upd (upd r 19 v5) 20 v6) 21 v7) 22 v7) 23 v8) 24 v9) 25 v10) 26 v11) 27 v12) 28 v13) 29 v14) 30 v15) 31 v16) 4 (.slice none 0 0)) 5 (.bool false)) h16)
  (S63_k2 G K (upd (upd (upd (upd (upd (upd (upd (upd (upd (upd (upd (upd (upd r 19 v5) 20 v6) 21 v7) 22 v7) 23 v8) 24 v9) 25 v10) 26 v11) 27 v12) 28 v13) 29 v14) 30 v15) 31 v16) h16)
def S63 (G : Hp) (K : Exit → Rg → Hp → Prop) (r : Rg) (h : Hp) : Prop :=
  opH Tryd.prog G (sv (Instr.box 46 (r 1))) h fun v0 h0 =>
  opH Tryd.prog G (sv (Instr.fieldAt 46 v0 3)) h0 fun v1 h1 =>
  opH Tryd.prog G (sv (Instr.loadAt 30 v1)) h1 fun v2 h2 =>
  opH Tryd.prog G (callFunc 23 #[(r 0), v2]) h2 fun v3 h3 =>
  opH Tryd.prog G (sv (Op.unary .not v3)) h3 fun v4 h4 =>
  cond v4
  (K .ret (upd (upd (upd (upd (upd (upd (upd (upd (upd (upd r 3 v0) 4 (.slice none 0 0)) 5 (.bool false)) 14 (r 0)) 15 v1) 16 v2) 17 v3) 18 v4) 4 (.slice none 0 0)) 5 (.bool false)) h4)
  (S63_k1 G K (upd (upd (upd (upd (upd (upd (upd (upd r 3 v0) 4 (.slice none 0 0)) 5 (.bool false)) 14 (r 0)) 15 v1) 16 v2) 17 v3) 18 v4) h4)
theorem S63_eq (G : Hp) (K : Exit → Rg → Hp → Prop) (r : Rg) (h : Hp) : wpC Tryd.prog G 119 md63 true (Tryd.f63.body.getD .skip) r h K = S63 G K r h := by kernel_rfl
theorem enter63 {G : Hp} {h : Hp} {args : Array Value} {R : Value → Hp → Prop} (hn : args.size ≤ 119) (H : S63 G (retK Tryd.prog G [.tmp 4, .tmp 5] R) (regs args) h) : HCalls Tryd.prog G 63 args h R :=
  HCalls.enter (md := md63) mixed Tryd.func63 rfl hn (by rw [← S63_eq] at H; exact H)

def md72 : Nat → Hint
  | 3 => ⟨false, [0, 1, 0, 4, 0, 16, 0, 64, 240, 496, 1023, 2047, 4095], [.pureN, .pureM, .pureN, .pureM, .pureN, .pureM, .pureN, .pureM, .pureN, .eff, .pureN, .alloc, .pureN], [.pureN, .pureM, .pureN, .pureM, .pureN, .pureM, .pureN, .pureM, .pureN, .eff, .pureN, .alloc, .pureN], [false, false, false, false, false, false, false, false, false, true, false, false, false], true⟩
  | 5 => ⟨false, [0, 1, 3, 0, 8, 31, 63, 0], [.pureN, .pureM, .eff, .pureN, .pureM, .eff, .pureM, .pureN], [.pureN, .pureM, .eff, .pureN, .pureM, .eff, .late, .pureN], [false, false, true, false, false, false, false, false], true⟩
  | 14 => ⟨false, [0, 1, 3, 7, 0, 0, 0, 64, 192, 480, 992, 2047, 4095], [.pureN, .pureN, .pureN, .pureM, .pureN, .pureN, .pureN, .pureM, .pureM, .pureN, .pureN, .pureN, .store], [.pureN, .pureN, .pureN, .pureM, .pureN, .pureN, .pureN, .pureM, .pureM, .pureN, .pureN, .pureN, .store], [false, false, false, false, false, false, false, false, false, false, false, false, false], false⟩
  | _ => ⟨false, [], [], [], [], false⟩
def S72_k2 (G : Hp) (K : Exit → Rg → Hp → Prop) (r : Rg) (h : Hp) : Prop :=
  K .ret (upd (upd (upd r 104 (r 4)) 2 (r 4)) 3 (.bool true)) h
def S72_l3_k5 (G : Hp) (K : Exit → Rg → Hp → Prop) (r : Rg) (h : Hp) : Prop :=
  opH Tryd.prog G (sv (binOp .add 3 (r 61) (.int .i64 1))) h fun v53 h53 =>
  K .normal (upd (upd r 103 v53) 61 v53) h53
def S72_l3_k6 (G : Hp) (K : Exit → Rg → Hp → Prop) (r : Rg) (h : Hp) : Prop :=
  opH Tryd.prog G (sv (Instr.indexAt 101 (r 5) (r 8))) h fun v66 h66 =>
  opH Tryd.prog G (su (Instr.storeAt 4 v66 (.bool true))) h66 fun v67 h67 =>
  opH Tryd.prog G (xNil (r 4)) h67 fun v68 h68 =>
  opH Tryd.prog G (sv (Instr.fieldAt 86 v68 2)) h68 fun v69 h69 =>
  opH Tryd.prog G (sv (Instr.loadAt 57 v69)) h69 fun v70 h70 =>
  opH Tryd.prog G (sv (Instr.indexAt 57 v70 (r 8))) h70 fun v71 h71 =>
  opH Tryd.prog G (su (Instr.storeAt 3 v71 (.int .i64 (-1)))) h71 fun v72 h72 =>
  opH Tryd.prog G (sv (Instr.fieldAt 26 (r 1) 3)) h72 fun v73 h73 =>
  opH Tryd.prog G (sv (Instr.loadAt 22 v73)) h73 fun v74 h74 =>
  opH Tryd.prog G (sv (Builtin.len_ #[22] 3 #[v74])) h74 fun v75 h75 =>
  opH Tryd.prog G (sv (binOp .geq 3 (r 6) v75)) h75 fun v76 h76 =>
  cond v76
  (pureW Tryd.prog noHp noHp (xNil (r 4)) h76 fun v77 h77 =>
  pureW Tryd.prog noHp noHp (sv (Instr.fieldAt 86 v77 2)) h77 fun v78 h78 =>
  pureW Tryd.prog G h76 (sv (Instr.loadAt 57 v78)) h78 fun v79 h79 =>
  pureW Tryd.prog noHp noHp (sv (Instr.fieldAt 26 (r 1) 3)) h79 fun v80 h80 =>
  pureW Tryd.prog G h76 (sv (Instr.loadAt 22 v80)) h80 fun v81 h81 =>
  pureW Tryd.prog G h76 (sv (Builtin.len_ #[22] 3 #[v81])) h81 fun v82 h82 =>
  pureW Tryd.prog noHp noHp (sv (binOp .sub 3 (r 6) v82)) h82 fun v83 h83 =>
  pureW Tryd.prog noHp noHp (sv (binOp .add 3 v83 (.int .i64 1))) h83 fun v84 h84 =>
  pureW Tryd.prog noHp noHp (sv (Instr.indexAt 57 v79 (r 8))) h84 fun v85 h85 =>
  opH Tryd.prog G (su (Instr.storeAt 3 v85 v84)) h85 fun v86 h86 =>
  S72_l3_k5 G K (upd (upd (upd (upd (upd (upd (upd (upd (upd (upd (upd (upd (upd (upd (upd (upd (upd (upd (upd (upd (upd (upd (upd (upd (upd (upd r 77 (r 5)) 78 (r 8)) 79 v66) 80 (r 4)) 81 v68) 82 v69) 83 v70) 84 (r 8)) 85 v71) 86 (r 6)) 87 v73) 88 v74) 89 v75) 90 v76) 91 (r 4)) 92 v77) 93 v78) 94 v79) 95 (r 8)) 96 (r 6)) 97 v80) 98 v81) 99 v82) 100 v83) 101 v84) 102 v85) h86)
  (S72_l3_k5 G K (upd (upd (upd (upd (upd (upd (upd (upd (upd (upd (upd (upd (upd (upd r 77 (r 5)) 78 (r 8)) 79 v66) 80 (r 4)) 81 v68) 82 v69) 83 v70) 84 (r 8)) 85 v71) 86 (r 6)) 87 v73) 88 v74) 89 v75) 90 v76) h76)
def S72_l3_k4 (G : Hp) (K : Exit → Rg → Hp → Prop) (r : Rg) (h : Hp) : Prop :=
  opH Tryd.prog G (sv (Instr.indexAt 22 (r 59) (r 61))) h fun v54 h54 =>
  opH Tryd.prog G (sv (Instr.loadAt 28 v54)) h54 fun v55 h55 =>
  opH Tryd.prog G (sv (Instr.alloc 28 true (.tuple #[]))) h55 fun v56 h56 =>
  opH Tryd.prog G (su (Instr.storeAt 28 v56 v55)) h56 fun v57 h57 =>
  opH Tryd.prog G (sv (Instr.loadAt 28 v56)) h57 fun v58 h58 =>
  opH Tryd.prog G (callFunc 37 #[(r 4), v58]) h58 fun v59 h59 =>
  opH Tryd.prog G (sv (binOp .lss 3 v59 (.int .i64 0))) h59 fun v60 h60 =>
  gd (wantB v60 false) (fun K1 => K1 (r 5) h60) h60 fun v61 h61 =>
  gd (wantB v60 false) (fun K1 => K1 v59 h61) h61 fun v62 h62 =>
  gd (wantB v60 false) (opH Tryd.prog G (sv (Instr.indexAt 101 v61 v62)) h62) h62 fun v63 h63 =>
  gd (wantB v60 false) (opH Tryd.prog G (sv (Instr.loadAt 4 v63)) h63) h63 fun v64 h64 =>
  opH Tryd.prog G (xPick v60 (.bool true) v64) h64 fun v65 h65 =>
  cond v65
  (K .ret (upd (upd (upd (upd (upd (upd (upd (upd (upd (upd (upd (upd (upd (upd (upd (upd (upd (upd (upd r 63 (r 61)) 64 v54) 65 v55) 7 v56) 6 (r 61)) 66 (r 4)) 67 v58) 68 v59) 8 v59) 69 v59) 70 v60) 71 v60) 72 v61) 73 v62) 74 v63) 75 v64) 76 v65) 2 (.pointer none)) 3 (.bool false)) h65)
  (S72_l3_k6 G K (upd (upd (upd (upd (upd (upd (upd (upd (upd (upd (upd (upd (upd (upd (upd (upd (upd r 63 (r 61)) 64 v54) 65 v55) 7 v56) 6 (r 61)) 66 (r 4)) 67 v58) 68 v59) 8 v59) 69 v59) 70 v60) 71 v60) 72 v61) 73 v62) 74 v63) 75 v64) 76 v65) h65)
def S72_l3 (G : Hp) (r : Rg) (h : Hp) (K : Exit → Rg → Hp → Prop) : Prop :=
  opH Tryd.prog G (sv (binOp .lss 3 (r 61) (r 60))) h fun v52 h52 =>
  cond v52
  (S72_l3_k4 G K (upd r 62 v52) h52)
  (K (.exit 0) (upd r 62 v52) h52)
def S72_k1 (G : Hp) (K : Exit → Rg → Hp → Prop) (r : Rg) (h : Hp) : Prop :=
  ∃ q25 : Hp, q25.le h ∧
  pureW Tryd.prog noHp noHp (sv (Instr.fieldAt 26 (r 1) 0)) h fun v26 h26 =>
  pureW Tryd.prog G q25 (sv (Instr.loadAt 3 v26)) h26 fun v27 h27 =>
  pureW Tryd.prog noHp noHp (sv (Instr.fieldAt 26 (r 1) 1)) h27 fun v28 h28 =>
  pureW Tryd.prog G q25 (sv (Instr.loadAt 3 v28)) h28 fun v29 h29 =>
  pureW Tryd.prog noHp noHp (sv (Instr.fieldAt 26 (r 1) 0)) h29 fun v30 h30 =>
  pureW Tryd.prog G q25 (sv (Instr.loadAt 3 v30)) h30 fun v31 h31 =>
  pureW Tryd.prog noHp noHp (sv (Instr.fieldAt 26 (r 1) 1)) h31 fun v32 h32 =>
  pureW Tryd.prog G q25 (sv (Instr.loadAt 3 v32)) h32 fun v33 h33 =>
  pureW Tryd.prog noHp noHp (sv (binOp .mul 3 v31 v33)) h33 fun v34 h34 =>
  opH Tryd.prog G (sv (Instr.makeSlice 57 v34 v34)) h34 fun v35 h35 => q25.le h35 ∧
  pureW Tryd.prog noHp noHp (sv (Instr.build 86 #[(0, v27), (1, v29), (2, v35)])) h35 fun v36 h36 =>
  opH Tryd.prog G (sv (Instr.box 86 v36)) h36 fun v37 h37 =>
  opH Tryd.prog G (sv (Instr.fieldAt 26 (r 1) 0)) h37 fun v38 h38 =>
  opH Tryd.prog G (sv (Instr.loadAt 3 v38)) h38 fun v39 h39 =>
  opH Tryd.prog G (sv (Instr.fieldAt 26 (r 1) 1)) h39 fun v40 h40 =>
  opH Tryd.prog G (sv (Instr.loadAt 3 v40)) h40 fun v41 h41 =>
  opH Tryd.prog G (sv (binOp .mul 3 v39 v41)) h41 fun v42 h42 =>
  opH Tryd.prog G (sv (Instr.makeSlice 101 v42 v42)) h42 fun v43 h43 =>
  ∃ q44 : Hp, q44.le h43 ∧
  pureW Tryd.prog noHp noHp (sv (Instr.fieldAt 26 (r 1) 3)) h43 fun v45 h45 =>
  pureW Tryd.prog G q44 (sv (Instr.loadAt 22 v45)) h45 fun v46 h46 =>
  opH Tryd.prog G (callFunc 80 #[v46]) h46 fun v47 h47 => q44.le h47 ∧
  pureW Tryd.prog noHp noHp (sv (Instr.fieldAt 26 (r 1) 4)) h47 fun v48 h48 =>
  pureW Tryd.prog G q44 (sv (Instr.loadAt 22 v48)) h48 fun v49 h49 =>
  opH Tryd.prog G (sv (Builtin.append_ #[22, 22] 22 #[v47, v49])) h49 fun v50 h50 =>
  pureW Tryd.prog G h50 (sv (Builtin.len_ #[22] 3 #[v50])) h50 fun v51 h51 =>
  loopP (S72_l3 G) (upd (upd (upd (upd (upd (upd (upd (upd (upd (upd (upd (upd (upd (upd (upd (upd (upd (upd (upd (upd (upd (upd (upd (upd (upd (upd (upd (upd r 36 v26) 37 v27) 38 v28) 39 v29) 40 v30) 41 v31) 42 v32) 43 v33) 44 v34) 45 v35) 46 v36) 47 v37) 4 v37) 48 v38) 49 v39) 50 v40) 51 v41) 52 v42) 53 v43) 5 v43) 54 v45) 55 v46) 56 v47) 57 v48) 58 v49) 59 v50) 60 v51) 61 (.int .i64 0)) h51 (blockK 0 (thenK (S72_k2 G K) K))
def S72 (G : Hp) (K : Exit → Rg → Hp → Prop) (r : Rg) (h : Hp) : Prop :=
  opH Tryd.prog G (sv (Instr.box 26 (r 0))) h fun v0 h0 =>
  opH Tryd.prog G (sv (Instr.fieldAt 26 v0 0)) h0 fun v1 h1 =>
  opH Tryd.prog G (sv (Instr.loadAt 3 v1)) h1 fun v2 h2 =>
  opH Tryd.prog G (callFunc 57 #[v2, (.int .i64 1), (.int .i64 16)]) h2 fun v3 h3 =>
  opH Tryd.prog G (sv (Op.unary .not v3)) h3 fun v4 h4 =>
  gd (wantB v4 false) (opH Tryd.prog G (sv (Instr.fieldAt 26 v0 1)) h4) h4 fun v5 h5 =>
  gd (wantB v4 false) (opH Tryd.prog G (sv (Instr.loadAt 3 v5)) h5) h5 fun v6 h6 =>
  gd (wantB v4 false) (opH Tryd.prog G (callFunc 57 #[v6, (.int .i64 1), (.int .i64 16)]) h6) h6 fun v7 h7 =>
  gd (wantB v4 false) (opH Tryd.prog G (sv (Op.unary .not v7)) h7) h7 fun v8 h8 =>
  opH Tryd.prog G (xPick v4 (.bool true) v8) h8 fun v9 h9 =>
  gd (wantB v9 false) (opH Tryd.prog G (sv (Instr.fieldAt 26 v0 4)) h9) h9 fun v10 h10 =>
  gd (wantB v9 false) (opH Tryd.prog G (sv (Instr.loadAt 22 v10)) h10) h10 fun v11 h11 =>
  gd (wantB v9 false) (opH Tryd.prog G (sv (Builtin.len_ #[22] 3 #[v11])) h11) h11 fun v12 h12 =>
  gd (wantB v9 false) (opH Tryd.prog G (sv (binOp .gtr 3 v12 (.int .i64 8))) h12) h12 fun v13 h13 =>
  opH Tryd.prog G (xPick v9 (.bool true) v13) h13 fun v14 h14 =>
  gd (wantB v14 false) (opH Tryd.prog G (sv (Instr.fieldAt 26 v0 3)) h14) h14 fun v15 h15 =>
  gd (wantB v14 false) (opH Tryd.prog G (sv (Instr.loadAt 22 v15)) h15) h15 fun v16 h16 =>
  gd (wantB v14 false) (opH Tryd.prog G (sv (Builtin.len_ #[22] 3 #[v16])) h16) h16 fun v17 h17 =>
  gd (wantB v14 false) (opH Tryd.prog G (sv (Instr.fieldAt 26 v0 0)) h17) h17 fun v18 h18 =>
  gd (wantB v14 false) (opH Tryd.prog G (sv (Instr.loadAt 3 v18)) h18) h18 fun v19 h19 =>
  gd (wantB v14 false) (opH Tryd.prog G (sv (Instr.fieldAt 26 v0 1)) h19) h19 fun v20 h20 =>
  gd (wantB v14 false) (opH Tryd.prog G (sv (Instr.loadAt 3 v20)) h20) h20 fun v21 h21 =>
  gd (wantB v14 false) (opH Tryd.prog G (sv (binOp .mul 3 v19 v21)) h21) h21 fun v22 h22 =>
  gd (wantB v14 false) (opH Tryd.prog G (sv (binOp .gtr 3 v17 v22)) h22) h22 fun v23 h23 =>
  opH Tryd.prog G (xPick v14 (.bool true) v23) h23 fun v24 h24 =>
  cond v24
  (K .ret (upd (upd (upd (upd (upd (upd (upd (upd (upd (upd (upd (upd (upd (upd (upd (upd (upd (upd (upd (upd (upd (upd (upd (upd (upd (upd (upd (upd (upd (upd (upd (upd r 1 v0) 2 (.pointer none)) 3 (.bool false)) 9 v1) 10 v2) 11 v3) 12 v4) 13 v4) 14 v5) 15 v6) 16 v7) 17 v8) 18 v9) 19 v9) 20 v10) 21 v11) 22 v12) 23 v13) 24 v14) 25 v14) 26 v15) 27 v16) 28 v17) 29 v18) 30 v19) 31 v20) 32 v21) 33 v22) 34 v23) 35 v24) 2 (.pointer none)) 3 (.bool false)) h24)
  (S72_k1 G K (upd (upd (upd (upd (upd (upd (upd (upd (upd (upd (upd (upd (upd (upd (upd (upd (upd (upd (upd (upd (upd (upd (upd (upd (upd (upd (upd (upd (upd (upd r 1 v0) 2 (.pointer none)) 3 (.bool false)) 9 v1) 10 v2) 11 v3) 12 v4) 13 v4) 14 v5) 15 v6) 16 v7) 17 v8) 18 v9) 19 v9) 20 v10) 21 v11) 22 v12) 23 v13) 24 v14) 25 v14) 26 v15) 27 v16) 28 v17) 29 v18) 30 v19) 31 v20) 32 v21) 33 v22) 34 v23) 35 v24) h24)
theorem S72_eq (G : Hp) (K : Exit → Rg → Hp → Prop) (r : Rg) (h : Hp) : wpC Tryd.prog G 105 md72 true (Tryd.f72.body.getD .skip) r h K = S72 G K r h := by kernel_rfl
theorem enter72 {G : Hp} {h : Hp} {args : Array Value} {R : Value → Hp → Prop} (hn : args.size ≤ 105) (H : S72 G (retK Tryd.prog G [.tmp 2, .tmp 3] R) (regs args) h) : HCalls Tryd.prog G 72 args h R :=
  HCalls.enter (md := md72) mixed Tryd.func72 rfl hn (by rw [← S72_eq] at H; exact H)

def md73 : Nat → Hint
  | 6 => ⟨false, [0, 0, 2, 6, 14, 31, 0, 0, 128, 384, 896, 1984, 4095, 8191, 0, 32767], [.pureN, .pureN, .pureN, .pureN, .pureM, .pureN, .pureN, .pureN, .pureN, .pureN, .pureM, .pureN, .pureN, .pureN, .alloc, .store], [.pureN, .pureN, .pureN, .pureN, .pureM, .pureN, .pureN, .pureN, .pureN, .pureN, .pureM, .pureN, .pureN, .pureN, .alloc, .store], [false, false, false, false, false, false, false, false, false, false, false, false, false, false, false, false], false⟩
  | _ => ⟨false, [], [], [], [], false⟩
def S73_k3 (G : Hp) (K : Exit → Rg → Hp → Prop) (r : Rg) (h : Hp) : Prop :=
  K .ret (upd r 4 (.bool true)) h
def S73_l4_k6 (G : Hp) (K : Exit → Rg → Hp → Prop) (r : Rg) (h : Hp) : Prop :=
  opH Tryd.prog G (sv (binOp .add 3 (r 81) (.int .i64 1))) h fun v13 h13 =>
  K .normal (upd (upd r 124 v13) 81 v13) h13
def S73_l4_l8_k10 (G : Hp) (K : Exit → Rg → Hp → Prop) (r : Rg) (h : Hp) : Prop :=
  opH Tryd.prog G (sv (binOp .add 3 (r 93) (.int .i64 1))) h fun v25 h25 =>
  K .normal (upd (upd r 123 v25) 93 v25) h25
def S73_l4_l8_k11 (G : Hp) (K : Exit → Rg → Hp → Prop) (r : Rg) (h : Hp) : Prop :=
  opH Tryd.prog G (sv (Instr.indexAt 101 (r 7) (r 12))) h fun v43 h43 =>
  opH Tryd.prog G (su (Instr.storeAt 4 v43 (.bool true))) h43 fun v44 h44 =>
  opH Tryd.prog G (xNil (r 0)) h44 fun v45 h45 =>
  opH Tryd.prog G (sv (Instr.fieldAt 86 v45 2)) h45 fun v46 h46 =>
  opH Tryd.prog G (sv (Instr.loadAt 57 v46)) h46 fun v47 h47 =>
  opH Tryd.prog G (sv (Instr.indexAt 57 v47 (r 12))) h47 fun v48 h48 =>
  opH Tryd.prog G (su (Instr.storeAt 3 v48 (.int .i64 (-2)))) h48 fun v49 h49 =>
  S73_l4_l8_k10 G K (upd (upd (upd (upd (upd (upd (upd (upd (upd r 114 (r 7)) 115 (r 12)) 116 v43) 117 (r 0)) 118 v45) 119 v46) 120 v47) 121 (r 12)) 122 v48) h49
def S73_l4_l8_k9 (G : Hp) (K : Exit → Rg → Hp → Prop) (r : Rg) (h : Hp) : Prop :=
  opH Tryd.prog G (sv (Instr.indexAt 22 (r 91) (r 93))) h fun v26 h26 =>
  opH Tryd.prog G (sv (Instr.loadAt 28 v26)) h26 fun v27 h27 =>
  opH Tryd.prog G (sv (Instr.alloc 28 true (.tuple #[]))) h27 fun v28 h28 =>
  opH Tryd.prog G (su (Instr.storeAt 28 v28 v27)) h28 fun v29 h29 =>
  opH Tryd.prog G (sv (Instr.loadAt 28 v28)) h29 fun v30 h30 =>
  opH Tryd.prog G (callFunc 37 #[(r 0), v30]) h30 fun v31 h31 =>
  opH Tryd.prog G (sv (Instr.indexAt 101 (r 7) v31)) h31 fun v32 h32 =>
  opH Tryd.prog G (sv (Instr.loadAt 4 v32)) h32 fun v33 h33 =>
  gd (wantB v33 false) (fun K1 => K1 (r 0) h33) h33 fun v34 h34 =>
  gd (wantB v33 false) (opH Tryd.prog G (xNil v34) h34) h34 fun v35 h35 =>
  gd (wantB v33 false) (opH Tryd.prog G (sv (Instr.fieldAt 86 v35 2)) h35) h35 fun v36 h36 =>
  gd (wantB v33 false) (opH Tryd.prog G (sv (Instr.loadAt 57 v36)) h36) h36 fun v37 h37 =>
  gd (wantB v33 false) (fun K1 => K1 v31 h37) h37 fun v38 h38 =>
  gd (wantB v33 false) (opH Tryd.prog G (sv (Instr.indexAt 57 v37 v38)) h38) h38 fun v39 h39 =>
  gd (wantB v33 false) (opH Tryd.prog G (sv (Instr.loadAt 3 v39)) h39) h39 fun v40 h40 =>
  gd (wantB v33 false) (opH Tryd.prog G (sv (binOp .gtr 3 v40 (.int .i64 0))) h40) h40 fun v41 h41 =>
  opH Tryd.prog G (xPick v33 (.bool true) v41) h41 fun v42 h42 =>
  cond v42
  (K .ret (upd (upd (upd (upd (upd (upd (upd (upd (upd (upd (upd (upd (upd (upd (upd (upd (upd (upd (upd (upd (upd (upd r 95 v26) 96 v27) 11 v28) 97 (r 0)) 98 v30) 99 v31) 12 v31) 100 (r 7)) 101 v31) 102 v32) 103 v33) 104 v33) 105 v34) 106 v35) 107 v36) 108 v37) 109 v38) 110 v39) 111 v40) 112 v41) 113 v42) 4 (.bool false)) h42)
  (S73_l4_l8_k11 G K (upd (upd (upd (upd (upd (upd (upd (upd (upd (upd (upd (upd (upd (upd (upd (upd (upd (upd (upd (upd (upd r 95 v26) 96 v27) 11 v28) 97 (r 0)) 98 v30) 99 v31) 12 v31) 100 (r 7)) 101 v31) 102 v32) 103 v33) 104 v33) 105 v34) 106 v35) 107 v36) 108 v37) 109 v38) 110 v39) 111 v40) 112 v41) 113 v42) h42)
def S73_l4_l8 (G : Hp) (r : Rg) (h : Hp) (K : Exit → Rg → Hp → Prop) : Prop :=
  opH Tryd.prog G (sv (binOp .lss 3 (r 93) (r 92))) h fun v24 h24 =>
  cond v24
  (S73_l4_l8_k9 G K (upd r 94 v24) h24)
  (K (.exit 4) (upd r 94 v24) h24)
def S73_l4_k7 (G : Hp) (K : Exit → Rg → Hp → Prop) (r : Rg) (h : Hp) : Prop :=
  opH Tryd.prog G (sv (Instr.loadAt 30 (r 9))) h fun v21 h21 =>
  opH Tryd.prog G (callFunc 21 #[(r 0), v21]) h21 fun v22 h22 =>
  opH Tryd.prog G (sv (Builtin.len_ #[22] 3 #[v22])) h22 fun v23 h23 =>
  loopP (S73_l4_l8 G) (upd (upd (upd (upd (upd r 89 (r 0)) 90 v21) 91 v22) 92 v23) 93 (.int .i64 0)) h23 (blockK 4 (blockK 3 (thenK (S73_l4_k6 G K) K)))
def S73_l4_k5 (G : Hp) (K : Exit → Rg → Hp → Prop) (r : Rg) (h : Hp) : Prop :=
  opH Tryd.prog G (sv (Instr.indexAt 23 (r 79) (r 81))) h fun v14 h14 =>
  opH Tryd.prog G (sv (Instr.loadAt 30 v14)) h14 fun v15 h15 =>
  opH Tryd.prog G (sv (Instr.alloc 30 true (.tuple #[]))) h15 fun v16 h16 =>
  opH Tryd.prog G (su (Instr.storeAt 30 v16 v15)) h16 fun v17 h17 =>
  opH Tryd.prog G (sv (Instr.loadAt 30 v16)) h17 fun v18 h18 =>
  opH Tryd.prog G (callFunc 23 #[(r 0), v18]) h18 fun v19 h19 =>
  opH Tryd.prog G (sv (Op.unary .not v19)) h19 fun v20 h20 =>
  cond v20
  (K .ret (upd (upd (upd (upd (upd (upd (upd (upd r 83 v14) 84 v15) 9 v16) 85 (r 0)) 86 v18) 87 v19) 88 v20) 4 (.bool false)) h20)
  (S73_l4_k7 G K (upd (upd (upd (upd (upd (upd (upd r 83 v14) 84 v15) 9 v16) 85 (r 0)) 86 v18) 87 v19) 88 v20) h20)
def S73_l4 (G : Hp) (r : Rg) (h : Hp) (K : Exit → Rg → Hp → Prop) : Prop :=
  opH Tryd.prog G (sv (binOp .lss 3 (r 81) (r 80))) h fun v12 h12 =>
  cond v12
  (S73_l4_k5 G K (upd r 82 v12) h12)
  (K (.exit 2) (upd r 82 v12) h12)
def S73_k2 (G : Hp) (K : Exit → Rg → Hp → Prop) (r : Rg) (h : Hp) : Prop :=
  opH Tryd.prog G (xNil (r 0)) h fun v6 h6 =>
  opH Tryd.prog G (sv (Instr.fieldAt 86 v6 2)) h6 fun v7 h7 =>
  opH Tryd.prog G (sv (Instr.loadAt 57 v7)) h7 fun v8 h8 =>
  opH Tryd.prog G (sv (Builtin.len_ #[57] 3 #[v8])) h8 fun v9 h9 =>
  opH Tryd.prog G (sv (Instr.makeSlice 101 v9 v9)) h9 fun v10 h10 =>
  opH Tryd.prog G (sv (Builtin.len_ #[23] 3 #[(r 1)])) h10 fun v11 h11 =>
  loopP (S73_l4 G) (upd (upd (upd (upd (upd (upd (upd (upd (upd (upd r 73 (r 0)) 74 v6) 75 v7) 76 v8) 77 v9) 78 v10) 7 v10) 79 (r 1)) 80 v11) 81 (.int .i64 0)) h11 (blockK 2 (thenK (S73_k3 G K) K))
def S73_l12_k14 (G : Hp) (K : Exit → Rg → Hp → Prop) (r : Rg) (h : Hp) : Prop :=
  opH Tryd.prog G (sv (binOp .add 3 (r 21) (.int .i64 1))) h fun v51 h51 =>
  K .normal (upd (upd r 72 v51) 21 v51) h51
def S73_l12_k16 (G : Hp) (K : Exit → Rg → Hp → Prop) (r : Rg) (h : Hp) : Prop :=
  opH Tryd.prog G (xNil (r 0)) h fun v86 h86 =>
  opH Tryd.prog G (sv (Instr.fieldAt 86 v86 2)) h86 fun v87 h87 =>
  opH Tryd.prog G (sv (Instr.loadAt 57 v87)) h87 fun v88 h88 =>
  opH Tryd.prog G (sv (Instr.indexAt 57 v88 (r 5))) h88 fun v89 h89 =>
  opH Tryd.prog G (su (Instr.storeAt 3 v89 (.int .i64 (-2)))) h89 fun v90 h90 =>
  S73_l12_k14 G K (upd (upd (upd (upd (upd (upd r 66 (r 0)) 67 v86) 68 v87) 69 v88) 70 (r 5)) 71 v89) h90
def S73_l12_k15 (G : Hp) (K : Exit → Rg → Hp → Prop) (r : Rg) (h : Hp) : Prop :=
  opH Tryd.prog G (xNil (r 0)) h fun v80 h80 =>
  opH Tryd.prog G (sv (Instr.fieldAt 86 v80 2)) h80 fun v81 h81 =>
  opH Tryd.prog G (sv (Instr.loadAt 57 v81)) h81 fun v82 h82 =>
  opH Tryd.prog G (sv (Instr.indexAt 57 v82 (r 5))) h82 fun v83 h83 =>
  opH Tryd.prog G (sv (Instr.loadAt 3 v83)) h83 fun v84 h84 =>
  opH Tryd.prog G (sv (binOp .gtr 3 v84 (.int .i64 0))) h84 fun v85 h85 =>
  cond v85
  (K .ret (upd (upd (upd (upd (upd (upd (upd (upd (upd r 58 (r 0)) 59 v80) 60 v81) 61 v82) 62 (r 5)) 63 v83) 64 v84) 65 v85) 4 (.bool false)) h85)
  (S73_l12_k16 G K (upd (upd (upd (upd (upd (upd (upd (upd r 58 (r 0)) 59 v80) 60 v81) 61 v82) 62 (r 5)) 63 v83) 64 v84) 65 v85) h85)
def S73_l12_k13 (G : Hp) (K : Exit → Rg → Hp → Prop) (r : Rg) (h : Hp) : Prop :=
  pureW Tryd.prog noHp noHp (xNil (r 0)) h fun v52 h52 =>
  pureW Tryd.prog noHp noHp (sv (Instr.fieldAt 86 v52 0)) h52 fun v53 h53 =>
  pureW Tryd.prog G h (sv (Instr.loadAt 3 v53)) h53 fun v54 h54 =>
  pureW Tryd.prog noHp noHp (sv (binOp .rem 3 (r 21) v54)) h54 fun v55 h55 =>
  pureW Tryd.prog noHp noHp (xNil (r 0)) h55 fun v56 h56 =>
  pureW Tryd.prog noHp noHp (sv (Instr.fieldAt 86 v56 0)) h56 fun v57 h57 =>
  pureW Tryd.prog G h (sv (Instr.loadAt 3 v57)) h57 fun v58 h58 =>
  pureW Tryd.prog noHp noHp (sv (binOp .quo 3 (r 21) v58)) h58 fun v59 h59 =>
  pureW Tryd.prog noHp noHp (sv (Instr.build 28 #[(0, v55), (1, v59)])) h59 fun v60 h60 =>
  pureW Tryd.prog noHp noHp (sv (Instr.build 30 #[(0, v60)])) h60 fun v61 h61 =>
  opH Tryd.prog G (sv (Instr.alloc 30 true (.tuple #[]))) h61 fun v62 h62 =>
  opH Tryd.prog G (su (Instr.storeAt 30 v62 v61)) h62 fun v63 h63 =>
  opH Tryd.prog G (xNil (r 0)) h63 fun v64 h64 =>
  opH Tryd.prog G (sv (Instr.fieldAt 86 v64 2)) h64 fun v65 h65 =>
  opH Tryd.prog G (sv (Instr.loadAt 57 v65)) h65 fun v66 h66 =>
  opH Tryd.prog G (sv (Instr.indexAt 57 v66 (r 21))) h66 fun v67 h67 =>
  opH Tryd.prog G (sv (Instr.loadAt 3 v67)) h67 fun v68 h68 =>
  opH Tryd.prog G (xEq .eql 3 (.tmp 0) (.const .nilFunc) v68 (.int .i64 (-1))) h68 fun v69 h69 =>
  gd (wantB v69 false) (fun K1 => K1 (r 0) h69) h69 fun v70 h70 =>
  gd (wantB v69 false) (opH Tryd.prog G (sv (Instr.loadAt 30 v62)) h70) h70 fun v71 h71 =>
  gd (wantB v69 false) (opH Tryd.prog G (callFunc 23 #[v70, v71]) h71) h71 fun v72 h72 =>
  opH Tryd.prog G (xPick v69 (.bool true) v72) h72 fun v73 h73 =>
  gd (wantB v73 false) (fun K1 => K1 (r 0) h73) h73 fun v74 h74 =>
  gd (wantB v73 false) (opH Tryd.prog G (sv (Instr.fieldAt 30 v62 0)) h74) h74 fun v75 h75 =>
  gd (wantB v73 false) (opH Tryd.prog G (sv (Instr.loadAt 28 v75)) h75) h75 fun v76 h76 =>
  gd (wantB v73 false) (opH Tryd.prog G (sv (Instr.build 30 #[(0, v76), (1, (.bool true))])) h76) h76 fun v77 h77 =>
  gd (wantB v73 false) (opH Tryd.prog G (callFunc 23 #[v74, v77]) h77) h77 fun v78 h78 =>
  opH Tryd.prog G (xPick v73 (.bool true) v78) h78 fun v79 h79 =>
  cond v79
  (S73_l12_k14 G K (upd (upd (upd (upd (upd (upd (upd (upd (upd (upd (upd (upd (upd (upd (upd (upd (upd (upd (upd (upd (upd (upd (upd (upd (upd (upd (upd (upd (upd (upd (upd (upd (upd (upd (upd (upd (upd r 23 (r 21)) 5 (r 21)) 24 (r 21)) 25 (r 0)) 26 v52) 27 v53) 28 v54) 29 v55) 30 (r 21)) 31 (r 0)) 32 v56) 33 v57) 34 v58) 35 v59) 36 v60) 37 v61) 6 v62) 38 (r 0)) 39 v64) 40 v65) 41 v66) 42 (r 21)) 43 v67) 44 v68) 45 v69) 46 v69) 47 v70) 48 v71) 49 v72) 50 v73) 51 v73) 52 v74) 53 v75) 54 v76) 55 v77) 56 v78) 57 v79) h79)
  (S73_l12_k15 G K (upd (upd (upd (upd (upd (upd (upd (upd (upd (upd (upd (upd (upd (upd (upd (upd (upd (upd (upd (upd (upd (upd (upd (upd (upd (upd (upd (upd (upd (upd (upd (upd (upd (upd (upd (upd (upd r 23 (r 21)) 5 (r 21)) 24 (r 21)) 25 (r 0)) 26 v52) 27 v53) 28 v54) 29 v55) 30 (r 21)) 31 (r 0)) 32 v56) 33 v57) 34 v58) 35 v59) 36 v60) 37 v61) 6 v62) 38 (r 0)) 39 v64) 40 v65) 41 v66) 42 (r 21)) 43 v67) 44 v68) 45 v69) 46 v69) 47 v70) 48 v71) 49 v72) 50 v73) 51 v73) 52 v74) 53 v75) 54 v76) 55 v77) 56 v78) 57 v79) h79)
def S73_l12 (G : Hp) (r : Rg) (h : Hp) (K : Exit → Rg → Hp → Prop) : Prop :=
  opH Tryd.prog G (sv (binOp .lss 3 (r 21) (r 20))) h fun v50 h50 =>
  cond v50
  (S73_l12_k13 G K (upd r 22 v50) h50)
  (K (.exit 0) (upd r 22 v50) h50)
def S73_k1 (G : Hp) (K : Exit → Rg → Hp → Prop) (r : Rg) (h : Hp) : Prop :=
  opH Tryd.prog G (xNil (r 0)) h fun v2 h2 =>
  opH Tryd.prog G (sv (Instr.fieldAt 86 v2 2)) h2 fun v3 h3 =>
  opH Tryd.prog G (sv (Instr.loadAt 57 v3)) h3 fun v4 h4 =>
  opH Tryd.prog G (sv (Builtin.len_ #[57] 3 #[v4])) h4 fun v5 h5 =>
  loopP (S73_l12 G) (upd (upd (upd (upd (upd (upd r 16 (r 0)) 17 v2) 18 v3) 19 v4) 20 v5) 21 (.int .i64 0)) h5 (blockK 0 (thenK (S73_k2 G K) K))
def S73 (G : Hp) (K : Exit → Rg → Hp → Prop) (r : Rg) (h : Hp) : Prop :=
  opH Tryd.prog G (sv (Builtin.len_ #[23] 3 #[(r 1)])) h fun v0 h0 =>
  opH Tryd.prog G (sv (binOp .gtr 3 v0 (.int .i64 8))) h0 fun v1 h1 =>
  cond v1
  (K .ret (upd (upd (upd (upd (upd r 4 (.bool false)) 13 (r 1)) 14 v0) 15 v1) 4 (.bool false)) h1)
  (S73_k1 G K (upd (upd (upd (upd r 4 (.bool false)) 13 (r 1)) 14 v0) 15 v1) h1)
theorem S73_eq (G : Hp) (K : Exit → Rg → Hp → Prop) (r : Rg) (h : Hp) : wpC Tryd.prog G 125 md73 true (Tryd.f73.body.getD .skip) r h K = S73 G K r h := by kernel_rfl
theorem enter73 {G : Hp} {h : Hp} {args : Array Value} {R : Value → Hp → Prop} (hn : args.size ≤ 125) (H : S73 G (retK Tryd.prog G [.tmp 4] R) (regs args) h) : HCalls Tryd.prog G 73 args h R :=
  HCalls.enter (md := md73) mixed Tryd.func73 rfl hn (by rw [← S73_eq] at H; exact H)

def md74 : Nat → Hint
  | _ => ⟨false, [], [], [], [], false⟩
def S74_k1 (G : Hp) (K : Exit → Rg → Hp → Prop) (r : Rg) (h : Hp) : Prop :=
  K .ret (upd r 6 (.bool true)) h
def S74_l2_k4 (G : Hp) (K : Exit → Rg → Hp → Prop) (r : Rg) (h : Hp) : Prop :=
  opH Tryd.prog G (sv (binOp .add 3 (r 22) (.int .i64 1))) h fun v8 h8 =>
  K .normal (upd (upd r 77 v8) 22 v8) h8
def S74_l2_l6_k8 (G : Hp) (K : Exit → Rg → Hp → Prop) (r : Rg) (h : Hp) : Prop :=
  opH Tryd.prog G (sv (binOp .add 3 (r 56) (.int .i64 1))) h fun v40 h40 =>
  K .normal (upd (upd r 76 v40) 56 v40) h40
def S74_l2_l6_k9 (G : Hp) (K : Exit → Rg → Hp → Prop) (r : Rg) (h : Hp) : Prop :=
  opH Tryd.prog G (su (Instr.mapUpdate 102 (r 8) (r 12) (.int .i64 1))) h fun v54 h54 =>
  S74_l2_l6_k8 G K (upd (upd r 74 (r 8)) 75 (r 12)) h54
def S74_l2_l6_k7 (G : Hp) (K : Exit → Rg → Hp → Prop) (r : Rg) (h : Hp) : Prop :=
  opH Tryd.prog G (sv (Instr.indexAt 57 (r 54) (r 56))) h fun v41 h41 =>
  opH Tryd.prog G (sv (Instr.loadAt 3 v41)) h41 fun v42 h42 =>
  opH Tryd.prog G (callFunc 57 #[v42, (.int .i64 1), (.int .i64 1000000000)]) h42 fun v43 h43 =>
  opH Tryd.prog G (sv (Op.unary .not v43)) h43 fun v44 h44 =>
  gd (wantB v44 false) (fun K1 => K1 (r 8) h44) h44 fun v45 h45 =>
  gd (wantB v44 false) (fun K1 => K1 v42 h45) h45 fun v46 h46 =>
  gd (wantB v44 false) (opH Tryd.prog G (sv (Instr.lookup 102 v45 v46 false)) h46) h46 fun v47 h47 =>
  gd (wantB v44 false) (opH Tryd.prog G (sv (binOp .gtr 3 v47 (.int .i64 0))) h47) h47 fun v48 h48 =>
  opH Tryd.prog G (xPick v44 (.bool true) v48) h48 fun v49 h49 =>
  gd (wantB v49 false) (fun K1 => K1 (r 8) h49) h49 fun v50 h50 =>
  gd (wantB v49 false) (opH Tryd.prog G (sv (Builtin.len_ #[102] 3 #[v50])) h50) h50 fun v51 h51 =>
  gd (wantB v49 false) (opH Tryd.prog G (xEq .eql 3 (.tmp 0) (.const .nilFunc) v51 (.int .i64 512)) h51) h51 fun v52 h52 =>
  opH Tryd.prog G (xPick v49 (.bool true) v52) h52 fun v53 h53 =>
  cond v53
  (K .ret (upd (upd (upd (upd (upd (upd (upd (upd (upd (upd (upd (upd (upd (upd (upd (upd (upd (upd r 58 v41) 59 v42) 12 v42) 60 v42) 61 v43) 62 v44) 63 v44) 64 v45) 65 v46) 66 v47) 67 v48) 68 v49) 69 v49) 70 v50) 71 v51) 72 v52) 73 v53) 6 (.bool false)) h53)
  (S74_l2_l6_k9 G K (upd (upd (upd (upd (upd (upd (upd (upd (upd (upd (upd (upd (upd (upd (upd (upd (upd r 58 v41) 59 v42) 12 v42) 60 v42) 61 v43) 62 v44) 63 v44) 64 v45) 65 v46) 66 v47) 67 v48) 68 v49) 69 v49) 70 v50) 71 v51) 72 v52) 73 v53) h53)
def S74_l2_l6 (G : Hp) (r : Rg) (h : Hp) (K : Exit → Rg → Hp → Prop) : Prop :=
  opH Tryd.prog G (sv (binOp .lss 3 (r 56) (r 55))) h fun v39 h39 =>
  cond v39
  (S74_l2_l6_k7 G K (upd r 57 v39) h39)
  (K (.exit 2) (upd r 57 v39) h39)
def S74_l2_k5 (G : Hp) (K : Exit → Rg → Hp → Prop) (r : Rg) (h : Hp) : Prop :=
  opH Tryd.prog G (sv (Instr.fieldAt 95 (r 10) 0)) h fun v31 h31 =>
  opH Tryd.prog G (sv (Instr.loadAt 28 v31)) h31 fun v32 h32 =>
  opH Tryd.prog G (callFunc 37 #[(r 0), v32]) h32 fun v33 h33 =>
  opH Tryd.prog G (sv (Instr.indexAt 101 (r 7) v33)) h33 fun v34 h34 =>
  opH Tryd.prog G (su (Instr.storeAt 4 v34 (.bool true))) h34 fun v35 h35 =>
  opH Tryd.prog G (sv (Instr.fieldAt 95 (r 10) 1)) h35 fun v36 h36 =>
  opH Tryd.prog G (sv (Instr.loadAt 57 v36)) h36 fun v37 h37 =>
  opH Tryd.prog G (sv (Builtin.len_ #[57] 3 #[v37])) h37 fun v38 h38 =>
  loopP (S74_l2_l6 G) (upd (upd (upd (upd (upd (upd (upd (upd (upd (upd r 47 (r 7)) 48 (r 0)) 49 v31) 50 v32) 51 v33) 52 v34) 53 v36) 54 v37) 55 v38) 56 (.int .i64 0)) h38 (blockK 2 (blockK 1 (thenK (S74_l2_k4 G K) K)))
def S74_l2_k3 (G : Hp) (K : Exit → Rg → Hp → Prop) (r : Rg) (h : Hp) : Prop :=
  opH Tryd.prog G (sv (Instr.indexAt 24 (r 20) (r 22))) h fun v9 h9 =>
  opH Tryd.prog G (sv (Instr.loadAt 95 v9)) h9 fun v10 h10 =>
  opH Tryd.prog G (sv (Instr.alloc 95 true (.tuple #[]))) h10 fun v11 h11 =>
  opH Tryd.prog G (su (Instr.storeAt 95 v11 v10)) h11 fun v12 h12 =>
  opH Tryd.prog G (sv (Instr.fieldAt 95 v11 0)) h12 fun v13 h13 =>
  opH Tryd.prog G (sv (Instr.loadAt 28 v13)) h13 fun v14 h14 =>
  opH Tryd.prog G (callFunc 35 #[(r 0), v14]) h14 fun v15 h15 =>
  opH Tryd.prog G (sv (Op.unary .not v15)) h15 fun v16 h16 =>
  gd (wantB v16 false) (fun K1 => K1 (r 7) h16) h16 fun v17 h17 =>
  gd (wantB v16 false) (fun K1 => K1 (r 0) h17) h17 fun v18 h18 =>
  gd (wantB v16 false) (opH Tryd.prog G (sv (Instr.fieldAt 95 v11 0)) h18) h18 fun v19 h19 =>
  gd (wantB v16 false) (opH Tryd.prog G (sv (Instr.loadAt 28 v19)) h19) h19 fun v20 h20 =>
  gd (wantB v16 false) (opH Tryd.prog G (callFunc 37 #[v18, v20]) h20) h20 fun v21 h21 =>
  gd (wantB v16 false) (opH Tryd.prog G (sv (Instr.indexAt 101 v17 v21)) h21) h21 fun v22 h22 =>
  gd (wantB v16 false) (opH Tryd.prog G (sv (Instr.loadAt 4 v22)) h22) h22 fun v23 h23 =>
  opH Tryd.prog G (xPick v16 (.bool true) v23) h23 fun v24 h24 =>
  gd (wantB v24 false) (opH Tryd.prog G (sv (Instr.fieldAt 95 v11 1)) h24) h24 fun v25 h25 =>
  gd (wantB v24 false) (opH Tryd.prog G (sv (Instr.loadAt 57 v25)) h25) h25 fun v26 h26 =>
  gd (wantB v24 false) (opH Tryd.prog G (sv (Builtin.len_ #[57] 3 #[v26])) h26) h26 fun v27 h27 =>
  gd (wantB v24 false) (fun K1 => K1 (r 2) h27) h27 fun v28 h28 =>
  gd (wantB v24 false) (opH Tryd.prog G (sv (binOp .gtr 3 v27 v28)) h28) h28 fun v29 h29 =>
  opH Tryd.prog G (xPick v24 (.bool true) v29) h29 fun v30 h30 =>
  cond v30
  (K .ret (upd (upd (upd (upd (upd (upd (upd (upd (upd (upd (upd (upd (upd (upd (upd (upd (upd (upd (upd (upd (upd (upd (upd (upd (upd r 24 v9) 25 v10) 10 v11) 26 (r 0)) 27 v13) 28 v14) 29 v15) 30 v16) 31 v16) 32 v17) 33 v18) 34 v19) 35 v20) 36 v21) 37 v22) 38 v23) 39 v24) 40 v24) 41 v25) 42 v26) 43 v27) 44 v28) 45 v29) 46 v30) 6 (.bool false)) h30)
  (S74_l2_k5 G K (upd (upd (upd (upd (upd (upd (upd (upd (upd (upd (upd (upd (upd (upd (upd (upd (upd (upd (upd (upd (upd (upd (upd (upd r 24 v9) 25 v10) 10 v11) 26 (r 0)) 27 v13) 28 v14) 29 v15) 30 v16) 31 v16) 32 v17) 33 v18) 34 v19) 35 v20) 36 v21) 37 v22) 38 v23) 39 v24) 40 v24) 41 v25) 42 v26) 43 v27) 44 v28) 45 v29) 46 v30) h30)
def S74_l2 (G : Hp) (r : Rg) (h : Hp) (K : Exit → Rg → Hp → Prop) : Prop :=
  opH Tryd.prog G (sv (binOp .lss 3 (r 22) (r 21))) h fun v7 h7 =>
  cond v7
  (S74_l2_k3 G K (upd r 23 v7) h7)
  (K (.exit 0) (upd r 23 v7) h7)
def S74 (G : Hp) (K : Exit → Rg → Hp → Prop) (r : Rg) (h : Hp) : Prop :=
  opH Tryd.prog G (xNil (r 0)) h fun v0 h0 =>
  opH Tryd.prog G (sv (Instr.fieldAt 86 v0 2)) h0 fun v1 h1 =>
  opH Tryd.prog G (sv (Instr.loadAt 57 v1)) h1 fun v2 h2 =>
  opH Tryd.prog G (sv (Builtin.len_ #[57] 3 #[v2])) h2 fun v3 h3 =>
  opH Tryd.prog G (sv (Instr.makeSlice 101 v3 v3)) h3 fun v4 h4 =>
  opH Tryd.prog G (sv (Instr.makeMap 102 none)) h4 fun v5 h5 =>
  opH Tryd.prog G (sv (Builtin.len_ #[24] 3 #[(r 1)])) h5 fun v6 h6 =>
  loopP (S74_l2 G) (upd (upd (upd (upd (upd (upd (upd (upd (upd (upd (upd (upd (upd r 6 (.bool false)) 13 (r 0)) 14 v0) 15 v1) 16 v2) 17 v3) 18 v4) 7 v4) 19 v5) 8 v5) 20 (r 1)) 21 v6) 22 (.int .i64 0)) h6 (blockK 0 (thenK (S74_k1 G K) K))
theorem S74_eq (G : Hp) (K : Exit → Rg → Hp → Prop) (r : Rg) (h : Hp) : wpC Tryd.prog G 78 md74 true (Tryd.f74.body.getD .skip) r h K = S74 G K r h := by kernel_rfl
theorem enter74 {G : Hp} {h : Hp} {args : Array Value} {R : Value → Hp → Prop} (hn : args.size ≤ 78) (H : S74 G (retK Tryd.prog G [.tmp 6] R) (regs args) h) : HCalls Tryd.prog G 74 args h R :=
  HCalls.enter (md := md74) mixed Tryd.func74 rfl hn (by rw [← S74_eq] at H; exact H)

def md76 : Nat → Hint
  | _ => ⟨false, [], [], [], [], false⟩
def S76_l1_k3 (G : Hp) (K : Exit → Rg → Hp → Prop) (r : Rg) (h : Hp) : Prop :=
  opH Tryd.prog G (sv (binOp .add 3 (r 8) (.int .i64 1))) h fun v1 h1 =>
  K .normal (upd (upd r 37 v1) 8 v1) h1
def S76_l1_l4_k5 (G : Hp) (K : Exit → Rg → Hp → Prop) (r : Rg) (h : Hp) : Prop :=
  opH Tryd.prog G (sv (binOp .add 3 (r 5) (.int .i64 1))) h fun v2 h2 =>
  K .normal (upd (upd (upd r 11 (r 5)) 12 v2) 5 v2) h2
def S76_l1_l4_k6 (G : Hp) (K : Exit → Rg → Hp → Prop) (r : Rg) (h : Hp) : Prop :=
  opH Tryd.prog G (sv (Instr.loadAt 30 (r 2))) h fun v16 h16 =>
  opH Tryd.prog G (sv (Instr.loadAt 30 (r 6))) h16 fun v17 h17 =>
  opH Tryd.prog G (sv (Instr.build 46 #[(0, (.int .i64 1)), (1, (r 4)), (2, (r 5)), (3, v16), (4, v17)])) h17 fun v18 h18 =>
  opH Tryd.prog G (xCallV (r 0) #[v18]) h18 fun v19 h19 =>
  opH Tryd.prog G (sv (Op.unary .not v19)) h19 fun v20 h20 =>
  cond v20
  (K .ret (upd (upd (upd (upd (upd (upd (upd (upd r 29 (r 0)) 30 (r 4)) 31 (r 5)) 32 v16) 33 v17) 34 v18) 35 v19) 36 v20) h20)
  (S76_l1_l4_k5 G K (upd (upd (upd (upd (upd (upd (upd (upd r 29 (r 0)) 30 (r 4)) 31 (r 5)) 32 v16) 33 v17) 34 v18) 35 v19) 36 v20) h20)
def S76_l1_l4 (G : Hp) (r : Rg) (h : Hp) (K : Exit → Rg → Hp → Prop) : Prop :=
  opH Tryd.prog G (sv (Instr.loadAt 31 (r 1))) h fun v3 h3 =>
  opH Tryd.prog G (sv (Instr.loadAt 30 (r 2))) h3 fun v4 h4 =>
  opH Tryd.prog G (callFunc 18 #[v3, v4, (r 4), (r 5)]) h4 fun v5 h5 =>
  opH Tryd.prog G (sv (Instr.extract v5 0)) h5 fun v6 h6 =>
  opH Tryd.prog G (sv (Instr.extract v5 1)) h6 fun v7 h7 =>
  opH Tryd.prog G (sv (Instr.alloc 30 true (.tuple #[]))) h7 fun v8 h8 =>
  opH Tryd.prog G (su (Instr.storeAt 30 v8 v6)) h8 fun v9 h9 =>
  opH Tryd.prog G (sv (Op.unary .not v7)) h9 fun v10 h10 =>
  gd (wantB v10 false) (opH Tryd.prog G (sv (Instr.loadAt 31 (r 1))) h10) h10 fun v11 h11 =>
  gd (wantB v10 false) (opH Tryd.prog G (sv (Instr.loadAt 30 v8)) h11) h11 fun v12 h12 =>
  gd (wantB v10 false) (opH Tryd.prog G (callFunc 23 #[v11, v12]) h12) h12 fun v13 h13 =>
  gd (wantB v10 false) (opH Tryd.prog G (sv (Op.unary .not v13)) h13) h13 fun v14 h14 =>
  opH Tryd.prog G (xPick v10 (.bool true) v14) h14 fun v15 h15 =>
  cond v15
  (K (.exit 1) (upd (upd (upd (upd (upd (upd (upd (upd (upd (upd (upd (upd (upd (upd (upd (upd (upd (upd r 14 v3) 15 v4) 16 (r 4)) 17 (r 5)) 18 v5) 13 v5) 19 v6) 20 v7) 6 v8) 7 v7) 21 v7) 22 v10) 23 v10) 24 v11) 25 v12) 26 v13) 27 v14) 28 v15) h15)
  (S76_l1_l4_k6 G K (upd (upd (upd (upd (upd (upd (upd (upd (upd (upd (upd (upd (upd (upd (upd (upd (upd (upd r 14 v3) 15 v4) 16 (r 4)) 17 (r 5)) 18 v5) 13 v5) 19 v6) 20 v7) 6 v8) 7 v7) 21 v7) 22 v10) 23 v10) 24 v11) 25 v12) 26 v13) 27 v14) 28 v15) h15)
def S76_l1_k2 (G : Hp) (K : Exit → Rg → Hp → Prop) (r : Rg) (h : Hp) : Prop :=
  loopP (S76_l1_l4 G) (upd (upd (upd r 10 (r 8)) 4 (r 8)) 5 (.int .i64 1)) h (blockK 2 (blockK 1 (thenK (S76_l1_k3 G K) K)))
def S76_l1 (G : Hp) (r : Rg) (h : Hp) (K : Exit → Rg → Hp → Prop) : Prop :=
  opH Tryd.prog G (sv (binOp .lss 3 (r 8) (.int .i64 4))) h fun v0 h0 =>
  cond v0
  (S76_l1_k2 G K (upd r 9 v0) h0)
  (K (.exit 0) (upd r 9 v0) h0)
def S76 (G : Hp) (K : Exit → Rg → Hp → Prop) (r : Rg) (h : Hp) : Prop :=
  loopP (S76_l1 G) (upd r 8 (.int .i64 0)) h (blockK 0 (scopeK K))
theorem S76_eq (G : Hp) (K : Exit → Rg → Hp → Prop) (r : Rg) (h : Hp) : wpC Tryd.prog G 38 md76 true (Tryd.f76.body.getD .skip) r h K = S76 G K r h := by kernel_rfl
theorem enter76 {G : Hp} {h : Hp} {args : Array Value} {R : Value → Hp → Prop} (hn : args.size ≤ 38) (H : S76 G (retK Tryd.prog G [] R) (regs args) h) : HCalls Tryd.prog G 76 args h R :=
  HCalls.enter (md := md76) mixed Tryd.func76 rfl hn (by rw [← S76_eq] at H; exact H)

def md77 : Nat → Hint
  | _ => ⟨false, [], [], [], [], false⟩
def S77 (G : Hp) (K : Exit → Rg → Hp → Prop) (r : Rg) (h : Hp) : Prop :=
  opH Tryd.prog G (sv (Instr.box 28 (r 0))) h fun v0 h0 =>
  opH Tryd.prog G (sv (Instr.loadAt 28 v0)) h0 fun v1 h1 =>
  opH Tryd.prog G (sv (Instr.fieldAt 28 v0 0)) h1 fun v2 h2 =>
  opH Tryd.prog G (sv (Instr.loadAt 3 v2)) h2 fun v3 h3 =>
  opH Tryd.prog G (sv (binOp .add 3 v3 (.int .i64 1))) h3 fun v4 h4 =>
  opH Tryd.prog G (sv (Instr.fieldAt 28 v0 1)) h4 fun v5 h5 =>
  opH Tryd.prog G (sv (Instr.loadAt 3 v5)) h5 fun v6 h6 =>
  opH Tryd.prog G (sv (Instr.build 28 #[(0, v4), (1, v6)])) h6 fun v7 h7 =>
  opH Tryd.prog G (sv (Instr.fieldAt 28 v0 0)) h7 fun v8 h8 =>
  opH Tryd.prog G (sv (Instr.loadAt 3 v8)) h8 fun v9 h9 =>
  opH Tryd.prog G (sv (Instr.fieldAt 28 v0 1)) h9 fun v10 h10 =>
  opH Tryd.prog G (sv (Instr.loadAt 3 v10)) h10 fun v11 h11 =>
  opH Tryd.prog G (sv (binOp .add 3 v11 (.int .i64 1))) h11 fun v12 h12 =>
  opH Tryd.prog G (sv (Instr.build 28 #[(0, v9), (1, v12)])) h12 fun v13 h13 =>
  opH Tryd.prog G (sv (Instr.fieldAt 28 v0 0)) h13 fun v14 h14 =>
  opH Tryd.prog G (sv (Instr.loadAt 3 v14)) h14 fun v15 h15 =>
  opH Tryd.prog G (sv (binOp .add 3 v15 (.int .i64 1))) h15 fun v16 h16 =>
  opH Tryd.prog G (sv (Instr.fieldAt 28 v0 1)) h16 fun v17 h17 =>
  opH Tryd.prog G (sv (Instr.loadAt 3 v17)) h17 fun v18 h18 =>
  opH Tryd.prog G (sv (binOp .add 3 v18 (.int .i64 1))) h18 fun v19 h19 =>
  opH Tryd.prog G (sv (Instr.build 28 #[(0, v16), (1, v19)])) h19 fun v20 h20 =>
  opH Tryd.prog G (sv (Instr.buildSlice 22 4 #[(0, v1), (1, v7), (2, v13), (3, v20)])) h20 fun v21 h21 =>
  K .ret (upd (upd (upd (upd (upd (upd (upd (upd (upd (upd (upd (upd (upd (upd (upd (upd (upd (upd (upd (upd (upd (upd (upd (upd r 1 v0) 2 (.slice none 0 0)) 3 v1) 4 v2) 5 v3) 6 v4) 7 v5) 8 v6) 9 v7) 10 v8) 11 v9) 12 v10) 13 v11) 14 v12) 15 v13) 16 v14) 17 v15) 18 v16) 19 v17) 20 v18) 21 v19) 22 v20) 23 v21) 2 v21) h21
theorem S77_eq (G : Hp) (K : Exit → Rg → Hp → Prop) (r : Rg) (h : Hp) : wpC Tryd.prog G 24 md77 true (Tryd.f77.body.getD .skip) r h K = S77 G K r h := by kernel_rfl
theorem enter77 {G : Hp} {h : Hp} {args : Array Value} {R : Value → Hp → Prop} (hn : args.size ≤ 24) (H : S77 G (retK Tryd.prog G [.tmp 2] R) (regs args) h) : HCalls Tryd.prog G 77 args h R :=
  HCalls.enter (md := md77) mixed Tryd.func77 rfl hn (by rw [← S77_eq] at H; exact H)

def md80 : Nat → Hint
  | _ => ⟨false, [], [], [], [], false⟩
def S80_k1 (G : Hp) (K : Exit → Rg → Hp → Prop) (r : Rg) (h : Hp) : Prop :=
  opH Tryd.prog G (sv (Builtin.len_ #[22] 3 #[(r 0)])) h fun v2 h2 =>
  opH Tryd.prog G (sv (Instr.makeSlice 22 v2 v2)) h2 fun v3 h3 =>
  opH Tryd.prog G (sv (Builtin.copy_ #[22, 22] 3 #[v3, (r 0)])) h3 fun v4 h4 =>
  K .ret (upd (upd (upd (upd (upd (upd (upd (upd (upd r 7 (r 0)) 8 v2) 9 v3) 3 v3) 10 v3) 11 (r 0)) 12 v4) 13 v3) 2 v3) h4
def S80 (G : Hp) (K : Exit → Rg → Hp → Prop) (r : Rg) (h : Hp) : Prop :=
  opH Tryd.prog G (sv (Builtin.len_ #[22] 3 #[(r 0)])) h fun v0 h0 =>
  opH Tryd.prog G (xEq .eql 3 (.tmp 0) (.const .nilFunc) v0 (.int .i64 0)) h0 fun v1 h1 =>
  cond v1
  (K .ret (upd (upd (upd (upd (upd r 2 (.slice none 0 0)) 4 (r 0)) 5 v0) 6 v1) 2 (.slice none 0 0)) h1)
  (S80_k1 G K (upd (upd (upd (upd r 2 (.slice none 0 0)) 4 (r 0)) 5 v0) 6 v1) h1)
theorem S80_eq (G : Hp) (K : Exit → Rg → Hp → Prop) (r : Rg) (h : Hp) : wpC Tryd.prog G 14 md80 true (Tryd.f80.body.getD .skip) r h K = S80 G K r h := by kernel_rfl
theorem enter80 {G : Hp} {h : Hp} {args : Array Value} {R : Value → Hp → Prop} (hn : args.size ≤ 14) (H : S80 G (retK Tryd.prog G [.tmp 2] R) (regs args) h) : HCalls Tryd.prog G 80 args h R :=
  HCalls.enter (md := md80) mixed Tryd.func80 rfl hn (by rw [← S80_eq] at H; exact H)

def md17 : Nat → Hint
  | _ => ⟨false, [], [], [], [], false⟩
def S17_k1 (G : Hp) (K : Exit → Rg → Hp → Prop) (r : Rg) (h : Hp) : Prop :=
  opH Tryd.prog G (sv (Instr.build 30 #[])) h fun v8 h8 =>
  opH Tryd.prog G (callFunc 26 #[(r 1), v8]) h8 fun v9 h9 =>
  opH Tryd.prog G (callFunc 25 #[v9, (.int .i64 9)]) h9 fun v10 h10 =>
  opH Tryd.prog G (sv (Builtin.len_ #[47] 3 #[v10])) h10 fun v11 h11 =>
  opH Tryd.prog G (xEq .eql 3 (.tmp 0) (.const .nilFunc) v11 (.int .i64 2)) h11 fun v12 h12 =>
  gd (wantB v12 true) (fun K1 => K1 v10 h12) h12 fun v13 h13 =>
  gd (wantB v12 true) (opH Tryd.prog G (sv (Instr.indexAt 47 v13 (.int .i64 0))) h13) h13 fun v14 h14 =>
  gd (wantB v12 true) (opH Tryd.prog G (sv (Instr.fieldAt 46 v14 0)) h14) h14 fun v15 h15 =>
  gd (wantB v12 true) (opH Tryd.prog G (sv (Instr.loadAt 3 v15)) h15) h15 fun v16 h16 =>
  gd (wantB v12 true) (opH Tryd.prog G (xEq .eql 3 (.tmp 0) (.const .nilFunc) v16 (.int .i64 1)) h16) h16 fun v17 h17 =>
  opH Tryd.prog G (xPick v12 v17 (.bool false)) h17 fun v18 h18 =>
  gd (wantB v18 true) (fun K1 => K1 v10 h18) h18 fun v19 h19 =>
  gd (wantB v18 true) (opH Tryd.prog G (sv (Instr.indexAt 47 v19 (.int .i64 0))) h19) h19 fun v20 h20 =>
  gd (wantB v18 true) (opH Tryd.prog G (sv (Instr.fieldAt 46 v20 1)) h20) h20 fun v21 h21 =>
  gd (wantB v18 true) (opH Tryd.prog G (sv (Instr.loadAt 3 v21)) h21) h21 fun v22 h22 =>
  gd (wantB v18 true) (opH Tryd.prog G (xEq .eql 3 (.tmp 0) (.const .nilFunc) v22 (.int .i64 2)) h22) h22 fun v23 h23 =>
  opH Tryd.prog G (xPick v18 v23 (.bool false)) h23 fun v24 h24 =>
  gd (wantB v24 true) (fun K1 => K1 v10 h24) h24 fun v25 h25 =>
  gd (wantB v24 true) (opH Tryd.prog G (sv (Instr.indexAt 47 v25 (.int .i64 0))) h25) h25 fun v26 h26 =>
  gd (wantB v24 true) (opH Tryd.prog G (sv (Instr.fieldAt 46 v26 2)) h26) h26 fun v27 h27 =>
  gd (wantB v24 true) (opH Tryd.prog G (sv (Instr.loadAt 3 v27)) h27) h27 fun v28 h28 =>
  gd (wantB v24 true) (opH Tryd.prog G (xEq .eql 3 (.tmp 0) (.const .nilFunc) v28 (.int .i64 1)) h28) h28 fun v29 h29 =>
  opH Tryd.prog G (xPick v24 v29 (.bool false)) h29 fun v30 h30 =>
  gd (wantB v30 true) (fun K1 => K1 v10 h30) h30 fun v31 h31 =>
  gd (wantB v30 true) (opH Tryd.prog G (sv (Instr.indexAt 47 v31 (.int .i64 1))) h31) h31 fun v32 h32 =>
  gd (wantB v30 true) (opH Tryd.prog G (sv (Instr.fieldAt 46 v32 0)) h32) h32 fun v33 h33 =>
  gd (wantB v30 true) (opH Tryd.prog G (sv (Instr.loadAt 3 v33)) h33) h33 fun v34 h34 =>
  gd (wantB v30 true) (opH Tryd.prog G (xEq .eql 3 (.tmp 0) (.const .nilFunc) v34 (.int .i64 2)) h34) h34 fun v35 h35 =>
  opH Tryd.prog G (xPick v30 v35 (.bool false)) h35 fun v36 h36 =>
  gd (wantB v36 true) (fun K1 => K1 (r 1) h36) h36 fun v37 h37 =>
  gd (wantB v36 true) (opH Tryd.prog G (sv (Instr.build 28 #[(0, (.int .i64 1)), (1, (.int .i64 1))])) h37) h37 fun v38 h38 =>
  gd (wantB v36 true) (opH Tryd.prog G (callFunc 37 #[v37, v38]) h38) h38 fun v39 h39 =>
  gd (wantB v36 true) (opH Tryd.prog G (xEq .eql 3 (.tmp 0) (.const .nilFunc) v39 (.int .i64 3)) h39) h39 fun v40 h40 =>
  opH Tryd.prog G (xPick v36 v40 (.bool false)) h40 fun v41 h41 =>
  K .ret (upd (upd (upd (upd (upd (upd (upd (upd (upd (upd (upd (upd (upd (upd (upd (upd (upd (upd (upd (upd (upd (upd (upd (upd (upd (upd (upd (upd (upd (upd (upd (upd (upd (upd (upd (upd (upd (upd (upd (upd (upd (upd (upd r 15 (r 1)) 16 v8) 17 v9) 18 v10) 3 v10) 19 v10) 20 v11) 21 v12) 22 v12) 23 v13) 24 v14) 25 v15) 26 v16) 27 v17) 28 v18) 29 v18) 30 v19) 31 v20) 32 v21) 33 v22) 34 v23) 35 v24) 36 v24) 37 v25) 38 v26) 39 v27) 40 v28) 41 v29) 42 v30) 43 v30) 44 v31) 45 v32) 46 v33) 47 v34) 48 v35) 49 v36) 50 v36) 51 v37) 52 v38) 53 v39) 54 v40) 55 v41) 0 v41) h41
def S17 (G : Hp) (K : Exit → Rg → Hp → Prop) (r : Rg) (h : Hp) : Prop :=
  opH Tryd.prog G (callFunc 29 #[]) h fun v0 h0 =>
  opH Tryd.prog G (callFunc 14 #[v0]) h0 fun v1 h1 =>
  opH Tryd.prog G (sv (Instr.extract v1 0)) h1 fun v2 h2 =>
  opH Tryd.prog G (sv (Instr.extract v1 1)) h2 fun v3 h3 =>
  opH Tryd.prog G (xEq .neq 32 (.tmp 0) (.const .nilFunc) v3 (.int .i64 0)) h3 fun v4 h4 =>
  gd (wantB v4 false) (fun K1 => K1 v2 h4) h4 fun v5 h5 =>
  gd (wantB v4 false) (opH Tryd.prog G (xEq .eql 31 (.tmp 0) (.const .nilFunc) v5 (.pointer none)) h5) h5 fun v6 h6 =>
  opH Tryd.prog G (xPick v4 (.bool true) v6) h6 fun v7 h7 =>
  cond v7
  (K .ret (upd (upd (upd (upd (upd (upd (upd (upd (upd (upd (upd (upd (upd (upd (upd r 0 (.bool false)) 5 v0) 6 v1) 4 v1) 7 v2) 8 v3) 1 v2) 2 v3) 9 v3) 10 v4) 11 v4) 12 v5) 13 v6) 14 v7) 0 (.bool false)) h7)
  (S17_k1 G K (upd (upd (upd (upd (upd (upd (upd (upd (upd (upd (upd (upd (upd (upd r 0 (.bool false)) 5 v0) 6 v1) 4 v1) 7 v2) 8 v3) 1 v2) 2 v3) 9 v3) 10 v4) 11 v4) 12 v5) 13 v6) 14 v7) h7)
theorem S17_eq (G : Hp) (K : Exit → Rg → Hp → Prop) (r : Rg) (h : Hp) : wpC Tryd.prog G 56 md17 true (Tryd.f17.body.getD .skip) r h K = S17 G K r h := by kernel_rfl
theorem enter17 {G : Hp} {h : Hp} {args : Array Value} {R : Value → Hp → Prop} (hn : args.size ≤ 56) (H : S17 G (retK Tryd.prog G [.tmp 0] R) (regs args) h) : HCalls Tryd.prog G 17 args h R :=
  HCalls.enter (md := md17) mixed Tryd.func17 rfl hn (by rw [← S17_eq] at H; exact H)

def md25 : Nat → Hint
  | _ => ⟨false, [], [], [], [], false⟩
def S25_k1 (G : Hp) (K : Exit → Rg → Hp → Prop) (r : Rg) (h : Hp) : Prop :=
  opH Tryd.prog G (xCallV (r 0) #[(.func (.func 60) #[] #[(r 5), (r 3)])]) h fun v6 h6 =>
  opH Tryd.prog G (sv (Instr.loadAt 47 (r 5))) h6 fun v7 h7 =>
  K .ret (upd (upd (upd (upd (upd r 12 (r 0)) 13 (.func (.func 60) #[] #[(r 5), (r 3)])) 14 v6) 15 v7) 4 v7) h7
def S25 (G : Hp) (K : Exit → Rg → Hp → Prop) (r : Rg) (h : Hp) : Prop :=
  opH Tryd.prog G (sv (Instr.box 3 (r 1))) h fun v0 h0 =>
  opH Tryd.prog G (sv (Instr.alloc 47 true (.tuple #[]))) h0 fun v1 h1 =>
  opH Tryd.prog G (xEq .eql 50 (.tmp 0) (.const .nilFunc) (r 0) .nilFunc) h1 fun v2 h2 =>
  gd (wantB v2 false) (opH Tryd.prog G (sv (Instr.loadAt 3 v0)) h2) h2 fun v3 h3 =>
  gd (wantB v2 false) (opH Tryd.prog G (sv (binOp .lss 3 v3 (.int .i64 1))) h3) h3 fun v4 h4 =>
  opH Tryd.prog G (xPick v2 (.bool true) v4) h4 fun v5 h5 =>
  cond v5
  (K .ret (upd (upd (upd (upd (upd (upd (upd (upd (upd (upd r 3 v0) 4 (.slice none 0 0)) 5 v1) 6 (r 0)) 7 v2) 8 v2) 9 v3) 10 v4) 11 v5) 4 (.slice none 0 0)) h5)
  (S25_k1 G K (upd (upd (upd (upd (upd (upd (upd (upd (upd r 3 v0) 4 (.slice none 0 0)) 5 v1) 6 (r 0)) 7 v2) 8 v2) 9 v3) 10 v4) 11 v5) h5)
theorem S25_eq (G : Hp) (K : Exit → Rg → Hp → Prop) (r : Rg) (h : Hp) : wpC Tryd.prog G 16 md25 true (Tryd.f25.body.getD .skip) r h K = S25 G K r h := by kernel_rfl
theorem enter25 {G : Hp} {h : Hp} {args : Array Value} {R : Value → Hp → Prop} (hn : args.size ≤ 16) (H : S25 G (retK Tryd.prog G [.tmp 4] R) (regs args) h) : HCalls Tryd.prog G 25 args h R :=
  HCalls.enter (md := md25) mixed Tryd.func25 rfl hn (by rw [← S25_eq] at H; exact H)

def md29 : Nat → Hint
  | _ => ⟨false, [], [], [], [], false⟩
def S29 (G : Hp) (K : Exit → Rg → Hp → Prop) (r : Rg) (h : Hp) : Prop :=
  opH Tryd.prog G (sv (Instr.alloc 26 true (.tuple #[]))) h fun v0 h0 =>
  opH Tryd.prog G (sv (Instr.build 26 #[(0, (.int .i64 2)), (1, (.int .i64 2)), (2, (.int .i64 1)), (7, (.int .i64 1)), (8, (.int .i64 1)), (9, (.int .i64 1)), (10, (.int .i64 1)), (11, (.int .i64 1)), (12, (.int .i64 1)), (13, (.int .i64 1)), (14, (.int .i64 1))])) h0 fun v1 h1 =>
  opH Tryd.prog G (su (Instr.storeAt 26 v0 v1)) h1 fun v2 h2 =>
  K .ret (upd (upd r 0 v0) 1 v1) h2
theorem S29_eq (G : Hp) (K : Exit → Rg → Hp → Prop) (r : Rg) (h : Hp) : wpC Tryd.prog G 2 md29 true (Tryd.f29.body.getD .skip) r h K = S29 G K r h := by kernel_rfl
theorem enter29 {G : Hp} {h : Hp} {args : Array Value} {R : Value → Hp → Prop} (hn : args.size ≤ 2) (H : S29 G (retK Tryd.prog G [.cell 0 26] R) (regs args) h) : HCalls Tryd.prog G 29 args h R :=
  HCalls.enter (md := md29) mixed Tryd.func29 rfl hn (by rw [← S29_eq] at H; exact H)

def md60 : Nat → Hint
  | _ => ⟨false, [], [], [], [], false⟩
def S60 (G : Hp) (K : Exit → Rg → Hp → Prop) (r : Rg) (h : Hp) : Prop :=
  opH Tryd.prog G (sv (Instr.box 46 (r 0))) h fun v0 h0 =>
  opH Tryd.prog G (sv (Instr.loadAt 47 (r 1))) h0 fun v1 h1 =>
  opH Tryd.prog G (sv (Instr.loadAt 46 v0)) h1 fun v2 h2 =>
  opH Tryd.prog G (sv (Instr.buildSlice 47 1 #[(0, v2)])) h2 fun v3 h3 =>
  opH Tryd.prog G (sv (Builtin.append_ #[47, 47] 47 #[v1, v3])) h3 fun v4 h4 =>
  opH Tryd.prog G (su (Instr.storeAt 47 (r 1) v4)) h4 fun v5 h5 =>
  opH Tryd.prog G (sv (Instr.loadAt 47 (r 1))) h5 fun v6 h6 =>
  opH Tryd.prog G (sv (Builtin.len_ #[47] 3 #[v6])) h6 fun v7 h7 =>
  opH Tryd.prog G (sv (Instr.loadAt 3 (r 2))) h7 fun v8 h8 =>
  opH Tryd.prog G (sv (binOp .lss 3 v7 v8)) h8 fun v9 h9 =>
  K .ret (upd (upd (upd (upd (upd (upd (upd (upd (upd (upd (upd r 3 v0) 4 (.bool false)) 5 v1) 6 v2) 7 v3) 8 v4) 9 v6) 10 v7) 11 v8) 12 v9) 4 v9) h9
theorem S60_eq (G : Hp) (K : Exit → Rg → Hp → Prop) (r : Rg) (h : Hp) : wpC Tryd.prog G 13 md60 true (Tryd.f60.body.getD .skip) r h K = S60 G K r h := by kernel_rfl
theorem enter60 {G : Hp} {h : Hp} {args : Array Value} {R : Value → Hp → Prop} (hn : args.size ≤ 13) (H : S60 G (retK Tryd.prog G [.tmp 4] R) (regs args) h) : HCalls Tryd.prog G 60 args h R :=
  HCalls.enter (md := md60) mixed Tryd.func60 rfl hn (by rw [← S60_eq] at H; exact H)

end Go.Proofs.YtnpdploihlgcgaaDoor

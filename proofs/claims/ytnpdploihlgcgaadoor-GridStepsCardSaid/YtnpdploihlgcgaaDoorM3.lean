/- Texts of the proof, one behind the other. -/
import Derived.Test.YtnpdploihlgcgaaDoorM1
import Derived.Test.YtnpdploihlgcgaaDoorM2
import Derived.Test.YtnpdploihlgcgaaDoorH3
section
/- A text of the proofs. -/
set_option linter.unusedVariables false
set_option maxRecDepth 100000
namespace Go.Proofs.YtnpdploihlgcgaaDoor
open Go Go.HL
def md14 : Nat → Hint
  | _ => ⟨false, [], [], [], [], false⟩
def S14_k1 (G : Hp) (K : Exit → Rg → Hp → Prop) (r : Rg) (h : Hp) : Prop :=
  K .ret (upd (upd (upd r 9 (r 4)) 2 (r 4)) 3 (.int .i64 0)) h
def S14 (G : Hp) (K : Exit → Rg → Hp → Prop) (r : Rg) (h : Hp) : Prop :=
  opH Tryd.prog G (sv (Instr.box 26 (r 0))) h fun v0 h0 =>
  opH Tryd.prog G (sv (Instr.loadAt 26 v0)) h0 fun v1 h1 =>
  opH Tryd.prog G (callFunc 49 #[v1]) h1 fun v2 h2 =>
  opH Tryd.prog G (xEq .eql 31 (.tmp 0) (.const .nilFunc) v2 (.pointer none)) h2 fun v3 h3 =>
  cond v3
  (K .ret (upd (upd (upd (upd (upd (upd (upd (upd (upd (upd r 1 v0) 2 (.pointer none)) 3 (.int .i64 0)) 5 v1) 6 v2) 4 v2) 7 v2) 8 v3) 2 (.pointer none)) 3 (.int .i64 5)) h3)
  (S14_k1 G K (upd (upd (upd (upd (upd (upd (upd (upd r 1 v0) 2 (.pointer none)) 3 (.int .i64 0)) 5 v1) 6 v2) 4 v2) 7 v2) 8 v3) h3)
theorem S14_eq (G : Hp) (K : Exit → Rg → Hp → Prop) (r : Rg) (h : Hp) : wpC Tryd.prog G 10 md14 true (Tryd.f14.body.getD .skip) r h K = S14 G K r h := by kernel_rfl
theorem enter14 {G : Hp} {h : Hp} {args : Array Value} {R : Value → Hp → Prop} (hn : args.size ≤ 10) (H : S14 G (retK Tryd.prog G [.tmp 2, .tmp 3] R) (regs args) h) : HCalls Tryd.prog G 14 args h R :=
  HCalls.enter (md := md14) mixed Tryd.func14 rfl hn (by rw [← S14_eq] at H; exact H)

def md18 : Nat → Hint
  | 3 => ⟨false, [0, 1, 3, 0, 0, 16, 48, 112, 248, 511, 1023, 2047, 4095], [.pureN, .pureN, .pureM, .pureN, .pureN, .pureN, .pureN, .pureM, .pureN, .pureN, .pureN, .pureN, .store], [.pureN, .pureN, .pureM, .pureN, .pureN, .pureN, .pureN, .pureM, .pureN, .pureN, .pureN, .pureN, .store], [false, false, false, false, false, false, false, false, false, false, false, false, false], false⟩
  | 4 => ⟨false, [0, 1, 3, 0, 0, 16, 48, 112, 248, 511, 1023, 2047, 4095], [.pureN, .pureN, .pureM, .pureN, .pureN, .pureN, .pureN, .pureM, .pureN, .pureN, .pureN, .pureN, .store], [.pureN, .pureN, .pureM, .pureN, .pureN, .pureN, .pureN, .pureM, .pureN, .pureN, .pureN, .pureN, .store], [false, false, false, false, false, false, false, false, false, false, false, false, false], false⟩
  | _ => ⟨false, [], [], [], [], false⟩
def S18_k1 (G : Hp) (K : Exit → Rg → Hp → Prop) (r : Rg) (h : Hp) : Prop :=
  pureW Tryd.prog noHp noHp (sv (Instr.fieldAt 30 (r 5) 0)) h fun v8 h8 =>
  pureW Tryd.prog noHp noHp (sv (Instr.fieldAt 28 v8 0)) h8 fun v9 h9 =>
  pureW Tryd.prog G h (sv (Instr.loadAt 3 v9)) h9 fun v10 h10 =>
  pureW Tryd.prog noHp noHp (sv (Instr.indexAt 81 (.pointer (some ⟨0, 0, none⟩)) (r 2))) h10 fun v11 h11 =>
  pureW Tryd.prog noHp noHp (sv (Instr.fieldAt 28 v11 0)) h11 fun v12 h12 =>
  pureW Tryd.prog G h (sv (Instr.loadAt 3 v12)) h12 fun v13 h13 =>
  pureW Tryd.prog noHp noHp (sv (binOp .mul 3 (r 3) v13)) h13 fun v14 h14 =>
  pureW Tryd.prog noHp noHp (sv (binOp .add 3 v10 v14)) h14 fun v15 h15 =>
  pureW Tryd.prog noHp noHp (sv (Instr.fieldAt 30 (r 5) 0)) h15 fun v16 h16 =>
  pureW Tryd.prog noHp noHp (sv (Instr.fieldAt 28 v16 0)) h16 fun v17 h17 =>
  opH Tryd.prog G (su (Instr.storeAt 3 v17 v15)) h17 fun v18 h18 =>
  pureW Tryd.prog noHp noHp (sv (Instr.fieldAt 30 (r 5) 0)) h18 fun v19 h19 =>
  pureW Tryd.prog noHp noHp (sv (Instr.fieldAt 28 v19 1)) h19 fun v20 h20 =>
  pureW Tryd.prog G h18 (sv (Instr.loadAt 3 v20)) h20 fun v21 h21 =>
  pureW Tryd.prog noHp noHp (sv (Instr.indexAt 81 (.pointer (some ⟨0, 0, none⟩)) (r 2))) h21 fun v22 h22 =>
  pureW Tryd.prog noHp noHp (sv (Instr.fieldAt 28 v22 1)) h22 fun v23 h23 =>
  pureW Tryd.prog G h18 (sv (Instr.loadAt 3 v23)) h23 fun v24 h24 =>
  pureW Tryd.prog noHp noHp (sv (binOp .mul 3 (r 3) v24)) h24 fun v25 h25 =>
  pureW Tryd.prog noHp noHp (sv (binOp .add 3 v21 v25)) h25 fun v26 h26 =>
  pureW Tryd.prog noHp noHp (sv (Instr.fieldAt 30 (r 5) 0)) h26 fun v27 h27 =>
  pureW Tryd.prog noHp noHp (sv (Instr.fieldAt 28 v27 1)) h27 fun v28 h28 =>
  opH Tryd.prog G (su (Instr.storeAt 3 v28 v26)) h28 fun v29 h29 =>
  opH Tryd.prog G (sv (Instr.loadAt 30 (r 5))) h29 fun v30 h30 =>
  opH Tryd.prog G (su (Instr.storeAt 30 (r 8) v30)) h30 fun v31 h31 =>
  K .ret (upd (upd (upd (upd (upd (upd (upd (upd (upd (upd (upd (upd (upd (upd (upd (upd (upd (upd (upd (upd (upd (upd (upd (upd (upd (upd r 19 v8) 20 v9) 21 v10) 22 (r 3)) 23 (r 2)) 24 v11) 25 v12) 26 v13) 27 v14) 28 v15) 29 v16) 30 v17) 31 v19) 32 v20) 33 v21) 34 (r 3)) 35 (r 2)) 36 v22) 37 v23) 38 v24) 39 v25) 40 v26) 41 v27) 42 v28) 43 v30) 9 (.bool true)) h31
def S18 (G : Hp) (K : Exit → Rg → Hp → Prop) (r : Rg) (h : Hp) : Prop :=
  opH Tryd.prog G (sv (Instr.box 30 (r 1))) h fun v0 h0 =>
  opH Tryd.prog G (sv (Instr.alloc 30 true (.tuple #[]))) h0 fun v1 h1 =>
  opH Tryd.prog G (callFunc 57 #[(r 3), (.int .i64 0), (.int .i64 16)]) h1 fun v2 h2 =>
  opH Tryd.prog G (sv (Op.unary .not v2)) h2 fun v3 h3 =>
  gd (wantB v3 false) (fun K1 => K1 (r 2) h3) h3 fun v4 h4 =>
  gd (wantB v3 false) (opH Tryd.prog G (callFunc 57 #[v4, (.int .i64 0), (.int .i64 3)]) h4) h4 fun v5 h5 =>
  gd (wantB v3 false) (opH Tryd.prog G (sv (Op.unary .not v5)) h5) h5 fun v6 h6 =>
  opH Tryd.prog G (xPick v3 (.bool true) v6) h6 fun v7 h7 =>
  cond v7
  (opH Tryd.prog G (sv (Instr.build 30 #[])) h7 fun v32 h32 =>
  opH Tryd.prog G (su (Instr.storeAt 30 v1 v32)) h32 fun v33 h33 =>
  K .ret (upd (upd (upd (upd (upd (upd (upd (upd (upd (upd (upd (upd (upd r 5 v0) 8 v1) 9 (.bool false)) 10 (r 3)) 11 v2) 12 v3) 13 v3) 14 v4) 15 v5) 16 v6) 17 v7) 18 v32) 9 (.bool false)) h33)
  (S18_k1 G K (upd (upd (upd (upd (upd (upd (upd (upd (upd (upd (upd r 5 v0) 8 v1) 9 (.bool false)) 10 (r 3)) 11 v2) 12 v3) 13 v3) 14 v4) 15 v5) 16 v6) 17 v7) h7)
theorem S18_eq (G : Hp) (K : Exit → Rg → Hp → Prop) (r : Rg) (h : Hp) : wpC Tryd.prog G 44 md18 true (Tryd.f18.body.getD .skip) r h K = S18 G K r h := by kernel_rfl
theorem enter18 {G : Hp} {h : Hp} {args : Array Value} {R : Value → Hp → Prop} (hn : args.size ≤ 44) (H : S18 G (retK Tryd.prog G [.cell 8 30, .tmp 9] R) (regs args) h) : HCalls Tryd.prog G 18 args h R :=
  HCalls.enter (md := md18) mixed Tryd.func18 rfl hn (by rw [← S18_eq] at H; exact H)

def md21 : Nat → Hint
  | _ => ⟨false, [], [], [], [], false⟩
def S21_k1 (G : Hp) (K : Exit → Rg → Hp → Prop) (r : Rg) (h : Hp) : Prop :=
  opH Tryd.prog G (sv (Instr.fieldAt 30 (r 3) 0)) h fun v7 h7 =>
  opH Tryd.prog G (sv (Instr.loadAt 28 v7)) h7 fun v8 h8 =>
  opH Tryd.prog G (sv (Instr.fieldAt 30 (r 3) 0)) h8 fun v9 h9 =>
  opH Tryd.prog G (sv (Instr.fieldAt 28 v9 0)) h9 fun v10 h10 =>
  opH Tryd.prog G (sv (Instr.loadAt 3 v10)) h10 fun v11 h11 =>
  opH Tryd.prog G (sv (Instr.fieldAt 28 (r 5) 0)) h11 fun v12 h12 =>
  opH Tryd.prog G (sv (Instr.loadAt 3 v12)) h12 fun v13 h13 =>
  opH Tryd.prog G (sv (binOp .add 3 v11 v13)) h13 fun v14 h14 =>
  opH Tryd.prog G (sv (Instr.fieldAt 30 (r 3) 0)) h14 fun v15 h15 =>
  opH Tryd.prog G (sv (Instr.fieldAt 28 v15 1)) h15 fun v16 h16 =>
  opH Tryd.prog G (sv (Instr.loadAt 3 v16)) h16 fun v17 h17 =>
  opH Tryd.prog G (sv (Instr.fieldAt 28 (r 5) 1)) h17 fun v18 h18 =>
  opH Tryd.prog G (sv (Instr.loadAt 3 v18)) h18 fun v19 h19 =>
  opH Tryd.prog G (sv (binOp .add 3 v17 v19)) h19 fun v20 h20 =>
  opH Tryd.prog G (sv (Instr.build 28 #[(0, v14), (1, v20)])) h20 fun v21 h21 =>
  opH Tryd.prog G (sv (Instr.buildSlice 22 2 #[(0, v8), (1, v21)])) h21 fun v22 h22 =>
  K .ret (upd (upd (upd (upd (upd (upd (upd (upd (upd (upd (upd (upd (upd (upd (upd (upd (upd r 12 v7) 13 v8) 14 v9) 15 v10) 16 v11) 17 v12) 18 v13) 19 v14) 20 v15) 21 v16) 22 v17) 23 v18) 24 v19) 25 v20) 26 v21) 27 v22) 4 v22) h22
def S21 (G : Hp) (K : Exit → Rg → Hp → Prop) (r : Rg) (h : Hp) : Prop :=
  opH Tryd.prog G (sv (Instr.box 30 (r 1))) h fun v0 h0 =>
  opH Tryd.prog G (sv (Instr.indexAt 81 (.pointer (some ⟨0, 0, none⟩)) (.int .i64 1))) h0 fun v1 h1 =>
  opH Tryd.prog G (sv (Instr.loadAt 28 v1)) h1 fun v2 h2 =>
  opH Tryd.prog G (sv (Instr.alloc 28 true (.tuple #[]))) h2 fun v3 h3 =>
  opH Tryd.prog G (su (Instr.storeAt 28 v3 v2)) h3 fun v4 h4 =>
  opH Tryd.prog G (sv (Instr.fieldAt 30 v0 1)) h4 fun v5 h5 =>
  opH Tryd.prog G (sv (Instr.loadAt 4 v5)) h5 fun v6 h6 =>
  cond v6
  (opH Tryd.prog G (sv (Instr.indexAt 81 (.pointer (some ⟨0, 0, none⟩)) (.int .i64 2))) h6 fun v23 h23 =>
  opH Tryd.prog G (sv (Instr.loadAt 28 v23)) h23 fun v24 h24 =>
  opH Tryd.prog G (su (Instr.storeAt 28 v3 v24)) h24 fun v25 h25 =>
  S21_k1 G K (upd (upd (upd (upd (upd (upd (upd (upd (upd r 3 v0) 4 (.slice none 0 0)) 6 v1) 7 v2) 5 v3) 8 v5) 9 v6) 10 v23) 11 v24) h25)
  (S21_k1 G K (upd (upd (upd (upd (upd (upd (upd r 3 v0) 4 (.slice none 0 0)) 6 v1) 7 v2) 5 v3) 8 v5) 9 v6) h6)
theorem S21_eq (G : Hp) (K : Exit → Rg → Hp → Prop) (r : Rg) (h : Hp) : wpC Tryd.prog G 28 md21 true (Tryd.f21.body.getD .skip) r h K = S21 G K r h := by kernel_rfl
theorem enter21 {G : Hp} {h : Hp} {args : Array Value} {R : Value → Hp → Prop} (hn : args.size ≤ 28) (H : S21 G (retK Tryd.prog G [.tmp 4] R) (regs args) h) : HCalls Tryd.prog G 21 args h R :=
  HCalls.enter (md := md21) mixed Tryd.func21 rfl hn (by rw [← S21_eq] at H; exact H)

def md23 : Nat → Hint
  | _ => ⟨false, [], [], [], [], false⟩
def S23 (G : Hp) (K : Exit → Rg → Hp → Prop) (r : Rg) (h : Hp) : Prop :=
  opH Tryd.prog G (sv (Instr.box 30 (r 1))) h fun v0 h0 =>
  opH Tryd.prog G (sv (Instr.loadAt 30 v0)) h0 fun v1 h1 =>
  opH Tryd.prog G (callFunc 21 #[(r 0), v1]) h1 fun v2 h2 =>
  opH Tryd.prog G (sv (Instr.indexAt 22 v2 (.int .i64 0))) h2 fun v3 h3 =>
  opH Tryd.prog G (sv (Instr.loadAt 28 v3)) h3 fun v4 h4 =>
  opH Tryd.prog G (callFunc 31 #[(r 0), v4]) h4 fun v5 h5 =>
  gd (wantB v5 true) (fun K1 => K1 (r 0) h5) h5 fun v6 h6 =>
  gd (wantB v5 true) (fun K1 => K1 v2 h6) h6 fun v7 h7 =>
  gd (wantB v5 true) (opH Tryd.prog G (sv (Instr.indexAt 22 v7 (.int .i64 1))) h7) h7 fun v8 h8 =>
  gd (wantB v5 true) (opH Tryd.prog G (sv (Instr.loadAt 28 v8)) h8) h8 fun v9 h9 =>
  gd (wantB v5 true) (opH Tryd.prog G (callFunc 31 #[v6, v9]) h9) h9 fun v10 h10 =>
  opH Tryd.prog G (xPick v5 v10 (.bool false)) h10 fun v11 h11 =>
  K .ret (upd (upd (upd (upd (upd (upd (upd (upd (upd (upd (upd (upd (upd (upd (upd (upd (upd (upd (upd r 3 v0) 4 (.bool false)) 6 (r 0)) 7 v1) 8 v2) 5 v2) 9 (r 0)) 10 v2) 11 v3) 12 v4) 13 v5) 14 v5) 15 v6) 16 v7) 17 v8) 18 v9) 19 v10) 20 v11) 4 v11) h11
theorem S23_eq (G : Hp) (K : Exit → Rg → Hp → Prop) (r : Rg) (h : Hp) : wpC Tryd.prog G 21 md23 true (Tryd.f23.body.getD .skip) r h K = S23 G K r h := by kernel_rfl
theorem enter23 {G : Hp} {h : Hp} {args : Array Value} {R : Value → Hp → Prop} (hn : args.size ≤ 21) (H : S23 G (retK Tryd.prog G [.tmp 4] R) (regs args) h) : HCalls Tryd.prog G 23 args h R :=
  HCalls.enter (md := md23) mixed Tryd.func23 rfl hn (by rw [← S23_eq] at H; exact H)

def md26 : Nat → Hint
  | _ => ⟨false, [], [], [], [], false⟩
def S26 (G : Hp) (K : Exit → Rg → Hp → Prop) (r : Rg) (h : Hp) : Prop :=
  opH Tryd.prog G (sv (Instr.box 31 (r 0))) h fun v0 h0 =>
  opH Tryd.prog G (sv (Instr.box 30 (r 1))) h0 fun v1 h1 =>
  K .ret (upd (upd (upd (upd (upd r 2 v0) 3 v1) 4 .nilFunc) 5 (.func (.func 61) #[] #[v0, v1])) 4 (.func (.func 61) #[] #[v0, v1])) h1
theorem S26_eq (G : Hp) (K : Exit → Rg → Hp → Prop) (r : Rg) (h : Hp) : wpC Tryd.prog G 6 md26 true (Tryd.f26.body.getD .skip) r h K = S26 G K r h := by kernel_rfl
theorem enter26 {G : Hp} {h : Hp} {args : Array Value} {R : Value → Hp → Prop} (hn : args.size ≤ 6) (H : S26 G (retK Tryd.prog G [.tmp 4] R) (regs args) h) : HCalls Tryd.prog G 26 args h R :=
  HCalls.enter (md := md26) mixed Tryd.func26 rfl hn (by rw [← S26_eq] at H; exact H)

def md27 : Nat → Hint
  | _ => ⟨false, [], [], [], [], false⟩
def S27 (G : Hp) (K : Exit → Rg → Hp → Prop) (r : Rg) (h : Hp) : Prop :=
  opH Tryd.prog G (sv (Instr.box 46 (r 1))) h fun v0 h0 =>
  opH Tryd.prog G (sv (Instr.loadAt 46 v0)) h0 fun v1 h1 =>
  opH Tryd.prog G (callFunc 63 #[(r 0), v1]) h1 fun v2 h2 =>
  opH Tryd.prog G (sv (Instr.extract v2 0)) h2 fun v3 h3 =>
  opH Tryd.prog G (sv (Instr.extract v2 1)) h3 fun v4 h4 =>
  K .ret (upd (upd (upd (upd (upd (upd (upd (upd (upd (upd (upd (upd r 3 v0) 4 (.bool false)) 8 (r 0)) 9 v1) 10 v2) 7 v2) 11 v3) 12 v4) 5 v3) 6 v4) 13 v4) 4 v4) h4
theorem S27_eq (G : Hp) (K : Exit → Rg → Hp → Prop) (r : Rg) (h : Hp) : wpC Tryd.prog G 14 md27 true (Tryd.f27.body.getD .skip) r h K = S27 G K r h := by kernel_rfl
theorem enter27 {G : Hp} {h : Hp} {args : Array Value} {R : Value → Hp → Prop} (hn : args.size ≤ 14) (H : S27 G (retK Tryd.prog G [.tmp 4] R) (regs args) h) : HCalls Tryd.prog G 27 args h R :=
  HCalls.enter (md := md27) mixed Tryd.func27 rfl hn (by rw [← S27_eq] at H; exact H)

def md31 : Nat → Hint
  | _ => ⟨false, [], [], [], [], false⟩
def S31 (G : Hp) (K : Exit → Rg → Hp → Prop) (r : Rg) (h : Hp) : Prop :=
  opH Tryd.prog G (sv (Instr.box 28 (r 1))) h fun v0 h0 =>
  opH Tryd.prog G (sv (Instr.loadAt 28 v0)) h0 fun v1 h1 =>
  opH Tryd.prog G (callFunc 37 #[(r 0), v1]) h1 fun v2 h2 =>
  opH Tryd.prog G (sv (binOp .geq 3 v2 (.int .i64 0))) h2 fun v3 h3 =>
  gd (wantB v3 true) (fun K1 => K1 (r 0) h3) h3 fun v4 h4 =>
  gd (wantB v3 true) (opH Tryd.prog G (xNil v4) h4) h4 fun v5 h5 =>
  gd (wantB v3 true) (opH Tryd.prog G (sv (Instr.fieldAt 86 v5 2)) h5) h5 fun v6 h6 =>
  gd (wantB v3 true) (opH Tryd.prog G (sv (Instr.loadAt 57 v6)) h6) h6 fun v7 h7 =>
  gd (wantB v3 true) (fun K1 => K1 v2 h7) h7 fun v8 h8 =>
  gd (wantB v3 true) (opH Tryd.prog G (sv (Instr.indexAt 57 v7 v8)) h8) h8 fun v9 h9 =>
  gd (wantB v3 true) (opH Tryd.prog G (sv (Instr.loadAt 3 v9)) h9) h9 fun v10 h10 =>
  gd (wantB v3 true) (opH Tryd.prog G (xEq .neq 3 (.tmp 0) (.const .nilFunc) v10 (.int .i64 (-1))) h10) h10 fun v11 h11 =>
  opH Tryd.prog G (xPick v3 v11 (.bool false)) h11 fun v12 h12 =>
  K .ret (upd (upd (upd (upd (upd (upd (upd (upd (upd (upd (upd (upd (upd (upd (upd (upd (upd (upd (upd r 3 v0) 4 (.bool false)) 6 (r 0)) 7 v1) 8 v2) 5 v2) 9 v2) 10 v3) 11 v3) 12 v4) 13 v5) 14 v6) 15 v7) 16 v8) 17 v9) 18 v10) 19 v11) 20 v12) 4 v12) h12
theorem S31_eq (G : Hp) (K : Exit → Rg → Hp → Prop) (r : Rg) (h : Hp) : wpC Tryd.prog G 21 md31 true (Tryd.f31.body.getD .skip) r h K = S31 G K r h := by kernel_rfl
theorem enter31 {G : Hp} {h : Hp} {args : Array Value} {R : Value → Hp → Prop} (hn : args.size ≤ 21) (H : S31 G (retK Tryd.prog G [.tmp 4] R) (regs args) h) : HCalls Tryd.prog G 31 args h R :=
  HCalls.enter (md := md31) mixed Tryd.func31 rfl hn (by rw [← S31_eq] at H; exact H)

def md35 : Nat → Hint
  | _ => ⟨false, [], [], [], [], false⟩
def S35 (G : Hp) (K : Exit → Rg → Hp → Prop) (r : Rg) (h : Hp) : Prop :=
  opH Tryd.prog G (sv (Instr.box 28 (r 1))) h fun v0 h0 =>
  opH Tryd.prog G (sv (Instr.loadAt 28 v0)) h0 fun v1 h1 =>
  opH Tryd.prog G (callFunc 37 #[(r 0), v1]) h1 fun v2 h2 =>
  opH Tryd.prog G (sv (binOp .geq 3 v2 (.int .i64 0))) h2 fun v3 h3 =>
  gd (wantB v3 true) (fun K1 => K1 (r 0) h3) h3 fun v4 h4 =>
  gd (wantB v3 true) (opH Tryd.prog G (xNil v4) h4) h4 fun v5 h5 =>
  gd (wantB v3 true) (opH Tryd.prog G (sv (Instr.fieldAt 86 v5 2)) h5) h5 fun v6 h6 =>
  gd (wantB v3 true) (opH Tryd.prog G (sv (Instr.loadAt 57 v6)) h6) h6 fun v7 h7 =>
  gd (wantB v3 true) (fun K1 => K1 v2 h7) h7 fun v8 h8 =>
  gd (wantB v3 true) (opH Tryd.prog G (sv (Instr.indexAt 57 v7 v8)) h8) h8 fun v9 h9 =>
  gd (wantB v3 true) (opH Tryd.prog G (sv (Instr.loadAt 3 v9)) h9) h9 fun v10 h10 =>
  gd (wantB v3 true) (opH Tryd.prog G (xEq .eql 3 (.tmp 0) (.const .nilFunc) v10 (.int .i64 0)) h10) h10 fun v11 h11 =>
  opH Tryd.prog G (xPick v3 v11 (.bool false)) h11 fun v12 h12 =>
  K .ret (upd (upd (upd (upd (upd (upd (upd (upd (upd (upd (upd (upd (upd (upd (upd (upd (upd (upd (upd r 3 v0) 4 (.bool false)) 6 (r 0)) 7 v1) 8 v2) 5 v2) 9 v2) 10 v3) 11 v3) 12 v4) 13 v5) 14 v6) 15 v7) 16 v8) 17 v9) 18 v10) 19 v11) 20 v12) 4 v12) h12
theorem S35_eq (G : Hp) (K : Exit → Rg → Hp → Prop) (r : Rg) (h : Hp) : wpC Tryd.prog G 21 md35 true (Tryd.f35.body.getD .skip) r h K = S35 G K r h := by kernel_rfl
theorem enter35 {G : Hp} {h : Hp} {args : Array Value} {R : Value → Hp → Prop} (hn : args.size ≤ 21) (H : S35 G (retK Tryd.prog G [.tmp 4] R) (regs args) h) : HCalls Tryd.prog G 35 args h R :=
  HCalls.enter (md := md35) mixed Tryd.func35 rfl hn (by rw [← S35_eq] at H; exact H)

def md37 : Nat → Hint
  | 1 => ⟨false, [0, 1, 3, 7, 15, 7, 39, 103, 231, 487, 1023, 2047, 4095, 8191, 16383, 32767, 16383, 81919, 212991, 475135, 999423, 2097151, 4194303, 8388607], [.pureN, .pureM, .pureN, .pureN, .pureM, .pureN, .pureN, .pureN, .pureM, .pureN, .eff, .pureN, .pureN, .pureN, .pureN, .pureM, .pureN, .pureN, .pureN, .pureM, .pureN, .eff, .pureN, .pureN], [.pureN, .pureM, .pureN, .pureN, .pureM, .pureN, .pureN, .pureN, .pureM, .pureN, .eff, .pureN, .pureN, .pureN, .pureN, .late, .pureN, .pureN, .pureN, .late, .pureN, .eff, .pureN, .pureN], [false, false, false, false, false, false, false, false, false, false, false, false, false, false, false, false, false, false, false, false, false, false, false, false], false⟩
  | 3 => ⟨false, [0, 1, 0, 4, 12, 28, 63, 0, 128, 511, 1023], [.pureN, .pureM, .pureN, .pureN, .pureN, .pureM, .pureN, .pureN, .pureM, .pureN, .pureN], [.pureN, .pureM, .pureN, .pureN, .pureN, .pureM, .pureN, .pureN, .pureM, .pureN, .pureN], [false, false, false, false, false, false, false, false, false, false, false], false⟩
  | _ => ⟨false, [], [], [], [], false⟩
def S37_k1 (G : Hp) (K : Exit → Rg → Hp → Prop) (r : Rg) (h : Hp) : Prop :=
  pureW Tryd.prog noHp noHp (sv (Instr.fieldAt 28 (r 3) 1)) h fun v22 h22 =>
  pureW Tryd.prog G h (sv (Instr.loadAt 3 v22)) h22 fun v23 h23 =>
  pureW Tryd.prog noHp noHp (xNil (r 0)) h23 fun v24 h24 =>
  pureW Tryd.prog noHp noHp (sv (Instr.fieldAt 86 v24 0)) h24 fun v25 h25 =>
  pureW Tryd.prog G h (sv (Instr.loadAt 3 v25)) h25 fun v26 h26 =>
  pureW Tryd.prog noHp noHp (sv (binOp .mul 3 v23 v26)) h26 fun v27 h27 =>
  pureW Tryd.prog noHp noHp (sv (Instr.fieldAt 28 (r 3) 0)) h27 fun v28 h28 =>
  pureW Tryd.prog G h (sv (Instr.loadAt 3 v28)) h28 fun v29 h29 =>
  pureW Tryd.prog noHp noHp (sv (binOp .add 3 v27 v29)) h29 fun v30 h30 =>
  K .ret (upd (upd (upd (upd (upd (upd (upd (upd (upd (upd (upd r 29 v22) 30 v23) 31 (r 0)) 32 v24) 33 v25) 34 v26) 35 v27) 36 v28) 37 v29) 38 v30) 4 v30) h30
def S37 (G : Hp) (K : Exit → Rg → Hp → Prop) (r : Rg) (h : Hp) : Prop :=
  opH Tryd.prog G (sv (Instr.box 28 (r 1))) h fun v0 h0 =>
  pureW Tryd.prog G h0 (xEq .eql 31 (.tmp 0) (.const .nilFunc) (r 0) (.pointer none)) h0 fun v1 h1 =>
  gd (wantB v1 false) (pureW Tryd.prog noHp noHp (sv (Instr.fieldAt 28 v0 0)) h1) h1 fun v2 h2 =>
  gd (wantB v1 false) (pureW Tryd.prog G h0 (sv (Instr.loadAt 3 v2)) h2) h2 fun v3 h3 =>
  gd (wantB v1 false) (fun K1 => K1 (r 0) h3) h3 fun v4 h4 =>
  gd (wantB v1 false) (pureW Tryd.prog noHp noHp (xNil v4) h4) h4 fun v5 h5 =>
  gd (wantB v1 false) (pureW Tryd.prog noHp noHp (sv (Instr.fieldAt 86 v5 0)) h5) h5 fun v6 h6 =>
  gd (wantB v1 false) (pureW Tryd.prog G h0 (sv (Instr.loadAt 3 v6)) h6) h6 fun v7 h7 =>
  gd (wantB v1 false) (pureW Tryd.prog noHp noHp (sv (binOp .sub 3 v7 (.int .i64 1))) h7) h7 fun v8 h8 =>
  gd (wantB v1 false) (opH Tryd.prog G (callFunc 57 #[v3, (.int .i64 0), v8]) h8) h8 fun v9 h9 =>
  gd (wantB v1 false) (pureW Tryd.prog noHp noHp (sv (Op.unary .not v9)) h9) h9 fun v10 h10 =>
  pureW Tryd.prog noHp noHp (xPick v1 (.bool true) v10) h10 fun v11 h11 =>
  gd (wantB v11 false) (pureW Tryd.prog noHp noHp (sv (Instr.fieldAt 28 v0 1)) h11) h11 fun v12 h12 =>
  gd (wantB v11 false) (pureW Tryd.prog G h12 (sv (Instr.loadAt 3 v12)) h12) h12 fun v13 h13 =>
  gd (wantB v11 false) (fun K1 => K1 (r 0) h13) h13 fun v14 h14 =>
  gd (wantB v11 false) (pureW Tryd.prog noHp noHp (xNil v14) h14) h14 fun v15 h15 =>
  gd (wantB v11 false) (pureW Tryd.prog noHp noHp (sv (Instr.fieldAt 86 v15 1)) h15) h15 fun v16 h16 =>
  gd (wantB v11 false) (pureW Tryd.prog G h16 (sv (Instr.loadAt 3 v16)) h16) h16 fun v17 h17 =>
  gd (wantB v11 false) (pureW Tryd.prog noHp noHp (sv (binOp .sub 3 v17 (.int .i64 1))) h17) h17 fun v18 h18 =>
  gd (wantB v11 false) (opH Tryd.prog G (callFunc 57 #[v13, (.int .i64 0), v18]) h18) h18 fun v19 h19 =>
  gd (wantB v11 false) (pureW Tryd.prog noHp noHp (sv (Op.unary .not v19)) h19) h19 fun v20 h20 =>
  pureW Tryd.prog noHp noHp (xPick v11 (.bool true) v20) h20 fun v21 h21 =>
  cond v21
  (K .ret (upd (upd (upd (upd (upd (upd (upd (upd (upd (upd (upd (upd (upd (upd (upd (upd (upd (upd (upd (upd (upd (upd (upd (upd (upd (upd (upd r 3 v0) 4 (.int .i64 0)) 5 (r 0)) 6 v1) 7 v1) 8 v2) 9 v3) 10 v4) 11 v5) 12 v6) 13 v7) 14 v8) 15 v9) 16 v10) 17 v11) 18 v11) 19 v12) 20 v13) 21 v14) 22 v15) 23 v16) 24 v17) 25 v18) 26 v19) 27 v20) 28 v21) 4 (.int .i64 (-1))) h21)
  (S37_k1 G K (upd (upd (upd (upd (upd (upd (upd (upd (upd (upd (upd (upd (upd (upd (upd (upd (upd (upd (upd (upd (upd (upd (upd (upd (upd (upd r 3 v0) 4 (.int .i64 0)) 5 (r 0)) 6 v1) 7 v1) 8 v2) 9 v3) 10 v4) 11 v5) 12 v6) 13 v7) 14 v8) 15 v9) 16 v10) 17 v11) 18 v11) 19 v12) 20 v13) 21 v14) 22 v15) 23 v16) 24 v17) 25 v18) 26 v19) 27 v20) 28 v21) h21)
theorem S37_eq (G : Hp) (K : Exit → Rg → Hp → Prop) (r : Rg) (h : Hp) : wpC Tryd.prog G 39 md37 true (Tryd.f37.body.getD .skip) r h K = S37 G K r h := by kernel_rfl
theorem enter37 {G : Hp} {h : Hp} {args : Array Value} {R : Value → Hp → Prop} (hn : args.size ≤ 39) (H : S37 G (retK Tryd.prog G [.tmp 4] R) (regs args) h) : HCalls Tryd.prog G 37 args h R :=
  HCalls.enter (md := md37) mixed Tryd.func37 rfl hn (by rw [← S37_eq] at H; exact H)

def md49 : Nat → Hint
  | _ => ⟨false, [], [], [], [], false⟩
def S49_k3 (G : Hp) (K : Exit → Rg → Hp → Prop) (r : Rg) (h : Hp) : Prop :=
  K .ret (upd (upd r 68 (r 5)) 2 (r 5)) h
def S49_k2 (G : Hp) (K : Exit → Rg → Hp → Prop) (r : Rg) (h : Hp) : Prop :=
  opH Tryd.prog G (sv (Instr.loadAt 26 (r 1))) h fun v29 h29 =>
  opH Tryd.prog G (callFunc 72 #[v29]) h29 fun v30 h30 =>
  opH Tryd.prog G (sv (Instr.extract v30 0)) h30 fun v31 h31 =>
  opH Tryd.prog G (sv (Instr.extract v30 1)) h31 fun v32 h32 =>
  opH Tryd.prog G (sv (Op.unary .not v32)) h32 fun v33 h33 =>
  gd (wantB v33 false) (fun K1 => K1 v31 h33) h33 fun v34 h34 =>
  gd (wantB v33 false) (opH Tryd.prog G (sv (Instr.fieldAt 26 (r 1) 5)) h34) h34 fun v35 h35 =>
  gd (wantB v33 false) (opH Tryd.prog G (sv (Instr.loadAt 23 v35)) h35) h35 fun v36 h36 =>
  gd (wantB v33 false) (opH Tryd.prog G (callFunc 73 #[v34, v36]) h36) h36 fun v37 h37 =>
  gd (wantB v33 false) (opH Tryd.prog G (sv (Op.unary .not v37)) h37) h37 fun v38 h38 =>
  opH Tryd.prog G (xPick v33 (.bool true) v38) h38 fun v39 h39 =>
  gd (wantB v39 false) (fun K1 => K1 v31 h39) h39 fun v40 h40 =>
  gd (wantB v39 false) (opH Tryd.prog G (sv (Instr.fieldAt 26 (r 1) 6)) h40) h40 fun v41 h41 =>
  gd (wantB v39 false) (opH Tryd.prog G (sv (Instr.loadAt 24 v41)) h41) h41 fun v42 h42 =>
  gd (wantB v39 false) (opH Tryd.prog G (sv (Instr.fieldAt 26 (r 1) 2)) h42) h42 fun v43 h43 =>
  gd (wantB v39 false) (opH Tryd.prog G (sv (Instr.loadAt 3 v43)) h43) h43 fun v44 h44 =>
  gd (wantB v39 false) (opH Tryd.prog G (callFunc 74 #[v40, v42, v44]) h44) h44 fun v45 h45 =>
  gd (wantB v39 false) (opH Tryd.prog G (sv (Op.unary .not v45)) h45) h45 fun v46 h46 =>
  opH Tryd.prog G (xPick v39 (.bool true) v46) h46 fun v47 h47 =>
  cond v47
  (K .ret (upd (upd (upd (upd (upd (upd (upd (upd (upd (upd (upd (upd (upd (upd (upd (upd (upd (upd (upd (upd (upd (upd (upd (upd (upd (upd r 46 v29) 47 v30) 45 v30) 48 v31) 49 v32) 5 v31) 6 v32) 50 v32) 51 v33) 52 v33) 53 v34) 54 v35) 55 v36) 56 v37) 57 v38) 58 v39) 59 v39) 60 v40) 61 v41) 62 v42) 63 v43) 64 v44) 65 v45) 66 v46) 67 v47) 2 (.pointer none)) h47)
  (S49_k3 G K (upd (upd (upd (upd (upd (upd (upd (upd (upd (upd (upd (upd (upd (upd (upd (upd (upd (upd (upd (upd (upd (upd (upd (upd (upd r 46 v29) 47 v30) 45 v30) 48 v31) 49 v32) 5 v31) 6 v32) 50 v32) 51 v33) 52 v33) 53 v34) 54 v35) 55 v36) 56 v37) 57 v38) 58 v39) 59 v39) 60 v40) 61 v41) 62 v42) 63 v43) 64 v44) 65 v45) 66 v46) 67 v47) h47)
def S49_k1 (G : Hp) (K : Exit → Rg → Hp → Prop) (r : Rg) (h : Hp) : Prop :=
  opH Tryd.prog G (sv (Instr.fieldAt 26 (r 1) 2)) h fun v15 h15 =>
  opH Tryd.prog G (sv (Instr.loadAt 3 v15)) h15 fun v16 h16 =>
  opH Tryd.prog G (callFunc 57 #[v16, (.int .i64 1), (.int .i64 8)]) h16 fun v17 h17 =>
  opH Tryd.prog G (sv (Op.unary .not v17)) h17 fun v18 h18 =>
  gd (wantB v18 false) (opH Tryd.prog G (sv (Instr.fieldAt 26 (r 1) 12)) h18) h18 fun v19 h19 =>
  gd (wantB v18 false) (opH Tryd.prog G (sv (Instr.loadAt 3 v19)) h19) h19 fun v20 h20 =>
  gd (wantB v18 false) (opH Tryd.prog G (callFunc 57 #[v20, (.int .i64 1), (.int .i64 16)]) h20) h20 fun v21 h21 =>
  gd (wantB v18 false) (opH Tryd.prog G (sv (Op.unary .not v21)) h21) h21 fun v22 h22 =>
  opH Tryd.prog G (xPick v18 (.bool true) v22) h22 fun v23 h23 =>
  gd (wantB v23 false) (opH Tryd.prog G (sv (Instr.fieldAt 26 (r 1) 14)) h23) h23 fun v24 h24 =>
  gd (wantB v23 false) (opH Tryd.prog G (sv (Instr.loadAt 3 v24)) h24) h24 fun v25 h25 =>
  gd (wantB v23 false) (opH Tryd.prog G (callFunc 57 #[v25, (.int .i64 1), (.int .i64 1048576)]) h25) h25 fun v26 h26 =>
  gd (wantB v23 false) (opH Tryd.prog G (sv (Op.unary .not v26)) h26) h26 fun v27 h27 =>
  opH Tryd.prog G (xPick v23 (.bool true) v27) h27 fun v28 h28 =>
  cond v28
  (K .ret (upd (upd (upd (upd (upd (upd (upd (upd (upd (upd (upd (upd (upd (upd (upd (upd (upd r 29 v15) 30 v16) 31 v17) 32 v18) 33 v18) 34 v19) 35 v20) 36 v21) 37 v22) 38 v23) 39 v23) 40 v24) 41 v25) 42 v26) 43 v27) 44 v28) 2 (.pointer none)) h28)
  (S49_k2 G K (upd (upd (upd (upd (upd (upd (upd (upd (upd (upd (upd (upd (upd (upd (upd (upd r 29 v15) 30 v16) 31 v17) 32 v18) 33 v18) 34 v19) 35 v20) 36 v21) 37 v22) 38 v23) 39 v23) 40 v24) 41 v25) 42 v26) 43 v27) 44 v28) h28)
def S49_l4_k6 (G : Hp) (K : Exit → Rg → Hp → Prop) (r : Rg) (h : Hp) : Prop :=
  opH Tryd.prog G (sv (binOp .add 3 (r 21) (.int .i64 1))) h fun v49 h49 =>
  K .normal (upd (upd r 28 v49) 21 v49) h49
def S49_l4_k5 (G : Hp) (K : Exit → Rg → Hp → Prop) (r : Rg) (h : Hp) : Prop :=
  opH Tryd.prog G (sv (Instr.indexAt 57 (r 19) (r 21))) h fun v50 h50 =>
  opH Tryd.prog G (sv (Instr.loadAt 3 v50)) h50 fun v51 h51 =>
  opH Tryd.prog G (callFunc 57 #[v51, (.int .i64 1), (.int .i64 1000)]) h51 fun v52 h52 =>
  opH Tryd.prog G (sv (Op.unary .not v52)) h52 fun v53 h53 =>
  cond v53
  (K .ret (upd (upd (upd (upd (upd (upd (upd r 23 v50) 24 v51) 4 v51) 25 v51) 26 v52) 27 v53) 2 (.pointer none)) h53)
  (S49_l4_k6 G K (upd (upd (upd (upd (upd (upd r 23 v50) 24 v51) 4 v51) 25 v51) 26 v52) 27 v53) h53)
def S49_l4 (G : Hp) (r : Rg) (h : Hp) (K : Exit → Rg → Hp → Prop) : Prop :=
  opH Tryd.prog G (sv (binOp .lss 3 (r 21) (r 20))) h fun v48 h48 =>
  cond v48
  (S49_l4_k5 G K (upd r 22 v48) h48)
  (K (.exit 0) (upd r 22 v48) h48)
def S49 (G : Hp) (K : Exit → Rg → Hp → Prop) (r : Rg) (h : Hp) : Prop :=
  opH Tryd.prog G (sv (Instr.box 26 (r 0))) h fun v0 h0 =>
  opH Tryd.prog G (sv (Instr.fieldAt 26 v0 7)) h0 fun v1 h1 =>
  opH Tryd.prog G (sv (Instr.loadAt 3 v1)) h1 fun v2 h2 =>
  opH Tryd.prog G (sv (Instr.fieldAt 26 v0 8)) h2 fun v3 h3 =>
  opH Tryd.prog G (sv (Instr.loadAt 3 v3)) h3 fun v4 h4 =>
  opH Tryd.prog G (sv (Instr.fieldAt 26 v0 9)) h4 fun v5 h5 =>
  opH Tryd.prog G (sv (Instr.loadAt 3 v5)) h5 fun v6 h6 =>
  opH Tryd.prog G (sv (Instr.fieldAt 26 v0 10)) h6 fun v7 h7 =>
  opH Tryd.prog G (sv (Instr.loadAt 3 v7)) h7 fun v8 h8 =>
  opH Tryd.prog G (sv (Instr.fieldAt 26 v0 11)) h8 fun v9 h9 =>
  opH Tryd.prog G (sv (Instr.loadAt 3 v9)) h9 fun v10 h10 =>
  opH Tryd.prog G (sv (Instr.fieldAt 26 v0 13)) h10 fun v11 h11 =>
  opH Tryd.prog G (sv (Instr.loadAt 3 v11)) h11 fun v12 h12 =>
  opH Tryd.prog G (sv (Instr.buildSlice 57 6 #[(0, v2), (1, v4), (2, v6), (3, v8), (4, v10), (5, v12)])) h12 fun v13 h13 =>
  opH Tryd.prog G (sv (Builtin.len_ #[57] 3 #[v13])) h13 fun v14 h14 =>
  loopP (S49_l4 G) (upd (upd (upd (upd (upd (upd (upd (upd (upd (upd (upd (upd (upd (upd (upd (upd (upd r 1 v0) 2 (.pointer none)) 7 v1) 8 v2) 9 v3) 10 v4) 11 v5) 12 v6) 13 v7) 14 v8) 15 v9) 16 v10) 17 v11) 18 v12) 19 v13) 20 v14) 21 (.int .i64 0)) h14 (blockK 0 (thenK (S49_k1 G K) K))
theorem S49_eq (G : Hp) (K : Exit → Rg → Hp → Prop) (r : Rg) (h : Hp) : wpC Tryd.prog G 69 md49 true (Tryd.f49.body.getD .skip) r h K = S49 G K r h := by kernel_rfl
theorem enter49 {G : Hp} {h : Hp} {args : Array Value} {R : Value → Hp → Prop} (hn : args.size ≤ 69) (H : S49 G (retK Tryd.prog G [.tmp 2] R) (regs args) h) : HCalls Tryd.prog G 49 args h R :=
  HCalls.enter (md := md49) mixed Tryd.func49 rfl hn (by rw [← S49_eq] at H; exact H)

def md57 : Nat → Hint
  | _ => ⟨false, [], [], [], [], false⟩
def S57 (G : Hp) (K : Exit → Rg → Hp → Prop) (r : Rg) (h : Hp) : Prop :=
  opH Tryd.prog G (sv (binOp .geq 3 (r 0) (r 1))) h fun v0 h0 =>
  gd (wantB v0 true) (fun K1 => K1 (r 0) h0) h0 fun v1 h1 =>
  gd (wantB v0 true) (fun K1 => K1 (r 2) h1) h1 fun v2 h2 =>
  gd (wantB v0 true) (opH Tryd.prog G (sv (binOp .leq 3 v1 v2)) h2) h2 fun v3 h3 =>
  opH Tryd.prog G (xPick v0 v3 (.bool false)) h3 fun v4 h4 =>
  K .ret (upd (upd (upd (upd (upd (upd (upd (upd (upd (upd r 6 (.bool false)) 7 (r 0)) 8 (r 1)) 9 v0) 10 v0) 11 v1) 12 v2) 13 v3) 14 v4) 6 v4) h4
theorem S57_eq (G : Hp) (K : Exit → Rg → Hp → Prop) (r : Rg) (h : Hp) : wpC Tryd.prog G 15 md57 true (Tryd.f57.body.getD .skip) r h K = S57 G K r h := by kernel_rfl
theorem enter57 {G : Hp} {h : Hp} {args : Array Value} {R : Value → Hp → Prop} (hn : args.size ≤ 15) (H : S57 G (retK Tryd.prog G [.tmp 6] R) (regs args) h) : HCalls Tryd.prog G 57 args h R :=
  HCalls.enter (md := md57) mixed Tryd.func57 rfl hn (by rw [← S57_eq] at H; exact H)

def md61 : Nat → Hint
  | _ => ⟨false, [], [], [], [], false⟩
def S61_k2 (G : Hp) (K : Exit → Rg → Hp → Prop) (r : Rg) (h : Hp) : Prop :=
  opH Tryd.prog G (sv (Instr.loadAt 30 (r 2))) h fun v8 h8 =>
  opH Tryd.prog G (sv (Instr.fieldAt 30 (r 2) 0)) h8 fun v9 h9 =>
  opH Tryd.prog G (sv (Instr.loadAt 28 v9)) h9 fun v10 h10 =>
  opH Tryd.prog G (sv (Instr.fieldAt 30 (r 2) 1)) h10 fun v11 h11 =>
  opH Tryd.prog G (sv (Instr.loadAt 4 v11)) h11 fun v12 h12 =>
  opH Tryd.prog G (sv (Op.unary .not v12)) h12 fun v13 h13 =>
  opH Tryd.prog G (sv (Instr.build 30 #[(0, v10), (1, v13)])) h13 fun v14 h14 =>
  opH Tryd.prog G (sv (Instr.build 46 #[(0, (.int .i64 2)), (3, v8), (4, v14)])) h14 fun v15 h15 =>
  opH Tryd.prog G (sv (Instr.alloc 46 true (.tuple #[]))) h15 fun v16 h16 =>
  opH Tryd.prog G (su (Instr.storeAt 46 v16 v15)) h16 fun v17 h17 =>
  opH Tryd.prog G (sv (Instr.loadAt 31 (r 1))) h17 fun v18 h18 =>
  opH Tryd.prog G (sv (Instr.loadAt 46 v16)) h18 fun v19 h19 =>
  opH Tryd.prog G (callFunc 27 #[v18, v19]) h19 fun v20 h20 =>
  cond v20
  (opH Tryd.prog G (sv (Instr.loadAt 52 (r 3))) h20 fun v21 h21 =>
  opH Tryd.prog G (sv (Instr.loadAt 46 v16)) h21 fun v22 h22 =>
  opH Tryd.prog G (xCallV v21 #[v22]) h22 fun v23 h23 =>
  K .normal (upd (upd (upd (upd (upd (upd (upd (upd (upd (upd (upd (upd (upd (upd (upd r 18 v8) 19 v9) 20 v10) 21 v11) 22 v12) 23 v13) 24 v14) 25 v15) 5 v16) 26 v18) 27 v19) 28 v20) 29 v21) 30 v22) 31 v23) h23)
  (K .normal (upd (upd (upd (upd (upd (upd (upd (upd (upd (upd (upd (upd r 18 v8) 19 v9) 20 v10) 21 v11) 22 v12) 23 v13) 24 v14) 25 v15) 5 v16) 26 v18) 27 v19) 28 v20) h20)
def S61_a3 (G : Hp) (r : Rg) (h : Hp) (K : Exit → Rg → Hp → Prop) : Prop :=
  opH Tryd.prog G (sv (Instr.alloc 46 true (.tuple #[]))) h fun v24 h24 =>
  opH Tryd.prog G (su (Instr.storeAt 46 v24 (r 13))) h24 fun v25 h25 =>
  K .normal (upd r 4 v24) h25
def S61_b3 (G : Hp) (r : Rg) (h : Hp) (K : Exit → Rg → Hp → Prop) : Prop :=
  opH Tryd.prog G (sv (Instr.loadAt 52 (r 3))) h fun v26 h26 =>
  opH Tryd.prog G (sv (Instr.loadAt 46 (r 4))) h26 fun v27 h27 =>
  opH Tryd.prog G (xCallV v26 #[v27]) h27 fun v28 h28 =>
  opH Tryd.prog G (sv (Op.unary .not v28)) h28 fun v29 h29 =>
  cond v29
  (K .ret (upd (upd (upd (upd r 14 v26) 15 v27) 16 v28) 17 v29) h29)
  (K .normal (upd (upd (upd (upd r 14 v26) 15 v27) 16 v28) 17 v29) h29)
def S61_k1 (G : Hp) (K : Exit → Rg → Hp → Prop) (r : Rg) (h : Hp) : Prop :=
  opH Tryd.prog G (sv (Instr.loadAt 31 (r 1))) h fun v5 h5 =>
  opH Tryd.prog G (sv (Instr.loadAt 30 (r 2))) h5 fun v6 h6 =>
  opH Tryd.prog G (callFunc 62 #[v5, v6]) h6 fun v7 h7 =>
  RangeW Tryd.prog G 1 (S61_a3 G) (S61_b3 G) (setR 32 #[13]) v7 (upd (upd (upd r 10 v5) 11 v6) 12 v7) h7 (blockK 0 (thenK (S61_k2 G K) K))
def S61 (G : Hp) (K : Exit → Rg → Hp → Prop) (r : Rg) (h : Hp) : Prop :=
  opH Tryd.prog G (sv (Instr.box 52 (r 0))) h fun v0 h0 =>
  opH Tryd.prog G (sv (Instr.loadAt 31 (r 1))) h0 fun v1 h1 =>
  opH Tryd.prog G (sv (Instr.loadAt 30 (r 2))) h1 fun v2 h2 =>
  opH Tryd.prog G (callFunc 23 #[v1, v2]) h2 fun v3 h3 =>
  opH Tryd.prog G (sv (Op.unary .not v3)) h3 fun v4 h4 =>
  cond v4
  (K .ret (upd (upd (upd (upd (upd r 3 v0) 6 v1) 7 v2) 8 v3) 9 v4) h4)
  (S61_k1 G K (upd (upd (upd (upd (upd r 3 v0) 6 v1) 7 v2) 8 v3) 9 v4) h4)
theorem S61_eq (G : Hp) (K : Exit → Rg → Hp → Prop) (r : Rg) (h : Hp) : wpC Tryd.prog G 32 md61 true (Tryd.f61.body.getD .skip) r h K = S61 G K r h := by kernel_rfl
theorem enter61 {G : Hp} {h : Hp} {args : Array Value} {R : Value → Hp → Prop} (hn : args.size ≤ 32) (H : S61 G (retK Tryd.prog G [] R) (regs args) h) : HCalls Tryd.prog G 61 args h R :=
  HCalls.enter (md := md61) mixed Tryd.func61 rfl hn (by rw [← S61_eq] at H; exact H)

def md62 : Nat → Hint
  | _ => ⟨false, [], [], [], [], false⟩
def S62 (G : Hp) (K : Exit → Rg → Hp → Prop) (r : Rg) (h : Hp) : Prop :=
  opH Tryd.prog G (sv (Instr.box 31 (r 0))) h fun v0 h0 =>
  opH Tryd.prog G (sv (Instr.box 30 (r 1))) h0 fun v1 h1 =>
  K .ret (upd (upd (upd (upd (upd r 2 v0) 3 v1) 4 .nilFunc) 5 (.func (.func 76) #[] #[v0, v1])) 4 (.func (.func 76) #[] #[v0, v1])) h1
theorem S62_eq (G : Hp) (K : Exit → Rg → Hp → Prop) (r : Rg) (h : Hp) : wpC Tryd.prog G 6 md62 true (Tryd.f62.body.getD .skip) r h K = S62 G K r h := by kernel_rfl
theorem enter62 {G : Hp} {h : Hp} {args : Array Value} {R : Value → Hp → Prop} (hn : args.size ≤ 6) (H : S62 G (retK Tryd.prog G [.tmp 4] R) (regs args) h) : HCalls Tryd.prog G 62 args h R :=
  HCalls.enter (md := md62) mixed Tryd.func62 rfl hn (by rw [← S62_eq] at H; exact H)

def md63 : Nat → Hint
  | 17 => ⟨false, [0, 0, 2, 6, 14, 30, 62, 30, 254, 510, 31, 2047], [.pureN, .pureN, .pureM, .pureN, .pureN, .pureN, .pureM, .pureM, .pureM, .pureN, .pureN, .pureN], [.pureN, .pureN, .pureM, .pureN, .pureN, .pureN, .pureM, .pureM, .pureM, .pureN, .pureN, .pureN], [false, false, false, false, false, false, false, false, false, false, false, false], false⟩
  | 26 => ⟨false, [0, 0, 2, 0, 8, 24, 0, 64, 192, 448, 1016, 2046, 1, 8191], [.pureN, .pureN, .pureM, .pureN, .pureN, .pureM, .pureN, .pureN, .pureM, .pureN, .pureN, .pureM, .pureN, .pureN], [.pureN, .pureN, .pureM, .pureN, .pureN, .pureM, .pureN, .pureN, .pureM, .pureN, .pureN, .pureM, .pureN, .pureN], [false, false, false, false, false, false, false, false, false, false, false, false, false, false], false⟩
  | 29 => ⟨false, [0, 0, 2, 7, 0, 16, 0, 64, 240, 15, 1023], [.pureN, .pureN, .pureM, .eff, .pureN, .pureM, .pureN, .pureM, .pureM, .pureN, .pureN], [.pureN, .pureN, .pureM, .eff, .pureN, .pureM, .pureN, .pureM, .pureM, .pureN, .pureN], [false, false, false, true, false, false, false, false, false, false, false], true⟩
  | _ => ⟨false, [], [], [], [], false⟩
def S63_k3 (G : Hp) (K : Exit → Rg → Hp → Prop) (r : Rg) (h : Hp) : Prop :=
  K .ret (upd (upd r 4 (.slice none 0 0)) 5 (.bool false)) h
def S63_k4 (G : Hp) (K : Exit → Rg → Hp → Prop) (r : Rg) (h : Hp) : Prop :=
  pureW Tryd.prog noHp noHp (sv (Instr.fieldAt 46 (r 3) 2)) h fun v24 h24 =>
  pureW Tryd.prog G h (sv (Instr.loadAt 3 v24)) h24 fun v25 h25 =>
  pureW Tryd.prog noHp noHp (sv (binOp .geq 3 v25 (.int .i64 1))) h25 fun v26 h26 =>
  gd (wantB v26 true) (pureW Tryd.prog noHp noHp (sv (Instr.fieldAt 46 (r 3) 4)) h26) h26 fun v27 h27 =>
  gd (wantB v26 true) (pureW Tryd.prog G h (sv (Instr.loadAt 30 v27)) h27) h27 fun v28 h28 =>
  gd (wantB v26 true) (pureW Tryd.prog G h (sv (Instr.loadAt 30 (r 7))) h28) h28 fun v29 h29 =>
  gd (wantB v26 true) (pureW Tryd.prog G h (xEq .eql 30 (.tmp 0) (.tmp 0) v28 v29) h29) h29 fun v30 h30 =>
  pureW Tryd.prog noHp noHp (xPick v26 v30 (.bool false)) h30 fun v31 h31 =>
  K .ret (upd (upd (upd (upd (upd (upd (upd (upd (upd (upd (upd (upd r 68 (r 6)) 69 v24) 70 v25) 71 v26) 72 v26) 73 v27) 74 v28) 75 v29) 76 v30) 77 v31) 4 (r 6)) 5 v31) h31
def S63_l5_k7 (G : Hp) (K : Exit → Rg → Hp → Prop) (r : Rg) (h : Hp) : Prop :=
  opH Tryd.prog G (sv (binOp .add 3 (r 8) (.int .i64 1))) h fun v35 h35 =>
  K .normal (upd (upd (upd r 42 (r 8)) 43 v35) 8 v35) h35
def S63_l5_k8 (G : Hp) (K : Exit → Rg → Hp → Prop) (r : Rg) (h : Hp) : Prop :=
  opH Tryd.prog G (sv (Instr.loadAt 30 (r 9))) h fun v51 h51 =>
  opH Tryd.prog G (callFunc 21 #[(r 0), v51]) h51 fun v52 h52 =>
  opH Tryd.prog G (sv (Builtin.append_ #[22, 22] 22 #[(r 6), v52])) h52 fun v53 h53 =>
  opH Tryd.prog G (sv (Instr.loadAt 30 (r 9))) h53 fun v54 h54 =>
  opH Tryd.prog G (su (Instr.storeAt 30 (r 7) v54)) h54 fun v55 h55 =>
  S63_l5_k7 G K (upd (upd (upd (upd (upd (upd (upd r 62 (r 6)) 63 (r 0)) 64 v51) 65 v52) 66 v53) 6 v53) 67 v54) h55
def S63_l5_k6 (G : Hp) (K : Exit → Rg → Hp → Prop) (r : Rg) (h : Hp) : Prop :=
  opH Tryd.prog G (sv (Instr.fieldAt 46 (r 3) 3)) h fun v36 h36 =>
  opH Tryd.prog G (sv (Instr.loadAt 30 v36)) h36 fun v37 h37 =>
  opH Tryd.prog G (sv (Instr.fieldAt 46 (r 3) 1)) h37 fun v38 h38 =>
  opH Tryd.prog G (sv (Instr.loadAt 3 v38)) h38 fun v39 h39 =>
  opH Tryd.prog G (callFunc 18 #[(r 0), v37, v39, (r 8)]) h39 fun v40 h40 =>
  opH Tryd.prog G (sv (Instr.extract v40 0)) h40 fun v41 h41 =>
  opH Tryd.prog G (sv (Instr.extract v40 1)) h41 fun v42 h42 =>
  opH Tryd.prog G (sv (Instr.alloc 30 true (.tuple #[]))) h42 fun v43 h43 =>
  opH Tryd.prog G (su (Instr.storeAt 30 v43 v41)) h43 fun v44 h44 =>
  opH Tryd.prog G (sv (Op.unary .not v42)) h44 fun v45 h45 =>
  gd (wantB v45 false) (fun K1 => K1 (r 0) h45) h45 fun v46 h46 =>
  gd (wantB v45 false) (opH Tryd.prog G (sv (Instr.loadAt 30 v43)) h46) h46 fun v47 h47 =>
  gd (wantB v45 false) (opH Tryd.prog G (callFunc 23 #[v46, v47]) h47) h47 fun v48 h48 =>
  gd (wantB v45 false) (opH Tryd.prog G (sv (Op.unary .not v48)) h48) h48 fun v49 h49 =>
  opH Tryd.prog G (xPick v45 (.bool true) v49) h49 fun v50 h50 =>
  cond v50
  (K .ret (upd (upd (upd (upd (upd (upd (upd (upd (upd (upd (upd (upd (upd (upd (upd (upd (upd (upd (upd (upd (upd (upd r 45 (r 0)) 46 v36) 47 v37) 48 v38) 49 v39) 50 (r 8)) 51 v40) 44 v40) 52 v41) 53 v42) 9 v43) 10 v42) 54 v42) 55 v45) 56 v45) 57 v46) 58 v47) 59 v48) 60 v49) 61 v50) 4 (.slice none 0 0)) 5 (.bool false)) h50)
  (S63_l5_k8 G K (upd (upd (upd (upd (upd (upd (upd (upd (upd (upd (upd (upd (upd (upd (upd (upd (upd (upd (upd (upd r 45 (r 0)) 46 v36) 47 v37) 48 v38) 49 v39) 50 (r 8)) 51 v40) 44 v40) 52 v41) 53 v42) 9 v43) 10 v42) 54 v42) 55 v45) 56 v45) 57 v46) 58 v47) 59 v48) 60 v49) 61 v50) h50)
def S63_l5 (G : Hp) (r : Rg) (h : Hp) (K : Exit → Rg → Hp → Prop) : Prop :=
  opH Tryd.prog G (sv (Instr.fieldAt 46 (r 3) 2)) h fun v32 h32 =>
  opH Tryd.prog G (sv (Instr.loadAt 3 v32)) h32 fun v33 h33 =>
  opH Tryd.prog G (sv (binOp .leq 3 (r 8) v33)) h33 fun v34 h34 =>
  cond v34
  (S63_l5_k6 G K (upd (upd (upd (upd r 38 (r 8)) 39 v32) 40 v33) 41 v34) h34)
  (K (.exit 1) (upd (upd (upd (upd r 38 (r 8)) 39 v32) 40 v33) 41 v34) h34)
def S63_k9 (G : Hp) (K : Exit → Rg → Hp → Prop) (r : Rg) (h : Hp) : Prop :=
  pureW Tryd.prog noHp noHp (sv (Instr.fieldAt 46 (r 3) 4)) h fun v62 h62 =>
  pureW Tryd.prog G h (sv (Instr.loadAt 30 v62)) h62 fun v63 h63 =>
  pureW Tryd.prog noHp noHp (sv (Instr.fieldAt 46 (r 3) 3)) h63 fun v64 h64 =>
  pureW Tryd.prog noHp noHp (sv (Instr.fieldAt 30 v64 0)) h64 fun v65 h65 =>
  pureW Tryd.prog G h (sv (Instr.loadAt 28 v65)) h65 fun v66 h66 =>
  pureW Tryd.prog noHp noHp (sv (Instr.fieldAt 46 (r 3) 3)) h66 fun v67 h67 =>
  pureW Tryd.prog noHp noHp (sv (Instr.fieldAt 30 v67 1)) h67 fun v68 h68 =>
  pureW Tryd.prog G h (sv (Instr.loadAt 4 v68)) h68 fun v69 h69 =>
  pureW Tryd.prog noHp noHp (sv (Op.unary .not v69)) h69 fun v70 h70 =>
  pureW Tryd.prog noHp noHp (sv (Instr.build 30 #[(0, v66), (1, v70)])) h70 fun v71 h71 =>
  pureW Tryd.prog G h (xEq .eql 30 (.tmp 0) (.tmp 0) v63 v71) h71 fun v72 h72 =>
  K .ret (upd (upd (upd (upd (upd (upd (upd (upd (upd (upd (upd (upd (upd (upd r 95 (r 11)) 96 v62) 97 v63) 98 v64) 99 v65) 100 v66) 101 v67) 102 v68) 103 v69) 104 v70) 105 v71) 106 v72) 4 (r 11)) 5 v72) h72
def S63_l10_k12 (G : Hp) (K : Exit → Rg → Hp → Prop) (r : Rg) (h : Hp) : Prop :=
  opH Tryd.prog G (sv (binOp .add 3 (r 86) (.int .i64 1))) h fun v74 h74 =>
  K .normal (upd (upd r 94 v74) 86 v74) h74
def S63_l10_k11 (G : Hp) (K : Exit → Rg → Hp → Prop) (r : Rg) (h : Hp) : Prop :=
  opH Tryd.prog G (sv (Instr.indexAt 22 (r 84) (r 86))) h fun v75 h75 =>
  opH Tryd.prog G (sv (Instr.loadAt 28 v75)) h75 fun v76 h76 =>
  opH Tryd.prog G (sv (Instr.alloc 28 true (.tuple #[]))) h76 fun v77 h77 =>
  opH Tryd.prog G (su (Instr.storeAt 28 v77 v76)) h77 fun v78 h78 =>
  opH Tryd.prog G (sv (Instr.loadAt 28 v77)) h78 fun v79 h79 =>
  opH Tryd.prog G (callFunc 31 #[(r 0), v79]) h79 fun v80 h80 =>
  opH Tryd.prog G (sv (Op.unary .not v80)) h80 fun v81 h81 =>
  cond v81
  (K .ret (upd (upd (upd (upd (upd (upd (upd (upd (upd r 88 v75) 89 v76) 13 v77) 90 (r 0)) 91 v79) 92 v80) 93 v81) 4 (.slice none 0 0)) 5 (.bool false)) h81)
  (S63_l10_k12 G K (upd (upd (upd (upd (upd (upd (upd r 88 v75) 89 v76) 13 v77) 90 (r 0)) 91 v79) 92 v80) 93 v81) h81)
def S63_l10 (G : Hp) (r : Rg) (h : Hp) (K : Exit → Rg → Hp → Prop) : Prop :=
  opH Tryd.prog G (sv (binOp .lss 3 (r 86) (r 85))) h fun v73 h73 =>
  cond v73
  (S63_l10_k11 G K (upd r 87 v73) h73)
  (K (.exit 3) (upd r 87 v73) h73)
def S63_k13 (G : Hp) (K : Exit → Rg → Hp → Prop) (r : Rg) (h : Hp) : Prop :=
  cond (r 107)
  (∃ q83 : Hp, q83.le h ∧
  pureW Tryd.prog noHp noHp (sv (Instr.fieldAt 46 (r 3) 3)) h fun v84 h84 =>
  pureW Tryd.prog G q83 (sv (Instr.loadAt 30 v84)) h84 fun v85 h85 =>
  opH Tryd.prog G (callFunc 21 #[(r 0), v85]) h85 fun v86 h86 => q83.le h86 ∧
  pureW Tryd.prog noHp noHp (sv (Instr.fieldAt 46 (r 3) 4)) h86 fun v87 h87 =>
  pureW Tryd.prog G q83 (sv (Instr.loadAt 30 v87)) h87 fun v88 h88 =>
  pureW Tryd.prog noHp noHp (sv (Instr.fieldAt 46 (r 3) 3)) h88 fun v89 h89 =>
  pureW Tryd.prog G q83 (sv (Instr.loadAt 30 v89)) h89 fun v90 h90 =>
  pureW Tryd.prog G q83 (xEq .eql 30 (.tmp 0) (.tmp 0) v88 v90) h90 fun v91 h91 =>
  K .ret (upd (upd (upd (upd (upd (upd (upd (upd (upd (upd (upd r 110 (r 0)) 111 v84) 112 v85) 113 v86) 114 v87) 115 v88) 116 v89) 117 v90) 118 v91) 4 v86) 5 v91) h91)
  (S63_k3 G K r h)
def S63_k2 (G : Hp) (K : Exit → Rg → Hp → Prop) (r : Rg) (h : Hp) : Prop :=
  opH Tryd.prog G (sv (Instr.fieldAt 46 (r 3) 0)) h fun v17 h17 =>
  opH Tryd.prog G (sv (Instr.loadAt 3 v17)) h17 fun v18 h18 =>
  opH Tryd.prog G (xEq .eql 3 (.tmp 0) (.const .nilFunc) v18 (.int .i64 1)) h18 fun v19 h19 =>
  cond v19
  (opH Tryd.prog G (sv (Instr.fieldAt 46 (r 3) 3)) h19 fun v20 h20 =>
  opH Tryd.prog G (sv (Instr.loadAt 30 v20)) h20 fun v21 h21 =>
  opH Tryd.prog G (sv (Instr.alloc 30 true (.tuple #[]))) h21 fun v22 h22 =>
  opH Tryd.prog G (su (Instr.storeAt 30 v22 v21)) h22 fun v23 h23 =>
  loopP (S63_l5 G) (upd (upd (upd (upd (upd (upd (upd (upd (upd r 32 v17) 33 v18) 35 v19) 34 v19) 6 (.slice none 0 0)) 36 v20) 37 v21) 7 v22) 8 (.int .i64 0)) h23 (blockK 1 (thenK (S63_k4 G K) (blockK 0 (thenK (S63_k3 G K) K)))))
  (opH Tryd.prog G (xEq .eql 3 (.tmp 0) (.const .nilFunc) v18 (.int .i64 2)) h19 fun v56 h56 =>
  cond v56
  (opH Tryd.prog G (sv (Instr.fieldAt 46 (r 3) 3)) h56 fun v57 h57 =>
  opH Tryd.prog G (sv (Instr.fieldAt 30 v57 0)) h57 fun v58 h58 =>
  opH Tryd.prog G (sv (Instr.loadAt 28 v58)) h58 fun v59 h59 =>
  opH Tryd.prog G (callFunc 77 #[v59]) h59 fun v60 h60 =>
  opH Tryd.prog G (sv (Builtin.len_ #[22] 3 #[v60])) h60 fun v61 h61 =>
  loopP (S63_l10 G) (upd (upd (upd (upd (upd (upd (upd (upd (upd (upd (upd (upd (upd (upd r 32 v17) 33 v18) 35 v19) 34 v19) 79 v56) 78 v56) 80 v57) 81 v58) 82 v59) 83 v60) 11 v60) 84 v60) 85 v61) 86 (.int .i64 0)) h61 (blockK 3 (thenK (S63_k9 G K) (blockK 0 (thenK (S63_k3 G K) K)))))
  (opH Tryd.prog G (xEq .eql 3 (.tmp 0) (.const .nilFunc) v18 (.int .i64 3)) h56 fun v82 h82 =>
  cond v82
  (S63_k13 G K (upd (upd (upd (upd (upd (upd (upd (upd r 32 v17) 33 v18) 35 v19) 34 v19) 79 v56) 78 v56) 108 v82) 107 v82) h82)
  (opH Tryd.prog G (xEq .eql 3 (.tmp 0) (.const .nilFunc) v18 (.int .i64 4)) h82 fun v92 h92 =>
  S63_k13 G K (upd (upd (upd (upd (upd (upd (upd (upd (upd (upd r 32 v17) 33 v18) 35 v19) 34 v19) 79 v56) 78 v56) 108 v82) 107 v82) 109 v92) 107 v92) h92)))
def S63_k1 (G : Hp) (K : Exit → Rg → Hp → Prop) (r : Rg) (h : Hp) : Prop :=
  opH Tryd.prog G (sv (Instr.fieldAt 46 (r 3) 0)) h fun v5 h5 =>
  opH Tryd.prog G (sv (Instr.loadAt 3 v5)) h5 fun v6 h6 =>
  opH Tryd.prog G (xEq .neq 3 (.tmp 0) (.const .nilFunc) v6 (.int .i64 1)) h6 fun v7 h7 =>
  gd (wantB v7 true) (opH Tryd.prog G (sv (Instr.fieldAt 46 (r 3) 1)) h7) h7 fun v8 h8 =>
  gd (wantB v7 true) (opH Tryd.prog G (sv (Instr.loadAt 3 v8)) h8) h8 fun v9 h9 =>
  gd (wantB v7 true) (opH Tryd.prog G (xEq .neq 3 (.tmp 0) (.const .nilFunc) v9 (.int .i64 0)) h9) h9 fun v10 h10 =>
  gd (wantB v7 true) (fun K1 => K1 v10 h10) h10 fun v11 h11 =>
  gd (wantB v11 false) (opH Tryd.prog G (sv (Instr.fieldAt 46 (r 3) 2)) h11) h11 fun v12 h12 =>
  gd (wantB v11 false) (opH Tryd.prog G (sv (Instr.loadAt 3 v12)) h12) h12 fun v13 h13 =>
  gd (wantB v11 false) (opH Tryd.prog G (xEq .neq 3 (.tmp 0) (.const .nilFunc) v13 (.int .i64 0)) h13) h13 fun v14 h14 =>
  gd (wantB v7 true) (opH Tryd.prog G (xPick v11 (.bool true) v14) h14) h14 fun v15 h15 =>
  opH Tryd.prog G (xPick v7 v15 (.bool false)) h15 fun v16 h16 =>
  cond v16
  (K .ret (upd (upd (upd (upd (upd (upd (upd (upd (upd (upd (upd (upd (upd (upd (upd r 19 v5) 20 v6) 21 v7) 22 v7) 23 v8) 24 v9) 25 v10) 26 v11) 27 v12) 28 v13) 29 v14) 30 v15) 31 v16) 4 (.slice none 0 0)) 5 (.bool false)) h16)
  (S63_k2 G K (upd (upd (upd (upd (upd (upd (upd (upd (upd (upd (upd (upd (upd r 19 v5) 20 v6) 21 v7) 22 v7) 23 v8) 24 v9) 25 v10) 26 v11) 27 v12) 28 v13) 29 v14) 30 v15) 31 v16) h16)
def S63 (G : Hp) (K : Exit → Rg → Hp → Prop) (r : Rg) (h : Hp) : Prop :=
  opH Tryd.prog G (sv (Instr.box 46 (r 1))) h fun v0 h0 =>
  opH Tryd.prog G (sv (Instr.fieldAt 46 v0 3)) h0 fun v1 h1 =>
  opH Tryd.prog G (sv (Instr.loadAt 30 v1)) h1 fun v2 h2 =>
  opH Tryd.prog G (callFunc 23 #[(r 0), v2]) h2 fun v3 h3 =>
  opH Tryd.prog G (sv (Op.unary .not v3)) h3 fun v4 h4 =>
  cond v4
  (K .ret (upd (upd (upd (upd (upd (upd (upd (upd (upd (upd r 3 v0) 4 (.slice none 0 0)) 5 (.bool false)) 14 (r 0)) 15 v1) 16 v2) 17 v3) 18 v4) 4 (.slice none 0 0)) 5 (.bool false)) h4)
  (S63_k1 G K (upd (upd (upd (upd (upd (upd (upd (upd r 3 v0) 4 (.slice none 0 0)) 5 (.bool false)) 14 (r 0)) 15 v1) 16 v2) 17 v3) 18 v4) h4)
theorem S63_eq (G : Hp) (K : Exit → Rg → Hp → Prop) (r : Rg) (h : Hp) : wpC Tryd.prog G 119 md63 true (Tryd.f63.body.getD .skip) r h K = S63 G K r h := by kernel_rfl
theorem enter63 {G : Hp} {h : Hp} {args : Array Value} {R : Value → Hp → Prop} (hn : args.size ≤ 119) (H : S63 G (retK Tryd.prog G [.tmp 4, .tmp 5] R) (regs args) h) : HCalls Tryd.prog G 63 args h R :=
  HCalls.enter (md := md63) mixed Tryd.func63 rfl hn (by rw [← S63_eq] at H; exact H)

def md72 : Nat → Hint
  | 3 => ⟨false, [0, 1, 0, 4, 0, 16, 0, 64, 240, 496, 1023, 2047, 4095], [.pureN, .pureM, .pureN, .pureM, .pureN, .pureM, .pureN, .pureM, .pureN, .eff, .pureN, .alloc, .pureN], [.pureN, .pureM, .pureN, .pureM, .pureN, .pureM, .pureN, .pureM, .pureN, .eff, .pureN, .alloc, .pureN], [false, false, false, false, false, false, false, false, false, true, false, false, false], true⟩
  | 5 => ⟨false, [0, 1, 3, 0, 8, 31, 63, 0], [.pureN, .pureM, .eff, .pureN, .pureM, .eff, .pureM, .pureN], [.pureN, .pureM, .eff, .pureN, .pureM, .eff, .late, .pureN], [false, false, true, false, false, false, false, false], true⟩
  | 14 => ⟨false, [0, 1, 3, 7, 0, 0, 0, 64, 192, 480, 992, 2047, 4095], [.pureN, .pureN, .pureN, .pureM, .pureN, .pureN, .pureN, .pureM, .pureM, .pureN, .pureN, .pureN, .store], [.pureN, .pureN, .pureN, .pureM, .pureN, .pureN, .pureN, .pureM, .pureM, .pureN, .pureN, .pureN, .store], [false, false, false, false, false, false, false, false, false, false, false, false, false], false⟩
  | _ => ⟨false, [], [], [], [], false⟩
def S72_k2 (G : Hp) (K : Exit → Rg → Hp → Prop) (r : Rg) (h : Hp) : Prop :=
  K .ret (upd (upd (upd r 104 (r 4)) 2 (r 4)) 3 (.bool true)) h
def S72_l3_k5 (G : Hp) (K : Exit → Rg → Hp → Prop) (r : Rg) (h : Hp) : Prop :=
  opH Tryd.prog G (sv (binOp .add 3 (r 61) (.int .i64 1))) h fun v53 h53 =>
  K .normal (upd (upd r 103 v53) 61 v53) h53
def S72_l3_k6 (G : Hp) (K : Exit → Rg → Hp → Prop) (r : Rg) (h : Hp) : Prop :=
  opH Tryd.prog G (sv (Instr.indexAt 101 (r 5) (r 8))) h fun v66 h66 =>
  opH Tryd.prog G (su (Instr.storeAt 4 v66 (.bool true))) h66 fun v67 h67 =>
  opH Tryd.prog G (xNil (r 4)) h67 fun v68 h68 =>
  opH Tryd.prog G (sv (Instr.fieldAt 86 v68 2)) h68 fun v69 h69 =>
  opH Tryd.prog G (sv (Instr.loadAt 57 v69)) h69 fun v70 h70 =>
  opH Tryd.prog G (sv (Instr.indexAt 57 v70 (r 8))) h70 fun v71 h71 =>
  opH Tryd.prog G (su (Instr.storeAt 3 v71 (.int .i64 (-1)))) h71 fun v72 h72 =>
  opH Tryd.prog G (sv (Instr.fieldAt 26 (r 1) 3)) h72 fun v73 h73 =>
  opH Tryd.prog G (sv (Instr.loadAt 22 v73)) h73 fun v74 h74 =>
  opH Tryd.prog G (sv (Builtin.len_ #[22] 3 #[v74])) h74 fun v75 h75 =>
  opH Tryd.prog G (sv (binOp .geq 3 (r 6) v75)) h75 fun v76 h76 =>
  cond v76
  (pureW Tryd.prog noHp noHp (xNil (r 4)) h76 fun v77 h77 =>
  pureW Tryd.prog noHp noHp (sv (Instr.fieldAt 86 v77 2)) h77 fun v78 h78 =>
  pureW Tryd.prog G h76 (sv (Instr.loadAt 57 v78)) h78 fun v79 h79 =>
  pureW Tryd.prog noHp noHp (sv (Instr.fieldAt 26 (r 1) 3)) h79 fun v80 h80 =>
  pureW Tryd.prog G h76 (sv (Instr.loadAt 22 v80)) h80 fun v81 h81 =>
  pureW Tryd.prog G h76 (sv (Builtin.len_ #[22] 3 #[v81])) h81 fun v82 h82 =>
  pureW Tryd.prog noHp noHp (sv (binOp .sub 3 (r 6) v82)) h82 fun v83 h83 =>
  pureW Tryd.prog noHp noHp (sv (binOp .add 3 v83 (.int .i64 1))) h83 fun v84 h84 =>
  pureW Tryd.prog noHp noHp (sv (Instr.indexAt 57 v79 (r 8))) h84 fun v85 h85 =>
  opH Tryd.prog G (su (Instr.storeAt 3 v85 v84)) h85 fun v86 h86 =>
  S72_l3_k5 G K (upd (upd (upd (upd (upd (upd (upd (upd (upd (upd (upd (upd (upd (upd (upd (upd (upd (upd (upd (upd (upd (upd (upd (upd (upd (upd r 77 (r 5)) 78 (r 8)) 79 v66) 80 (r 4)) 81 v68) 82 v69) 83 v70) 84 (r 8)) 85 v71) 86 (r 6)) 87 v73) 88 v74) 89 v75) 90 v76) 91 (r 4)) 92 v77) 93 v78) 94 v79) 95 (r 8)) 96 (r 6)) 97 v80) 98 v81) 99 v82) 100 v83) 101 v84) 102 v85) h86)
  (S72_l3_k5 G K (upd (upd (upd (upd (upd (upd (upd (upd (upd (upd (upd (upd (upd (upd r 77 (r 5)) 78 (r 8)) 79 v66) 80 (r 4)) 81 v68) 82 v69) 83 v70) 84 (r 8)) 85 v71) 86 (r 6)) 87 v73) 88 v74) 89 v75) 90 v76) h76)
def S72_l3_k4 (G : Hp) (K : Exit → Rg → Hp → Prop) (r : Rg) (h : Hp) : Prop :=
  opH Tryd.prog G (sv (Instr.indexAt 22 (r 59) (r 61))) h fun v54 h54 =>
  opH Tryd.prog G (sv (Instr.loadAt 28 v54)) h54 fun v55 h55 =>
  opH Tryd.prog G (sv (Instr.alloc 28 true (.tuple #[]))) h55 fun v56 h56 =>
  opH Tryd.prog G (su (Instr.storeAt 28 v56 v55)) h56 fun v57 h57 =>
  opH Tryd.prog G (sv (Instr.loadAt 28 v56)) h57 fun v58 h58 =>
  opH Tryd.prog G (callFunc 37 #[(r 4), v58]) h58 fun v59 h59 =>
  opH Tryd.prog G (sv (binOp .lss 3 v59 (.int .i64 0))) h59 fun v60 h60 =>
  gd (wantB v60 false) (fun K1 => K1 (r 5) h60) h60 fun v61 h61 =>
  gd (wantB v60 false) (fun K1 => K1 v59 h61) h61 fun v62 h62 =>
  gd (wantB v60 false) (opH Tryd.prog G (sv (Instr.indexAt 101 v61 v62)) h62) h62 fun v63 h63 =>
  gd (wantB v60 false) (opH Tryd.prog G (sv (Instr.loadAt 4 v63)) h63) h63 fun v64 h64 =>
  opH Tryd.prog G (xPick v60 (.bool true) v64) h64 fun v65 h65 =>
  cond v65
  (K .ret (upd (upd (upd (upd (upd (upd (upd (upd (upd (upd (upd (upd (upd (upd (upd (upd (upd (upd (upd r 63 (r 61)) 64 v54) 65 v55) 7 v56) 6 (r 61)) 66 (r 4)) 67 v58) 68 v59) 8 v59) 69 v59) 70 v60) 71 v60) 72 v61) 73 v62) 74 v63) 75 v64) 76 v65) 2 (.pointer none)) 3 (.bool false)) h65)
  (S72_l3_k6 G K (upd (upd (upd (upd (upd (upd (upd (upd (upd (upd (upd (upd (upd (upd (upd (upd (upd r 63 (r 61)) 64 v54) 65 v55) 7 v56) 6 (r 61)) 66 (r 4)) 67 v58) 68 v59) 8 v59) 69 v59) 70 v60) 71 v60) 72 v61) 73 v62) 74 v63) 75 v64) 76 v65) h65)
def S72_l3 (G : Hp) (r : Rg) (h : Hp) (K : Exit → Rg → Hp → Prop) : Prop :=
  opH Tryd.prog G (sv (binOp .lss 3 (r 61) (r 60))) h fun v52 h52 =>
  cond v52
  (S72_l3_k4 G K (upd r 62 v52) h52)
  (K (.exit 0) (upd r 62 v52) h52)
def S72_k1 (G : Hp) (K : Exit → Rg → Hp → Prop) (r : Rg) (h : Hp) : Prop :=
  ∃ q25 : Hp, q25.le h ∧
  pureW Tryd.prog noHp noHp (sv (Instr.fieldAt 26 (r 1) 0)) h fun v26 h26 =>
  pureW Tryd.prog G q25 (sv (Instr.loadAt 3 v26)) h26 fun v27 h27 =>
  pureW Tryd.prog noHp noHp (sv (Instr.fieldAt 26 (r 1) 1)) h27 fun v28 h28 =>
  pureW Tryd.prog G q25 (sv (Instr.loadAt 3 v28)) h28 fun v29 h29 =>
  pureW Tryd.prog noHp noHp (sv (Instr.fieldAt 26 (r 1) 0)) h29 fun v30 h30 =>
  pureW Tryd.prog G q25 (sv (Instr.loadAt 3 v30)) h30 fun v31 h31 =>
  pureW Tryd.prog noHp noHp (sv (Instr.fieldAt 26 (r 1) 1)) h31 fun v32 h32 =>
  pureW Tryd.prog G q25 (sv (Instr.loadAt 3 v32)) h32 fun v33 h33 =>
  pureW Tryd.prog noHp noHp (sv (binOp .mul 3 v31 v33)) h33 fun v34 h34 =>
  opH Tryd.prog G (sv (Instr.makeSlice 57 v34 v34)) h34 fun v35 h35 => q25.le h35 ∧
  pureW Tryd.prog noHp noHp (sv (Instr.build 86 #[(0, v27), (1, v29), (2, v35)])) h35 fun v36 h36 =>
  opH Tryd.prog G (sv (Instr.box 86 v36)) h36 fun v37 h37 =>
  opH Tryd.prog G (sv (Instr.fieldAt 26 (r 1) 0)) h37 fun v38 h38 =>
  opH Tryd.prog G (sv (Instr.loadAt 3 v38)) h38 fun v39 h39 =>
  opH Tryd.prog G (sv (Instr.fieldAt 26 (r 1) 1)) h39 fun v40 h40 =>
  opH Tryd.prog G (sv (Instr.loadAt 3 v40)) h40 fun v41 h41 =>
  opH Tryd.prog G (sv (binOp .mul 3 v39 v41)) h41 fun v42 h42 =>
  opH Tryd.prog G (sv (Instr.makeSlice 101 v42 v42)) h42 fun v43 h43 =>
  ∃ q44 : Hp, q44.le h43 ∧
  pureW Tryd.prog noHp noHp (sv (Instr.fieldAt 26 (r 1) 3)) h43 fun v45 h45 =>
  pureW Tryd.prog G q44 (sv (Instr.loadAt 22 v45)) h45 fun v46 h46 =>
  opH Tryd.prog G (callFunc 80 #[v46]) h46 fun v47 h47 => q44.le h47 ∧
  pureW Tryd.prog noHp noHp (sv (Instr.fieldAt 26 (r 1) 4)) h47 fun v48 h48 =>
  pureW Tryd.prog G q44 (sv (Instr.loadAt 22 v48)) h48 fun v49 h49 =>
  opH Tryd.prog G (sv (Builtin.append_ #[22, 22] 22 #[v47, v49])) h49 fun v50 h50 =>
  pureW Tryd.prog G h50 (sv (Builtin.len_ #[22] 3 #[v50])) h50 fun v51 h51 =>
  loopP (S72_l3 G) (upd (upd (upd (upd (upd (upd (upd (upd (upd (upd (upd (upd (upd (upd (upd (upd (upd (upd (upd (upd (upd (upd (upd (upd (upd (upd (upd (upd r 36 v26) 37 v27) 38 v28) 39 v29) 40 v30) 41 v31) 42 v32) 43 v33) 44 v34) 45 v35) 46 v36) 47 v37) 4 v37) 48 v38) 49 v39) 50 v40) 51 v41) 52 v42) 53 v43) 5 v43) 54 v45) 55 v46) 56 v47) 57 v48) 58 v49) 59 v50) 60 v51) 61 (.int .i64 0)) h51 (blockK 0 (thenK (S72_k2 G K) K))
def S72 (G : Hp) (K : Exit → Rg → Hp → Prop) (r : Rg) (h : Hp) : Prop :=
  opH Tryd.prog G (sv (Instr.box 26 (r 0))) h fun v0 h0 =>
  opH Tryd.prog G (sv (Instr.fieldAt 26 v0 0)) h0 fun v1 h1 =>
  opH Tryd.prog G (sv (Instr.loadAt 3 v1)) h1 fun v2 h2 =>
  opH Tryd.prog G (callFunc 57 #[v2, (.int .i64 1), (.int .i64 16)]) h2 fun v3 h3 =>
  opH Tryd.prog G (sv (Op.unary .not v3)) h3 fun v4 h4 =>
  gd (wantB v4 false) (opH Tryd.prog G (sv (Instr.fieldAt 26 v0 1)) h4) h4 fun v5 h5 =>
  gd (wantB v4 false) (opH Tryd.prog G (sv (Instr.loadAt 3 v5)) h5) h5 fun v6 h6 =>
  gd (wantB v4 false) (opH Tryd.prog G (callFunc 57 #[v6, (.int .i64 1), (.int .i64 16)]) h6) h6 fun v7 h7 =>
  gd (wantB v4 false) (opH Tryd.prog G (sv (Op.unary .not v7)) h7) h7 fun v8 h8 =>
  opH Tryd.prog G (xPick v4 (.bool true) v8) h8 fun v9 h9 =>
  gd (wantB v9 false) (opH Tryd.prog G (sv (Instr.fieldAt 26 v0 4)) h9) h9 fun v10 h10 =>
  gd (wantB v9 false) (opH Tryd.prog G (sv (Instr.loadAt 22 v10)) h10) h10 fun v11 h11 =>
  gd (wantB v9 false) (opH Tryd.prog G (sv (Builtin.len_ #[22] 3 #[v11])) h11) h11 fun v12 h12 =>
  gd (wantB v9 false) (opH Tryd.prog G (sv (binOp .gtr 3 v12 (.int .i64 8))) h12) h12 fun v13 h13 =>
  opH Tryd.prog G (xPick v9 (.bool true) v13) h13 fun v14 h14 =>
  gd (wantB v14 false) (opH Tryd.prog G (sv (Instr.fieldAt 26 v0 3)) h14) h14 fun v15 h15 =>
  gd (wantB v14 false) (opH Tryd.prog G (sv (Instr.loadAt 22 v15)) h15) h15 fun v16 h16 =>
  gd (wantB v14 false) (opH Tryd.prog G (sv (Builtin.len_ #[22] 3 #[v16])) h16) h16 fun v17 h17 =>
  gd (wantB v14 false) (opH Tryd.prog G (sv (Instr.fieldAt 26 v0 0)) h17) h17 fun v18 h18 =>
  gd (wantB v14 false) (opH Tryd.prog G (sv (Instr.loadAt 3 v18)) h18) h18 fun v19 h19 =>
  gd (wantB v14 false) (opH Tryd.prog G (sv (Instr.fieldAt 26 v0 1)) h19) h19 fun v20 h20 =>
  gd (wantB v14 false) (opH Tryd.prog G (sv (Instr.loadAt 3 v20)) h20) h20 fun v21 h21 =>
  gd (wantB v14 false) (opH Tryd.prog G (sv (binOp .mul 3 v19 v21)) h21) h21 fun v22 h22 =>
  gd (wantB v14 false) (opH Tryd.prog G (sv (binOp .gtr 3 v17 v22)) h22) h22 fun v23 h23 =>
  opH Tryd.prog G (xPick v14 (.bool true) v23) h23 fun v24 h24 =>
  cond v24
  (K .ret (upd (upd (upd (upd (upd (upd (upd (upd (upd (upd (upd (upd (upd (upd (upd (upd (upd (upd (upd (upd (upd (upd (upd (upd (upd (upd (upd (upd (upd (upd (upd (upd r 1 v0) 2 (.pointer none)) 3 (.bool false)) 9 v1) 10 v2) 11 v3) 12 v4) 13 v4) 14 v5) 15 v6) 16 v7) 17 v8) 18 v9) 19 v9) 20 v10) 21 v11) 22 v12) 23 v13) 24 v14) 25 v14) 26 v15) 27 v16) 28 v17) 29 v18) 30 v19) 31 v20) 32 v21) 33 v22) 34 v23) 35 v24) 2 (.pointer none)) 3 (.bool false)) h24)
  (S72_k1 G K (upd (upd (upd (upd (upd (upd (upd (upd (upd (upd (upd (upd (upd (upd (upd (upd (upd (upd (upd (upd (upd (upd (upd (upd (upd (upd (upd (upd (upd (upd r 1 v0) 2 (.pointer none)) 3 (.bool false)) 9 v1) 10 v2) 11 v3) 12 v4) 13 v4) 14 v5) 15 v6) 16 v7) 17 v8) 18 v9) 19 v9) 20 v10) 21 v11) 22 v12) 23 v13) 24 v14) 25 v14) 26 v15) 27 v16) 28 v17) 29 v18) 30 v19) 31 v20) 32 v21) 33 v22) 34 v23) 35 v24) h24)
theorem S72_eq (G : Hp) (K : Exit → Rg → Hp → Prop) (r : Rg) (h : Hp) : wpC Tryd.prog G 105 md72 true (Tryd.f72.body.getD .skip) r h K = S72 G K r h := by kernel_rfl
theorem enter72 {G : Hp} {h : Hp} {args : Array Value} {R : Value → Hp → Prop} (hn : args.size ≤ 105) (H : S72 G (retK Tryd.prog G [.tmp 2, .tmp 3] R) (regs args) h) : HCalls Tryd.prog G 72 args h R :=
  HCalls.enter (md := md72) mixed Tryd.func72 rfl hn (by rw [← S72_eq] at H; exact H)

def md73 : Nat → Hint
  | 6 => ⟨false, [0, 0, 2, 6, 14, 31, 0, 0, 128, 384, 896, 1984, 4095, 8191, 0, 32767], [.pureN, .pureN, .pureN, .pureN, .pureM, .pureN, .pureN, .pureN, .pureN, .pureN, .pureM, .pureN, .pureN, .pureN, .alloc, .store], [.pureN, .pureN, .pureN, .pureN, .pureM, .pureN, .pureN, .pureN, .pureN, .pureN, .pureM, .pureN, .pureN, .pureN, .alloc, .store], [false, false, false, false, false, false, false, false, false, false, false, false, false, false, false, false], false⟩
  | _ => ⟨false, [], [], [], [], false⟩
def S73_k3 (G : Hp) (K : Exit → Rg → Hp → Prop) (r : Rg) (h : Hp) : Prop :=
  K .ret (upd r 4 (.bool true)) h
def S73_l4_k6 (G : Hp) (K : Exit → Rg → Hp → Prop) (r : Rg) (h : Hp) : Prop :=
  opH Tryd.prog G (sv (binOp .add 3 (r 81) (.int .i64 1))) h fun v13 h13 =>
  K .normal (upd (upd r 124 v13) 81 v13) h13
def S73_l4_l8_k10 (G : Hp) (K : Exit → Rg → Hp → Prop) (r : Rg) (h : Hp) : Prop :=
  opH Tryd.prog G (sv (binOp .add 3 (r 93) (.int .i64 1))) h fun v25 h25 =>
  K .normal (upd (upd r 123 v25) 93 v25) h25
def S73_l4_l8_k11 (G : Hp) (K : Exit → Rg → Hp → Prop) (r : Rg) (h : Hp) : Prop :=
  opH Tryd.prog G (sv (Instr.indexAt 101 (r 7) (r 12))) h fun v43 h43 =>
  opH Tryd.prog G (su (Instr.storeAt 4 v43 (.bool true))) h43 fun v44 h44 =>
  opH Tryd.prog G (xNil (r 0)) h44 fun v45 h45 =>
  opH Tryd.prog G (sv (Instr.fieldAt 86 v45 2)) h45 fun v46 h46 =>
  opH Tryd.prog G (sv (Instr.loadAt 57 v46)) h46 fun v47 h47 =>
  opH Tryd.prog G (sv (Instr.indexAt 57 v47 (r 12))) h47 fun v48 h48 =>
  opH Tryd.prog G (su (Instr.storeAt 3 v48 (.int .i64 (-2)))) h48 fun v49 h49 =>
  S73_l4_l8_k10 G K (upd (upd (upd (upd (upd (upd (upd (upd (upd r 114 (r 7)) 115 (r 12)) 116 v43) 117 (r 0)) 118 v45) 119 v46) 120 v47) 121 (r 12)) 122 v48) h49
def S73_l4_l8_k9 (G : Hp) (K : Exit → Rg → Hp → Prop) (r : Rg) (h : Hp) : Prop :=
  opH Tryd.prog G (sv (Instr.indexAt 22 (r 91) (r 93))) h fun v26 h26 =>
  opH Tryd.prog G (sv (Instr.loadAt 28 v26)) h26 fun v27 h27 =>
  opH Tryd.prog G (sv (Instr.alloc 28 true (.tuple #[]))) h27 fun v28 h28 =>
  opH Tryd.prog G (su (Instr.storeAt 28 v28 v27)) h28 fun v29 h29 =>
  opH Tryd.prog G (sv (Instr.loadAt 28 v28)) h29 fun v30 h30 =>
  opH Tryd.prog G (callFunc 37 #[(r 0), v30]) h30 fun v31 h31 =>
  opH Tryd.prog G (sv (Instr.indexAt 101 (r 7) v31)) h31 fun v32 h32 =>
  opH Tryd.prog G (sv (Instr.loadAt 4 v32)) h32 fun v33 h33 =>
  gd (wantB v33 false) (fun K1 => K1 (r 0) h33) h33 fun v34 h34 =>
  gd (wantB v33 false) (opH Tryd.prog G (xNil v34) h34) h34 fun v35 h35 =>
  gd (wantB v33 false) (opH Tryd.prog G (sv (Instr.fieldAt 86 v35 2)) h35) h35 fun v36 h36 =>
  gd (wantB v33 false) (opH Tryd.prog G (sv (Instr.loadAt 57 v36)) h36) h36 fun v37 h37 =>
  gd (wantB v33 false) (fun K1 => K1 v31 h37) h37 fun v38 h38 =>
  gd (wantB v33 false) (opH Tryd.prog G (sv (Instr.indexAt 57 v37 v38)) h38) h38 fun v39 h39 =>
  gd (wantB v33 false) (opH Tryd.prog G (sv (Instr.loadAt 3 v39)) h39) h39 fun v40 h40 =>
  gd (wantB v33 false) (opH Tryd.prog G (sv (binOp .gtr 3 v40 (.int .i64 0))) h40) h40 fun v41 h41 =>
  opH Tryd.prog G (xPick v33 (.bool true) v41) h41 fun v42 h42 =>
  cond v42
  (K .ret (upd (upd (upd (upd (upd (upd (upd (upd (upd (upd (upd (upd (upd (upd (upd (upd (upd (upd (upd (upd (upd (upd r 95 v26) 96 v27) 11 v28) 97 (r 0)) 98 v30) 99 v31) 12 v31) 100 (r 7)) 101 v31) 102 v32) 103 v33) 104 v33) 105 v34) 106 v35) 107 v36) 108 v37) 109 v38) 110 v39) 111 v40) 112 v41) 113 v42) 4 (.bool false)) h42)
  (S73_l4_l8_k11 G K (upd (upd (upd (upd (upd (upd (upd (upd (upd (upd (upd (upd (upd (upd (upd (upd (upd (upd (upd (upd (upd r 95 v26) 96 v27) 11 v28) 97 (r 0)) 98 v30) 99 v31) 12 v31) 100 (r 7)) 101 v31) 102 v32) 103 v33) 104 v33) 105 v34) 106 v35) 107 v36) 108 v37) 109 v38) 110 v39) 111 v40) 112 v41) 113 v42) h42)
def S73_l4_l8 (G : Hp) (r : Rg) (h : Hp) (K : Exit → Rg → Hp → Prop) : Prop :=
  opH Tryd.prog G (sv (binOp .lss 3 (r 93) (r 92))) h fun v24 h24 =>
  cond v24
  (S73_l4_l8_k9 G K (upd r 94 v24) h24)
  (K (.exit 4) (upd r 94 v24) h24)
def S73_l4_k7 (G : Hp) (K : Exit → Rg → Hp → Prop) (r : Rg) (h : Hp) : Prop :=
  opH Tryd.prog G (sv (Instr.loadAt 30 (r 9))) h fun v21 h21 =>
  opH Tryd.prog G (callFunc 21 #[(r 0), v21]) h21 fun v22 h22 =>
  opH Tryd.prog G (sv (Builtin.len_ #[22] 3 #[v22])) h22 fun v23 h23 =>
  loopP (S73_l4_l8 G) (upd (upd (upd (upd (upd r 89 (r 0)) 90 v21) 91 v22) 92 v23) 93 (.int .i64 0)) h23 (blockK 4 (blockK 3 (thenK (S73_l4_k6 G K) K)))
def S73_l4_k5 (G : Hp) (K : Exit → Rg → Hp → Prop) (r : Rg) (h : Hp) : Prop :=
  opH Tryd.prog G (sv (Instr.indexAt 23 (r 79) (r 81))) h fun v14 h14 =>
  opH Tryd.prog G (sv (Instr.loadAt 30 v14)) h14 fun v15 h15 =>
  opH Tryd.prog G (sv (Instr.alloc 30 true (.tuple #[]))) h15 fun v16 h16 =>
  opH Tryd.prog G (su (Instr.storeAt 30 v16 v15)) h16 fun v17 h17 =>
  opH Tryd.prog G (sv (Instr.loadAt 30 v16)) h17 fun v18 h18 =>
  opH Tryd.prog G (callFunc 23 #[(r 0), v18]) h18 fun v19 h19 =>
  opH Tryd.prog G (sv (Op.unary .not v19)) h19 fun v20 h20 =>
  cond v20
  (K .ret (upd (upd (upd (upd (upd (upd (upd (upd r 83 v14) 84 v15) 9 v16) 85 (r 0)) 86 v18) 87 v19) 88 v20) 4 (.bool false)) h20)
  (S73_l4_k7 G K (upd (upd (upd (upd (upd (upd (upd r 83 v14) 84 v15) 9 v16) 85 (r 0)) 86 v18) 87 v19) 88 v20) h20)
def S73_l4 (G : Hp) (r : Rg) (h : Hp) (K : Exit → Rg → Hp → Prop) : Prop :=
  opH Tryd.prog G (sv (binOp .lss 3 (r 81) (r 80))) h fun v12 h12 =>
  cond v12
  (S73_l4_k5 G K (upd r 82 v12) h12)
  (K (.exit 2) (upd r 82 v12) h12)
def S73_k2 (G : Hp) (K : Exit → Rg → Hp → Prop) (r : Rg) (h : Hp) : Prop :=
  opH Tryd.prog G (xNil (r 0)) h fun v6 h6 =>
  opH Tryd.prog G (sv (Instr.fieldAt 86 v6 2)) h6 fun v7 h7 =>
  opH Tryd.prog G (sv (Instr.loadAt 57 v7)) h7 fun v8 h8 =>
  opH Tryd.prog G (sv (Builtin.len_ #[57] 3 #[v8])) h8 fun v9 h9 =>
  opH Tryd.prog G (sv (Instr.makeSlice 101 v9 v9)) h9 fun v10 h10 =>
  opH Tryd.prog G (sv (Builtin.len_ #[23] 3 #[(r 1)])) h10 fun v11 h11 =>
  loopP (S73_l4 G) (upd (upd (upd (upd (upd (upd (upd (upd (upd (upd r 73 (r 0)) 74 v6) 75 v7) 76 v8) 77 v9) 78 v10) 7 v10) 79 (r 1)) 80 v11) 81 (.int .i64 0)) h11 (blockK 2 (thenK (S73_k3 G K) K))
def S73_l12_k14 (G : Hp) (K : Exit → Rg → Hp → Prop) (r : Rg) (h : Hp) : Prop :=
  opH Tryd.prog G (sv (binOp .add 3 (r 21) (.int .i64 1))) h fun v51 h51 =>
  K .normal (upd (upd r 72 v51) 21 v51) h51
def S73_l12_k16 (G : Hp) (K : Exit → Rg → Hp → Prop) (r : Rg) (h : Hp) : Prop :=
  opH Tryd.prog G (xNil (r 0)) h fun v86 h86 =>
  opH Tryd.prog G (sv (Instr.fieldAt 86 v86 2)) h86 fun v87 h87 =>
  opH Tryd.prog G (sv (Instr.loadAt 57 v87)) h87 fun v88 h88 =>
  opH Tryd.prog G (sv (Instr.indexAt 57 v88 (r 5))) h88 fun v89 h89 =>
  opH Tryd.prog G (su (Instr.storeAt 3 v89 (.int .i64 (-2)))) h89 fun v90 h90 =>
  S73_l12_k14 G K (upd (upd (upd (upd (upd (upd r 66 (r 0)) 67 v86) 68 v87) 69 v88) 70 (r 5)) 71 v89) h90
def S73_l12_k15 (G : Hp) (K : Exit → Rg → Hp → Prop) (r : Rg) (h : Hp) : Prop :=
  opH Tryd.prog G (xNil (r 0)) h fun v80 h80 =>
  opH Tryd.prog G (sv (Instr.fieldAt 86 v80 2)) h80 fun v81 h81 =>
  opH Tryd.prog G (sv (Instr.loadAt 57 v81)) h81 fun v82 h82 =>
  opH Tryd.prog G (sv (Instr.indexAt 57 v82 (r 5))) h82 fun v83 h83 =>
  opH Tryd.prog G (sv (Instr.loadAt 3 v83)) h83 fun v84 h84 =>
  opH Tryd.prog G (sv (binOp .gtr 3 v84 (.int .i64 0))) h84 fun v85 h85 =>
  cond v85
  (K .ret (upd (upd (upd (upd (upd (upd (upd (upd (upd r 58 (r 0)) 59 v80) 60 v81) 61 v82) 62 (r 5)) 63 v83) 64 v84) 65 v85) 4 (.bool false)) h85)
  (S73_l12_k16 G K (upd (upd (upd (upd (upd (upd (upd (upd r 58 (r 0)) 59 v80) 60 v81) 61 v82) 62 (r 5)) 63 v83) 64 v84) 65 v85) h85)
def S73_l12_k13 (G : Hp) (K : Exit → Rg → Hp → Prop) (r : Rg) (h : Hp) : Prop :=
  pureW Tryd.prog noHp noHp (xNil (r 0)) h fun v52 h52 =>
  pureW Tryd.prog noHp noHp (sv (Instr.fieldAt 86 v52 0)) h52 fun v53 h53 =>
  pureW Tryd.prog G h (sv (Instr.loadAt 3 v53)) h53 fun v54 h54 =>
  pureW Tryd.prog noHp noHp (sv (binOp .rem 3 (r 21) v54)) h54 fun v55 h55 =>
  pureW Tryd.prog noHp noHp (xNil (r 0)) h55 fun v56 h56 =>
  pureW Tryd.prog noHp noHp (sv (Instr.fieldAt 86 v56 0)) h56 fun v57 h57 =>
  pureW Tryd.prog G h (sv (Instr.loadAt 3 v57)) h57 fun v58 h58 =>
  pureW Tryd.prog noHp noHp (sv (binOp .quo 3 (r 21) v58)) h58 fun v59 h59 =>
  pureW Tryd.prog noHp noHp (sv (Instr.build 28 #[(0, v55), (1, v59)])) h59 fun v60 h60 =>
  pureW Tryd.prog noHp noHp (sv (Instr.build 30 #[(0, v60)])) h60 fun v61 h61 =>
  opH Tryd.prog G (sv (Instr.alloc 30 true (.tuple #[]))) h61 fun v62 h62 =>
  opH Tryd.prog G (su (Instr.storeAt 30 v62 v61)) h62 fun v63 h63 =>
  opH Tryd.prog G (xNil (r 0)) h63 fun v64 h64 =>
  opH Tryd.prog G (sv (Instr.fieldAt 86 v64 2)) h64 fun v65 h65 =>
  opH Tryd.prog G (sv (Instr.loadAt 57 v65)) h65 fun v66 h66 =>
  opH Tryd.prog G (sv (Instr.indexAt 57 v66 (r 21))) h66 fun v67 h67 =>
  opH Tryd.prog G (sv (Instr.loadAt 3 v67)) h67 fun v68 h68 =>
  opH Tryd.prog G (xEq .eql 3 (.tmp 0) (.const .nilFunc) v68 (.int .i64 (-1))) h68 fun v69 h69 =>
  gd (wantB v69 false) (fun K1 => K1 (r 0) h69) h69 fun v70 h70 =>
  gd (wantB v69 false) (opH Tryd.prog G (sv (Instr.loadAt 30 v62)) h70) h70 fun v71 h71 =>
  gd (wantB v69 false) (opH Tryd.prog G (callFunc 23 #[v70, v71]) h71) h71 fun v72 h72 =>
  opH Tryd.prog G (xPick v69 (.bool true) v72) h72 fun v73 h73 =>
  gd (wantB v73 false) (fun K1 => K1 (r 0) h73) h73 fun v74 h74 =>
  gd (wantB v73 false) (opH Tryd.prog G (sv (Instr.fieldAt 30 v62 0)) h74) h74 fun v75 h75 =>
  gd (wantB v73 false) (opH Tryd.prog G (sv (Instr.loadAt 28 v75)) h75) h75 fun v76 h76 =>
  gd (wantB v73 false) (opH Tryd.prog G (sv (Instr.build 30 #[(0, v76), (1, (.bool true))])) h76) h76 fun v77 h77 =>
  gd (wantB v73 false) (opH Tryd.prog G (callFunc 23 #[v74, v77]) h77) h77 fun v78 h78 =>
  opH Tryd.prog G (xPick v73 (.bool true) v78) h78 fun v79 h79 =>
  cond v79
  (S73_l12_k14 G K (upd (upd (upd (upd (upd (upd (upd (upd (upd (upd (upd (upd (upd (upd (upd (upd (upd (upd (upd (upd (upd (upd (upd (upd (upd (upd (upd (upd (upd (upd (upd (upd (upd (upd (upd (upd (upd r 23 (r 21)) 5 (r 21)) 24 (r 21)) 25 (r 0)) 26 v52) 27 v53) 28 v54) 29 v55) 30 (r 21)) 31 (r 0)) 32 v56) 33 v57) 34 v58) 35 v59) 36 v60) 37 v61) 6 v62) 38 (r 0)) 39 v64) 40 v65) 41 v66) 42 (r 21)) 43 v67) 44 v68) 45 v69) 46 v69) 47 v70) 48 v71) 49 v72) 50 v73) 51 v73) 52 v74) 53 v75) 54 v76) 55 v77) 56 v78) 57 v79) h79)
  (S73_l12_k15 G K (upd (upd (upd (upd (upd (upd (upd (upd (upd (upd (upd (upd (upd (upd (upd (upd (upd (upd (upd (upd (upd (upd (upd (upd (upd (upd (upd (upd (upd (upd (upd (upd (upd (upd (upd (upd (upd r 23 (r 21)) 5 (r 21)) 24 (r 21)) 25 (r 0)) 26 v52) 27 v53) 28 v54) 29 v55) 30 (r 21)) 31 (r 0)) 32 v56) 33 v57) 34 v58) 35 v59) 36 v60) 37 v61) 6 v62) 38 (r 0)) 39 v64) 40 v65) 41 v66) 42 (r 21)) 43 v67) 44 v68) 45 v69) 46 v69) 47 v70) 48 v71) 49 v72) 50 v73) 51 v73) 52 v74) 53 v75) 54 v76) 55 v77) 56 v78) 57 v79) h79)
def S73_l12 (G : Hp) (r : Rg) (h : Hp) (K : Exit → Rg → Hp → Prop) : Prop :=
  opH Tryd.prog G (sv (binOp .lss 3 (r 21) (r 20))) h fun v50 h50 =>
  cond v50
  (S73_l12_k13 G K (upd r 22 v50) h50)
  (K (.exit 0) (upd r 22 v50) h50)
def S73_k1 (G : Hp) (K : Exit → Rg → Hp → Prop) (r : Rg) (h : Hp) : Prop :=
  opH Tryd.prog G (xNil (r 0)) h fun v2 h2 =>
  opH Tryd.prog G (sv (Instr.fieldAt 86 v2 2)) h2 fun v3 h3 =>
  opH Tryd.prog G (sv (Instr.loadAt 57 v3)) h3 fun v4 h4 =>
  opH Tryd.prog G (sv (Builtin.len_ #[57] 3 #[v4])) h4 fun v5 h5 =>
  loopP (S73_l12 G) (upd (upd (upd (upd (upd (upd r 16 (r 0)) 17 v2) 18 v3) 19 v4) 20 v5) 21 (.int .i64 0)) h5 (blockK 0 (thenK (S73_k2 G K) K))
def S73 (G : Hp) (K : Exit → Rg → Hp → Prop) (r : Rg) (h : Hp) : Prop :=
  opH Tryd.prog G (sv (Builtin.len_ #[23] 3 #[(r 1)])) h fun v0 h0 =>
  opH Tryd.prog G (sv (binOp .gtr 3 v0 (.int .i64 8))) h0 fun v1 h1 =>
  cond v1
  (K .ret (upd (upd (upd (upd (upd r 4 (.bool false)) 13 (r 1)) 14 v0) 15 v1) 4 (.bool false)) h1)
  (S73_k1 G K (upd (upd (upd (upd r 4 (.bool false)) 13 (r 1)) 14 v0) 15 v1) h1)
theorem S73_eq (G : Hp) (K : Exit → Rg → Hp → Prop) (r : Rg) (h : Hp) : wpC Tryd.prog G 125 md73 true (Tryd.f73.body.getD .skip) r h K = S73 G K r h := by kernel_rfl
theorem enter73 {G : Hp} {h : Hp} {args : Array Value} {R : Value → Hp → Prop} (hn : args.size ≤ 125) (H : S73 G (retK Tryd.prog G [.tmp 4] R) (regs args) h) : HCalls Tryd.prog G 73 args h R :=
  HCalls.enter (md := md73) mixed Tryd.func73 rfl hn (by rw [← S73_eq] at H; exact H)

def md74 : Nat → Hint
  | _ => ⟨false, [], [], [], [], false⟩
def S74_k1 (G : Hp) (K : Exit → Rg → Hp → Prop) (r : Rg) (h : Hp) : Prop :=
  K .ret (upd r 6 (.bool true)) h
def S74_l2_k4 (G : Hp) (K : Exit → Rg → Hp → Prop) (r : Rg) (h : Hp) : Prop :=
  opH Tryd.prog G (sv (binOp .add 3 (r 22) (.int .i64 1))) h fun v8 h8 =>
  K .normal (upd (upd r 77 v8) 22 v8) h8
def S74_l2_l6_k8 (G : Hp) (K : Exit → Rg → Hp → Prop) (r : Rg) (h : Hp) : Prop :=
  opH Tryd.prog G (sv (binOp .add 3 (r 56) (.int .i64 1))) h fun v40 h40 =>
  K .normal (upd (upd r 76 v40) 56 v40) h40
def S74_l2_l6_k9 (G : Hp) (K : Exit → Rg → Hp → Prop) (r : Rg) (h : Hp) : Prop :=
  opH Tryd.prog G (su (Instr.mapUpdate 102 (r 8) (r 12) (.int .i64 1))) h fun v54 h54 =>
  S74_l2_l6_k8 G K (upd (upd r 74 (r 8)) 75 (r 12)) h54
def S74_l2_l6_k7 (G : Hp) (K : Exit → Rg → Hp → Prop) (r : Rg) (h : Hp) : Prop :=
  opH Tryd.prog G (sv (Instr.indexAt 57 (r 54) (r 56))) h fun v41 h41 =>
  opH Tryd.prog G (sv (Instr.loadAt 3 v41)) h41 fun v42 h42 =>
  opH Tryd.prog G (callFunc 57 #[v42, (.int .i64 1), (.int .i64 1000000000)]) h42 fun v43 h43 =>
  opH Tryd.prog G (sv (Op.unary .not v43)) h43 fun v44 h44 =>
  gd (wantB v44 false) (fun K1 => K1 (r 8) h44) h44 fun v45 h45 =>
  gd (wantB v44 false) (fun K1 => K1 v42 h45) h45 fun v46 h46 =>
  gd (wantB v44 false) (opH Tryd.prog G (sv (Instr.lookup 102 v45 v46 false)) h46) h46 fun v47 h47 =>
  gd (wantB v44 false) (opH Tryd.prog G (sv (binOp .gtr 3 v47 (.int .i64 0))) h47) h47 fun v48 h48 =>
  opH Tryd.prog G (xPick v44 (.bool true) v48) h48 fun v49 h49 =>
  gd (wantB v49 false) (fun K1 => K1 (r 8) h49) h49 fun v50 h50 =>
  gd (wantB v49 false) (opH Tryd.prog G (sv (Builtin.len_ #[102] 3 #[v50])) h50) h50 fun v51 h51 =>
  gd (wantB v49 false) (opH Tryd.prog G (xEq .eql 3 (.tmp 0) (.const .nilFunc) v51 (.int .i64 512)) h51) h51 fun v52 h52 =>
  opH Tryd.prog G (xPick v49 (.bool true) v52) h52 fun v53 h53 =>
  cond v53
  (K .ret (upd (upd (upd (upd (upd (upd (upd (upd (upd (upd (upd (upd (upd (upd (upd (upd (upd (upd r 58 v41) 59 v42) 12 v42) 60 v42) 61 v43) 62 v44) 63 v44) 64 v45) 65 v46) 66 v47) 67 v48) 68 v49) 69 v49) 70 v50) 71 v51) 72 v52) 73 v53) 6 (.bool false)) h53)
  (S74_l2_l6_k9 G K (upd (upd (upd (upd (upd (upd (upd (upd (upd (upd (upd (upd (upd (upd (upd (upd (upd r 58 v41) 59 v42) 12 v42) 60 v42) 61 v43) 62 v44) 63 v44) 64 v45) 65 v46) 66 v47) 67 v48) 68 v49) 69 v49) 70 v50) 71 v51) 72 v52) 73 v53) h53)
def S74_l2_l6 (G : Hp) (r : Rg) (h : Hp) (K : Exit → Rg → Hp → Prop) : Prop :=
  opH Tryd.prog G (sv (binOp .lss 3 (r 56) (r 55))) h fun v39 h39 =>
  cond v39
  (S74_l2_l6_k7 G K (upd r 57 v39) h39)
  (K (.exit 2) (upd r 57 v39) h39)
def S74_l2_k5 (G : Hp) (K : Exit → Rg → Hp → Prop) (r : Rg) (h : Hp) : Prop :=
  opH Tryd.prog G (sv (Instr.fieldAt 95 (r 10) 0)) h fun v31 h31 =>
  opH Tryd.prog G (sv (Instr.loadAt 28 v31)) h31 fun v32 h32 =>
  opH Tryd.prog G (callFunc 37 #[(r 0), v32]) h32 fun v33 h33 =>
  opH Tryd.prog G (sv (Instr.indexAt 101 (r 7) v33)) h33 fun v34 h34 =>
  opH Tryd.prog G (su (Instr.storeAt 4 v34 (.bool true))) h34 fun v35 h35 =>
  opH Tryd.prog G (sv (Instr.fieldAt 95 (r 10) 1)) h35 fun v36 h36 =>
  opH Tryd.prog G (sv (Instr.loadAt 57 v36)) h36 fun v37 h37 =>
  opH Tryd.prog G (sv (Builtin.len_ #[57] 3 #[v37])) h37 fun v38 h38 =>
  loopP (S74_l2_l6 G) (upd (upd (upd (upd (upd (upd (upd (upd (upd (upd r 47 (r 7)) 48 (r 0)) 49 v31) 50 v32) 51 v33) 52 v34) 53 v36) 54 v37) 55 v38) 56 (.int .i64 0)) h38 (blockK 2 (blockK 1 (thenK (S74_l2_k4 G K) K)))
def S74_l2_k3 (G : Hp) (K : Exit → Rg → Hp → Prop) (r : Rg) (h : Hp) : Prop :=
  opH Tryd.prog G (sv (Instr.indexAt 24 (r 20) (r 22))) h fun v9 h9 =>
  opH Tryd.prog G (sv (Instr.loadAt 95 v9)) h9 fun v10 h10 =>
  opH Tryd.prog G (sv (Instr.alloc 95 true (.tuple #[]))) h10 fun v11 h11 =>
  opH Tryd.prog G (su (Instr.storeAt 95 v11 v10)) h11 fun v12 h12 =>
  opH Tryd.prog G (sv (Instr.fieldAt 95 v11 0)) h12 fun v13 h13 =>
  opH Tryd.prog G (sv (Instr.loadAt 28 v13)) h13 fun v14 h14 =>
  opH Tryd.prog G (callFunc 35 #[(r 0), v14]) h14 fun v15 h15 =>
  opH Tryd.prog G (sv (Op.unary .not v15)) h15 fun v16 h16 =>
  gd (wantB v16 false) (fun K1 => K1 (r 7) h16) h16 fun v17 h17 =>
  gd (wantB v16 false) (fun K1 => K1 (r 0) h17) h17 fun v18 h18 =>
  gd (wantB v16 false) (opH Tryd.prog G (sv (Instr.fieldAt 95 v11 0)) h18) h18 fun v19 h19 =>
  gd (wantB v16 false) (opH Tryd.prog G (sv (Instr.loadAt 28 v19)) h19) h19 fun v20 h20 =>
  gd (wantB v16 false) (opH Tryd.prog G (callFunc 37 #[v18, v20]) h20) h20 fun v21 h21 =>
  gd (wantB v16 false) (opH Tryd.prog G (sv (Instr.indexAt 101 v17 v21)) h21) h21 fun v22 h22 =>
  gd (wantB v16 false) (opH Tryd.prog G (sv (Instr.loadAt 4 v22)) h22) h22 fun v23 h23 =>
  opH Tryd.prog G (xPick v16 (.bool true) v23) h23 fun v24 h24 =>
  gd (wantB v24 false) (opH Tryd.prog G (sv (Instr.fieldAt 95 v11 1)) h24) h24 fun v25 h25 =>
  gd (wantB v24 false) (opH Tryd.prog G (sv (Instr.loadAt 57 v25)) h25) h25 fun v26 h26 =>
  gd (wantB v24 false) (opH Tryd.prog G (sv (Builtin.len_ #[57] 3 #[v26])) h26) h26 fun v27 h27 =>
  gd (wantB v24 false) (fun K1 => K1 (r 2) h27) h27 fun v28 h28 =>
  gd (wantB v24 false) (opH Tryd.prog G (sv (binOp .gtr 3 v27 v28)) h28) h28 fun v29 h29 =>
  opH Tryd.prog G (xPick v24 (.bool true) v29) h29 fun v30 h30 =>
  cond v30
  (K .ret (upd (upd (upd (upd (upd (upd (upd (upd (upd (upd (upd (upd (upd (upd (upd (upd (upd (upd (upd (upd (upd (upd (upd (upd (upd r 24 v9) 25 v10) 10 v11) 26 (r 0)) 27 v13) 28 v14) 29 v15) 30 v16) 31 v16) 32 v17) 33 v18) 34 v19) 35 v20) 36 v21) 37 v22) 38 v23) 39 v24) 40 v24) 41 v25) 42 v26) 43 v27) 44 v28) 45 v29) 46 v30) 6 (.bool false)) h30)
  (S74_l2_k5 G K (upd (upd (upd (upd (upd (upd (upd (upd (upd (upd (upd (upd (upd (upd (upd (upd (upd (upd (upd (upd (upd (upd (upd (upd r 24 v9) 25 v10) 10 v11) 26 (r 0)) 27 v13) 28 v14) 29 v15) 30 v16) 31 v16) 32 v17) 33 v18) 34 v19) 35 v20) 36 v21) 37 v22) 38 v23) 39 v24) 40 v24) 41 v25) 42 v26) 43 v27) 44 v28) 45 v29) 46 v30) h30)
def S74_l2 (G : Hp) (r : Rg) (h : Hp) (K : Exit → Rg → Hp → Prop) : Prop :=
  opH Tryd.prog G (sv (binOp .lss 3 (r 22) (r 21))) h fun v7 h7 =>
  cond v7
  (S74_l2_k3 G K (upd r 23 v7) h7)
  (K (.exit 0) (upd r 23 v7) h7)
def S74 (G : Hp) (K : Exit → Rg → Hp → Prop) (r : Rg) (h : Hp) : Prop :=
  opH Tryd.prog G (xNil (r 0)) h fun v0 h0 =>
  opH Tryd.prog G (sv (Instr.fieldAt 86 v0 2)) h0 fun v1 h1 =>
  opH Tryd.prog G (sv (Instr.loadAt 57 v1)) h1 fun v2 h2 =>
  opH Tryd.prog G (sv (Builtin.len_ #[57] 3 #[v2])) h2 fun v3 h3 =>
  opH Tryd.prog G (sv (Instr.makeSlice 101 v3 v3)) h3 fun v4 h4 =>
  opH Tryd.prog G (sv (Instr.makeMap 102 none)) h4 fun v5 h5 =>
  opH Tryd.prog G (sv (Builtin.len_ #[24] 3 #[(r 1)])) h5 fun v6 h6 =>
  loopP (S74_l2 G) (upd (upd (upd (upd (upd (upd (upd (upd (upd (upd (upd (upd (upd r 6 (.bool false)) 13 (r 0)) 14 v0) 15 v1) 16 v2) 17 v3) 18 v4) 7 v4) 19 v5) 8 v5) 20 (r 1)) 21 v6) 22 (.int .i64 0)) h6 (blockK 0 (thenK (S74_k1 G K) K))
theorem S74_eq (G : Hp) (K : Exit → Rg → Hp → Prop) (r : Rg) (h : Hp) : wpC Tryd.prog G 78 md74 true (Tryd.f74.body.getD .skip) r h K = S74 G K r h := by kernel_rfl
theorem enter74 {G : Hp} {h : Hp} {args : Array Value} {R : Value → Hp → Prop} (hn : args.size ≤ 78) (H : S74 G (retK Tryd.prog G [.tmp 6] R) (regs args) h) : HCalls Tryd.prog G 74 args h R :=
  HCalls.enter (md := md74) mixed Tryd.func74 rfl hn (by rw [← S74_eq] at H; exact H)

def md76 : Nat → Hint
  | _ => ⟨false, [], [], [], [], false⟩
def S76_l1_k3 (G : Hp) (K : Exit → Rg → Hp → Prop) (r : Rg) (h : Hp) : Prop :=
  opH Tryd.prog G (sv (binOp .add 3 (r 8) (.int .i64 1))) h fun v1 h1 =>
  K .normal (upd (upd r 37 v1) 8 v1) h1
def S76_l1_l4_k5 (G : Hp) (K : Exit → Rg → Hp → Prop) (r : Rg) (h : Hp) : Prop :=
  opH Tryd.prog G (sv (binOp .add 3 (r 5) (.int .i64 1))) h fun v2 h2 =>
  K .normal (upd (upd (upd r 11 (r 5)) 12 v2) 5 v2) h2
def S76_l1_l4_k6 (G : Hp) (K : Exit → Rg → Hp → Prop) (r : Rg) (h : Hp) : Prop :=
  opH Tryd.prog G (sv (Instr.loadAt 30 (r 2))) h fun v16 h16 =>
  opH Tryd.prog G (sv (Instr.loadAt 30 (r 6))) h16 fun v17 h17 =>
  opH Tryd.prog G (sv (Instr.build 46 #[(0, (.int .i64 1)), (1, (r 4)), (2, (r 5)), (3, v16), (4, v17)])) h17 fun v18 h18 =>
  opH Tryd.prog G (xCallV (r 0) #[v18]) h18 fun v19 h19 =>
  opH Tryd.prog G (sv (Op.unary .not v19)) h19 fun v20 h20 =>
  cond v20
  (K .ret (upd (upd (upd (upd (upd (upd (upd (upd r 29 (r 0)) 30 (r 4)) 31 (r 5)) 32 v16) 33 v17) 34 v18) 35 v19) 36 v20) h20)
  (S76_l1_l4_k5 G K (upd (upd (upd (upd (upd (upd (upd (upd r 29 (r 0)) 30 (r 4)) 31 (r 5)) 32 v16) 33 v17) 34 v18) 35 v19) 36 v20) h20)
def S76_l1_l4 (G : Hp) (r : Rg) (h : Hp) (K : Exit → Rg → Hp → Prop) : Prop :=
  opH Tryd.prog G (sv (Instr.loadAt 31 (r 1))) h fun v3 h3 =>
  opH Tryd.prog G (sv (Instr.loadAt 30 (r 2))) h3 fun v4 h4 =>
  opH Tryd.prog G (callFunc 18 #[v3, v4, (r 4), (r 5)]) h4 fun v5 h5 =>
  opH Tryd.prog G (sv (Instr.extract v5 0)) h5 fun v6 h6 =>
  opH Tryd.prog G (sv (Instr.extract v5 1)) h6 fun v7 h7 =>
  opH Tryd.prog G (sv (Instr.alloc 30 true (.tuple #[]))) h7 fun v8 h8 =>
  opH Tryd.prog G (su (Instr.storeAt 30 v8 v6)) h8 fun v9 h9 =>
  opH Tryd.prog G (sv (Op.unary .not v7)) h9 fun v10 h10 =>
  gd (wantB v10 false) (opH Tryd.prog G (sv (Instr.loadAt 31 (r 1))) h10) h10 fun v11 h11 =>
  gd (wantB v10 false) (opH Tryd.prog G (sv (Instr.loadAt 30 v8)) h11) h11 fun v12 h12 =>
  gd (wantB v10 false) (opH Tryd.prog G (callFunc 23 #[v11, v12]) h12) h12 fun v13 h13 =>
  gd (wantB v10 false) (opH Tryd.prog G (sv (Op.unary .not v13)) h13) h13 fun v14 h14 =>
  opH Tryd.prog G (xPick v10 (.bool true) v14) h14 fun v15 h15 =>
  cond v15
  (K (.exit 1) (upd (upd (upd (upd (upd (upd (upd (upd (upd (upd (upd (upd (upd (upd (upd (upd (upd (upd r 14 v3) 15 v4) 16 (r 4)) 17 (r 5)) 18 v5) 13 v5) 19 v6) 20 v7) 6 v8) 7 v7) 21 v7) 22 v10) 23 v10) 24 v11) 25 v12) 26 v13) 27 v14) 28 v15) h15)
  (S76_l1_l4_k6 G K (upd (upd (upd (upd (upd (upd (upd (upd (upd (upd (upd (upd (upd (upd (upd (upd (upd (upd r 14 v3) 15 v4) 16 (r 4)) 17 (r 5)) 18 v5) 13 v5) 19 v6) 20 v7) 6 v8) 7 v7) 21 v7) 22 v10) 23 v10) 24 v11) 25 v12) 26 v13) 27 v14) 28 v15) h15)
def S76_l1_k2 (G : Hp) (K : Exit → Rg → Hp → Prop) (r : Rg) (h : Hp) : Prop :=
  loopP (S76_l1_l4 G) (upd (upd (upd r 10 (r 8)) 4 (r 8)) 5 (.int .i64 1)) h (blockK 2 (blockK 1 (thenK (S76_l1_k3 G K) K)))
def S76_l1 (G : Hp) (r : Rg) (h : Hp) (K : Exit → Rg → Hp → Prop) : Prop :=
  opH Tryd.prog G (sv (binOp .lss 3 (r 8) (.int .i64 4))) h fun v0 h0 =>
  cond v0
  (S76_l1_k2 G K (upd r 9 v0) h0)
  (K (.exit 0) (upd r 9 v0) h0)
def S76 (G : Hp) (K : Exit → Rg → Hp → Prop) (r : Rg) (h : Hp) : Prop :=
  loopP (S76_l1 G) (upd r 8 (.int .i64 0)) h (blockK 0 (scopeK K))
theorem S76_eq (G : Hp) (K : Exit → Rg → Hp → Prop) (r : Rg) (h : Hp) : wpC Tryd.prog G 38 md76 true (Tryd.f76.body.getD .skip) r h K = S76 G K r h := by kernel_rfl
theorem enter76 {G : Hp} {h : Hp} {args : Array Value} {R : Value → Hp → Prop} (hn : args.size ≤ 38) (H : S76 G (retK Tryd.prog G [] R) (regs args) h) : HCalls Tryd.prog G 76 args h R :=
  HCalls.enter (md := md76) mixed Tryd.func76 rfl hn (by rw [← S76_eq] at H; exact H)

def md77 : Nat → Hint
  | _ => ⟨false, [], [], [], [], false⟩
def S77 (G : Hp) (K : Exit → Rg → Hp → Prop) (r : Rg) (h : Hp) : Prop :=
  opH Tryd.prog G (sv (Instr.box 28 (r 0))) h fun v0 h0 =>
  opH Tryd.prog G (sv (Instr.loadAt 28 v0)) h0 fun v1 h1 =>
  opH Tryd.prog G (sv (Instr.fieldAt 28 v0 0)) h1 fun v2 h2 =>
  opH Tryd.prog G (sv (Instr.loadAt 3 v2)) h2 fun v3 h3 =>
  opH Tryd.prog G (sv (binOp .add 3 v3 (.int .i64 1))) h3 fun v4 h4 =>
  opH Tryd.prog G (sv (Instr.fieldAt 28 v0 1)) h4 fun v5 h5 =>
  opH Tryd.prog G (sv (Instr.loadAt 3 v5)) h5 fun v6 h6 =>
  opH Tryd.prog G (sv (Instr.build 28 #[(0, v4), (1, v6)])) h6 fun v7 h7 =>
  opH Tryd.prog G (sv (Instr.fieldAt 28 v0 0)) h7 fun v8 h8 =>
  opH Tryd.prog G (sv (Instr.loadAt 3 v8)) h8 fun v9 h9 =>
  opH Tryd.prog G (sv (Instr.fieldAt 28 v0 1)) h9 fun v10 h10 =>
  opH Tryd.prog G (sv (Instr.loadAt 3 v10)) h10 fun v11 h11 =>
  opH Tryd.prog G (sv (binOp .add 3 v11 (.int .i64 1))) h11 fun v12 h12 =>
  opH Tryd.prog G (sv (Instr.build 28 #[(0, v9), (1, v12)])) h12 fun v13 h13 =>
  opH Tryd.prog G (sv (Instr.fieldAt 28 v0 0)) h13 fun v14 h14 =>
  opH Tryd.prog G (sv (Instr.loadAt 3 v14)) h14 fun v15 h15 =>
  opH Tryd.prog G (sv (binOp .add 3 v15 (.int .i64 1))) h15 fun v16 h16 =>
  opH Tryd.prog G (sv (Instr.fieldAt 28 v0 1)) h16 fun v17 h17 =>
  opH Tryd.prog G (sv (Instr.loadAt 3 v17)) h17 fun v18 h18 =>
  opH Tryd.prog G (sv (binOp .add 3 v18 (.int .i64 1))) h18 fun v19 h19 =>
  opH Tryd.prog G (sv (Instr.build 28 #[(0, v16), (1, v19)])) h19 fun v20 h20 =>
  opH Tryd.prog G (sv (Instr.buildSlice 22 4 #[(0, v1), (1, v7), (2, v13), (3, v20)])) h20 fun v21 h21 =>
  K .ret (upd (upd (upd (upd (upd (upd (upd (upd (upd (upd (upd (upd (upd (upd (upd (upd (upd (upd (upd (upd (upd (upd (upd (upd r 1 v0) 2 (.slice none 0 0)) 3 v1) 4 v2) 5 v3) 6 v4) 7 v5) 8 v6) 9 v7) 10 v8) 11 v9) 12 v10) 13 v11) 14 v12) 15 v13) 16 v14) 17 v15) 18 v16) 19 v17) 20 v18) 21 v19) 22 v20) 23 v21) 2 v21) h21
theorem S77_eq (G : Hp) (K : Exit → Rg → Hp → Prop) (r : Rg) (h : Hp) : wpC Tryd.prog G 24 md77 true (Tryd.f77.body.getD .skip) r h K = S77 G K r h := by kernel_rfl
theorem enter77 {G : Hp} {h : Hp} {args : Array Value} {R : Value → Hp → Prop} (hn : args.size ≤ 24) (H : S77 G (retK Tryd.prog G [.tmp 2] R) (regs args) h) : HCalls Tryd.prog G 77 args h R :=
  HCalls.enter (md := md77) mixed Tryd.func77 rfl hn (by rw [← S77_eq] at H; exact H)

def md80 : Nat → Hint
  | _ => ⟨false, [], [], [], [], false⟩
def S80_k1 (G : Hp) (K : Exit → Rg → Hp → Prop) (r : Rg) (h : Hp) : Prop :=
  opH Tryd.prog G (sv (Builtin.len_ #[22] 3 #[(r 0)])) h fun v2 h2 =>
  opH Tryd.prog G (sv (Instr.makeSlice 22 v2 v2)) h2 fun v3 h3 =>
  opH Tryd.prog G (sv (Builtin.copy_ #[22, 22] 3 #[v3, (r 0)])) h3 fun v4 h4 =>
  K .ret (upd (upd (upd (upd (upd (upd (upd (upd (upd r 7 (r 0)) 8 v2) 9 v3) 3 v3) 10 v3) 11 (r 0)) 12 v4) 13 v3) 2 v3) h4
def S80 (G : Hp) (K : Exit → Rg → Hp → Prop) (r : Rg) (h : Hp) : Prop :=
  opH Tryd.prog G (sv (Builtin.len_ #[22] 3 #[(r 0)])) h fun v0 h0 =>
  opH Tryd.prog G (xEq .eql 3 (.tmp 0) (.const .nilFunc) v0 (.int .i64 0)) h0 fun v1 h1 =>
  cond v1
  (K .ret (upd (upd (upd (upd (upd r 2 (.slice none 0 0)) 4 (r 0)) 5 v0) 6 v1) 2 (.slice none 0 0)) h1)
  (S80_k1 G K (upd (upd (upd (upd r 2 (.slice none 0 0)) 4 (r 0)) 5 v0) 6 v1) h1)
theorem S80_eq (G : Hp) (K : Exit → Rg → Hp → Prop) (r : Rg) (h : Hp) : wpC Tryd.prog G 14 md80 true (Tryd.f80.body.getD .skip) r h K = S80 G K r h := by kernel_rfl
theorem enter80 {G : Hp} {h : Hp} {args : Array Value} {R : Value → Hp → Prop} (hn : args.size ≤ 14) (H : S80 G (retK Tryd.prog G [.tmp 2] R) (regs args) h) : HCalls Tryd.prog G 80 args h R :=
  HCalls.enter (md := md80) mixed Tryd.func80 rfl hn (by rw [← S80_eq] at H; exact H)

def md17 : Nat → Hint
  | _ => ⟨false, [], [], [], [], false⟩
def S17_k1 (G : Hp) (K : Exit → Rg → Hp → Prop) (r : Rg) (h : Hp) : Prop :=
  opH Tryd.prog G (sv (Instr.build 30 #[])) h fun v8 h8 =>
  opH Tryd.prog G (callFunc 26 #[(r 1), v8]) h8 fun v9 h9 =>
  opH Tryd.prog G (callFunc 25 #[v9, (.int .i64 9)]) h9 fun v10 h10 =>
  opH Tryd.prog G (sv (Builtin.len_ #[47] 3 #[v10])) h10 fun v11 h11 =>
  opH Tryd.prog G (xEq .eql 3 (.tmp 0) (.const .nilFunc) v11 (.int .i64 2)) h11 fun v12 h12 =>
  gd (wantB v12 true) (fun K1 => K1 v10 h12) h12 fun v13 h13 =>
  gd (wantB v12 true) (opH Tryd.prog G (sv (Instr.indexAt 47 v13 (.int .i64 0))) h13) h13 fun v14 h14 =>
  gd (wantB v12 true) (opH Tryd.prog G (sv (Instr.fieldAt 46 v14 0)) h14) h14 fun v15 h15 =>
  gd (wantB v12 true) (opH Tryd.prog G (sv (Instr.loadAt 3 v15)) h15) h15 fun v16 h16 =>
  gd (wantB v12 true) (opH Tryd.prog G (xEq .eql 3 (.tmp 0) (.const .nilFunc) v16 (.int .i64 1)) h16) h16 fun v17 h17 =>
  opH Tryd.prog G (xPick v12 v17 (.bool false)) h17 fun v18 h18 =>
  gd (wantB v18 true) (fun K1 => K1 v10 h18) h18 fun v19 h19 =>
  gd (wantB v18 true) (opH Tryd.prog G (sv (Instr.indexAt 47 v19 (.int .i64 0))) h19) h19 fun v20 h20 =>
  gd (wantB v18 true) (opH Tryd.prog G (sv (Instr.fieldAt 46 v20 1)) h20) h20 fun v21 h21 =>
  gd (wantB v18 true) (opH Tryd.prog G (sv (Instr.loadAt 3 v21)) h21) h21 fun v22 h22 =>
  gd (wantB v18 true) (opH Tryd.prog G (xEq .eql 3 (.tmp 0) (.const .nilFunc) v22 (.int .i64 2)) h22) h22 fun v23 h23 =>
  opH Tryd.prog G (xPick v18 v23 (.bool false)) h23 fun v24 h24 =>
  gd (wantB v24 true) (fun K1 => K1 v10 h24) h24 fun v25 h25 =>
  gd (wantB v24 true) (opH Tryd.prog G (sv (Instr.indexAt 47 v25 (.int .i64 0))) h25) h25 fun v26 h26 =>
  gd (wantB v24 true) (opH Tryd.prog G (sv (Instr.fieldAt 46 v26 2)) h26) h26 fun v27 h27 =>
  gd (wantB v24 true) (opH Tryd.prog G (sv (Instr.loadAt 3 v27)) h27) h27 fun v28 h28 =>
  gd (wantB v24 true) (opH Tryd.prog G (xEq .eql 3 (.tmp 0) (.const .nilFunc) v28 (.int .i64 1)) h28) h28 fun v29 h29 =>
  opH Tryd.prog G (xPick v24 v29 (.bool false)) h29 fun v30 h30 =>
  gd (wantB v30 true) (fun K1 => K1 v10 h30) h30 fun v31 h31 =>
  gd (wantB v30 true) (opH Tryd.prog G (sv (Instr.indexAt 47 v31 (.int .i64 1))) h31) h31 fun v32 h32 =>
  gd (wantB v30 true) (opH Tryd.prog G (sv (Instr.fieldAt 46 v32 0)) h32) h32 fun v33 h33 =>
  gd (wantB v30 true) (opH Tryd.prog G (sv (Instr.loadAt 3 v33)) h33) h33 fun v34 h34 =>
  gd (wantB v30 true) (opH Tryd.prog G (xEq .eql 3 (.tmp 0) (.const .nilFunc) v34 (.int .i64 2)) h34) h34 fun v35 h35 =>
  opH Tryd.prog G (xPick v30 v35 (.bool false)) h35 fun v36 h36 =>
  gd (wantB v36 true) (fun K1 => K1 (r 1) h36) h36 fun v37 h37 =>
  gd (wantB v36 true) (opH Tryd.prog G (sv (Instr.build 28 #[(0, (.int .i64 1)), (1, (.int .i64 1))])) h37) h37 fun v38 h38 =>
  gd (wantB v36 true) (opH Tryd.prog G (callFunc 37 #[v37, v38]) h38) h38 fun v39 h39 =>
  gd (wantB v36 true) (opH Tryd.prog G (xEq .eql 3 (.tmp 0) (.const .nilFunc) v39 (.int .i64 3)) h39) h39 fun v40 h40 =>
  opH Tryd.prog G (xPick v36 v40 (.bool false)) h40 fun v41 h41 =>
  K .ret (upd (upd (upd (upd (upd (upd (upd (upd (upd (upd (upd (upd (upd (upd (upd (upd (upd (upd (upd (upd (upd (upd (upd (upd (upd (upd (upd (upd (upd (upd (upd (upd (upd (upd (upd (upd (upd (upd (upd (upd (upd (upd (upd r 15 (r 1)) 16 v8) 17 v9) 18 v10) 3 v10) 19 v10) 20 v11) 21 v12) 22 v12) 23 v13) 24 v14) 25 v15) 26 v16) 27 v17) 28 v18) 29 v18) 30 v19) 31 v20) 32 v21) 33 v22) 34 v23) 35 v24) 36 v24) 37 v25) 38 v26) 39 v27) 40 v28) 41 v29) 42 v30) 43 v30) 44 v31) 45 v32) 46 v33) 47 v34) 48 v35) 49 v36) 50 v36) 51 v37) 52 v38) 53 v39) 54 v40) 55 v41) 0 v41) h41
def S17 (G : Hp) (K : Exit → Rg → Hp → Prop) (r : Rg) (h : Hp) : Prop :=
  opH Tryd.prog G (callFunc 29 #[]) h fun v0 h0 =>
  opH Tryd.prog G (callFunc 14 #[v0]) h0 fun v1 h1 =>
  opH Tryd.prog G (sv (Instr.extract v1 0)) h1 fun v2 h2 =>
  opH Tryd.prog G (sv (Instr.extract v1 1)) h2 fun v3 h3 =>
  opH Tryd.prog G (xEq .neq 32 (.tmp 0) (.const .nilFunc) v3 (.int .i64 0)) h3 fun v4 h4 =>
  gd (wantB v4 false) (fun K1 => K1 v2 h4) h4 fun v5 h5 =>
  gd (wantB v4 false) (opH Tryd.prog G (xEq .eql 31 (.tmp 0) (.const .nilFunc) v5 (.pointer none)) h5) h5 fun v6 h6 =>
  opH Tryd.prog G (xPick v4 (.bool true) v6) h6 fun v7 h7 =>
  cond v7
  (K .ret (upd (upd (upd (upd (upd (upd (upd (upd (upd (upd (upd (upd (upd (upd (upd r 0 (.bool false)) 5 v0) 6 v1) 4 v1) 7 v2) 8 v3) 1 v2) 2 v3) 9 v3) 10 v4) 11 v4) 12 v5) 13 v6) 14 v7) 0 (.bool false)) h7)
  (S17_k1 G K (upd (upd (upd (upd (upd (upd (upd (upd (upd (upd (upd (upd (upd (upd r 0 (.bool false)) 5 v0) 6 v1) 4 v1) 7 v2) 8 v3) 1 v2) 2 v3) 9 v3) 10 v4) 11 v4) 12 v5) 13 v6) 14 v7) h7)
theorem S17_eq (G : Hp) (K : Exit → Rg → Hp → Prop) (r : Rg) (h : Hp) : wpC Tryd.prog G 56 md17 true (Tryd.f17.body.getD .skip) r h K = S17 G K r h := by kernel_rfl
theorem enter17 {G : Hp} {h : Hp} {args : Array Value} {R : Value → Hp → Prop} (hn : args.size ≤ 56) (H : S17 G (retK Tryd.prog G [.tmp 0] R) (regs args) h) : HCalls Tryd.prog G 17 args h R :=
  HCalls.enter (md := md17) mixed Tryd.func17 rfl hn (by rw [← S17_eq] at H; exact H)

def md25 : Nat → Hint
  | _ => ⟨false, [], [], [], [], false⟩
def S25_k1 (G : Hp) (K : Exit → Rg → Hp → Prop) (r : Rg) (h : Hp) : Prop :=
  opH Tryd.prog G (xCallV (r 0) #[(.func (.func 60) #[] #[(r 5), (r 3)])]) h fun v6 h6 =>
  opH Tryd.prog G (sv (Instr.loadAt 47 (r 5))) h6 fun v7 h7 =>
  K .ret (upd (upd (upd (upd (upd r 12 (r 0)) 13 (.func (.func 60) #[] #[(r 5), (r 3)])) 14 v6) 15 v7) 4 v7) h7
def S25 (G : Hp) (K : Exit → Rg → Hp → Prop) (r : Rg) (h : Hp) : Prop :=
  opH Tryd.prog G (sv (Instr.box 3 (r 1))) h fun v0 h0 =>
  opH Tryd.prog G (sv (Instr.alloc 47 true (.tuple #[]))) h0 fun v1 h1 =>
  opH Tryd.prog G (xEq .eql 50 (.tmp 0) (.const .nilFunc) (r 0) .nilFunc) h1 fun v2 h2 =>
  gd (wantB v2 false) (opH Tryd.prog G (sv (Instr.loadAt 3 v0)) h2) h2 fun v3 h3 =>
  gd (wantB v2 false) (opH Tryd.prog G (sv (binOp .lss 3 v3 (.int .i64 1))) h3) h3 fun v4 h4 =>
  opH Tryd.prog G (xPick v2 (.bool true) v4) h4 fun v5 h5 =>
  cond v5
  (K .ret (upd (upd (upd (upd (upd (upd (upd (upd (upd (upd r 3 v0) 4 (.slice none 0 0)) 5 v1) 6 (r 0)) 7 v2) 8 v2) 9 v3) 10 v4) 11 v5) 4 (.slice none 0 0)) h5)
  (S25_k1 G K (upd (upd (upd (upd (upd (upd (upd (upd (upd r 3 v0) 4 (.slice none 0 0)) 5 v1) 6 (r 0)) 7 v2) 8 v2) 9 v3) 10 v4) 11 v5) h5)
theorem S25_eq (G : Hp) (K : Exit → Rg → Hp → Prop) (r : Rg) (h : Hp) : wpC Tryd.prog G 16 md25 true (Tryd.f25.body.getD .skip) r h K = S25 G K r h := by kernel_rfl
theorem enter25 {G : Hp} {h : Hp} {args : Array Value} {R : Value → Hp → Prop} (hn : args.size ≤ 16) (H : S25 G (retK Tryd.prog G [.tmp 4] R) (regs args) h) : HCalls Tryd.prog G 25 args h R :=
  HCalls.enter (md := md25) mixed Tryd.func25 rfl hn (by rw [← S25_eq] at H; exact H)

def md29 : Nat → Hint
  | _ => ⟨false, [], [], [], [], false⟩
def S29 (G : Hp) (K : Exit → Rg → Hp → Prop) (r : Rg) (h : Hp) : Prop :=
  opH Tryd.prog G (sv (Instr.alloc 26 true (.tuple #[]))) h fun v0 h0 =>
  opH Tryd.prog G (sv (Instr.build 26 #[(0, (.int .i64 2)), (1, (.int .i64 2)), (2, (.int .i64 1)), (7, (.int .i64 1)), (8, (.int .i64 1)), (9, (.int .i64 1)), (10, (.int .i64 1)), (11, (.int .i64 1)), (12, (.int .i64 1)), (13, (.int .i64 1)), (14, (.int .i64 1))])) h0 fun v1 h1 =>
  opH Tryd.prog G (su (Instr.storeAt 26 v0 v1)) h1 fun v2 h2 =>
  K .ret (upd (upd r 0 v0) 1 v1) h2
theorem S29_eq (G : Hp) (K : Exit → Rg → Hp → Prop) (r : Rg) (h : Hp) : wpC Tryd.prog G 2 md29 true (Tryd.f29.body.getD .skip) r h K = S29 G K r h := by kernel_rfl
theorem enter29 {G : Hp} {h : Hp} {args : Array Value} {R : Value → Hp → Prop} (hn : args.size ≤ 2) (H : S29 G (retK Tryd.prog G [.cell 0 26] R) (regs args) h) : HCalls Tryd.prog G 29 args h R :=
  HCalls.enter (md := md29) mixed Tryd.func29 rfl hn (by rw [← S29_eq] at H; exact H)

def md30 : Nat → Hint
  | _ => ⟨false, [], [], [], [], false⟩
def S30_k1 (G : Hp) (K : Exit → Rg → Hp → Prop) (r : Rg) (h : Hp) : Prop :=
  K .ret (upd (upd r 14 (r 5)) 4 (r 5)) h
def S30 (G : Hp) (K : Exit → Rg → Hp → Prop) (r : Rg) (h : Hp) : Prop :=
  opH Tryd.prog G (sv (binOp .rem 3 (r 0) (r 1))) h fun v0 h0 =>
  opH Tryd.prog G (sv (binOp .lss 3 v0 (.int .i64 0))) h0 fun v1 h1 =>
  cond v1
  (opH Tryd.prog G (sv (binOp .add 3 v0 (r 1))) h1 fun v2 h2 =>
  S30_k1 G K (upd (upd (upd (upd (upd (upd (upd (upd (upd (upd (upd r 4 (.int .i64 0)) 6 (r 0)) 7 (r 1)) 8 v0) 5 v0) 9 v0) 10 v1) 11 v0) 12 (r 1)) 13 v2) 5 v2) h2)
  (S30_k1 G K (upd (upd (upd (upd (upd (upd (upd r 4 (.int .i64 0)) 6 (r 0)) 7 (r 1)) 8 v0) 5 v0) 9 v0) 10 v1) h1)
theorem S30_eq (G : Hp) (K : Exit → Rg → Hp → Prop) (r : Rg) (h : Hp) : wpC Tryd.prog G 15 md30 true (Tryd.f30.body.getD .skip) r h K = S30 G K r h := by kernel_rfl
theorem enter30 {G : Hp} {h : Hp} {args : Array Value} {R : Value → Hp → Prop} (hn : args.size ≤ 15) (H : S30 G (retK Tryd.prog G [.tmp 4] R) (regs args) h) : HCalls Tryd.prog G 30 args h R :=
  HCalls.enter (md := md30) mixed Tryd.func30 rfl hn (by rw [← S30_eq] at H; exact H)

def md60 : Nat → Hint
  | _ => ⟨false, [], [], [], [], false⟩
def S60 (G : Hp) (K : Exit → Rg → Hp → Prop) (r : Rg) (h : Hp) : Prop :=
  opH Tryd.prog G (sv (Instr.box 46 (r 0))) h fun v0 h0 =>
  opH Tryd.prog G (sv (Instr.loadAt 47 (r 1))) h0 fun v1 h1 =>
  opH Tryd.prog G (sv (Instr.loadAt 46 v0)) h1 fun v2 h2 =>
  opH Tryd.prog G (sv (Instr.buildSlice 47 1 #[(0, v2)])) h2 fun v3 h3 =>
  opH Tryd.prog G (sv (Builtin.append_ #[47, 47] 47 #[v1, v3])) h3 fun v4 h4 =>
  opH Tryd.prog G (su (Instr.storeAt 47 (r 1) v4)) h4 fun v5 h5 =>
  opH Tryd.prog G (sv (Instr.loadAt 47 (r 1))) h5 fun v6 h6 =>
  opH Tryd.prog G (sv (Builtin.len_ #[47] 3 #[v6])) h6 fun v7 h7 =>
  opH Tryd.prog G (sv (Instr.loadAt 3 (r 2))) h7 fun v8 h8 =>
  opH Tryd.prog G (sv (binOp .lss 3 v7 v8)) h8 fun v9 h9 =>
  K .ret (upd (upd (upd (upd (upd (upd (upd (upd (upd (upd (upd r 3 v0) 4 (.bool false)) 5 v1) 6 v2) 7 v3) 8 v4) 9 v6) 10 v7) 11 v8) 12 v9) 4 v9) h9
theorem S60_eq (G : Hp) (K : Exit → Rg → Hp → Prop) (r : Rg) (h : Hp) : wpC Tryd.prog G 13 md60 true (Tryd.f60.body.getD .skip) r h K = S60 G K r h := by kernel_rfl
theorem enter60 {G : Hp} {h : Hp} {args : Array Value} {R : Value → Hp → Prop} (hn : args.size ≤ 13) (H : S60 G (retK Tryd.prog G [.tmp 4] R) (regs args) h) : HCalls Tryd.prog G 60 args h R :=
  HCalls.enter (md := md60) mixed Tryd.func60 rfl hn (by rw [← S60_eq] at H; exact H)

end Go.Proofs.YtnpdploihlgcgaaDoor
end

section
/- The program's grid as it lies, and its answers on cells. -/
set_option linter.unusedSimpArgs false
set_option linter.unusedVariables false
set_option maxRecDepth 100000
namespace Go.Proofs.YtnpdploihlgcgaaDoor
open Go Go.HL

theorem un81 : Tryd.prog.underlying 81 = some (.array 4 28) := by kernel_rfl
theorem ix81 {G h : Hp} {a : Addr} {k : IntKind} {i : Int} {K : Value → Hp → Prop} (h1 : 0 ≤ i) (h2 : i < (4 : Nat)) : wpH Tryd.prog G (Instr.indexAt 81 (.pointer (some a)) (.int k i)) h K = K (.pointer (some (a.add (i.toNat * 2)))) h := index_arr un81 sz28 h1 h2
theorem ix81p {G h : Hp} {a : Addr} {k : IntKind} {i : Int} {K : Value → Prop} (h1 : 0 ≤ i) (h2 : i < (4 : Nat)) : pw Tryd.prog G h (Instr.indexAt 81 (.pointer (some a)) (.int k i)) K = K (.pointer (some (a.add (i.toNat * 2)))) := index_arrp un81 sz28 h1 h2

/-- The package's steps, by direction. -/
def stepL : List Value := [.int .i64 0, .int .i64 (-1), .int .i64 1, .int .i64 0, .int .i64 0, .int .i64 1, .int .i64 (-1), .int .i64 0]
def Steps (G : Hp) : Prop := ∃ e f, G 0 = some (.cells stepL.toArray e f)
theorem Steps.cell {G h : Hp} (s : Steps G) (d : Dis G h) (k : Nat) : cellIn G h ⟨0, k, none⟩ = stepL[k]? := by
  obtain ⟨e, f, s⟩ := s
  rw [cell_gnd d s rfl]
  simp [objCell]
theorem Steps.free {G h : Hp} (s : Steps G) (d : Dis G h) : h 0 = none := by
  obtain ⟨e, f, s⟩ := s
  cases q : h 0 with
  | none => rfl
  | some o => rw [d _ _ q] at s; cases s
theorem Steps.under {G h a : Hp} (s : Steps G) (d : Dis G h) (l : a.le h) : Steps (under G h a) := by
  have h0 := s.free d
  obtain ⟨e, f, s⟩ := s
  refine ⟨e, f, ?_⟩
  unfold HL.under HL.look
  rw [l.none h0, h0]
  simpa using s

/-- A hive of w by h, told by a function of its cells, row by row. -/
def gridL {α : Type} (w h : Nat) (f : Nat → Nat → α) : List α := (List.range (w * h)).map fun n => f (n % w) (n / w)
theorem gridL_length {α : Type} {w h : Nat} {f : Nat → Nat → α} : (gridL w h f).length = w * h := by simp [gridL]
theorem gridL_get {α : Type} {w h : Nat} {f : Nat → Nat → α} {x y : Nat} (hx : x < w) (hy : y < h) : (gridL w h f)[y * w + x]? = some (f x y) := by
  have hlt : y * w + x < w * h := by
    have : (y + 1) * w ≤ h * w := Nat.mul_le_mul_right _ hy
    rw [Nat.succ_mul] at this
    rw [Nat.mul_comm w h]; omega
  unfold gridL
  rw [List.getElem?_map, List.getElem?_range hlt, Option.map_some]
  rw [Nat.mul_comm y w, Nat.mul_add_mod, Nat.mod_eq_of_lt hx, Nat.mul_add_div (by omega), Nat.div_eq_of_lt hx, Nat.add_zero]
theorem gridL_at {α : Type} {w h : Nat} {f : Nat → Nat → α} {n : Nat} (hn : n < w * h) : (gridL w h f)[n]? = some (f (n % w) (n / w)) := by
  unfold gridL
  rw [List.getElem?_map, List.getElem?_range hn, Option.map_some]
theorem gridL_set {α : Type} {w h : Nat} {f : Nat → Nat → α} {x y : Nat} {v : α} (hx : x < w) : (gridL w h f).set (y * w + x) v = gridL w h (fun a b => if a = x ∧ b = y then v else f a b) := by
  apply List.ext_getElem?
  intro n
  rw [List.getElem?_set]
  by_cases hn : n < w * h
  · rw [gridL_at hn, gridL_at hn, gridL_length]
    have hw : 0 < w := by omega
    by_cases e : y * w + x = n
    · subst e
      rw [if_pos rfl, if_pos hn, Nat.mul_comm y w, Nat.mul_add_mod, Nat.mod_eq_of_lt hx, Nat.mul_add_div hw, Nat.div_eq_of_lt hx, Nat.add_zero]
      simp
    · rw [if_neg e, if_neg]
      rintro ⟨e1, e2⟩
      apply e
      rw [← e1, ← e2, Nat.mul_comm]
      exact Nat.div_add_mod n w
  · rw [List.getElem?_eq_none (by rw [gridL_length]; omega), List.getElem?_eq_none (by rw [gridL_length]; omega)]
    split
    · rw [if_neg (by rw [gridL_length]; omega)]
    · rfl

/-- The grid, seen. -/
structure GS (G h : Hp) (g : Value) (w k : Nat) (f : Nat → Nat → Int) : Prop where
  ex : ∃ gp kb, g = .pointer (some ⟨gp, 0, none⟩) ∧ (∀ j, j < 3 → cellIn G h ⟨gp, j, none⟩ = [Value.int .i64 w, .int .i64 k, .slice (some ⟨kb, 0, none⟩) (w * k) (w * k)][j]?) ∧ (∀ n x, (gridL w k f)[n]? = some x → cellIn G h ⟨kb, n, none⟩ = some (.int .i64 x))
  w1 : 1 ≤ w
  w2 : w ≤ 16
  k1 : 1 ≤ k
  k2 : k ≤ 16

theorem GS.up {G h h' : Hp} {g : Value} {w k : Nat} {f : Nat → Nat → Int} (s : GS G h g w k f) (l : h.le h') (d : Dis G h') : GS G h' g w k f := by
  obtain ⟨⟨gp, kb, e, h1, h2⟩, a, b, c, e2⟩ := s
  refine ⟨⟨gp, kb, e, fun j hj => ?_, fun n x hx => cell_up l d (h2 n x hx)⟩, a, b, c, e2⟩
  have := h1 j hj
  rw [List.getElem?_eq_getElem (by simpa using hj)] at this ⊢
  exact cell_up l d this
theorem GS.under {G h a : Hp} {g : Value} {w k : Nat} {f : Nat → Nat → Int} (s : GS G h g w k f) (l : a.le h) : GS (HL.under G h a) a g w k f := by
  obtain ⟨⟨gp, kb, e, h1, h2⟩, x1, x2, x3, x4⟩ := s
  exact ⟨⟨gp, kb, e, fun j hj => by rw [under_cell l]; exact h1 j hj, fun n x hx => by rw [under_cell l]; exact h2 n x hx⟩, x1, x2, x3, x4⟩

/-- In the hive of w by k? -/
def inW (w k : Nat) (c : Cell) : Bool := withinB c.1 0 (w - 1) && withinB c.2 0 (k - 1)
def numI (w k : Nat) (c : Cell) : Int := if inW w k c = true then c.2 * w + c.1 else -1
def fAt (f : Nat → Nat → Int) (c : Cell) : Int := f c.1.toNat c.2.toNat
def openW (w k : Nat) (f : Nat → Nat → Int) (c : Cell) : Bool := inW w k c && !(fAt f c == -1)

theorem inW_iff {w k : Nat} {c : Cell} : inW w k c = true ↔ 0 ≤ c.1 ∧ c.1 < w ∧ 0 ≤ c.2 ∧ c.2 < k := by
  unfold inW withinB
  simp only [Bool.and_eq_true, decide_eq_true_eq]
  omega

theorem within_spec {G h : Hp} {n a b : Int} : HCalls Tryd.prog G 57 #[.int .i64 n, .int .i64 a, .int .i64 b] h (fun u h' => u = .bool (withinB n a b) ∧ h' = h) := by
  refine quietly (enter57 (by simp) ?_)
  unfold S57
  simp -implicitDefEqProofs (maxSteps := 2000000) (disch := first | with_reducible exact Nat.ne_of_beq_eq_false rfl | exact oneCell_int | exact oneCell_bool | omega | rfl | (simp; done) | fail) only [regs0, regs1, regs2, retK_ret, resL_tmp, upd_eq, resL_nil1, opH_sv, bin_geq]
  unfold withinB
  cases hc : decide (n ≥ a) with
  | false => simp -implicitDefEqProofs (maxSteps := 2000000) (disch := first | with_reducible exact Nat.ne_of_beq_eq_false rfl | exact oneCell_int | exact oneCell_bool | omega | rfl | (simp; done) | fail) only [pick_f, gd_ft]; exact ⟨rfl, Hp.le.refl h⟩
  | true => simp -implicitDefEqProofs (maxSteps := 2000000) (disch := first | with_reducible exact Nat.ne_of_beq_eq_false rfl | exact oneCell_int | exact oneCell_bool | omega | rfl | (simp; done) | fail) only [Bool.true_and, pick_t, gd_tt, opH_sv, bin_leq, true_and]; exact Hp.le.refl h

theorem num_spec {G h : Hp} {g : Value} {w k : Nat} {f : Nat → Nat → Int} {c : Cell} (s : GS G h g w k f) : HCalls Tryd.prog G 37 #[g, cellV c] h (fun u h' => u = .int .i64 (numI w k c) ∧ h' = h) := by
  have s0 := s
  obtain ⟨⟨gp, kb, rfl, g1, g2⟩, w1, w2, k1, k2⟩ := s
  refine HCalls.assume fun d => quietly (enter37 (by simp) ?_)
  unfold S37
  simp -implicitDefEqProofs (maxSteps := 2000000) (disch := first | with_reducible exact Nat.ne_of_beq_eq_false rfl | exact oneCell_int | exact oneCell_bool | omega | rfl | (simp; done) | fail) only [regs1, regs0, retK_ret, resL_tmp, upd_eq, resL_nil1, eq31sp, pick_fp, gd_ff, pureW_sv, cf57, pureW_nil, fa86_0p, add_mk, Nat.add_zero, ld3p, opH_sv, box_new, cells_agg, fa28_0p, cell_set_self, List.getElem?_cons_zero, Option.some.injEq, exists_eq_left']
  intro x hx gx
  generalize e1 : Hp.set h x _ = h1
  obtain ⟨l1, d1, b1⟩ := boxed e1 hx d gx
  have cx : ∀ j, cellIn G h1 ⟨x, j, none⟩ = _ := fun j => cell_of (look_own b1)
  have y0 : cellIn G h1 ⟨gp, 0, none⟩ = some (.int .i64 w) := cell_up l1 d1 (g1 0 (by decide))
  have y1 : cellIn G h1 ⟨gp, 1, none⟩ = some (.int .i64 k) := cell_up l1 d1 (g1 1 (by decide))
  try simp -implicitDefEqProofs (maxSteps := 2000000) (disch := first | with_reducible exact Nat.ne_of_beq_eq_false rfl | exact oneCell_int | exact oneCell_bool | omega | rfl | (simp; done) | fail) only [y0, Option.some.injEq, exists_eq_left', bin_subp, wrap_in]
  try rw [wrap_in (by omega) (by omega)]
  refine (within_spec (n := c.1) (a := 0) (b := (w : Int) - 1)).mono ?_
  rintro _ _ ⟨rfl, rfl⟩
  unfold numI inW
  cases h1 : withinB c.1 0 ((w : Int) - 1) with
  | false => try simp -implicitDefEqProofs (maxSteps := 2000000) (disch := first | with_reducible exact Nat.ne_of_beq_eq_false rfl | exact oneCell_int | exact oneCell_bool | omega | rfl | (simp; done) | fail) only [un_notp, Bool.not_false, pick_tp, HL.cond_true, gd_tf]; exact ⟨by simp, l1⟩
  | true =>
  try simp -implicitDefEqProofs (maxSteps := 2000000) (disch := first | with_reducible exact Nat.ne_of_beq_eq_false rfl | exact oneCell_int | exact oneCell_bool | omega | rfl | (simp; done) | fail) only [Bool.true_and, un_notp, Bool.not_true, pick_fp, gd_ff, pureW_sv, cf57, pureW_nil, fa86_1p, add_mk, Nat.zero_add, ld3p, y1, Option.some.injEq, exists_eq_left', bin_subp, wrap_in, fa28_1p, cx, List.getElem?_cons_succ, List.getElem?_cons_zero]
  try rw [wrap_in (by omega) (by omega)]
  refine (within_spec (n := c.2) (a := 0) (b := (k : Int) - 1)).mono ?_
  rintro _ _ ⟨rfl, rfl⟩
  cases h2 : withinB c.2 0 ((k : Int) - 1) with
  | false => try simp -implicitDefEqProofs (maxSteps := 2000000) (disch := first | with_reducible exact Nat.ne_of_beq_eq_false rfl | exact oneCell_int | exact oneCell_bool | omega | rfl | (simp; done) | fail) only [un_notp, Bool.not_false, HL.cond_true]; exact ⟨by simp, l1⟩
  | true =>
  unfold withinB at h1 h2
  simp only [Bool.and_eq_true, decide_eq_true_eq] at h1 h2
  have hm : 0 ≤ c.2 * (w : Int) ∧ c.2 * (w : Int) ≤ 15 * 16 := ⟨Int.mul_nonneg (by omega) (by omega), Int.mul_le_mul (by omega) (by omega) (by omega) (by omega)⟩
  try simp -implicitDefEqProofs (maxSteps := 2000000) (disch := first | with_reducible exact Nat.ne_of_beq_eq_false rfl | exact oneCell_int | exact oneCell_bool | omega | rfl | (simp; done) | fail) only [if_true, un_notp, Bool.not_true, HL.cond_false]
  unfold S37_k1
  try simp -implicitDefEqProofs (maxSteps := 2000000) (disch := first | with_reducible exact Nat.ne_of_beq_eq_false rfl | exact oneCell_int | exact oneCell_bool | omega | rfl | (simp; done) | fail) only [upd_ne, upd_eq, regs0, retK_ret, resL_tmp, resL_nil1, pureW_sv, fa28_0p, add_mk, Nat.add_zero, ld3p, cx, List.getElem?_cons_zero, Option.some.injEq, exists_eq_left', pureW_nil, fa86_0p, y0, fa28_1p, Nat.zero_add, List.getElem?_cons_succ, bin_mulp, wrap_in, bin_addp, true_and]
  try rw [wrap_in (x := c.2 * (w : Int)) (by omega) (by omega)]
  try rw [wrap_in (by omega) (by omega)]
  first | exact l1 | exact ⟨by simp, l1⟩

/-- A cell's kind, read. -/
theorem GS.kind {G h : Hp} {g : Value} {w k : Nat} {f : Nat → Nat → Int} (s : GS G h g w k f) {c : Cell} (hc : inW w k c = true) :
    ∃ gp kb, g = .pointer (some ⟨gp, 0, none⟩) ∧ cellIn G h ⟨gp, 2, none⟩ = some (.slice (some ⟨kb, 0, none⟩) (w * k) (w * k)) ∧ cellIn G h ⟨kb, (numI w k c).toNat, none⟩ = some (.int .i64 (fAt f c)) ∧ 0 ≤ numI w k c ∧ numI w k c < ((w * k : Nat) : Int) := by
  obtain ⟨⟨gp, kb, rfl, g1, g2⟩, w1, w2, k1, k2⟩ := s
  obtain ⟨a1, a2, a3, a4⟩ := inW_iff.1 hc
  have hn : numI w k c = ((c.2.toNat * w + c.1.toNat : Nat) : Int) := by
    unfold numI
    rw [if_pos hc]
    rw [Int.natCast_add, Int.natCast_mul, Int.toNat_of_nonneg a1, Int.toNat_of_nonneg a3]
  refine ⟨gp, kb, rfl, g1 2 (by decide), ?_, by omega, ?_⟩
  · rw [hn, Int.toNat_natCast]
    exact g2 _ _ (gridL_get (by omega) (by omega))
  · rw [hn]
    have : (c.2.toNat + 1) * w ≤ k * w := Nat.mul_le_mul_right _ (by omega)
    rw [Nat.succ_mul] at this
    rw [Nat.mul_comm w k]
    omega

theorem numI_out {w k : Nat} {c : Cell} (h : inW w k c = false) : numI w k c = -1 := by unfold numI; rw [h]; rfl

theorem ix57k {G h : Hp} {kb n : Nat} {i : Int} {K : Value → Hp → Prop} (h1 : 0 ≤ i) (h2 : i < (n : Int)) : wpH Tryd.prog G (Instr.indexAt 57 (.slice (some ⟨kb, 0, none⟩) n n) (.int .i64 i)) h K = K (.pointer (some ⟨kb, i.toNat, none⟩)) h := by
  rw [ix57 h1 h2]; simp only [add_mk, Nat.zero_add, Nat.mul_one]

theorem open_spec {G h : Hp} {g : Value} {w k : Nat} {f : Nat → Nat → Int} {c : Cell} (s : GS G h g w k f) : HCalls Tryd.prog G 31 #[g, cellV c] h (fun u h' => u = .bool (openW w k f c) ∧ h' = h) := by
  refine HCalls.assume fun d => quietly (enter31 (by simp) ?_)
  unfold S31
  simp -implicitDefEqProofs (maxSteps := 2000000) (disch := first | with_reducible exact Nat.ne_of_beq_eq_false rfl | exact oneCell_int | exact oneCell_bool | omega | rfl | (simp; done) | fail) only [regs1, regs0, retK_ret, resL_tmp, upd_eq, resL_nil1, opH_sv, cf37, box_new, cells_agg, ld28, add_mk, Nat.add_zero, cell_set_self, List.getElem?_cons_zero, Option.some.injEq, Nat.zero_add, List.getElem?_cons_succ, exists_eq_left']
  intro x hx gx
  generalize e1 : Hp.set h x _ = h1
  obtain ⟨l1, d1, b1⟩ := boxed e1 hx d gx
  have cx : ∀ j, cellIn G h1 ⟨x, j, none⟩ = _ := fun j => cell_of (look_own b1)
  try simp -implicitDefEqProofs (maxSteps := 2000000) (disch := first | with_reducible exact Nat.ne_of_beq_eq_false rfl | exact oneCell_int | exact oneCell_bool | omega | rfl | (simp; done) | fail) only [opH_sv, opH_su, pureW_sv, opH_nil, pureW_nil, pick_t, pick_f, pick_tp, pick_fp, gd_tt, gd_ft, gd_tf, gd_ff, box_new, regs0, regs1, regs2, regs3, regs4, regs5, regs6, cells_agg, cells_int, cells_bool, cells_ptr, cells_slice, cells_string, cells_func, cells_nilFunc, cells_map, retK_ret, retK_normal, resL_tmp, resL_cell, resL_nil0, resL_nil1, resL_nil2, resL_nil3, resC_ptr, ex0, ex1, ex2, ex0p, ex1p, ex2p, HL.cond_true, HL.cond_false, thenK_normal, thenK_ret, thenK_exit, blockK_normal, blockK_ret, blockK_exit, scopeK_normal, scopeK_ret, scopeK_exit, wpH_pure, bin_add, bin_sub, bin_mul, bin_lss, bin_leq, bin_gtr, bin_geq, bin_quo, bin_rem, bin_quop, bin_remp, wrap_in, bin_addp, bin_subp, bin_mulp, bin_lssp, bin_leqp, bin_gtrp, bin_geqp, un_not, un_notp, un_neg, eq_int, ne_int, eq_intp, ne_intp, callV_fn, add_mk, upd_eq, upd_ne, cell_set_self, Nat.zero_add, Nat.add_zero, Option.some.injEq, exists_eq_left', List.getElem?_cons_succ, List.getElem?_cons_zero, true_and, and_true, bne_self_eq_false, beq_self_eq_true, Bool.not_true, Bool.not_false, Bool.and_true, Bool.and_self, Bool.and_false, Bool.true_and, List.length_cons, List.length_nil, ne_eq, not_false_eq_true, Nat.reduceAdd, Nat.reduceMul, if_true, if_false, oneCell_int, oneCell_bool, oneCell_ptr, oneCell_slice, oneCell_string, oneCell_func, oneCell_map, Int.toNat_natCast, List.set_cons_zero, List.set_cons_succ, Nat.lt_irrefl, Nat.zero_lt_succ, Nat.succ_lt_succ_iff, fa26_0, fa26_0p, fa26_1, fa26_1p, fa26_10, fa26_10p, fa26_11, fa26_11p, fa26_12, fa26_12p, fa26_13, fa26_13p, fa26_14, fa26_14p, fa26_2, fa26_2p, fa26_3, fa26_3p, fa26_4, fa26_4p, fa26_5, fa26_5p, fa26_6, fa26_6p, fa26_7, fa26_7p, fa26_8, fa26_8p, fa26_9, fa26_9p, fa28_0, fa28_0p, fa28_1, fa28_1p, fa30_0, fa30_0p, fa30_1, fa30_1p, fa46_0, fa46_0p, fa46_1, fa46_1p, fa46_2, fa46_2p, fa46_3, fa46_3p, fa46_4, fa46_4p, fa46_5, fa46_5p, fa46_6, fa46_6p, fa86_0, fa86_0p, fa86_1, fa86_1p, fa86_2, fa86_2p, fa95_0, fa95_0p, fa95_1, fa95_1p, ld3, ld3p, ld4, ld4p, ld22, ld22p, ld23, ld23p, ld24, ld24p, ld26, ld26p, ld28, ld28p, ld30, ld30p, ld31, ld31p, ld46, ld46p, ld47, ld47p, ld52, ld52p, ld55, ld55p, ld57, ld57p, ld95, ld95p, st3s, st4s, st22s, st23s, st24s, st26w, st28w, st30w, st46w, st47s, st55s, st95w, ix22, ix22p, ix23, ix23p, ix24, ix24p, ix47, ix47p, ix56, ix56p, ix57, ix57p, ix101, ix101p, ln22, ln22p, ln23, ln23p, ln24, ln24p, ln47, ln47p, ln56, ln56p, ln57, ln57p, al22, al26, al28, al30, al46, al47, al95, cf14, cf15, cf16, cf17, cf18, cf19, cf20, cf21, cf22, cf23, cf24, cf25, cf26, cf27, cf28, cf29, cf30, cf31, cf32, cf33, cf34, cf35, cf36, cf37, cf38, cf39, cf40, cf41, cf42, cf43, cf44, cf45, cf46, cf47, cf48, cf49, cf50, cf51, cf52, cf53, cf54, cf55, cf56, cf57, cf58, cf59, cf60, cf61, cf62, cf63, cf64, cf65, cf66, cf67, cf68, cf69, cf70, cf71, cf72, cf73, cf74, cf75, cf76, cf77, cf78, cf79, cf80, bd26_0_1_2_7_8_9_10_11_12_13_14, bd26_0_1_2_7_8_9_10_11_12_13_14p, bd28_0, bd28_0p, bd28_0_1, bd28_0_1p, bd30_, bd30_p, bd30_0_1, bd30_0_1p, bd30_0, bd30_0p, bd46_0_1_2_3_4, bd46_0_1_2_3_4p, bd46_0_3_4, bd46_0_3_4p, bd86_0_1_2, bd86_0_1_2p, bd87_0_1_2_3, bd87_0_1_2_3p, bd95_0_1, bd95_0_1p, bs22_2_0_1, bs47_1_0, bs22_1_0, bs57_6_0_1_2_3_4_5, bs24_1_0, bs22_4_0_1_2_3, bs56_11_0_1_2_3_4_5_6_7_8_9_10, bs57_11_0_1_2_3_4_5_6_7_8_9_10, eq4, eq4p, eq28, eq28p, eq30, eq30p, eq31n, eq31np, eq31s, eq31sp, eq46, eq46p, eq50n, eq50np, eq50s, eq50sp, eq67n, eq67np, eq67s, eq67sp, ne4, ne4p, ne28, ne28p, ne30, ne30p, ne31n, ne31np, ne31s, ne31sp, ne46, ne46p, cx]
  refine (num_spec (c := c) (s.up l1 d1)).mono ?_
  rintro _ _ ⟨rfl, rfl⟩
  unfold openW
  cases hc : inW w k c with
  | false =>
    try simp -implicitDefEqProofs (maxSteps := 2000000) (disch := first | with_reducible exact Nat.ne_of_beq_eq_false rfl | exact oneCell_int | exact oneCell_bool | omega | rfl | (simp; done) | fail) only [numI_out hc, bin_geq, show decide ((-1 : Int) ≥ 0) = false from rfl, pick_f, gd_ft]
    first | exact l1 | exact ⟨by simp, l1⟩
  | true =>
    obtain ⟨gp, kb, rfl, z2, zk, n0, n1⟩ := (s.up l1 d1).kind hc
    try simp -implicitDefEqProofs (maxSteps := 2000000) (disch := first | with_reducible exact Nat.ne_of_beq_eq_false rfl | exact oneCell_int | exact oneCell_bool | omega | rfl | (simp; done) | fail) only [Bool.true_and, bin_geq, show decide (numI w k c ≥ 0) = true from decide_eq_true n0, pick_t, gd_tt, opH_sv, opH_nil, fa86_2, add_mk, Nat.zero_add, ld57, z2, Option.some.injEq, exists_eq_left', ix57k n0 n1, ld3, zk, ne_int]
    first | exact l1 | exact ⟨by simp [bne], l1⟩

theorem stacked_spec {G h : Hp} {g : Value} {w k : Nat} {f : Nat → Nat → Int} {c : Cell} (s : GS G h g w k f) : HCalls Tryd.prog G 35 #[g, cellV c] h (fun u h' => u = .bool (inW w k c && (fAt f c == 0)) ∧ h' = h) := by
  refine HCalls.assume fun d => quietly (enter35 (by simp) ?_)
  unfold S35
  simp -implicitDefEqProofs (maxSteps := 2000000) (disch := first | with_reducible exact Nat.ne_of_beq_eq_false rfl | exact oneCell_int | exact oneCell_bool | omega | rfl | (simp; done) | fail) only [regs1, regs0, retK_ret, resL_tmp, upd_eq, resL_nil1, opH_sv, cf37, box_new, cells_agg, ld28, add_mk, Nat.add_zero, cell_set_self, List.getElem?_cons_zero, Option.some.injEq, Nat.zero_add, List.getElem?_cons_succ, exists_eq_left']
  intro x hx gx
  generalize e1 : Hp.set h x _ = h1
  obtain ⟨l1, d1, b1⟩ := boxed e1 hx d gx
  have cx : ∀ j, cellIn G h1 ⟨x, j, none⟩ = _ := fun j => cell_of (look_own b1)
  try simp -implicitDefEqProofs (maxSteps := 2000000) (disch := first | with_reducible exact Nat.ne_of_beq_eq_false rfl | exact oneCell_int | exact oneCell_bool | omega | rfl | (simp; done) | fail) only [opH_sv, opH_su, pureW_sv, opH_nil, pureW_nil, pick_t, pick_f, pick_tp, pick_fp, gd_tt, gd_ft, gd_tf, gd_ff, box_new, regs0, regs1, regs2, regs3, regs4, regs5, regs6, cells_agg, cells_int, cells_bool, cells_ptr, cells_slice, cells_string, cells_func, cells_nilFunc, cells_map, retK_ret, retK_normal, resL_tmp, resL_cell, resL_nil0, resL_nil1, resL_nil2, resL_nil3, resC_ptr, ex0, ex1, ex2, ex0p, ex1p, ex2p, HL.cond_true, HL.cond_false, thenK_normal, thenK_ret, thenK_exit, blockK_normal, blockK_ret, blockK_exit, scopeK_normal, scopeK_ret, scopeK_exit, wpH_pure, bin_add, bin_sub, bin_mul, bin_lss, bin_leq, bin_gtr, bin_geq, bin_quo, bin_rem, bin_quop, bin_remp, wrap_in, bin_addp, bin_subp, bin_mulp, bin_lssp, bin_leqp, bin_gtrp, bin_geqp, un_not, un_notp, un_neg, eq_int, ne_int, eq_intp, ne_intp, callV_fn, add_mk, upd_eq, upd_ne, cell_set_self, Nat.zero_add, Nat.add_zero, Option.some.injEq, exists_eq_left', List.getElem?_cons_succ, List.getElem?_cons_zero, true_and, and_true, bne_self_eq_false, beq_self_eq_true, Bool.not_true, Bool.not_false, Bool.and_true, Bool.and_self, Bool.and_false, Bool.true_and, List.length_cons, List.length_nil, ne_eq, not_false_eq_true, Nat.reduceAdd, Nat.reduceMul, if_true, if_false, oneCell_int, oneCell_bool, oneCell_ptr, oneCell_slice, oneCell_string, oneCell_func, oneCell_map, Int.toNat_natCast, List.set_cons_zero, List.set_cons_succ, Nat.lt_irrefl, Nat.zero_lt_succ, Nat.succ_lt_succ_iff, fa26_0, fa26_0p, fa26_1, fa26_1p, fa26_10, fa26_10p, fa26_11, fa26_11p, fa26_12, fa26_12p, fa26_13, fa26_13p, fa26_14, fa26_14p, fa26_2, fa26_2p, fa26_3, fa26_3p, fa26_4, fa26_4p, fa26_5, fa26_5p, fa26_6, fa26_6p, fa26_7, fa26_7p, fa26_8, fa26_8p, fa26_9, fa26_9p, fa28_0, fa28_0p, fa28_1, fa28_1p, fa30_0, fa30_0p, fa30_1, fa30_1p, fa46_0, fa46_0p, fa46_1, fa46_1p, fa46_2, fa46_2p, fa46_3, fa46_3p, fa46_4, fa46_4p, fa46_5, fa46_5p, fa46_6, fa46_6p, fa86_0, fa86_0p, fa86_1, fa86_1p, fa86_2, fa86_2p, fa95_0, fa95_0p, fa95_1, fa95_1p, ld3, ld3p, ld4, ld4p, ld22, ld22p, ld23, ld23p, ld24, ld24p, ld26, ld26p, ld28, ld28p, ld30, ld30p, ld31, ld31p, ld46, ld46p, ld47, ld47p, ld52, ld52p, ld55, ld55p, ld57, ld57p, ld95, ld95p, st3s, st4s, st22s, st23s, st24s, st26w, st28w, st30w, st46w, st47s, st55s, st95w, ix22, ix22p, ix23, ix23p, ix24, ix24p, ix47, ix47p, ix56, ix56p, ix57, ix57p, ix101, ix101p, ln22, ln22p, ln23, ln23p, ln24, ln24p, ln47, ln47p, ln56, ln56p, ln57, ln57p, al22, al26, al28, al30, al46, al47, al95, cf14, cf15, cf16, cf17, cf18, cf19, cf20, cf21, cf22, cf23, cf24, cf25, cf26, cf27, cf28, cf29, cf30, cf31, cf32, cf33, cf34, cf35, cf36, cf37, cf38, cf39, cf40, cf41, cf42, cf43, cf44, cf45, cf46, cf47, cf48, cf49, cf50, cf51, cf52, cf53, cf54, cf55, cf56, cf57, cf58, cf59, cf60, cf61, cf62, cf63, cf64, cf65, cf66, cf67, cf68, cf69, cf70, cf71, cf72, cf73, cf74, cf75, cf76, cf77, cf78, cf79, cf80, bd26_0_1_2_7_8_9_10_11_12_13_14, bd26_0_1_2_7_8_9_10_11_12_13_14p, bd28_0, bd28_0p, bd28_0_1, bd28_0_1p, bd30_, bd30_p, bd30_0_1, bd30_0_1p, bd30_0, bd30_0p, bd46_0_1_2_3_4, bd46_0_1_2_3_4p, bd46_0_3_4, bd46_0_3_4p, bd86_0_1_2, bd86_0_1_2p, bd87_0_1_2_3, bd87_0_1_2_3p, bd95_0_1, bd95_0_1p, bs22_2_0_1, bs47_1_0, bs22_1_0, bs57_6_0_1_2_3_4_5, bs24_1_0, bs22_4_0_1_2_3, bs56_11_0_1_2_3_4_5_6_7_8_9_10, bs57_11_0_1_2_3_4_5_6_7_8_9_10, eq4, eq4p, eq28, eq28p, eq30, eq30p, eq31n, eq31np, eq31s, eq31sp, eq46, eq46p, eq50n, eq50np, eq50s, eq50sp, eq67n, eq67np, eq67s, eq67sp, ne4, ne4p, ne28, ne28p, ne30, ne30p, ne31n, ne31np, ne31s, ne31sp, ne46, ne46p, cx]
  refine (num_spec (c := c) (s.up l1 d1)).mono ?_
  rintro _ _ ⟨rfl, rfl⟩
  cases hc : inW w k c with
  | false =>
    try simp -implicitDefEqProofs (maxSteps := 2000000) (disch := first | with_reducible exact Nat.ne_of_beq_eq_false rfl | exact oneCell_int | exact oneCell_bool | omega | rfl | (simp; done) | fail) only [numI_out hc, bin_geq, show decide ((-1 : Int) ≥ 0) = false from rfl, pick_f, gd_ft]
    first | exact l1 | exact ⟨by simp, l1⟩
  | true =>
    obtain ⟨gp, kb, rfl, z2, zk, n0, n1⟩ := (s.up l1 d1).kind hc
    try simp -implicitDefEqProofs (maxSteps := 2000000) (disch := first | with_reducible exact Nat.ne_of_beq_eq_false rfl | exact oneCell_int | exact oneCell_bool | omega | rfl | (simp; done) | fail) only [Bool.true_and, bin_geq, show decide (numI w k c ≥ 0) = true from decide_eq_true n0, pick_t, gd_tt, opH_sv, opH_nil, fa86_2, add_mk, Nat.zero_add, ld57, z2, Option.some.injEq, exists_eq_left', ix57k n0 n1, ld3, zk, eq_int, true_and]
    first | exact l1 | exact ⟨by simp, l1⟩

def Bd (x : Int) : Prop := -9223372036854775808 ≤ x ∧ x ≤ 9223372036854775807
def PB (p : Pose) : Prop := Bd p.x ∧ Bd p.y

theorem cells_spec {G h : Hp} {g : Value} {p : Pose} (st : Steps G) (hp : PB p) : HCalls Tryd.prog G 21 #[g, poseV p] h (fun u h' => ∃ b, u = .slice (some ⟨b, 0, none⟩) 2 2 ∧ h b = none ∧ G b = none ∧ h' = h.set b (.cells #[.int .i64 p.x, .int .i64 p.y, .int .i64 (east p).1, .int .i64 (east p).2] 28 (0, 0))) := by
  obtain ⟨⟨p1, p2⟩, p3, p4⟩ := hp
  refine HCalls.assume fun d => HCalls.less (enter21 (by simp) (R := fun u h' => ∃ b, u = .slice (some ⟨b, 0, none⟩) 2 2 ∧ h b = none ∧ G b = none ∧ (h.set b (.cells #[.int .i64 p.x, .int .i64 p.y, .int .i64 (east p).1, .int .i64 (east p).2] 28 (0, 0))).le h') ?_) ?_
  rotate_left
  · rintro v h' ⟨b, e, h1, h2, h3⟩
    exact ⟨_, h3, b, e, h1, h2, rfl⟩
  unfold S21
  simp -implicitDefEqProofs (maxSteps := 2000000) (disch := first | with_reducible exact Nat.ne_of_beq_eq_false rfl | exact oneCell_int | exact oneCell_bool | omega | rfl | (simp; done) | fail) only [regs1, opH_su, opH_sv, al28, box_new, cells_agg, fa30_1, add_mk, Nat.zero_add, ld4]
  intro x hx gx
  generalize e1 : Hp.set h x _ = h1
  obtain ⟨l1, d1, b1⟩ := boxed e1 hx d gx
  have c0 := fun j => st.cell d1 j
  try simp -implicitDefEqProofs (maxSteps := 2000000) (disch := first | with_reducible exact Nat.ne_of_beq_eq_false rfl | exact oneCell_int | exact oneCell_bool | omega | rfl | (simp; done) | fail) only [ix81 (by decide : (0 : Int) ≤ 1) (by decide : (1 : Int) < (4 : Nat)), Int.toNat_one, Nat.one_mul, add_mk, Nat.zero_add, ld28, Nat.add_zero, c0, stepL, List.getElem?_cons_succ, List.getElem?_cons_zero, Option.some.injEq, Nat.reduceAdd, exists_eq_left', st28w]
  intro y hy gy
  generalize e2 : Hp.set h1 y _ = h2
  obtain ⟨l2, d2, b2⟩ := boxed e2 hy d1 gy
  have cx : ∀ j, cellIn G h2 ⟨x, j, none⟩ = _ := fun j => cell_of (look_own (l2 _ _ b1))
  have cy : ∀ j, cellIn G h2 ⟨y, j, none⟩ = _ := fun j => cell_of (look_own b2)
  have L := l1.trans l2
  try simp -implicitDefEqProofs (maxSteps := 2000000) (disch := first | with_reducible exact Nat.ne_of_beq_eq_false rfl | exact oneCell_int | exact oneCell_bool | omega | rfl | (simp; done) | fail) only [cx, List.getElem?_cons_succ, List.getElem?_cons_zero, Option.some.injEq, exists_eq_left']
  unfold east wr
  cases hd : p.d with
  | false =>
    try simp -implicitDefEqProofs (maxSteps := 2000000) (disch := first | with_reducible exact Nat.ne_of_beq_eq_false rfl | exact oneCell_int | exact oneCell_bool | omega | rfl | (simp; done) | fail) only [HL.cond_false]
    unfold S21_k1
    try simp -implicitDefEqProofs (maxSteps := 2000000) (disch := first | with_reducible exact Nat.ne_of_beq_eq_false rfl | exact oneCell_int | exact oneCell_bool | omega | rfl | (simp; done) | fail) only [upd_ne, upd_eq, retK_ret, resL_tmp, resL_nil1, opH_sv, fa28_1, add_mk, Nat.zero_add, ld3, fa30_0, Nat.add_zero, fa28_0, ld28, cx, List.getElem?_cons_zero, Option.some.injEq, List.getElem?_cons_succ, cy, exists_eq_left', bin_add, wrap_in, bd28_0_1, bs22_2_0_1]
    rw [show (p.y + 0 : Int) = p.y by omega]
    intro b hb gb
    exact ⟨b, rfl, L.none hb, gb, L.both⟩
  | true =>
    have c2 := fun j => st.cell d2 j
    try simp -implicitDefEqProofs (maxSteps := 2000000) (disch := first | with_reducible exact Nat.ne_of_beq_eq_false rfl | exact oneCell_int | exact oneCell_bool | omega | rfl | (simp; done) | fail) only [if_true, ix81 (by decide : (0 : Int) ≤ 2) (by decide : (2 : Int) < (4 : Nat)), show Int.toNat 2 = 2 from rfl, Nat.reduceMul, add_mk, Nat.zero_add, ld28, Nat.add_zero, c2, stepL, List.getElem?_cons_succ, List.getElem?_cons_zero, Option.some.injEq, Nat.reduceAdd, exists_eq_left', HL.cond_true]
    rw [store_eq sz28 b2 (by simp [cells_agg]) (by simp) (by simp [cells_agg, oneCell])]
    have nxy : x ≠ y := ne_of_new b1 hy
    generalize e3 : Hp.set h2 y _ = h3
    have cx3 : ∀ j, cellIn G h3 ⟨x, j, none⟩ = [Value.int .i64 p.x, .int .i64 p.y, .bool p.d][j]? := fun j => by rw [← e3, cell_set_other nxy]; exact cx j
    have cy3 : ∀ j, cellIn G h3 ⟨y, j, none⟩ = [Value.int .i64 0, .int .i64 1][j]? := fun j => by rw [← e3, cell_of (look_own set_self)]; first | rfl | simp [putL, cells_agg]
    have L3 : h.le h3 := by
      rw [← e3]
      exact L.set (l1.none hy)
    unfold S21_k1
    try simp -implicitDefEqProofs (maxSteps := 2000000) (disch := first | with_reducible exact Nat.ne_of_beq_eq_false rfl | exact oneCell_int | exact oneCell_bool | omega | rfl | (simp; done) | fail) only [upd_ne, upd_eq, retK_ret, resL_tmp, resL_nil1, opH_sv, fa28_1, add_mk, Nat.zero_add, ld3, fa30_0, Nat.add_zero, fa28_0, ld28, cx3, List.getElem?_cons_zero, Option.some.injEq, List.getElem?_cons_succ, cy3, exists_eq_left', bin_add, wrap_in, bd28_0_1, bs22_2_0_1]
    rw [show (p.x + 0 : Int) = p.x by omega]
    intro b hb gb
    exact ⟨b, rfl, L3.none hb, gb, L3.both⟩

end Go.Proofs.YtnpdploihlgcgaaDoor
end

section
/- The program's grid is laid: blocked cells and ports. -/
set_option linter.unusedSimpArgs false
set_option linter.unusedVariables false
set_option maxRecDepth 100000
namespace Go.Proofs.YtnpdploihlgcgaaDoor
open Go Go.HL

def fitsW (w k : Nat) (f : Nat → Nat → Int) (p : Pose) : Bool := openW w k f (p.x, p.y) && openW w k f (east p)

theorem fits_spec {G h : Hp} {g : Value} {w k : Nat} {f : Nat → Nat → Int} {p : Pose} (s : GS G h g w k f) (st : Steps G) (hp : PB p) : HCalls Tryd.prog G 23 #[g, poseV p] h (fun u h' => u = .bool (fitsW w k f p) ∧ h' = h) := by
  refine HCalls.assume fun d => quietly (enter23 (by simp) ?_)
  unfold S23
  simp -implicitDefEqProofs (maxSteps := 2000000) (disch := first | with_reducible exact Nat.ne_of_beq_eq_false rfl | exact oneCell_int | exact oneCell_bool | omega | rfl | (simp; done) | fail) only [regs1, regs0, retK_ret, resL_tmp, upd_eq, resL_nil1, cf31, opH_sv, cf21, box_new, cells_agg, ld30, add_mk, Nat.add_zero, cell_set_self, List.getElem?_cons_zero, Option.some.injEq, Nat.zero_add, List.getElem?_cons_succ, exists_eq_left']
  intro x hx gx
  generalize e1 : Hp.set h x _ = h1
  obtain ⟨l1, d1, b1⟩ := boxed e1 hx d gx
  have cx : ∀ j, cellIn G h1 ⟨x, j, none⟩ = _ := fun j => cell_of (look_own b1)
  try simp -implicitDefEqProofs (maxSteps := 2000000) (disch := first | with_reducible exact Nat.ne_of_beq_eq_false rfl | exact oneCell_int | exact oneCell_bool | omega | rfl | (simp; done) | fail) only [opH_sv, opH_su, pureW_sv, opH_nil, pureW_nil, pick_t, pick_f, pick_tp, pick_fp, gd_tt, gd_ft, gd_tf, gd_ff, box_new, regs0, regs1, regs2, regs3, regs4, regs5, regs6, cells_agg, cells_int, cells_bool, cells_ptr, cells_slice, cells_string, cells_func, cells_nilFunc, cells_map, retK_ret, retK_normal, resL_tmp, resL_cell, resL_nil0, resL_nil1, resL_nil2, resL_nil3, resC_ptr, ex0, ex1, ex2, ex0p, ex1p, ex2p, HL.cond_true, HL.cond_false, thenK_normal, thenK_ret, thenK_exit, blockK_normal, blockK_ret, blockK_exit, scopeK_normal, scopeK_ret, scopeK_exit, wpH_pure, bin_add, bin_sub, bin_mul, bin_lss, bin_leq, bin_gtr, bin_geq, bin_quo, bin_rem, bin_quop, bin_remp, wrap_in, bin_addp, bin_subp, bin_mulp, bin_lssp, bin_leqp, bin_gtrp, bin_geqp, un_not, un_notp, un_neg, eq_int, ne_int, eq_intp, ne_intp, callV_fn, add_mk, upd_eq, upd_ne, cell_set_self, Nat.zero_add, Nat.add_zero, Option.some.injEq, exists_eq_left', List.getElem?_cons_succ, List.getElem?_cons_zero, true_and, and_true, bne_self_eq_false, beq_self_eq_true, Bool.not_true, Bool.not_false, Bool.and_true, Bool.and_self, Bool.and_false, Bool.true_and, List.length_cons, List.length_nil, ne_eq, not_false_eq_true, Nat.reduceAdd, Nat.reduceMul, if_true, if_false, oneCell_int, oneCell_bool, oneCell_ptr, oneCell_slice, oneCell_string, oneCell_func, oneCell_map, Int.toNat_natCast, List.set_cons_zero, List.set_cons_succ, Nat.lt_irrefl, Nat.zero_lt_succ, Nat.succ_lt_succ_iff, fa26_0, fa26_0p, fa26_1, fa26_1p, fa26_10, fa26_10p, fa26_11, fa26_11p, fa26_12, fa26_12p, fa26_13, fa26_13p, fa26_14, fa26_14p, fa26_2, fa26_2p, fa26_3, fa26_3p, fa26_4, fa26_4p, fa26_5, fa26_5p, fa26_6, fa26_6p, fa26_7, fa26_7p, fa26_8, fa26_8p, fa26_9, fa26_9p, fa28_0, fa28_0p, fa28_1, fa28_1p, fa30_0, fa30_0p, fa30_1, fa30_1p, fa46_0, fa46_0p, fa46_1, fa46_1p, fa46_2, fa46_2p, fa46_3, fa46_3p, fa46_4, fa46_4p, fa46_5, fa46_5p, fa46_6, fa46_6p, fa86_0, fa86_0p, fa86_1, fa86_1p, fa86_2, fa86_2p, fa95_0, fa95_0p, fa95_1, fa95_1p, ld3, ld3p, ld4, ld4p, ld22, ld22p, ld23, ld23p, ld24, ld24p, ld26, ld26p, ld28, ld28p, ld30, ld30p, ld31, ld31p, ld46, ld46p, ld47, ld47p, ld52, ld52p, ld55, ld55p, ld57, ld57p, ld95, ld95p, st3s, st4s, st22s, st23s, st24s, st26w, st28w, st30w, st46w, st47s, st55s, st95w, ix22, ix22p, ix23, ix23p, ix24, ix24p, ix47, ix47p, ix56, ix56p, ix57, ix57p, ix101, ix101p, ln22, ln22p, ln23, ln23p, ln24, ln24p, ln47, ln47p, ln56, ln56p, ln57, ln57p, al22, al26, al28, al30, al46, al47, al95, cf14, cf15, cf16, cf17, cf18, cf19, cf20, cf21, cf22, cf23, cf24, cf25, cf26, cf27, cf28, cf29, cf30, cf31, cf32, cf33, cf34, cf35, cf36, cf37, cf38, cf39, cf40, cf41, cf42, cf43, cf44, cf45, cf46, cf47, cf48, cf49, cf50, cf51, cf52, cf53, cf54, cf55, cf56, cf57, cf58, cf59, cf60, cf61, cf62, cf63, cf64, cf65, cf66, cf67, cf68, cf69, cf70, cf71, cf72, cf73, cf74, cf75, cf76, cf77, cf78, cf79, cf80, bd26_0_1_2_7_8_9_10_11_12_13_14, bd26_0_1_2_7_8_9_10_11_12_13_14p, bd28_0, bd28_0p, bd28_0_1, bd28_0_1p, bd30_, bd30_p, bd30_0_1, bd30_0_1p, bd30_0, bd30_0p, bd46_0_1_2_3_4, bd46_0_1_2_3_4p, bd46_0_3_4, bd46_0_3_4p, bd86_0_1_2, bd86_0_1_2p, bd87_0_1_2_3, bd87_0_1_2_3p, bd95_0_1, bd95_0_1p, bs22_2_0_1, bs47_1_0, bs22_1_0, bs57_6_0_1_2_3_4_5, bs24_1_0, bs22_4_0_1_2_3, bs56_11_0_1_2_3_4_5_6_7_8_9_10, bs57_11_0_1_2_3_4_5_6_7_8_9_10, eq4, eq4p, eq28, eq28p, eq30, eq30p, eq31n, eq31np, eq31s, eq31sp, eq46, eq46p, eq50n, eq50np, eq50s, eq50sp, eq67n, eq67np, eq67s, eq67sp, ne4, ne4p, ne28, ne28p, ne30, ne30p, ne31n, ne31np, ne31s, ne31sp, ne46, ne46p, cx]
  refine (cells_spec (g := g) (p := p) st hp).mono ?_
  rintro _ _ ⟨b, rfl, hb, gb, rfl⟩
  generalize e3 : Hp.set h1 b _ = h3
  obtain ⟨l3, d3, b3⟩ := boxed e3 hb d1 gb
  have L := l1.trans l3
  have cb3 : ∀ k, cellIn G h3 ⟨b, k, none⟩ = _ := fun k => cell_of (look_own b3)
  try simp -implicitDefEqProofs (maxSteps := 2000000) (disch := first | with_reducible exact Nat.ne_of_beq_eq_false rfl | exact oneCell_int | exact oneCell_bool | omega | rfl | (simp; done) | fail) only [ix22 (by decide : (0 : Int) ≤ 0) (by decide : (0 : Int) < (2 : Nat)), Int.toNat_zero, Nat.zero_mul, add_mk, Nat.add_zero, ld28, cb3, List.getElem?_cons_zero, Option.some.injEq, Nat.zero_add, List.getElem?_cons_succ, exists_eq_left']
  refine (open_spec (c := (p.x, p.y)) (s.up L d3)).mono ?_
  rintro _ _ ⟨rfl, rfl⟩
  unfold fitsW
  cases hc : openW w k f (p.x, p.y) with
  | false => simp -implicitDefEqProofs (maxSteps := 2000000) (disch := first | with_reducible exact Nat.ne_of_beq_eq_false rfl | exact oneCell_int | exact oneCell_bool | omega | rfl | (simp; done) | fail) only [pick_f, gd_ft]; exact ⟨rfl, L⟩
  | true =>
  try simp -implicitDefEqProofs (maxSteps := 2000000) (disch := first | with_reducible exact Nat.ne_of_beq_eq_false rfl | exact oneCell_int | exact oneCell_bool | omega | rfl | (simp; done) | fail) only [Bool.true_and, pick_t, gd_tt, cf31, opH_sv, ix22 (by decide : (0 : Int) ≤ 1) (by decide : (1 : Int) < (2 : Nat)), Int.toNat_one, Nat.one_mul, add_mk, Nat.zero_add, ld28, Nat.add_zero, Nat.reduceAdd, cb3, List.getElem?_cons_succ, List.getElem?_cons_zero, Option.some.injEq, exists_eq_left']
  refine (open_spec (c := east p) (s.up L d3)).mono ?_
  rintro _ _ ⟨rfl, rfl⟩
  try simp -implicitDefEqProofs (maxSteps := 2000000) (disch := first | with_reducible exact Nat.ne_of_beq_eq_false rfl | exact oneCell_int | exact oneCell_bool | omega | rfl | (simp; done) | fail) only [true_and]
  first | exact L | exact ⟨by simp, L⟩

/-- A row with one element turned. -/
theorem rows_set {α : Type} (c : Cod α) (hn : c.n = 1) {L : List α} {i : Nat} {x : α} {v : Value} (hv : c.enc x = [v]) (hi : i < L.length) : (c.rows L).set i v = c.rows (L.set i x) := by
  have h := c.rows_put (t := []) (x := x) hi
  rw [List.append_nil, List.append_nil, hn, Nat.mul_one, hv] at h
  rw [← h, putL_eq _ _ _ (by rw [c.rows_length, hn]; simp; omega)]
  rw [List.set_eq_take_append_cons_drop, if_pos (by rw [c.rows_length, hn]; omega)]
  simp

theorem rows_one_get {α : Type} (c : Cod α) (hn : c.n = 1) {L : List α} {i : Nat} {x : α} {v : Value} (hv : c.enc x = [v]) (hx : L[i]? = some x) : (c.rows L)[i]? = some v := by
  have h := c.rows_get (t := []) (j := 0) hx (by omega)
  rw [List.append_nil, hn, Nat.mul_one, Nat.add_zero, hv] at h
  exact h

/-- The grid in a piece of one's own: its head at gp, its kinds at kb. -/
structure GO (a : Hp) (gp kb : Nat) (w k : Nat) (f : Nat → Nat → Int) : Prop where
  hd : a gp = some (.cells #[.int .i64 w, .int .i64 k, .slice (some ⟨kb, 0, none⟩) (w * k) (w * k)] 86 (0, 0))
  row : a kb = some (.cells (icC.rows (gridL w k f)).toArray 3 (0, 0))
  w1 : 1 ≤ w
  w2 : w ≤ 16
  k1 : 1 ≤ k
  k2 : k ≤ 16

theorem GO.ne {a : Hp} {gp kb w k : Nat} {f : Nat → Nat → Int} (g : GO a gp kb w k f) : gp ≠ kb := fun e => by
  have h1 := g.hd
  have h2 := g.row
  rw [e, h2] at h1
  simp at h1
theorem GO.le {a h : Hp} {gp kb w k : Nat} {f : Nat → Nat → Int} (g : GO a gp kb w k f) (l : a.le h) : GO h gp kb w k f := ⟨l _ _ g.hd, l _ _ g.row, g.w1, g.w2, g.k1, g.k2⟩
theorem GO.gs {G a : Hp} {gp kb w k : Nat} {f : Nat → Nat → Int} (g : GO a gp kb w k f) : GS G a (.pointer (some ⟨gp, 0, none⟩)) w k f :=
  ⟨⟨gp, kb, rfl, fun j hj => cell_of (look_own g.hd), fun n x hx => by rw [cell_of (look_own g.row)]; exact rows_one_get icC rfl rfl hx⟩, g.w1, g.w2, g.k1, g.k2⟩
/-- One cell's kind turned. -/
theorem GO.put {a : Hp} {gp kb w k : Nat} {f : Nat → Nat → Int} (g : GO a gp kb w k f) {x y : Nat} {v : Int} (hx : x < w) (hy : y < k) :
    GO (a.set kb (.cells ((icC.rows (gridL w k f)).set (y * w + x) (.int .i64 v)).toArray 3 (0, 0))) gp kb w k (fun p q => if p = x ∧ q = y then v else f p q) := by
  refine ⟨by rw [set_other g.ne]; exact g.hd, ?_, g.w1, g.w2, g.k1, g.k2⟩
  rw [set_self, rows_set icC rfl (x := v) rfl, gridL_set hx]
  rw [gridL_length]
  have : (y + 1) * w ≤ k * w := Nat.mul_le_mul_right _ hy
  rw [Nat.succ_mul] at this
  rw [Nat.mul_comm w k]; omega

/-- A row of marks. -/
def MK (a : Hp) (mb w k : Nat) (f : Nat → Nat → Bool) : Prop := a mb = some (.cells (bcC.rows (gridL w k f)).toArray 4 (0, 0))
theorem MK.put {a : Hp} {mb w k : Nat} {f : Nat → Nat → Bool} (g : MK a mb w k f) {x y : Nat} {v : Bool} (hx : x < w) (hy : y < k) :
    MK (a.set mb (.cells ((bcC.rows (gridL w k f)).set (y * w + x) (.bool v)).toArray 4 (0, 0))) mb w k (fun p q => if p = x ∧ q = y then v else f p q) := by
  unfold MK
  rw [set_self, rows_set bcC rfl (x := v) rfl, gridL_set hx]
  rw [gridL_length]
  have : (y + 1) * w ≤ k * w := Nat.mul_le_mul_right _ hy
  rw [Nat.succ_mul] at this
  rw [Nat.mul_comm w k]; omega

theorem numI_nat {w k : Nat} {c : Cell} (hc : inW w k c = true) : numI w k c = ((c.2.toNat * w + c.1.toNat : Nat) : Int) ∧ c.1.toNat < w ∧ c.2.toNat < k ∧ c.2.toNat * w + c.1.toNat < w * k := by
  obtain ⟨a1, a2, a3, a4⟩ := inW_iff.1 hc
  refine ⟨?_, by omega, by omega, ?_⟩
  · unfold numI
    rw [if_pos hc]
    rw [Int.natCast_add, Int.natCast_mul, Int.toNat_of_nonneg a1, Int.toNat_of_nonneg a3]
  · have : (c.2.toNat + 1) * w ≤ k * w := Nat.mul_le_mul_right _ (by omega)
    rw [Nat.succ_mul] at this
    rw [Nat.mul_comm w k]; omega

/-- What lies at a cell when those of T were put down, the first nb of them blocked. -/
def kd (T : List Cell) (nb : Nat) (x y : Nat) : Int := if ((x : Int), (y : Int)) ∈ T then (if T.idxOf ((x : Int), (y : Int)) < nb then -1 else (T.idxOf ((x : Int), (y : Int)) : Int) - nb + 1) else 0
def seenT (T : List Cell) (x y : Nat) : Bool := decide (((x : Int), (y : Int)) ∈ T)

theorem kd_snoc {T : List Cell} {nb : Nat} {c : Cell} (hc : c ∉ T) (h1 : 0 ≤ c.1) (h2 : 0 ≤ c.2) : kd (T ++ [c]) nb = fun p q => if p = c.1.toNat ∧ q = c.2.toNat then (if T.length < nb then -1 else (T.length : Int) - nb + 1) else kd T nb p q := by
  funext p q
  unfold kd
  by_cases hpq : p = c.1.toNat ∧ q = c.2.toNat
  · have e : ((p : Int), (q : Int)) = c := by rw [hpq.1, hpq.2, Int.toNat_of_nonneg h1, Int.toNat_of_nonneg h2]
    rw [if_pos hpq, e, if_pos (by simp), List.idxOf_append, if_neg hc, List.idxOf_cons_self, Nat.zero_add]
  · have e : ((p : Int), (q : Int)) ≠ c := fun e => hpq (by rw [← e]; simp)
    rw [if_neg hpq]
    by_cases hm : ((p : Int), (q : Int)) ∈ T
    · rw [if_pos (by simp [hm]), if_pos hm, List.idxOf_append, if_pos hm]
    · rw [if_neg (by simp [hm, e]), if_neg hm]
theorem seen_snoc {T : List Cell} {c : Cell} (h1 : 0 ≤ c.1) (h2 : 0 ≤ c.2) : seenT (T ++ [c]) = fun p q => if p = c.1.toNat ∧ q = c.2.toNat then true else seenT T p q := by
  funext p q
  unfold seenT
  by_cases hpq : p = c.1.toNat ∧ q = c.2.toNat
  · have e : ((p : Int), (q : Int)) = c := by rw [hpq.1, hpq.2, Int.toNat_of_nonneg h1, Int.toNat_of_nonneg h2]
    rw [if_pos hpq, e]; simp
  · have e : ((p : Int), (q : Int)) ≠ c := fun e => hpq (by rw [← e]; simp)
    rw [if_neg hpq]
    simp [e]

end Go.Proofs.YtnpdploihlgcgaaDoor
end

section
/- The program's grid is laid: the walk. -/
set_option linter.unusedSimpArgs false
set_option linter.unusedVariables false
set_option maxRecDepth 100000
namespace Go.Proofs.YtnpdploihlgcgaaDoor
open Go Go.HL

theorem list_spec {G h : Hp} {v : Value} {L : List Cell} (sv : Sees cellC G h v L) (hL : L.length ≤ 1000) : HCalls Tryd.prog G 80 #[v] h (fun u h' => ∃ b, Slc cellC 28 b u L ∧ Sep [b, h] h' ∧ Dis G h') := by
  obtain ⟨sa, cap, rfl⟩ := sv.len
  refine HCalls.assume fun d => enter80 (by simp) ?_
  unfold S80
  simp -implicitDefEqProofs only [regs0, retK_ret, resL_tmp, upd_eq, resL_nil1, opH_sv, ln22, eq_int]
  by_cases hL0 : L = []
  · subst hL0
    try simp -implicitDefEqProofs only [List.length_nil, show (((0 : Nat) : Int) == 0) = true from rfl, HL.cond_true]
    exact ⟨noHp, Slc.nil, Sep.one.none, d⟩
  · have hpos := List.length_pos_iff.2 hL0
    have e : ((L.length : Int) == 0) = false := by
      have : (L.length : Int) ≠ 0 := by omega
      simpa using this
    try simp -implicitDefEqProofs only [e, HL.cond_false]
    unfold S80_k1
    try simp -implicitDefEqProofs (disch := first | with_reducible exact Nat.ne_of_beq_eq_false rfl | omega) only [upd_ne, regs0, retK_ret, resL_tmp, upd_eq, resL_nil1, opH_sv, ln22]
    rw [make_eq cellC (0, 0) (by decide) un22 eocell (by kernel_rfl) (by omega) (by omega)]
    intro x hx gx
    have d1 := d.set (o := .cells (cellC.rows (List.replicate L.length (0, 0))).toArray 28 (0, 0)) gx
    rw [copy_row cellC (by decide) un22 eocell (L := L) set_self (by simp) (sv.up (le_set hx) d1) hL0 rfl, set_set]
    try simp -implicitDefEqProofs only [opH_sv, opH_su, pureW_sv, opH_nil, pureW_nil, pick_t, pick_f, pick_tp, pick_fp, gd_tt, gd_ft, gd_tf, gd_ff, box_new, regs0, regs1, regs2, regs3, regs4, regs5, regs6, cells_agg, cells_int, cells_bool, cells_ptr, cells_slice, cells_string, cells_func, cells_nilFunc, cells_map, retK_ret, retK_normal, resL_tmp, resL_cell, resL_nil0, resL_nil1, resL_nil2, resL_nil3, resC_ptr, ex0, ex1, ex2, ex0p, ex1p, ex2p, HL.cond_true, HL.cond_false, thenK_normal, thenK_ret, thenK_exit, blockK_normal, blockK_ret, blockK_exit, scopeK_normal, scopeK_ret, scopeK_exit, wpH_pure, bin_add, bin_sub, bin_mul, bin_lss, bin_leq, bin_gtr, bin_geq, bin_quo, bin_rem, bin_quop, bin_remp, wrap_in, bin_addp, bin_subp, bin_mulp, bin_lssp, bin_leqp, bin_gtrp, bin_geqp, un_not, un_notp, un_neg, eq_int, ne_int, eq_intp, ne_intp, callV_fn, add_mk, upd_eq, upd_ne, cell_set_self, Nat.zero_add, Nat.add_zero, Option.some.injEq, exists_eq_left', List.getElem?_cons_succ, List.getElem?_cons_zero, true_and, and_true, bne_self_eq_false, beq_self_eq_true, Bool.not_true, Bool.not_false, Bool.and_true, Bool.and_self, Bool.and_false, Bool.true_and, List.length_cons, List.length_nil, ne_eq, not_false_eq_true, Nat.reduceAdd, Nat.reduceMul, if_true, if_false, oneCell_int, oneCell_bool, oneCell_ptr, oneCell_slice, oneCell_string, oneCell_func, oneCell_map, Int.toNat_natCast, List.set_cons_zero, List.set_cons_succ, Nat.lt_irrefl, Nat.zero_lt_succ, Nat.succ_lt_succ_iff, fa26_0, fa26_0p, fa26_1, fa26_1p, fa26_10, fa26_10p, fa26_11, fa26_11p, fa26_12, fa26_12p, fa26_13, fa26_13p, fa26_14, fa26_14p, fa26_2, fa26_2p, fa26_3, fa26_3p, fa26_4, fa26_4p, fa26_5, fa26_5p, fa26_6, fa26_6p, fa26_7, fa26_7p, fa26_8, fa26_8p, fa26_9, fa26_9p, fa28_0, fa28_0p, fa28_1, fa28_1p, fa30_0, fa30_0p, fa30_1, fa30_1p, fa46_0, fa46_0p, fa46_1, fa46_1p, fa46_2, fa46_2p, fa46_3, fa46_3p, fa46_4, fa46_4p, fa46_5, fa46_5p, fa46_6, fa46_6p, fa86_0, fa86_0p, fa86_1, fa86_1p, fa86_2, fa86_2p, fa95_0, fa95_0p, fa95_1, fa95_1p, ld3, ld3p, ld4, ld4p, ld22, ld22p, ld23, ld23p, ld24, ld24p, ld26, ld26p, ld28, ld28p, ld30, ld30p, ld31, ld31p, ld46, ld46p, ld47, ld47p, ld52, ld52p, ld55, ld55p, ld57, ld57p, ld95, ld95p, st3s, st4s, st22s, st23s, st24s, st26w, st28w, st30w, st46w, st47s, st55s, st95w, ix22, ix22p, ix23, ix23p, ix24, ix24p, ix47, ix47p, ix56, ix56p, ix57, ix57p, ix101, ix101p, ln22, ln22p, ln23, ln23p, ln24, ln24p, ln47, ln47p, ln56, ln56p, ln57, ln57p, al22, al26, al28, al30, al46, al47, al95, cf14, cf15, cf16, cf17, cf18, cf19, cf20, cf21, cf22, cf23, cf24, cf25, cf26, cf27, cf28, cf29, cf30, cf31, cf32, cf33, cf34, cf35, cf36, cf37, cf38, cf39, cf40, cf41, cf42, cf43, cf44, cf45, cf46, cf47, cf48, cf49, cf50, cf51, cf52, cf53, cf54, cf55, cf56, cf57, cf58, cf59, cf60, cf61, cf62, cf63, cf64, cf65, cf66, cf67, cf68, cf69, cf70, cf71, cf72, cf73, cf74, cf75, cf76, cf77, cf78, cf79, cf80, bd26_0_1_2_7_8_9_10_11_12_13_14, bd26_0_1_2_7_8_9_10_11_12_13_14p, bd28_0, bd28_0p, bd28_0_1, bd28_0_1p, bd30_, bd30_p, bd30_0_1, bd30_0_1p, bd30_0, bd30_0p, bd46_0_1_2_3_4, bd46_0_1_2_3_4p, bd46_0_3_4, bd46_0_3_4p, bd86_0_1_2, bd86_0_1_2p, bd87_0_1_2_3, bd87_0_1_2_3p, bd95_0_1, bd95_0_1p, bs22_2_0_1, bs47_1_0, bs22_1_0, bs57_6_0_1_2_3_4_5, bs24_1_0, bs22_4_0_1_2_3, bs56_11_0_1_2_3_4_5_6_7_8_9_10, bs57_11_0_1_2_3_4_5_6_7_8_9_10, eq4, eq4p, eq28, eq28p, eq30, eq30p, eq31n, eq31np, eq31s, eq31sp, eq46, eq46p, eq50n, eq50np, eq50s, eq50sp, eq67n, eq67np, eq67s, eq67sp, ne4, ne4p, ne28, ne28p, ne30, ne30p, ne31n, ne31np, ne31s, ne31sp, ne46, ne46p]
    exact ⟨noHp.set x _, ⟨some x, _, [], rfl, by rw [set_self, List.append_nil], by rw [List.append_nil, cellC.rows_length]⟩, Sep.one.new hx, d.set gx⟩

structure LaidOk (C : Conf) : Prop where
  w : withinB C.w 1 16 = true
  h : withinB C.h 1 16 = true
  po8 : C.po.length ≤ 8
  few : (C.bl.length : Int) ≤ C.w * C.h
  all : ∀ c ∈ C.bl ++ C.po, inW C.w.toNat C.h.toNat c = true
  once : (C.bl ++ C.po).Nodup

theorem ix101n {G h : Hp} {mb n : Nat} {i : Nat} {K : Value → Hp → Prop} (h2 : i < n) : wpH Tryd.prog G (Instr.indexAt 101 (.slice (some ⟨mb, 0, none⟩) n n) (.int .i64 (i : Int))) h K = K (.pointer (some ⟨mb, i, none⟩)) h := by
  rw [ix101 (by omega) (by omega)]; simp only [add_mk, Nat.zero_add, Nat.mul_one, Int.toNat_natCast]
theorem ix57n {G h : Hp} {kb n : Nat} {i : Nat} {K : Value → Hp → Prop} (h2 : i < n) : wpH Tryd.prog G (Instr.indexAt 57 (.slice (some ⟨kb, 0, none⟩) n n) (.int .i64 (i : Int))) h K = K (.pointer (some ⟨kb, i, none⟩)) h := by
  rw [ix57 (by omega) (by omega)]; simp only [add_mk, Nat.zero_add, Nat.mul_one, Int.toNat_natCast]
theorem ix57np {G h : Hp} {kb n : Nat} {i : Nat} {K : Value → Prop} (h2 : i < n) : pw Tryd.prog G h (Instr.indexAt 57 (.slice (some ⟨kb, 0, none⟩) n n) (.int .i64 (i : Int))) K = K (.pointer (some ⟨kb, i, none⟩)) := by
  rw [ix57p (by omega) (by omega)]; simp only [add_mk, Nat.zero_add, Nat.mul_one, Int.toNat_natCast]

theorem mk_get {G a h : Hp} {mb w k : Nat} {f : Nat → Nat → Bool} (m : MK a mb w k f) (l : a.le h) {x y : Nat} (hx : x < w) (hy : y < k) : cellIn G h ⟨mb, y * w + x, none⟩ = some (.bool (f x y)) := by
  rw [cell_of (look_own (l _ _ m))]
  exact rows_one_get bcC rfl rfl (gridL_get hx hy)

set_option maxHeartbeats 2000000 in
theorem laid_loop {G h1 : Hp} {C : Conf} {ab : Option Addr} {cb : Nat} {x gp kb mb w k : Nat} {ip : Hp} {iv : Value} {T : List Cell} {KK : Exit → Rg → Hp → Prop}
    (cx0 : ∀ h3, h1.le h3 → Dis G h3 → cellIn G h3 ⟨x, 3, none⟩ = some (.slice ab C.bl.length cb)) (hT : T.length ≤ 1000) (hB : C.bl.length ≤ 1000) (o : Slc cellC 28 ip iv T) (hk : 1 ≤ w ∧ w ≤ 16 ∧ 1 ≤ k ∧ k ≤ 16)
    (r : Rg) (h : Hp) (ga ma : Hp) (g1 : r 1 = .pointer (some ⟨x, 0, none⟩)) (g4 : r 4 = .pointer (some ⟨gp, 0, none⟩)) (g5 : r 5 = .slice (some ⟨mb, 0, none⟩) (w * k) (w * k)) (g59 : r 59 = iv) (g60 : r 60 = .int .i64 T.length) (g61 : r 61 = .int .i64 0)
    (go : GO ga gp kb w k (kd [] C.bl.length)) (mk : MK ma mb w k (seenT [])) (s : Sep [ga, ma, ip, h1] h) (d : Dis G h)
    (H1 : (∀ c ∈ T, inW w k c = true) → T.Nodup → ∀ (r' : Rg) h' ga', r' 4 = r 4 → GO ga' gp kb w k (kd T C.bl.length) → Sep [ga', h1] h' → Dis G h' → KK (.exit 0) r' h')
    (H2 : ¬ ((∀ c ∈ T, inW w k c = true) ∧ T.Nodup) → ∀ (r' : Rg) h', r' 2 = .pointer none → r' 3 = .bool false → h1.le h' → Dis G h' → KK .ret r' h') : loopP (S72_l3 G) r h KK := by
  obtain ⟨sa, cap, rfl, hcap⟩ := o.len (by decide)
  refine loop_I (fun m r2 h3 => ∃ (i : Nat) (ga ma : Hp), m = T.length - i ∧ i ≤ T.length ∧ r2 1 = r 1 ∧ r2 4 = r 4 ∧ r2 5 = r 5 ∧ r2 59 = r 59 ∧ r2 60 = r 60 ∧ r2 61 = .int .i64 i ∧ (∀ c ∈ T.take i, inW w k c = true) ∧ (T.take i).Nodup ∧
     GO ga gp kb w k (kd (T.take i) C.bl.length) ∧ MK ma mb w k (seenT (T.take i)) ∧ Sep [ga, ma, ip, h1] h3 ∧ Dis G h3) ?_
    (m := T.length) ⟨0, ga, ma, rfl, Nat.zero_le _, rfl, rfl, rfl, rfl, rfl, by rw [g61]; rfl, by simp, by simp, by simpa using go, by simpa using mk, s, d⟩
  rintro m r2 h3 ⟨i, ga, ma, rfl, hi, q1, q4, q5, q59, q60, q61, hin, hnd, go, mk, s3, d3⟩ X HX
  rw [g1] at q1
  rw [g4] at q4
  rw [g5] at q5
  rw [g59] at q59
  rw [g60] at q60
  unfold S72_l3
  simp -implicitDefEqProofs only [q61, q60, thenK_exit, opH_sv, bin_lss]
  refine cond_dec (fun hlt => ?_) (fun hge => ?_)
  rotate_left
  · obtain rfl : i = T.length := by omega
    rw [List.take_of_length_le (Nat.le_refl _)] at hin hnd go
    exact H1 hin hnd _ _ ga (by simp -implicitDefEqProofs (disch := first | with_reducible exact Nat.ne_of_beq_eq_false rfl | omega) only [upd_ne, q4, g4]) go ((s3.pick 3 rfl rfl).swap.take 2 rfl) d3
  have hlt' : i < T.length := by omega
  obtain ⟨y, hy⟩ : ∃ x, T[i]? = some x := ⟨_, List.getElem?_eq_getElem hlt'⟩
  obtain ⟨b, ofs, rfl, z0, z1⟩ := Sees.cell (G := G) (o.sees (by decide) (s3.in 2 rfl)) hy
  unfold S72_l3_k4
  simp -implicitDefEqProofs (disch := first | with_reducible exact Nat.ne_of_beq_eq_false rfl | omega) only [upd_ne, q59, q61, thenK_ret, opH_sv, cf37, opH_su, al28, ld28, add_mk, Nat.add_zero, Nat.zero_add, ix22 (Int.natCast_nonneg i) hlt, Int.toNat_natCast, z0, Option.some.injEq, z1, exists_eq_left', st28w, cell_set_self, List.getElem?_cons_zero, List.getElem?_cons_succ]
  intro t ht gt
  have s4 := s3.past (o := .cells #[.int .i64 y.1, .int .i64 y.2] 28 (0, 0)) ht
  have d4 := d3.set (o := .cells #[.int .i64 y.1, .int .i64 y.2] 28 (0, 0)) gt
  try simp -implicitDefEqProofs only [q4]
  generalize Hp.set h3 t _ = h4 at s4 d4 ⊢
  refine (num_spec (c := y) ((go.gs (G := G)).up s4.hd d4)).mono ?_
  rintro _ h4 ⟨rfl, rfl⟩
  have hyT : y ∈ T := List.mem_of_getElem? hy
  cases hc : inW w k y with
  | false =>
    try simp -implicitDefEqProofs (disch := first | with_reducible exact Nat.ne_of_beq_eq_false rfl | omega) only [numI_out hc, bin_lss, show decide ((-1 : Int) < 0) = true from rfl, pick_t, HL.cond_true, gd_tf]
    refine H2 (fun q => ?_) _ _ (by simp -implicitDefEqProofs (disch := first | with_reducible exact Nat.ne_of_beq_eq_false rfl | omega) only [upd_ne, upd_eq]) (by simp -implicitDefEqProofs only [upd_eq]) (s4.in 3 rfl) d4
    have := q.1 y hyT
    rw [hc] at this; cases this
  | true =>
  obtain ⟨hn, hx, hyk, hlt2⟩ := numI_nat hc
  have hxy : ((y.1.toNat : Int), (y.2.toNat : Int)) = y := by
    obtain ⟨a1, a2, a3, a4⟩ := inW_iff.1 hc
    rw [Int.toNat_of_nonneg a1, Int.toNat_of_nonneg a3]
  obtain ⟨a1, a2, a3, a4⟩ := inW_iff.1 hc
  have mg := mk_get (G := G) mk (s4.in 1 rfl) hx hyk
  rw [show seenT (T.take i) y.1.toNat y.2.toNat = decide (y ∈ T.take i) by unfold seenT; rw [hxy]] at mg
  rw [hn]
  generalize hnn : y.2.toNat * w + y.1.toNat = n at hn hlt2 mg
  try simp -implicitDefEqProofs only [q5, bin_lss, show decide ((n : Int) < 0) = false from decide_eq_false (by omega), pick_f, gd_ff, opH_sv, ix101n hlt2, ld4, mg, Option.some.injEq, exists_eq_left']
  by_cases hmem : y ∈ T.take i
  · try simp -implicitDefEqProofs (disch := first | with_reducible exact Nat.ne_of_beq_eq_false rfl | omega) only [decide_eq_true hmem, HL.cond_true]
    exact H2 (fun q => not_nodup hy hmem q.2) _ _ (by simp -implicitDefEqProofs (disch := first | with_reducible exact Nat.ne_of_beq_eq_false rfl | omega) only [upd_ne, upd_eq]) (by simp -implicitDefEqProofs only [upd_eq]) (s4.in 3 rfl) d4
  try simp -implicitDefEqProofs (disch := first | with_reducible exact Nat.ne_of_beq_eq_false rfl | omega) only [decide_eq_false hmem, HL.cond_false]
  unfold S72_l3_k6
  have mb4 := s4.at 1 rfl mk
  try simp -implicitDefEqProofs (disch := first | with_reducible exact Nat.ne_of_beq_eq_false rfl | omega) only [upd_ne, q5, upd_eq, opH_su, pureW_sv, opH_sv, ix101n hlt2]
  rw [store1_eq sz4 rfl mb4 (by rw [bcC.rows_length, gridL_length]; simp [bcC]; exact hlt2)]
  have s5 := (s4.pick 1 rfl rfl).put (o := .cells ((bcC.rows (gridL w k (seenT (T.take i)))).set n (.bool true)).toArray 4 (0, 0)) mk
  have d5 : Dis G (h4.set mb (.cells ((bcC.rows (gridL w k (seenT (T.take i)))).set n (.bool true)).toArray 4 (0, 0))) := d4.set (d4 _ _ mb4)
  generalize Hp.set h4 mb _ = h5 at s5 d5 ⊢
  have g5h := s5.at 1 rfl go.hd
  have cg5 : ∀ j, cellIn G h5 ⟨gp, j, none⟩ = _ := fun j => cell_of (look_own g5h)
  try simp -implicitDefEqProofs (disch := first | with_reducible exact Nat.ne_of_beq_eq_false rfl | omega) only [q4, pureW_nil, fa86_2p, add_mk, Nat.zero_add, ld57p, opH_nil, fa86_2, ld57, cg5, List.getElem?_cons_succ, List.getElem?_cons_zero, Option.some.injEq, exists_eq_left', ix57n hlt2]
  have kb5 := s5.at 1 rfl go.row
  rw [store1_eq sz3 rfl kb5 (by rw [icC.rows_length, gridL_length]; simp [icC]; exact hlt2)]
  have go6 := go.put (v := -1) hx hyk
  rw [hnn] at go6
  have s6 := (s5.pick 1 rfl rfl).put (o := .cells ((icC.rows (gridL w k (kd (T.take i) C.bl.length))).set n (.int .i64 (-1))).toArray 3 (0, 0)) go.row
  have d6 : Dis G (h5.set kb (.cells ((icC.rows (gridL w k (kd (T.take i) C.bl.length))).set n (.int .i64 (-1))).toArray 3 (0, 0))) := d5.set (d5 _ _ kb5)
  generalize Hp.set h5 kb _ = h6 at s6 d6 ⊢
  have c3 := cx0 h6 (s6.in 3 rfl) d6
  have mk6 := mk.put (v := true) hx hyk
  rw [hnn] at mk6
  have htl : (T.take i).length = i := by rw [List.length_take]; omega
  have next : ∀ (r3 : Rg) h7 ga7, r3 1 = r2 1 → r3 4 = r2 4 → r3 5 = r2 5 → r3 59 = r2 59 → r3 60 = r2 60 → r3 61 = r2 61 → GO ga7 gp kb w k (kd (T.take (i + 1)) C.bl.length) → Sep [ga7, ma.set mb (.cells ((bcC.rows (gridL w k (seenT (T.take i)))).set n (.bool true)).toArray 4 (0, 0)), ip, h1] h7 → Dis G h7 → S72_l3_k5 G (thenK X KK) r3 h7 := by
    intro r3 h7 ga7 w1 w4 w5 w59 w60 w61 go7 s7 d7
    unfold S72_l3_k5
    have w61' := w61.trans q61
    simp -implicitDefEqProofs (disch := first | with_reducible exact Nat.ne_of_beq_eq_false rfl | omega) only [w61', thenK_normal, opH_sv, bin_add, wrap_in]
    refine HX (T.length - (i + 1)) _ _ (by omega) ⟨i + 1, ga7, _, rfl, hlt', by simp -implicitDefEqProofs (disch := first | with_reducible exact Nat.ne_of_beq_eq_false rfl | omega) only [upd_ne, w1, q1, g1], by simp -implicitDefEqProofs (disch := first | with_reducible exact Nat.ne_of_beq_eq_false rfl | omega) only [upd_ne, w4, q4, g4], by simp -implicitDefEqProofs (disch := first | with_reducible exact Nat.ne_of_beq_eq_false rfl | omega) only [upd_ne, w5, q5, g5], by simp -implicitDefEqProofs (disch := first | with_reducible exact Nat.ne_of_beq_eq_false rfl | omega) only [upd_ne, w59, q59, g59], by simp -implicitDefEqProofs (disch := first | with_reducible exact Nat.ne_of_beq_eq_false rfl | omega) only [upd_ne, w60, q60, g60], by simp -implicitDefEqProofs (disch := first | with_reducible exact Nat.ne_of_beq_eq_false rfl | omega) only [upd_eq] <;> rfl, ?_, nodup_take_succ hy hnd hmem, go7, ?_, s7, d7⟩
    · rw [take_get hy]
      intro c hc'
      rcases List.mem_append.1 hc' with q | q
      · exact hin c q
      · simp at q; rw [q]; exact hc
    · rw [take_get hy, seen_snoc a1 a3]
      exact mk6
  have kds := kd_snoc (nb := C.bl.length) hmem a1 a3
  rw [← take_get hy, htl] at kds
  try simp -implicitDefEqProofs (disch := first | with_reducible exact Nat.ne_of_beq_eq_false rfl | omega) only [q1, fa26_3p, add_mk, Nat.zero_add, ld22p, fa26_3, ld22, c3, Option.some.injEq, exists_eq_left', ln22, bin_geq, ln22p, bin_subp, wrap_in, bin_addp]
  by_cases hib : i < C.bl.length
  · have e : decide ((i : Int) ≥ (C.bl.length : Int)) = false := decide_eq_false (by omega)
    try simp -implicitDefEqProofs (disch := first | with_reducible exact Nat.ne_of_beq_eq_false rfl | omega) only [e, HL.cond_false]
    refine next _ _ _ (by simp -implicitDefEqProofs (disch := first | with_reducible exact Nat.ne_of_beq_eq_false rfl | omega) only [upd_ne, q1]) (by simp -implicitDefEqProofs (disch := first | with_reducible exact Nat.ne_of_beq_eq_false rfl | omega) only [upd_ne, q4]) (by simp -implicitDefEqProofs (disch := first | with_reducible exact Nat.ne_of_beq_eq_false rfl | omega) only [upd_ne, q5]) (by simp -implicitDefEqProofs (disch := first | with_reducible exact Nat.ne_of_beq_eq_false rfl | omega) only [upd_ne, q59]) (by simp -implicitDefEqProofs (disch := first | with_reducible exact Nat.ne_of_beq_eq_false rfl | omega) only [upd_ne, q60]) (by simp -implicitDefEqProofs (disch := first | with_reducible exact Nat.ne_of_beq_eq_false rfl | omega) only [upd_ne, q61]) ?_ (s6.swap.swap) d6
    rw [kds, if_pos hib]
    exact go6
  · have e : decide ((i : Int) ≥ (C.bl.length : Int)) = true := decide_eq_true (by omega)
    have g6h := s6.at 0 rfl go6.hd
    have cg6 : ∀ j, cellIn G h6 ⟨gp, j, none⟩ = _ := fun j => cell_of (look_own g6h)
    try simp -implicitDefEqProofs (disch := first | with_reducible exact Nat.ne_of_beq_eq_false rfl | omega) only [e, cg6, List.getElem?_cons_succ, List.getElem?_cons_zero, Option.some.injEq, exists_eq_left', ix57np hlt2, HL.cond_true]
    have kb6 := s6.at 0 rfl go6.row
    rw [store1_eq sz3 rfl kb6 (by rw [icC.rows_length, gridL_length]; simp [icC]; exact hlt2)]
    have go7 := go6.put (v := (i : Int) - C.bl.length + 1) hx hyk
    rw [hnn] at go7
    have s7 := s6.put (o := .cells ((icC.rows (gridL w k fun p q => if p = y.1.toNat ∧ q = y.2.toNat then -1 else kd (T.take i) C.bl.length p q)).set n (.int .i64 ((i : Int) - C.bl.length + 1))).toArray 3 (0, 0)) go6.row
    refine next _ _ _ (by simp -implicitDefEqProofs (disch := first | with_reducible exact Nat.ne_of_beq_eq_false rfl | omega) only [upd_ne, q1]) (by simp -implicitDefEqProofs (disch := first | with_reducible exact Nat.ne_of_beq_eq_false rfl | omega) only [upd_ne, q4]) (by simp -implicitDefEqProofs (disch := first | with_reducible exact Nat.ne_of_beq_eq_false rfl | omega) only [upd_ne, q5]) (by simp -implicitDefEqProofs (disch := first | with_reducible exact Nat.ne_of_beq_eq_false rfl | omega) only [upd_ne, q59]) (by simp -implicitDefEqProofs (disch := first | with_reducible exact Nat.ne_of_beq_eq_false rfl | omega) only [upd_ne, q60]) (by simp -implicitDefEqProofs (disch := first | with_reducible exact Nat.ne_of_beq_eq_false rfl | omega) only [upd_ne, q61]) ?_ s7 (d6.set (d6 _ _ kb6))
    rw [kds, if_neg hib]
    have e2 : (fun p q => if p = y.1.toNat ∧ q = y.2.toNat then (i : Int) - C.bl.length + 1 else if p = y.1.toNat ∧ q = y.2.toNat then -1 else kd (T.take i) C.bl.length p q) = fun p q => if p = y.1.toNat ∧ q = y.2.toNat then (i : Int) - C.bl.length + 1 else kd (T.take i) C.bl.length p q := by
      funext p q
      by_cases h : p = y.1.toNat ∧ q = y.2.toNat <;> simp [h]
    rw [← e2]
    exact go7

end Go.Proofs.YtnpdploihlgcgaaDoor
end

section
/- The program's grid is laid: the whole. -/
set_option linter.unusedSimpArgs false
set_option linter.unusedVariables false
set_option maxRecDepth 100000
namespace Go.Proofs.YtnpdploihlgcgaaDoor
open Go Go.HL

theorem gridL_const {α : Type} {w k : Nat} {d : α} : gridL w k (fun _ _ => d) = List.replicate (w * k) d := by
  apply List.ext_getElem?
  intro n
  by_cases hn : n < w * k
  · rw [gridL_at hn, List.getElem?_replicate, if_pos hn]
  · rw [List.getElem?_eq_none (by rw [gridL_length]; omega), List.getElem?_eq_none (by simp; omega)]
theorem kd_nil {nb : Nat} : kd [] nb = fun _ _ => 0 := by funext x y; simp [kd]
theorem seen_nil : seenT [] = fun _ _ => false := by funext x y; simp [seenT]

theorem eobool : ElemOk Tryd.prog 4 bcC.n 1 := ⟨by kernel_rfl, by kernel_rfl, by kernel_rfl⟩

def LaidR (G h : Hp) (C : Conf) (u : Value) (h' : Hp) : Prop := h.le h' ∧ Dis G h' ∧
     ((LaidOk C ∧ ∃ ga gp kb, u = .tuple #[.pointer (some ⟨gp, 0, none⟩), .bool true] ∧ GO ga gp kb C.w.toNat C.h.toNat (kd (C.bl ++ C.po) C.bl.length) ∧ Sep [ga, h] h') ∨ (¬ LaidOk C ∧ u = .tuple #[.pointer none, .bool false]))

set_option maxHeartbeats 2000000 in
theorem laid_spec {G h : Hp} {v : Value} {C : Conf} (hv : CV G h v C) : HCalls Tryd.prog G 72 #[v] h (LaidR G h C) := by
  obtain ⟨ab, cb, ap, cp, ar, cr, az, cs, rfl, ca⟩ := hv
  refine HCalls.assume fun d => enter72 (by simp) ?_
  unfold S72
  simp -implicitDefEqProofs (maxSteps := 2000000) (disch := first | with_reducible exact Nat.ne_of_beq_eq_false rfl | exact oneCell_int | exact oneCell_bool | omega | rfl | (simp; done) | fail) only [regs0, retK_ret, resL_tmp, upd_ne, upd_eq, resL_nil2, opH_sv, cf57, box_new, cells_agg, fa26_0, add_mk, Nat.add_zero, ld3, cell_set_self, List.getElem?_cons_zero, Option.some.injEq, exists_eq_left']
  intro x hx gx
  have s1 := Sep.one.past (h := h) (o := .cells #[.int .i64 C.w, .int .i64 C.h, .int .i64 C.ht, .slice ab C.bl.length cb, .slice ap C.po.length cp, .slice ar C.ro.length cr, .slice az C.st.length cs, .int .i64 C.un, .int .i64 C.ac, .int .i64 C.sp, .int .i64 C.tu, .int .i64 C.ho, .int .i64 C.qu, .int .i64 C.re, .int .i64 C.bu, .bool C.back] 26 (0, 0)) hx
  generalize e1 : Hp.set h x _ = h1 at s1
  obtain ⟨l1, d1, b1⟩ := boxed e1 hx d gx
  have cx : ∀ j, cellIn G h1 ⟨x, j, none⟩ = _ := fun j => cell_of (look_own b1)
  try simp -implicitDefEqProofs (maxSteps := 2000000) (disch := first | with_reducible exact Nat.ne_of_beq_eq_false rfl | exact oneCell_int | exact oneCell_bool | omega | rfl | (simp; done) | fail) only [opH_sv, opH_su, pureW_sv, opH_nil, pureW_nil, pick_t, pick_f, pick_tp, pick_fp, gd_tt, gd_ft, gd_tf, gd_ff, box_new, regs0, regs1, regs2, regs3, regs4, regs5, regs6, cells_agg, cells_int, cells_bool, cells_ptr, cells_slice, cells_string, cells_func, cells_nilFunc, cells_map, retK_ret, retK_normal, resL_tmp, resL_cell, resL_nil0, resL_nil1, resL_nil2, resL_nil3, resC_ptr, ex0, ex1, ex2, ex0p, ex1p, ex2p, HL.cond_true, HL.cond_false, thenK_normal, thenK_ret, thenK_exit, blockK_normal, blockK_ret, blockK_exit, scopeK_normal, scopeK_ret, scopeK_exit, wpH_pure, bin_add, bin_sub, bin_mul, bin_lss, bin_leq, bin_gtr, bin_geq, bin_quo, bin_rem, bin_quop, bin_remp, wrap_in, bin_addp, bin_subp, bin_mulp, bin_lssp, bin_leqp, bin_gtrp, bin_geqp, un_not, un_notp, un_neg, eq_int, ne_int, eq_intp, ne_intp, callV_fn, add_mk, upd_eq, upd_ne, cell_set_self, Nat.zero_add, Nat.add_zero, Option.some.injEq, exists_eq_left', List.getElem?_cons_succ, List.getElem?_cons_zero, true_and, and_true, bne_self_eq_false, beq_self_eq_true, Bool.not_true, Bool.not_false, Bool.and_true, Bool.and_self, Bool.and_false, Bool.true_and, List.length_cons, List.length_nil, ne_eq, not_false_eq_true, Nat.reduceAdd, Nat.reduceMul, if_true, if_false, oneCell_int, oneCell_bool, oneCell_ptr, oneCell_slice, oneCell_string, oneCell_func, oneCell_map, Int.toNat_natCast, List.set_cons_zero, List.set_cons_succ, Nat.lt_irrefl, Nat.zero_lt_succ, Nat.succ_lt_succ_iff, fa26_0, fa26_0p, fa26_1, fa26_1p, fa26_10, fa26_10p, fa26_11, fa26_11p, fa26_12, fa26_12p, fa26_13, fa26_13p, fa26_14, fa26_14p, fa26_2, fa26_2p, fa26_3, fa26_3p, fa26_4, fa26_4p, fa26_5, fa26_5p, fa26_6, fa26_6p, fa26_7, fa26_7p, fa26_8, fa26_8p, fa26_9, fa26_9p, fa28_0, fa28_0p, fa28_1, fa28_1p, fa30_0, fa30_0p, fa30_1, fa30_1p, fa46_0, fa46_0p, fa46_1, fa46_1p, fa46_2, fa46_2p, fa46_3, fa46_3p, fa46_4, fa46_4p, fa46_5, fa46_5p, fa46_6, fa46_6p, fa86_0, fa86_0p, fa86_1, fa86_1p, fa86_2, fa86_2p, fa95_0, fa95_0p, fa95_1, fa95_1p, ld3, ld3p, ld4, ld4p, ld22, ld22p, ld23, ld23p, ld24, ld24p, ld26, ld26p, ld28, ld28p, ld30, ld30p, ld31, ld31p, ld46, ld46p, ld47, ld47p, ld52, ld52p, ld55, ld55p, ld57, ld57p, ld95, ld95p, st3s, st4s, st22s, st23s, st24s, st26w, st28w, st30w, st46w, st47s, st55s, st95w, ix22, ix22p, ix23, ix23p, ix24, ix24p, ix47, ix47p, ix56, ix56p, ix57, ix57p, ix101, ix101p, ln22, ln22p, ln23, ln23p, ln24, ln24p, ln47, ln47p, ln56, ln56p, ln57, ln57p, al22, al26, al28, al30, al46, al47, al95, cf14, cf15, cf16, cf17, cf18, cf19, cf20, cf21, cf22, cf23, cf24, cf25, cf26, cf27, cf28, cf29, cf30, cf31, cf32, cf33, cf34, cf35, cf36, cf37, cf38, cf39, cf40, cf41, cf42, cf43, cf44, cf45, cf46, cf47, cf48, cf49, cf50, cf51, cf52, cf53, cf54, cf55, cf56, cf57, cf58, cf59, cf60, cf61, cf62, cf63, cf64, cf65, cf66, cf67, cf68, cf69, cf70, cf71, cf72, cf73, cf74, cf75, cf76, cf77, cf78, cf79, cf80, bd26_0_1_2_7_8_9_10_11_12_13_14, bd26_0_1_2_7_8_9_10_11_12_13_14p, bd28_0, bd28_0p, bd28_0_1, bd28_0_1p, bd30_, bd30_p, bd30_0_1, bd30_0_1p, bd30_0, bd30_0p, bd46_0_1_2_3_4, bd46_0_1_2_3_4p, bd46_0_3_4, bd46_0_3_4p, bd86_0_1_2, bd86_0_1_2p, bd87_0_1_2_3, bd87_0_1_2_3p, bd95_0_1, bd95_0_1p, bs22_2_0_1, bs47_1_0, bs22_1_0, bs57_6_0_1_2_3_4_5, bs24_1_0, bs22_4_0_1_2_3, bs56_11_0_1_2_3_4_5_6_7_8_9_10, bs57_11_0_1_2_3_4_5_6_7_8_9_10, eq4, eq4p, eq28, eq28p, eq30, eq30p, eq31n, eq31np, eq31s, eq31sp, eq46, eq46p, eq50n, eq50np, eq50s, eq50sp, eq67n, eq67np, eq67s, eq67sp, ne4, ne4p, ne28, ne28p, ne30, ne30p, ne31n, ne31np, ne31s, ne31sp, ne46, ne46p, cx]
  refine (within_spec (n := C.w) (a := 1) (b := 16)).mono ?_
  rintro _ _ ⟨rfl, rfl⟩
  cases hw : withinB C.w 1 16 with
  | false =>
    try simp -implicitDefEqProofs (maxSteps := 2000000) (disch := first | with_reducible exact Nat.ne_of_beq_eq_false rfl | exact oneCell_int | exact oneCell_bool | omega | rfl | (simp; done) | fail) only [un_not, Bool.not_false, pick_t, HL.cond_true, gd_tf]
    exact ⟨l1, d1, .inr ⟨fun q => absurd (q.w.symm.trans hw) (by decide), rfl⟩⟩
  | true =>
  try simp -implicitDefEqProofs (maxSteps := 2000000) (disch := first | with_reducible exact Nat.ne_of_beq_eq_false rfl | exact oneCell_int | exact oneCell_bool | omega | rfl | (simp; done) | fail) only [un_not, Bool.not_true, pick_f, gd_ff, opH_sv, cf57, fa26_1, add_mk, Nat.zero_add, ld3, cx, List.getElem?_cons_succ, List.getElem?_cons_zero, Option.some.injEq, exists_eq_left']
  refine (within_spec (n := C.h) (a := 1) (b := 16)).mono ?_
  rintro _ h1 ⟨rfl, rfl⟩
  cases hk : withinB C.h 1 16 with
  | false =>
    try simp -implicitDefEqProofs (maxSteps := 2000000) (disch := first | with_reducible exact Nat.ne_of_beq_eq_false rfl | exact oneCell_int | exact oneCell_bool | omega | rfl | (simp; done) | fail) only [un_not, Bool.not_false, pick_t, HL.cond_true, gd_tf]
    exact ⟨l1, d1, .inr ⟨fun q => absurd (q.h.symm.trans hk) (by decide), rfl⟩⟩
  | true =>
  have hw' := hw
  have hk' := hk
  unfold withinB at hw' hk'
  simp only [Bool.and_eq_true, decide_eq_true_eq] at hw' hk'
  obtain ⟨w, hwn⟩ : ∃ w : Nat, C.w = w := ⟨C.w.toNat, by omega⟩
  obtain ⟨k, hkn⟩ : ∃ k : Nat, C.h = k := ⟨C.h.toNat, by omega⟩
  try simp -implicitDefEqProofs (maxSteps := 2000000) (disch := first | with_reducible exact Nat.ne_of_beq_eq_false rfl | exact oneCell_int | exact oneCell_bool | omega | rfl | (simp; done) | fail) only [un_not, Bool.not_true, pick_f, gd_ff, opH_sv, fa26_4, add_mk, Nat.zero_add, ld22, cx, List.getElem?_cons_succ, List.getElem?_cons_zero, Option.some.injEq, exists_eq_left', ln22, bin_gtr]
  by_cases hP : C.po.length ≤ 8
  rotate_left
  · try simp -implicitDefEqProofs (maxSteps := 2000000) (disch := first | with_reducible exact Nat.ne_of_beq_eq_false rfl | exact oneCell_int | exact oneCell_bool | omega | rfl | (simp; done) | fail) only [show decide ((C.po.length : Int) > 8) = true from decide_eq_true (by omega), pick_t, HL.cond_true, gd_tf]
    exact ⟨l1, d1, .inr ⟨fun q => hP q.po8, rfl⟩⟩
  have hm : C.w * C.h = ((w * k : Nat) : Int) := by rw [hwn, hkn, Int.natCast_mul]
  have hm2 : w * k ≤ 16 * 16 := Nat.mul_le_mul (by omega) (by omega)
  have hwr : IntKind.i64.wrap (C.w * C.h) = ((w * k : Nat) : Int) := by rw [hm, wrap_in (by omega) (by omega)]
  try simp -implicitDefEqProofs (maxSteps := 2000000) (disch := first | with_reducible exact Nat.ne_of_beq_eq_false rfl | exact oneCell_int | exact oneCell_bool | omega | rfl | (simp; done) | fail) only [show decide ((C.po.length : Int) > 8) = false from decide_eq_false (by omega), pick_f, gd_ff, opH_sv, fa26_1, add_mk, Nat.zero_add, ld3, fa26_0, Nat.add_zero, fa26_3, ld22, cx, List.getElem?_cons_succ, List.getElem?_cons_zero, Option.some.injEq, exists_eq_left', ln22, bin_mul, hwr, bin_gtr]
  by_cases hB : C.bl.length ≤ w * k
  rotate_left
  · try simp -implicitDefEqProofs (maxSteps := 2000000) (disch := first | with_reducible exact Nat.ne_of_beq_eq_false rfl | exact oneCell_int | exact oneCell_bool | omega | rfl | (simp; done) | fail) only [show decide ((C.bl.length : Int) > ((w * k : Nat) : Int)) = true from decide_eq_true (by omega), HL.cond_true]
    exact ⟨l1, d1, .inr ⟨fun q => hB (by have := q.few; rw [hm] at this; omega), rfl⟩⟩
  try simp -implicitDefEqProofs (maxSteps := 2000000) (disch := first | with_reducible exact Nat.ne_of_beq_eq_false rfl | exact oneCell_int | exact oneCell_bool | omega | rfl | (simp; done) | fail) only [show decide ((C.bl.length : Int) > ((w * k : Nat) : Int)) = false from decide_eq_false (by omega), HL.cond_false]
  unfold S72_k1
  refine ⟨h1, Hp.le.refl _, ?_⟩
  try simp -implicitDefEqProofs (maxSteps := 2000000) (disch := first | with_reducible exact Nat.ne_of_beq_eq_false rfl | exact oneCell_int | exact oneCell_bool | omega | rfl | (simp; done) | fail) only [upd_ne, upd_eq, pureW_sv, opH_sv, fa26_4p, add_mk, Nat.zero_add, ld22p, cf80, fa26_3p, fa26_1, ld3, fa26_0, Nat.add_zero, box_new, fa26_1p, ld3p, cx, List.getElem?_cons_succ, List.getElem?_cons_zero, Option.some.injEq, exists_eq_left', fa26_0p, bin_mulp, hwr]
  rw [make_eq icC 0 (by decide) un57 eoint (by kernel_rfl) (by omega) (by omega)]
  intro kb hkb gkb
  refine ⟨le_set hkb, ?_⟩
  try simp -implicitDefEqProofs (maxSteps := 2000000) (disch := first | with_reducible exact Nat.ne_of_beq_eq_false rfl | exact oneCell_int | exact oneCell_bool | omega | rfl | (simp; done) | fail) only [bd86_0_1_2p, cells_agg]
  intro gp hgp ggp
  have s2 := (Sep.one.new (o := .cells (icC.rows (List.replicate (w * k) 0)).toArray 3 (0, 0)) hkb).grow (o := .cells #[.int .i64 C.w, .int .i64 C.h, .slice (some ⟨kb, 0, none⟩) (w * k) (w * k)] 86 (0, 0)) hgp
  have d2 := (d1.set (o := .cells (icC.rows (List.replicate (w * k) 0)).toArray 3 (0, 0)) gkb).set (o := .cells #[.int .i64 C.w, .int .i64 C.h, .slice (some ⟨kb, 0, none⟩) (w * k) (w * k)] 86 (0, 0)) ggp
  have ngk : kb ≠ gp := ne_of_set hgp
  have go0 : GO ((noHp.set kb (.cells (icC.rows (List.replicate (w * k) 0)).toArray 3 (0, 0))).set gp (.cells #[.int .i64 C.w, .int .i64 C.h, .slice (some ⟨kb, 0, none⟩) (w * k) (w * k)] 86 (0, 0))) gp kb w k (kd [] C.bl.length) :=
    ⟨by rw [set_self, hwn, hkn], by rw [set_other ngk, set_self, kd_nil, gridL_const], by omega, by omega, by omega, by omega⟩
  generalize (noHp.set kb (.cells (icC.rows (List.replicate (w * k) 0)).toArray 3 (0, 0))).set gp (.cells #[.int .i64 C.w, .int .i64 C.h, .slice (some ⟨kb, 0, none⟩) (w * k) (w * k)] 86 (0, 0)) = ga at s2 go0
  generalize Hp.set (Hp.set h1 kb _) gp _ = h2 at s2 d2 ⊢
  have cx2 : ∀ j, cellIn G h2 ⟨x, j, none⟩ = _ := fun j => cell_of (look_own (s2.in 1 rfl _ _ b1))
  try simp -implicitDefEqProofs (maxSteps := 2000000) (disch := first | with_reducible exact Nat.ne_of_beq_eq_false rfl | exact oneCell_int | exact oneCell_bool | omega | rfl | (simp; done) | fail) only [cx2, List.getElem?_cons_zero, Option.some.injEq, List.getElem?_cons_succ, exists_eq_left', bin_mul, hwr]
  rw [make_eq bcC false (by decide) un101 eobool (by kernel_rfl) (by omega) (by omega)]
  intro mb hmb gmb
  have s3 := s2.new (o := .cells (bcC.rows (List.replicate (w * k) false)).toArray 4 (0, 0)) hmb
  have d3 := d2.set (o := .cells (bcC.rows (List.replicate (w * k) false)).toArray 4 (0, 0)) gmb
  have mk0 : MK (noHp.set mb (.cells (bcC.rows (List.replicate (w * k) false)).toArray 4 (0, 0))) mb w k (seenT []) := by
    unfold MK; rw [set_self, seen_nil, gridL_const]
  generalize noHp.set mb (.cells (bcC.rows (List.replicate (w * k) false)).toArray 4 (0, 0)) = ma at s3 mk0
  generalize Hp.set h2 mb _ = h3 at s3 d3 ⊢
  have l3 : h1.le h3 := s3.in 2 rfl
  have cx3 : ∀ j, cellIn G h3 ⟨x, j, none⟩ = _ := fun j => cell_of (look_own (l3 _ _ b1))
  have ca3 := ca.up (l1.trans l3) d3
  refine ⟨h3, Hp.le.refl _, ?_⟩
  try simp -implicitDefEqProofs (maxSteps := 2000000) (disch := first | with_reducible exact Nat.ne_of_beq_eq_false rfl | exact oneCell_int | exact oneCell_bool | omega | rfl | (simp; done) | fail) only [cx3, List.getElem?_cons_succ, List.getElem?_cons_zero, Option.some.injEq, exists_eq_left']
  refine (list_spec ca3.bl (by omega)).mono ?_
  rintro v4 h4 ⟨ip, o4, s4, d4⟩
  refine ⟨s4.in 1 rfl, ?_⟩
  try simp -implicitDefEqProofs (maxSteps := 2000000) (disch := first | with_reducible exact Nat.ne_of_beq_eq_false rfl | exact oneCell_int | exact oneCell_bool | omega | rfl | (simp; done) | fail) only [opH_sv, opH_su, pureW_sv, opH_nil, pureW_nil, pick_t, pick_f, pick_tp, pick_fp, gd_tt, gd_ft, gd_tf, gd_ff, box_new, regs0, regs1, regs2, regs3, regs4, regs5, regs6, cells_agg, cells_int, cells_bool, cells_ptr, cells_slice, cells_string, cells_func, cells_nilFunc, cells_map, retK_ret, retK_normal, resL_tmp, resL_cell, resL_nil0, resL_nil1, resL_nil2, resL_nil3, resC_ptr, ex0, ex1, ex2, ex0p, ex1p, ex2p, HL.cond_true, HL.cond_false, thenK_normal, thenK_ret, thenK_exit, blockK_normal, blockK_ret, blockK_exit, scopeK_normal, scopeK_ret, scopeK_exit, wpH_pure, bin_add, bin_sub, bin_mul, bin_lss, bin_leq, bin_gtr, bin_geq, bin_quo, bin_rem, bin_quop, bin_remp, wrap_in, bin_addp, bin_subp, bin_mulp, bin_lssp, bin_leqp, bin_gtrp, bin_geqp, un_not, un_notp, un_neg, eq_int, ne_int, eq_intp, ne_intp, callV_fn, add_mk, upd_eq, upd_ne, cell_set_self, Nat.zero_add, Nat.add_zero, Option.some.injEq, exists_eq_left', List.getElem?_cons_succ, List.getElem?_cons_zero, true_and, and_true, bne_self_eq_false, beq_self_eq_true, Bool.not_true, Bool.not_false, Bool.and_true, Bool.and_self, Bool.and_false, Bool.true_and, List.length_cons, List.length_nil, ne_eq, not_false_eq_true, Nat.reduceAdd, Nat.reduceMul, if_true, if_false, oneCell_int, oneCell_bool, oneCell_ptr, oneCell_slice, oneCell_string, oneCell_func, oneCell_map, Int.toNat_natCast, List.set_cons_zero, List.set_cons_succ, Nat.lt_irrefl, Nat.zero_lt_succ, Nat.succ_lt_succ_iff, fa26_0, fa26_0p, fa26_1, fa26_1p, fa26_10, fa26_10p, fa26_11, fa26_11p, fa26_12, fa26_12p, fa26_13, fa26_13p, fa26_14, fa26_14p, fa26_2, fa26_2p, fa26_3, fa26_3p, fa26_4, fa26_4p, fa26_5, fa26_5p, fa26_6, fa26_6p, fa26_7, fa26_7p, fa26_8, fa26_8p, fa26_9, fa26_9p, fa28_0, fa28_0p, fa28_1, fa28_1p, fa30_0, fa30_0p, fa30_1, fa30_1p, fa46_0, fa46_0p, fa46_1, fa46_1p, fa46_2, fa46_2p, fa46_3, fa46_3p, fa46_4, fa46_4p, fa46_5, fa46_5p, fa46_6, fa46_6p, fa86_0, fa86_0p, fa86_1, fa86_1p, fa86_2, fa86_2p, fa95_0, fa95_0p, fa95_1, fa95_1p, ld3, ld3p, ld4, ld4p, ld22, ld22p, ld23, ld23p, ld24, ld24p, ld26, ld26p, ld28, ld28p, ld30, ld30p, ld31, ld31p, ld46, ld46p, ld47, ld47p, ld52, ld52p, ld55, ld55p, ld57, ld57p, ld95, ld95p, st3s, st4s, st22s, st23s, st24s, st26w, st28w, st30w, st46w, st47s, st55s, st95w, ix22, ix22p, ix23, ix23p, ix24, ix24p, ix47, ix47p, ix56, ix56p, ix57, ix57p, ix101, ix101p, ln22, ln22p, ln23, ln23p, ln24, ln24p, ln47, ln47p, ln56, ln56p, ln57, ln57p, al22, al26, al28, al30, al46, al47, al95, cf14, cf15, cf16, cf17, cf18, cf19, cf20, cf21, cf22, cf23, cf24, cf25, cf26, cf27, cf28, cf29, cf30, cf31, cf32, cf33, cf34, cf35, cf36, cf37, cf38, cf39, cf40, cf41, cf42, cf43, cf44, cf45, cf46, cf47, cf48, cf49, cf50, cf51, cf52, cf53, cf54, cf55, cf56, cf57, cf58, cf59, cf60, cf61, cf62, cf63, cf64, cf65, cf66, cf67, cf68, cf69, cf70, cf71, cf72, cf73, cf74, cf75, cf76, cf77, cf78, cf79, cf80, bd26_0_1_2_7_8_9_10_11_12_13_14, bd26_0_1_2_7_8_9_10_11_12_13_14p, bd28_0, bd28_0p, bd28_0_1, bd28_0_1p, bd30_, bd30_p, bd30_0_1, bd30_0_1p, bd30_0, bd30_0p, bd46_0_1_2_3_4, bd46_0_1_2_3_4p, bd46_0_3_4, bd46_0_3_4p, bd86_0_1_2, bd86_0_1_2p, bd87_0_1_2_3, bd87_0_1_2_3p, bd95_0_1, bd95_0_1p, bs22_2_0_1, bs47_1_0, bs22_1_0, bs57_6_0_1_2_3_4_5, bs24_1_0, bs22_4_0_1_2_3, bs56_11_0_1_2_3_4_5_6_7_8_9_10, bs57_11_0_1_2_3_4_5_6_7_8_9_10, eq4, eq4p, eq28, eq28p, eq30, eq30p, eq31n, eq31np, eq31s, eq31sp, eq46, eq46p, eq50n, eq50np, eq50s, eq50sp, eq67n, eq67np, eq67s, eq67sp, ne4, ne4p, ne28, ne28p, ne30, ne30p, ne31n, ne31np, ne31s, ne31sp, ne46, ne46p, cx3]
  refine append_piece cellC (by decide) un22 eocell (by decide) (by decide) s4 d4 o4 (ca3.po.up (s4.in 1 rfl) d4) (by omega) fun v5 ip5 h5 o5 s5 d5 => ?_
  have s6 := (s5.split s3).pick 2 rfl rfl
  have s7 : Sep [ga, ma, ip5, h1] h5 := s6.pick 2 rfl rfl |>.swap
  obtain ⟨sa5, cp5, rfl, _⟩ := o5.len (by decide)
  try simp -implicitDefEqProofs (maxSteps := 2000000) (disch := first | with_reducible exact Nat.ne_of_beq_eq_false rfl | exact oneCell_int | exact oneCell_bool | omega | rfl | (simp; done) | fail) only [ln22p]
  refine laid_loop (C := C) (ab := ab) (cb := cb) (x := x) (T := C.bl ++ C.po) (fun h6 l6 d6 => by rw [cell_of (look_own (l6 _ _ b1))]; rfl) (by rw [List.length_append]; omega) (by omega) o5 ⟨by omega, by omega, by omega, by omega⟩ _ _ ga ma
    (by simp -implicitDefEqProofs (maxSteps := 2000000) (disch := first | with_reducible exact Nat.ne_of_beq_eq_false rfl | exact oneCell_int | exact oneCell_bool | omega | rfl | (simp; done) | fail) only [upd_ne, upd_eq]) (by simp -implicitDefEqProofs (maxSteps := 2000000) (disch := first | with_reducible exact Nat.ne_of_beq_eq_false rfl | exact oneCell_int | exact oneCell_bool | omega | rfl | (simp; done) | fail) only [upd_ne, upd_eq]) (by simp -implicitDefEqProofs (maxSteps := 2000000) (disch := first | with_reducible exact Nat.ne_of_beq_eq_false rfl | exact oneCell_int | exact oneCell_bool | omega | rfl | (simp; done) | fail) only [upd_ne, upd_eq]) (by simp -implicitDefEqProofs (maxSteps := 2000000) (disch := first | with_reducible exact Nat.ne_of_beq_eq_false rfl | exact oneCell_int | exact oneCell_bool | omega | rfl | (simp; done) | fail) only [upd_ne, upd_eq]) (by simp -implicitDefEqProofs (maxSteps := 2000000) (disch := first | with_reducible exact Nat.ne_of_beq_eq_false rfl | exact oneCell_int | exact oneCell_bool | omega | rfl | (simp; done) | fail) only [upd_ne, upd_eq]) (by simp -implicitDefEqProofs (maxSteps := 2000000) (disch := first | with_reducible exact Nat.ne_of_beq_eq_false rfl | exact oneCell_int | exact oneCell_bool | omega | rfl | (simp; done) | fail) only [upd_eq]) go0 mk0 s7 d5 (fun hin hnd r' h' ga' j4 go' s' d' => ?_) (fun hbad r' h' j2 j3 l' d' => ?_)
  · simp only [blockK_exit, if_true, thenK_normal]
    have j4' : r' 4 = .pointer (some ⟨gp, 0, none⟩) := j4.trans (by simp -implicitDefEqProofs (maxSteps := 2000000) (disch := first | with_reducible exact Nat.ne_of_beq_eq_false rfl | exact oneCell_int | exact oneCell_bool | omega | rfl | (simp; done) | fail) only [upd_ne, upd_eq])
    unfold S72_k2
    simp -implicitDefEqProofs (maxSteps := 2000000) (disch := first | with_reducible exact Nat.ne_of_beq_eq_false rfl | exact oneCell_int | exact oneCell_bool | omega | rfl | (simp; done) | fail) only [j4', retK_ret, resL_tmp, upd_ne, upd_eq, resL_nil2]
    refine ⟨l1.trans (s'.in 1 rfl), d', .inl ⟨⟨hw, hk, hP, by rw [hm]; omega, by rw [hwn, hkn]; exact hin, hnd⟩, ga', gp, kb, rfl, by rw [hwn, hkn]; exact go', ?_⟩⟩
    exact (s'.swap.cut l1).swap
  · simp -implicitDefEqProofs (maxSteps := 2000000) (disch := first | with_reducible exact Nat.ne_of_beq_eq_false rfl | exact oneCell_int | exact oneCell_bool | omega | rfl | (simp; done) | fail) only [blockK_ret, thenK_ret, retK_ret, resL_tmp, j2, j3, resL_nil2]
    exact ⟨l1.trans l', d', .inr ⟨fun q => hbad ⟨by have := q.all; rw [hwn, hkn] at this; exact this, q.once⟩, rfl⟩⟩

end Go.Proofs.YtnpdploihlgcgaaDoor
end

section
/- The robots of a grid: where nothing fits no bins are stacked. -/
set_option linter.unusedSimpArgs false
set_option linter.unusedVariables false
set_option maxRecDepth 100000
namespace Go.Proofs.YtnpdploihlgcgaaDoor
open Go Go.HL

theorem gridL_congr {α : Type} {w k : Nat} {f f' : Nat → Nat → α} (h : ∀ x y, x < w → y < k → f x y = f' x y) : gridL w k f = gridL w k f' := by
  apply List.ext_getElem?
  intro n
  by_cases hn : n < w * k
  · rw [gridL_at hn, gridL_at hn, h]
    · exact Nat.mod_lt _ (by
        rcases Nat.eq_zero_or_pos w with e | e
        · rw [e] at hn; simp at hn
        · exact e)
    · exact Nat.div_lt_of_lt_mul hn
  · rw [List.getElem?_eq_none (by rw [gridL_length]; omega), List.getElem?_eq_none (by rw [gridL_length]; omega)]
theorem GO.congr {a : Hp} {gp kb w k : Nat} {f f' : Nat → Nat → Int} (g : GO a gp kb w k f) (h : ∀ x y, x < w → y < k → f x y = f' x y) : GO a gp kb w k f' :=
  ⟨g.hd, by rw [← gridL_congr h]; exact g.row, g.w1, g.w2, g.k1, g.k2⟩

theorem openW_congr {w k : Nat} {f f' : Nat → Nat → Int} (h : ∀ x y, x < w → y < k → (f x y = -1 ↔ f' x y = -1)) (c : Cell) : openW w k f c = openW w k f' c := by
  unfold openW
  cases hc : inW w k c with
  | false => rfl
  | true =>
    obtain ⟨a1, a2, a3, a4⟩ := inW_iff.1 hc
    have := h c.1.toNat c.2.toNat (by omega) (by omega)
    simp only [Bool.true_and, fAt]
    congr 1
    rw [Bool.eq_iff_iff]
    simpa using this
theorem fitsW_congr {w k : Nat} {f f' : Nat → Nat → Int} (h : ∀ x y, x < w → y < k → (f x y = -1 ↔ f' x y = -1)) (p : Pose) : fitsW w k f p = fitsW w k f' p := by
  unfold fitsW; rw [openW_congr h, openW_congr h]

/-- Does a cell keep its kind? -/
def keepB (w k : Nat) (f : Nat → Nat → Int) (x y : Nat) : Bool := (f x y == -1) || (fitsW w k f ⟨x, y, false⟩ || fitsW w k f ⟨x, y, true⟩)
def f1 (w k : Nat) (f : Nat → Nat → Int) (x y : Nat) : Int := if keepB w k f x y = true then f x y else -2
def fN (w k : Nat) (f : Nat → Nat → Int) (n x y : Nat) : Int := if y * w + x < n then f1 w k f x y else f x y

theorem f1_open {w k : Nat} {f : Nat → Nat → Int} (x y : Nat) : f1 w k f x y = -1 ↔ f x y = -1 := by
  unfold f1
  by_cases h : keepB w k f x y = true
  · rw [if_pos h]
  · rw [if_neg h]
    constructor
    · intro e; omega
    · intro e
      exfalso
      apply h
      unfold keepB
      simp [e]
theorem fN_open {w k : Nat} {f : Nat → Nat → Int} {n : Nat} (x y : Nat) : fN w k f n x y = -1 ↔ f x y = -1 := by
  unfold fN
  split
  · exact f1_open x y
  · exact Iff.rfl

theorem cellN {w n x y : Nat} (hw : 0 < w) (hx : x < w) : y * w + x = n ↔ x = n % w ∧ y = n / w := by
  constructor
  · intro e
    subst e
    rw [Nat.mul_comm y w, Nat.mul_add_mod, Nat.mod_eq_of_lt hx, Nat.mul_add_div hw, Nat.div_eq_of_lt hx]
    simp
  · rintro ⟨rfl, rfl⟩
    rw [Nat.mul_comm]
    exact Nat.div_add_mod n w

set_option maxHeartbeats 2000000 in
theorem robots1 {G : Hp} {gp kb w k : Nat} {f : Nat → Nat → Int} {KK : Exit → Rg → Hp → Prop} (st : Steps G) (r : Rg) (h : Hp) (g0 : r 0 = .pointer (some ⟨gp, 0, none⟩)) (g20 : r 20 = .int .i64 ((w * k : Nat) : Int)) (g21 : r 21 = .int .i64 0)
    (go : GO h gp kb w k f) (d : Dis G h)
    (H1 : (∀ x y, x < w → y < k → keepB w k f x y = false → f x y ≤ 0) → ∀ (r' : Rg) h', r' 0 = r 0 → r' 1 = r 1 → GO h' gp kb w k (f1 w k f) → Dis G h' → KK (.exit 0) r' h')
    (H2 : (∃ x y, x < w ∧ y < k ∧ keepB w k f x y = false ∧ 0 < f x y) → ∀ (r' : Rg) h', r' 4 = .bool false → Dis G h' → KK .ret r' h') : loopP (S73_l12 G) r h KK := by
  refine loop_I (fun m r2 h3 => ∃ n : Nat, m = w * k - n ∧ n ≤ w * k ∧ r2 0 = r 0 ∧ r2 1 = r 1 ∧ r2 20 = r 20 ∧ r2 21 = .int .i64 n ∧ (∀ x y, x < w → y < k → y * w + x < n → keepB w k f x y = false → f x y ≤ 0) ∧ GO h3 gp kb w k (fN w k f n) ∧ Dis G h3) ?_
    (m := w * k) ⟨0, rfl, Nat.zero_le _, rfl, rfl, rfl, by rw [g21]; rfl, fun x y _ _ h => absurd h (by omega), go.congr fun x y _ _ => by simp [fN], d⟩
  rintro m r2 h3 ⟨n, rfl, hn, q0, q1, q20, q21, hok, go, d3⟩ X HX
  rw [g0] at q0
  rw [g20] at q20
  have hw0 : 0 < w := go.w1
  have hw2 := go.w2
  have hk2 := go.k2
  have hm2 : w * k ≤ 16 * 16 := Nat.mul_le_mul go.w2 go.k2
  unfold S73_l12
  simp -implicitDefEqProofs (maxSteps := 2000000) (disch := first | with_reducible exact Nat.ne_of_beq_eq_false rfl | exact oneCell_int | exact oneCell_bool | omega | rfl | (simp; done) | fail) only [q21, q20, thenK_exit, opH_sv, bin_lss]
  refine cond_dec (fun hlt => ?_) (fun hge => ?_)
  rotate_left
  · obtain rfl : n = w * k := by omega
    refine H1 (fun x y hx hy => hok x y hx hy ?_) _ _ (by simp -implicitDefEqProofs (maxSteps := 2000000) (disch := first | with_reducible exact Nat.ne_of_beq_eq_false rfl | exact oneCell_int | exact oneCell_bool | omega | rfl | (simp; done) | fail) only [upd_ne, q0, g0]) (by simp -implicitDefEqProofs (maxSteps := 2000000) (disch := first | with_reducible exact Nat.ne_of_beq_eq_false rfl | exact oneCell_int | exact oneCell_bool | omega | rfl | (simp; done) | fail) only [upd_ne, q1]) (go.congr fun x y hx hy => ?_) d3
    · have := (gridL_get (f := f) hx hy); have := (List.getElem?_eq_some_iff.1 this).1; rwa [gridL_length] at this
    · unfold fN
      rw [if_pos]
      have := (gridL_get (f := f) hx hy); have := (List.getElem?_eq_some_iff.1 this).1; rwa [gridL_length] at this
  have hlt' : n < w * k := by omega
  have hx : n % w < w := Nat.mod_lt _ hw0
  have hy : n / w < k := Nat.div_lt_of_lt_mul hlt'
  have hnn : n / w * w + n % w = n := by rw [Nat.mul_comm]; exact Nat.div_add_mod n w
  have cg : ∀ j, cellIn G h3 ⟨gp, j, none⟩ = _ := fun j => cell_of (look_own go.hd)
  have kn : cellIn G h3 ⟨kb, n, none⟩ = some (.int .i64 (f (n % w) (n / w))) := by
    rw [cell_of (look_own go.row)]
    refine rows_one_get icC rfl rfl ?_
    rw [gridL_at hlt']
    unfold fN
    rw [hnn, if_neg (by omega)]
  have tm : (n : Int).tmod (w : Int) = ((n % w : Nat) : Int) := rfl
  have td : (n : Int).tdiv (w : Int) = ((n / w : Nat) : Int) := rfl
  have hcell : ∀ x y, x < w → (y * w + x = n ↔ x = n % w ∧ y = n / w) := fun x y h => cellN hw0 h
  generalize n % w = cx at *
  generalize n / w = cy at *
  unfold S73_l12_k13
  simp -implicitDefEqProofs (maxSteps := 2000000) (disch := first | with_reducible exact Nat.ne_of_beq_eq_false rfl | exact oneCell_int | exact oneCell_bool | omega | rfl | (simp; done) | fail) only [upd_ne, q0, q21, opH_sv, opH_nil, fa86_2, add_mk, Nat.zero_add, ld57, opH_su, al30, pureW_sv, pureW_nil, fa86_0p, Nat.add_zero, ld3p, cg, List.getElem?_cons_zero, Option.some.injEq, exists_eq_left', bin_quop, td, wrap_in, bin_remp, tm, bd28_0_1p, bd30_0p, st30w]
  intro t ht gt
  try rw [st30w]
  have go4 : GO (h3.set t (.cells #[.int .i64 cx, .int .i64 cy, .bool false] 30 (0, 0))) gp kb w k (fN w k f n) := go.le (le_set ht)
  have d4 := d3.set (o := .cells #[.int .i64 cx, .int .i64 cy, .bool false] 30 (0, 0)) gt
  have bt : (h3.set t (.cells #[.int .i64 cx, .int .i64 cy, .bool false] 30 (0, 0))) t = some (.cells #[.int .i64 cx, .int .i64 cy, .bool false] 30 (0, 0)) := set_self
  have kn4 := cell_up (le_set (o := .cells #[.int .i64 cx, .int .i64 cy, .bool false] 30 (0, 0)) ht) d4 kn
  generalize h3.set t (.cells #[.int .i64 cx, .int .i64 cy, .bool false] 30 (0, 0)) = h4 at *
  have cg4 : ∀ j, cellIn G h4 ⟨gp, j, none⟩ = _ := fun j => cell_of (look_own go4.hd)
  have ct : ∀ j, cellIn G h4 ⟨t, j, none⟩ = _ := fun j => cell_of (look_own bt)
  try simp -implicitDefEqProofs (maxSteps := 2000000) (disch := first | with_reducible exact Nat.ne_of_beq_eq_false rfl | exact oneCell_int | exact oneCell_bool | omega | rfl | (simp; done) | fail) only [cg4, List.getElem?_cons_succ, List.getElem?_cons_zero, Option.some.injEq, exists_eq_left', ix57n hlt', ld3, kn4, eq_int]
  have next : ∀ (r3 : Rg) h5, r3 0 = r2 0 → r3 1 = r2 1 → r3 20 = r2 20 → r3 21 = r2 21 → (keepB w k f cx cy = false → f cx cy ≤ 0) → GO h5 gp kb w k (fN w k f (n + 1)) → Dis G h5 → S73_l12_k14 G (thenK X KK) r3 h5 := by
    intro r3 h5 w0 w1 w20 w21 hk go5 d5
    unfold S73_l12_k14
    have w21' := w21.trans q21
    simp -implicitDefEqProofs (maxSteps := 2000000) (disch := first | with_reducible exact Nat.ne_of_beq_eq_false rfl | exact oneCell_int | exact oneCell_bool | omega | rfl | (simp; done) | fail) only [w21', thenK_normal, opH_sv, bin_add, wrap_in]
    refine HX (w * k - (n + 1)) _ _ (by omega) ⟨n + 1, rfl, hlt', by simp -implicitDefEqProofs (maxSteps := 2000000) (disch := first | with_reducible exact Nat.ne_of_beq_eq_false rfl | exact oneCell_int | exact oneCell_bool | omega | rfl | (simp; done) | fail) only [upd_ne, w0, q0, g0], by simp -implicitDefEqProofs (maxSteps := 2000000) (disch := first | with_reducible exact Nat.ne_of_beq_eq_false rfl | exact oneCell_int | exact oneCell_bool | omega | rfl | (simp; done) | fail) only [upd_ne, w1, q1], by simp -implicitDefEqProofs (maxSteps := 2000000) (disch := first | with_reducible exact Nat.ne_of_beq_eq_false rfl | exact oneCell_int | exact oneCell_bool | omega | rfl | (simp; done) | fail) only [upd_ne, w20, q20, g20], by simp -implicitDefEqProofs (maxSteps := 2000000) (disch := first | with_reducible exact Nat.ne_of_beq_eq_false rfl | exact oneCell_int | exact oneCell_bool | omega | rfl | (simp; done) | fail) only [upd_eq] <;> rfl, fun x y hx' hy' hlt2 hkp => ?_, go5, d5⟩
    by_cases e : y * w + x = n
    · obtain ⟨rfl, rfl⟩ := (hcell x y hx').1 e
      exact hk hkp
    · exact hok x y hx' hy' (by omega) hkp
  have keeps : keepB w k f cx cy = true → GO h4 gp kb w k (fN w k f (n + 1)) := fun hkp => go4.congr fun x y hx' hy' => by
    unfold fN
    by_cases e : y * w + x = n
    · obtain ⟨rfl, rfl⟩ := (hcell x y hx').1 e
      rw [e, if_neg (by omega), if_pos (by omega)]
      unfold f1
      rw [if_pos hkp]
    · by_cases e2 : y * w + x < n
      · rw [if_pos e2, if_pos (by omega)]
      · rw [if_neg e2, if_neg (by omega)]
  have fcong : ∀ p, fitsW w k (fN w k f n) p = fitsW w k f p := fitsW_congr fun x y _ _ => fN_open x y
  have hfp : ∀ b, PB ⟨(cx : Int), (cy : Int), b⟩ := fun b => ⟨⟨by show -9223372036854775808 ≤ (cx : Int); omega, by show (cx : Int) ≤ 9223372036854775807; omega⟩, ⟨by show -9223372036854775808 ≤ (cy : Int); omega, by show (cy : Int) ≤ 9223372036854775807; omega⟩⟩
  have kcase : keepB w k f cx cy = ((f cx cy == -1) || (fitsW w k f ⟨cx, cy, false⟩ || fitsW w k f ⟨cx, cy, true⟩)) := rfl
  cases hb : (f cx cy == -1) with
  | true =>
    try simp -implicitDefEqProofs (maxSteps := 2000000) (disch := first | with_reducible exact Nat.ne_of_beq_eq_false rfl | exact oneCell_int | exact oneCell_bool | omega | rfl | (simp; done) | fail) only [pick_t, HL.cond_true, gd_tf]
    exact next _ _ (by simp -implicitDefEqProofs (maxSteps := 2000000) (disch := first | with_reducible exact Nat.ne_of_beq_eq_false rfl | exact oneCell_int | exact oneCell_bool | omega | rfl | (simp; done) | fail) only [upd_ne, q0]) (by simp -implicitDefEqProofs (maxSteps := 2000000) (disch := first | with_reducible exact Nat.ne_of_beq_eq_false rfl | exact oneCell_int | exact oneCell_bool | omega | rfl | (simp; done) | fail) only [upd_ne, q1]) (by simp -implicitDefEqProofs (maxSteps := 2000000) (disch := first | with_reducible exact Nat.ne_of_beq_eq_false rfl | exact oneCell_int | exact oneCell_bool | omega | rfl | (simp; done) | fail) only [upd_ne, q20]) (by simp -implicitDefEqProofs (maxSteps := 2000000) (disch := first | with_reducible exact Nat.ne_of_beq_eq_false rfl | exact oneCell_int | exact oneCell_bool | omega | rfl | (simp; done) | fail) only [upd_ne, q21]) (fun h => by rw [kcase, hb] at h; simp at h) (keeps (by rw [kcase, hb]; rfl)) d4
  | false =>
  try simp -implicitDefEqProofs (maxSteps := 2000000) (disch := first | with_reducible exact Nat.ne_of_beq_eq_false rfl | exact oneCell_int | exact oneCell_bool | omega | rfl | (simp; done) | fail) only [pick_f, gd_ff, cf23, opH_sv, ld30, add_mk, Nat.add_zero, Nat.zero_add, ct, List.getElem?_cons_zero, Option.some.injEq, List.getElem?_cons_succ, exists_eq_left']
  refine (fits_spec (p := ⟨(cx : Int), (cy : Int), false⟩) (go4.gs (G := G)) st (hfp _)).mono ?_
  rintro _ h4 ⟨rfl, rfl⟩
  rw [fcong]
  cases hf1 : fitsW w k f ⟨(cx : Int), (cy : Int), false⟩ with
  | true =>
    try simp -implicitDefEqProofs (maxSteps := 2000000) (disch := first | with_reducible exact Nat.ne_of_beq_eq_false rfl | exact oneCell_int | exact oneCell_bool | omega | rfl | (simp; done) | fail) only [pick_t, HL.cond_true, gd_tf]
    exact next _ _ (by simp -implicitDefEqProofs (maxSteps := 2000000) (disch := first | with_reducible exact Nat.ne_of_beq_eq_false rfl | exact oneCell_int | exact oneCell_bool | omega | rfl | (simp; done) | fail) only [upd_ne, q0]) (by simp -implicitDefEqProofs (maxSteps := 2000000) (disch := first | with_reducible exact Nat.ne_of_beq_eq_false rfl | exact oneCell_int | exact oneCell_bool | omega | rfl | (simp; done) | fail) only [upd_ne, q1]) (by simp -implicitDefEqProofs (maxSteps := 2000000) (disch := first | with_reducible exact Nat.ne_of_beq_eq_false rfl | exact oneCell_int | exact oneCell_bool | omega | rfl | (simp; done) | fail) only [upd_ne, q20]) (by simp -implicitDefEqProofs (maxSteps := 2000000) (disch := first | with_reducible exact Nat.ne_of_beq_eq_false rfl | exact oneCell_int | exact oneCell_bool | omega | rfl | (simp; done) | fail) only [upd_ne, q21]) (fun h => by rw [kcase, hb, hf1] at h; simp at h) (keeps (by rw [kcase, hb, hf1]; rfl)) d4
  | false =>
  try simp -implicitDefEqProofs (maxSteps := 2000000) (disch := first | with_reducible exact Nat.ne_of_beq_eq_false rfl | exact oneCell_int | exact oneCell_bool | omega | rfl | (simp; done) | fail) only [pick_f, gd_ff, cf23, opH_sv, fa30_0, add_mk, Nat.add_zero, ld28, Nat.zero_add, bd30_0_1, ct, List.getElem?_cons_zero, Option.some.injEq, List.getElem?_cons_succ, exists_eq_left']
  refine (fits_spec (p := ⟨(cx : Int), (cy : Int), true⟩) (go4.gs (G := G)) st (hfp _)).mono ?_
  rintro _ h4 ⟨rfl, rfl⟩
  rw [fcong]
  cases hf2 : fitsW w k f ⟨(cx : Int), (cy : Int), true⟩ with
  | true =>
    try simp -implicitDefEqProofs (maxSteps := 2000000) (disch := first | with_reducible exact Nat.ne_of_beq_eq_false rfl | exact oneCell_int | exact oneCell_bool | omega | rfl | (simp; done) | fail) only [HL.cond_true]
    exact next _ _ (by simp -implicitDefEqProofs (maxSteps := 2000000) (disch := first | with_reducible exact Nat.ne_of_beq_eq_false rfl | exact oneCell_int | exact oneCell_bool | omega | rfl | (simp; done) | fail) only [upd_ne, q0]) (by simp -implicitDefEqProofs (maxSteps := 2000000) (disch := first | with_reducible exact Nat.ne_of_beq_eq_false rfl | exact oneCell_int | exact oneCell_bool | omega | rfl | (simp; done) | fail) only [upd_ne, q1]) (by simp -implicitDefEqProofs (maxSteps := 2000000) (disch := first | with_reducible exact Nat.ne_of_beq_eq_false rfl | exact oneCell_int | exact oneCell_bool | omega | rfl | (simp; done) | fail) only [upd_ne, q20]) (by simp -implicitDefEqProofs (maxSteps := 2000000) (disch := first | with_reducible exact Nat.ne_of_beq_eq_false rfl | exact oneCell_int | exact oneCell_bool | omega | rfl | (simp; done) | fail) only [upd_ne, q21]) (fun h => by rw [kcase, hb, hf1, hf2] at h; simp at h) (keeps (by rw [kcase, hb, hf1, hf2]; rfl)) d4
  | false =>
  have hkf : keepB w k f cx cy = false := by rw [kcase, hb, hf1, hf2]; rfl
  try simp -implicitDefEqProofs (maxSteps := 2000000) (disch := first | with_reducible exact Nat.ne_of_beq_eq_false rfl | exact oneCell_int | exact oneCell_bool | omega | rfl | (simp; done) | fail) only [HL.cond_false]
  unfold S73_l12_k15
  try simp -implicitDefEqProofs (maxSteps := 2000000) (disch := first | with_reducible exact Nat.ne_of_beq_eq_false rfl | exact oneCell_int | exact oneCell_bool | omega | rfl | (simp; done) | fail) only [upd_ne, q0, upd_eq, thenK_ret, opH_sv, opH_nil, fa86_2, add_mk, Nat.zero_add, ld57, cg4, List.getElem?_cons_succ, List.getElem?_cons_zero, Option.some.injEq, exists_eq_left', ix57n hlt', ld3, kn4, bin_gtr]
  by_cases hpos : f cx cy > 0
  · try simp -implicitDefEqProofs (maxSteps := 2000000) (disch := first | with_reducible exact Nat.ne_of_beq_eq_false rfl | exact oneCell_int | exact oneCell_bool | omega | rfl | (simp; done) | fail) only [decide_eq_true hpos, HL.cond_true]
    exact H2 ⟨cx, cy, hx, hy, hkf, hpos⟩ _ _ (by simp -implicitDefEqProofs (maxSteps := 2000000) (disch := first | with_reducible exact Nat.ne_of_beq_eq_false rfl | exact oneCell_int | exact oneCell_bool | omega | rfl | (simp; done) | fail) only [upd_eq]) d4
  try simp -implicitDefEqProofs (maxSteps := 2000000) (disch := first | with_reducible exact Nat.ne_of_beq_eq_false rfl | exact oneCell_int | exact oneCell_bool | omega | rfl | (simp; done) | fail) only [decide_eq_false hpos, HL.cond_false]
  unfold S73_l12_k16
  try simp -implicitDefEqProofs (maxSteps := 2000000) (disch := first | with_reducible exact Nat.ne_of_beq_eq_false rfl | exact oneCell_int | exact oneCell_bool | omega | rfl | (simp; done) | fail) only [upd_ne, q0, upd_eq, opH_su, opH_sv, opH_nil, fa86_2, add_mk, Nat.zero_add, ld57, cg4, List.getElem?_cons_succ, List.getElem?_cons_zero, Option.some.injEq, exists_eq_left', ix57n hlt']
  have kb4 := go4.row
  rw [store1_eq sz3 rfl kb4 (by rw [icC.rows_length, gridL_length]; simp [icC]; exact hlt')]
  have go5 := go4.put (v := -2) hx hy
  rw [hnn] at go5
  refine next _ _ (by simp -implicitDefEqProofs (maxSteps := 2000000) (disch := first | with_reducible exact Nat.ne_of_beq_eq_false rfl | exact oneCell_int | exact oneCell_bool | omega | rfl | (simp; done) | fail) only [upd_ne, q0]) (by simp -implicitDefEqProofs (maxSteps := 2000000) (disch := first | with_reducible exact Nat.ne_of_beq_eq_false rfl | exact oneCell_int | exact oneCell_bool | omega | rfl | (simp; done) | fail) only [upd_ne, q1]) (by simp -implicitDefEqProofs (maxSteps := 2000000) (disch := first | with_reducible exact Nat.ne_of_beq_eq_false rfl | exact oneCell_int | exact oneCell_bool | omega | rfl | (simp; done) | fail) only [upd_ne, q20]) (by simp -implicitDefEqProofs (maxSteps := 2000000) (disch := first | with_reducible exact Nat.ne_of_beq_eq_false rfl | exact oneCell_int | exact oneCell_bool | omega | rfl | (simp; done) | fail) only [upd_ne, q21]) (fun _ => by omega) (go5.congr fun x y hx' hy' => ?_) (d4.set (d4 _ _ kb4))
  unfold fN
  by_cases e : y * w + x = n
  · obtain ⟨rfl, rfl⟩ := (hcell x y hx').1 e
    rw [if_pos ⟨rfl, rfl⟩, if_pos (by omega)]
    unfold f1
    rw [hkf]
    rfl
  · rw [if_neg (fun q => e ((hcell x y hx').2 q))]
    by_cases e2 : y * w + x < n
    · rw [if_pos e2, if_pos (by omega)]
    · rw [if_neg e2, if_neg (by omega)]

end Go.Proofs.YtnpdploihlgcgaaDoor
end

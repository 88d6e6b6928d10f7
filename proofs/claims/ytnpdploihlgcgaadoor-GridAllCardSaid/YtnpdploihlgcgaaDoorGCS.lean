/- A text of the proofs. -/
import Derived.Test.YtnpdploihlgcgaaDoorGI
set_option linter.unusedVariables false
set_option maxRecDepth 100000
namespace Go.Proofs.YtnpdploihlgcgaaDoor
open Go Go.HL
def md15 : Nat → Hint
  | _ => ⟨false, [], [], [], [], false⟩
def S15 (G : Hp) (K : Exit → Rg → Hp → Prop) (r : Rg) (h : Hp) : Prop :=
  opH Tryd.prog G (sv (Instr.box 26 (r 0))) h fun v0 h0 =>
  opH Tryd.prog G (sv (Instr.alloc 26 true (.tuple #[]))) h0 fun v1 h1 =>
  opH Tryd.prog G (sv (Instr.fieldAt 26 v0 3)) h1 fun v2 h2 =>
  opH Tryd.prog G (sv (Instr.loadAt 22 v2)) h2 fun v3 h3 =>
  opH Tryd.prog G (sv (Builtin.append_ #[22, 22] 22 #[(.slice none 0 0), v3])) h3 fun v4 h4 =>
  opH Tryd.prog G (sv (Instr.fieldAt 26 v0 3)) h4 fun v5 h5 =>
  opH Tryd.prog G (su (Instr.storeAt 22 v5 v4)) h5 fun v6 h6 =>
  opH Tryd.prog G (sv (Instr.fieldAt 26 v0 4)) h6 fun v7 h7 =>
  opH Tryd.prog G (sv (Instr.loadAt 22 v7)) h7 fun v8 h8 =>
  opH Tryd.prog G (sv (Builtin.append_ #[22, 22] 22 #[(.slice none 0 0), v8])) h8 fun v9 h9 =>
  opH Tryd.prog G (sv (Instr.fieldAt 26 v0 4)) h9 fun v10 h10 =>
  opH Tryd.prog G (su (Instr.storeAt 22 v10 v9)) h10 fun v11 h11 =>
  opH Tryd.prog G (sv (Instr.fieldAt 26 v0 5)) h11 fun v12 h12 =>
  opH Tryd.prog G (sv (Instr.loadAt 23 v12)) h12 fun v13 h13 =>
  opH Tryd.prog G (sv (Builtin.append_ #[23, 23] 23 #[(.slice none 0 0), v13])) h13 fun v14 h14 =>
  opH Tryd.prog G (sv (Instr.fieldAt 26 v0 5)) h14 fun v15 h15 =>
  opH Tryd.prog G (su (Instr.storeAt 23 v15 v14)) h15 fun v16 h16 =>
  opH Tryd.prog G (sv (Instr.fieldAt 26 v0 6)) h16 fun v17 h17 =>
  opH Tryd.prog G (sv (Instr.loadAt 24 v17)) h17 fun v18 h18 =>
  opH Tryd.prog G (callFunc 50 #[v18]) h18 fun v19 h19 =>
  opH Tryd.prog G (sv (Instr.fieldAt 26 v0 6)) h19 fun v20 h20 =>
  opH Tryd.prog G (su (Instr.storeAt 24 v20 v19)) h20 fun v21 h21 =>
  opH Tryd.prog G (sv (Instr.loadAt 26 v0)) h21 fun v22 h22 =>
  opH Tryd.prog G (su (Instr.storeAt 26 v1 v22)) h22 fun v23 h23 =>
  K .ret (upd (upd (upd (upd (upd (upd (upd (upd (upd (upd (upd (upd (upd (upd (upd (upd (upd (upd (upd r 1 v0) 2 v1) 3 v2) 4 v3) 5 v4) 6 v5) 7 v7) 8 v8) 9 v9) 10 v10) 11 v12) 12 v13) 13 v14) 14 v15) 15 v17) 16 v18) 17 v19) 18 v20) 19 v22) h23
theorem S15_eq (G : Hp) (K : Exit → Rg → Hp → Prop) (r : Rg) (h : Hp) : wpC Tryd.prog G 20 md15 true (Tryd.f15.body.getD .skip) r h K = S15 G K r h := by kernel_rfl
theorem enter15 {G : Hp} {h : Hp} {args : Array Value} {R : Value → Hp → Prop} (hn : args.size ≤ 20) (H : S15 G (retK Tryd.prog G [.cell 2 26] R) (regs args) h) : HCalls Tryd.prog G 15 args h R :=
  HCalls.enter (md := md15) mixed Tryd.func15 rfl hn (by rw [← S15_eq] at H; exact H)

def md50 : Nat → Hint
  | 5 => ⟨false, [0, 0, 0, 6, 14, 30, 0, 0, 192, 448, 960, 1984, 4094, 8190, 16383, 32767], [.pureN, .pureN, .pureN, .pureN, .pureN, .pureM, .pureN, .pureN, .pureN, .pureN, .pureM, .eff, .pureN, .alloc, .eff, .pureN], [.pureN, .pureN, .pureN, .pureN, .pureN, .pureM, .pureN, .pureN, .pureN, .pureN, .pureM, .eff, .pureN, .alloc, .eff, .pureN], [false, false, false, false, false, false, false, false, false, false, false, true, false, false, false, false], true⟩
  | _ => ⟨false, [], [], [], [], false⟩
def S50_k1 (G : Hp) (K : Exit → Rg → Hp → Prop) (r : Rg) (h : Hp) : Prop :=
  K .ret (upd (upd r 26 (r 3)) 2 (r 3)) h
def S50_l2_k4 (G : Hp) (K : Exit → Rg → Hp → Prop) (r : Rg) (h : Hp) : Prop :=
  opH Tryd.prog G (sv (binOp .add 3 (r 4) (.int .i64 1))) h fun v2 h2 =>
  K .normal (upd (upd (upd r 9 (r 4)) 10 v2) 4 v2) h2
def S50_l2_k3 (G : Hp) (K : Exit → Rg → Hp → Prop) (r : Rg) (h : Hp) : Prop :=
  ∃ q3 : Hp, q3.le h ∧
  pureW Tryd.prog noHp noHp (sv (Instr.indexAt 24 (r 0) (r 4))) h fun v4 h4 =>
  pureW Tryd.prog noHp noHp (sv (Instr.fieldAt 95 v4 0)) h4 fun v5 h5 =>
  pureW Tryd.prog G q3 (sv (Instr.loadAt 28 v5)) h5 fun v6 h6 =>
  pureW Tryd.prog noHp noHp (sv (Instr.indexAt 24 (r 0) (r 4))) h6 fun v7 h7 =>
  pureW Tryd.prog noHp noHp (sv (Instr.fieldAt 95 v7 1)) h7 fun v8 h8 =>
  pureW Tryd.prog G q3 (sv (Instr.loadAt 57 v8)) h8 fun v9 h9 =>
  opH Tryd.prog G (callFunc 75 #[v9]) h9 fun v10 h10 => q3.le h10 ∧
  pureW Tryd.prog noHp noHp (sv (Instr.build 95 #[(0, v6), (1, v10)])) h10 fun v11 h11 =>
  opH Tryd.prog G (sv (Instr.buildSlice 24 1 #[(0, v11)])) h11 fun v12 h12 =>
  opH Tryd.prog G (sv (Builtin.append_ #[24, 24] 24 #[(r 3), v12])) h12 fun v13 h13 =>
  S50_l2_k4 G K (upd (upd (upd (upd (upd (upd (upd (upd (upd (upd (upd (upd (upd (upd (upd (upd r 11 (r 3)) 12 (r 0)) 13 (r 4)) 14 v4) 15 v5) 16 v6) 17 (r 0)) 18 (r 4)) 19 v7) 20 v8) 21 v9) 22 v10) 23 v11) 24 v12) 25 v13) 3 v13) h13
def S50_l2 (G : Hp) (r : Rg) (h : Hp) (K : Exit → Rg → Hp → Prop) : Prop :=
  opH Tryd.prog G (sv (Builtin.len_ #[24] 3 #[(r 0)])) h fun v0 h0 =>
  opH Tryd.prog G (sv (binOp .lss 3 (r 4) v0)) h0 fun v1 h1 =>
  cond v1
  (S50_l2_k3 G K (upd (upd (upd (upd r 5 (r 4)) 6 (r 0)) 7 v0) 8 v1) h1)
  (K (.exit 0) (upd (upd (upd (upd r 5 (r 4)) 6 (r 0)) 7 v0) 8 v1) h1)
def S50 (G : Hp) (K : Exit → Rg → Hp → Prop) (r : Rg) (h : Hp) : Prop :=
  loopP (S50_l2 G) (upd (upd (upd r 2 (.slice none 0 0)) 3 (.slice none 0 0)) 4 (.int .i64 0)) h (blockK 0 (thenK (S50_k1 G K) K))
theorem S50_eq (G : Hp) (K : Exit → Rg → Hp → Prop) (r : Rg) (h : Hp) : wpC Tryd.prog G 27 md50 true (Tryd.f50.body.getD .skip) r h K = S50 G K r h := by kernel_rfl
theorem enter50 {G : Hp} {h : Hp} {args : Array Value} {R : Value → Hp → Prop} (hn : args.size ≤ 27) (H : S50 G (retK Tryd.prog G [.tmp 2] R) (regs args) h) : HCalls Tryd.prog G 50 args h R :=
  HCalls.enter (md := md50) mixed Tryd.func50 rfl hn (by rw [← S50_eq] at H; exact H)

def md75 : Nat → Hint
  | _ => ⟨false, [], [], [], [], false⟩
def S75 (G : Hp) (K : Exit → Rg → Hp → Prop) (r : Rg) (h : Hp) : Prop :=
  opH Tryd.prog G (sv (Builtin.append_ #[57, 57] 57 #[(.slice none 0 0), (r 0)])) h fun v0 h0 =>
  K .ret (upd (upd (upd (upd r 2 (.slice none 0 0)) 3 (r 0)) 4 v0) 2 v0) h0
theorem S75_eq (G : Hp) (K : Exit → Rg → Hp → Prop) (r : Rg) (h : Hp) : wpC Tryd.prog G 5 md75 true (Tryd.f75.body.getD .skip) r h K = S75 G K r h := by kernel_rfl
theorem enter75 {G : Hp} {h : Hp} {args : Array Value} {R : Value → Hp → Prop} (hn : args.size ≤ 5) (H : S75 G (retK Tryd.prog G [.tmp 2] R) (regs args) h) : HCalls Tryd.prog G 75 args h R :=
  HCalls.enter (md := md75) mixed Tryd.func75 rfl hn (by rw [← S75_eq] at H; exact H)

end Go.Proofs.YtnpdploihlgcgaaDoor

/- A text of the proofs. -/
import Derived.Test.YtbloobepmgmbgaaRI
set_option linter.unusedVariables false
set_option maxRecDepth 100000
namespace Go.Proofs.Ytbloobepmgmbgaa
open Go Go.HL
def md23 : Nat → Hint
  | _ => ⟨false, [], [], [], [], false⟩
def S23_k1 (G : Hp) (K : Exit → Rg → Hp → Prop) (r : Rg) (h : Hp) : Prop :=
  opH Try.prog G (sv (Instr.makeSlice 66 (r 0) (r 0))) h fun v4 h4 =>
  opH Try.prog G (sv (Instr.build 76 #[(0, v4)])) h4 fun v5 h5 =>
  opH Try.prog G (sv (Instr.box 76 v5)) h5 fun v6 h6 =>
  K .ret (upd (upd (upd (upd (upd r 9 (r 0)) 10 v4) 11 v5) 12 v6) 2 v6) h6
def S23 (G : Hp) (K : Exit → Rg → Hp → Prop) (r : Rg) (h : Hp) : Prop :=
  opH Try.prog G (sv (binOp .lss 3 (r 0) (.int .i64 1))) h fun v0 h0 =>
  gd (wantB v0 false) (fun K1 => K1 (r 0) h0) h0 fun v1 h1 =>
  gd (wantB v0 false) (opH Try.prog G (sv (binOp .gtr 3 v1 (.int .i64 256))) h1) h1 fun v2 h2 =>
  opH Try.prog G (xPick v0 (.bool true) v2) h2 fun v3 h3 =>
  cond v3
  (K .ret (upd (upd (upd (upd (upd (upd (upd (upd r 2 (.pointer none)) 3 (r 0)) 4 v0) 5 v0) 6 v1) 7 v2) 8 v3) 2 (.pointer none)) h3)
  (S23_k1 G K (upd (upd (upd (upd (upd (upd (upd r 2 (.pointer none)) 3 (r 0)) 4 v0) 5 v0) 6 v1) 7 v2) 8 v3) h3)
theorem S23_eq (G : Hp) (K : Exit → Rg → Hp → Prop) (r : Rg) (h : Hp) : wpC Try.prog G 13 md23 true (Try.f23.body.getD .skip) r h K = S23 G K r h := by kernel_rfl
theorem enter23 {G : Hp} {h : Hp} {args : Array Value} {R : Value → Hp → Prop} (hn : args.size ≤ 13) (H : S23 G (retK Try.prog G [.tmp 2] R) (regs args) h) : HCalls Try.prog G 23 args h R :=
  HCalls.enter (md := md23) mixed Try.func23 rfl hn (by rw [← S23_eq] at H; exact H)

def md37 : Nat → Hint
  | _ => ⟨false, [], [], [], [], false⟩
def S37_k2 (G : Hp) (K : Exit → Rg → Hp → Prop) (r : Rg) (h : Hp) : Prop :=
  K .ret (upd r 10 (.int .i64 3)) h
def S37_l3_k5 (G : Hp) (K : Exit → Rg → Hp → Prop) (r : Rg) (h : Hp) : Prop :=
  opH Try.prog G (sv (binOp .add 3 (r 11) (.int .i64 1))) h fun v9 h9 =>
  K .normal (upd (upd (upd r 28 (r 11)) 29 v9) 11 v9) h9
def S37_l3_k7 (G : Hp) (K : Exit → Rg → Hp → Prop) (r : Rg) (h : Hp) : Prop :=
  opH Try.prog G (sv (Instr.fieldAt 35 (r 12) 0)) h fun v38 h38 =>
  opH Try.prog G (sv (Instr.loadAt 3 v38)) h38 fun v39 h39 =>
  opH Try.prog G (callFunc 57 #[(r 0), (r 1), (r 2), v39, (r 13)]) h39 fun v40 h40 =>
  K .ret (upd (upd (upd (upd (upd (upd (upd (upd r 67 (r 0)) 68 (r 1)) 69 (r 2)) 70 v38) 71 v39) 72 (r 13)) 73 v40) 10 (.int .i64 0)) h40
def S37_l3_k6 (G : Hp) (K : Exit → Rg → Hp → Prop) (r : Rg) (h : Hp) : Prop :=
  opH Try.prog G (sv (Instr.fieldAt 35 (r 12) 1)) h fun v32 h32 =>
  opH Try.prog G (sv (Instr.loadAt 3 v32)) h32 fun v33 h33 =>
  opH Try.prog G (callFunc 55 #[v33, (r 4)]) h33 fun v34 h34 =>
  opH Try.prog G (sv (Instr.fieldAt 35 (r 12) 0)) h34 fun v35 h35 =>
  opH Try.prog G (sv (Instr.loadAt 3 v35)) h35 fun v36 h36 =>
  opH Try.prog G (callFunc 56 #[(r 0), (r 1), (r 2), v36, v34]) h36 fun v37 h37 =>
  cond v37
  (K .ret (upd (upd (upd (upd (upd (upd (upd (upd (upd (upd (upd (upd (upd r 56 v32) 57 v33) 58 (r 4)) 59 v34) 13 v34) 60 (r 0)) 61 (r 1)) 62 (r 2)) 63 v35) 64 v36) 65 v34) 66 v37) 10 (.int .i64 18)) h37)
  (S37_l3_k7 G K (upd (upd (upd (upd (upd (upd (upd (upd (upd (upd (upd (upd r 56 v32) 57 v33) 58 (r 4)) 59 v34) 13 v34) 60 (r 0)) 61 (r 1)) 62 (r 2)) 63 v35) 64 v36) 65 v34) 66 v37) h37)
def S37_l3_k4 (G : Hp) (K : Exit → Rg → Hp → Prop) (r : Rg) (h : Hp) : Prop :=
  opH Try.prog G (xNil (r 0)) h fun v10 h10 =>
  opH Try.prog G (sv (Instr.fieldAt 76 v10 0)) h10 fun v11 h11 =>
  opH Try.prog G (sv (Instr.loadAt 66 v11)) h11 fun v12 h12 =>
  opH Try.prog G (sv (Instr.indexAt 66 v12 (r 2))) h12 fun v13 h13 =>
  opH Try.prog G (sv (Instr.loadAt 32 v13)) h13 fun v14 h14 =>
  opH Try.prog G (sv (Instr.indexAt 32 v14 (r 11))) h14 fun v15 h15 =>
  opH Try.prog G (sv (Instr.loadAt 35 v15)) h15 fun v16 h16 =>
  opH Try.prog G (sv (Instr.alloc 35 true (.tuple #[]))) h16 fun v17 h17 =>
  opH Try.prog G (su (Instr.storeAt 35 v17 v16)) h17 fun v18 h18 =>
  opH Try.prog G (sv (Instr.fieldAt 35 v17 2)) h18 fun v19 h19 =>
  opH Try.prog G (sv (Instr.loadAt 3 v19)) h19 fun v20 h20 =>
  opH Try.prog G (xEq .neq 3 (.tmp 0) (.tmp 0) v20 (r 1)) h20 fun v21 h21 =>
  gd (wantB v21 false) (fun K1 => K1 (r 3) h21) h21 fun v22 h22 =>
  gd (wantB v21 false) (opH Try.prog G (sv (Instr.fieldAt 35 v17 0)) h22) h22 fun v23 h23 =>
  gd (wantB v21 false) (opH Try.prog G (sv (Instr.loadAt 3 v23)) h23) h23 fun v24 h24 =>
  gd (wantB v21 false) (opH Try.prog G (sv (binOp .lss 3 v22 v24)) h24) h24 fun v25 h25 =>
  opH Try.prog G (xPick v21 (.bool true) v25) h25 fun v26 h26 =>
  gd (wantB v26 false) (fun K1 => K1 (r 3) h26) h26 fun v27 h27 =>
  gd (wantB v26 false) (opH Try.prog G (sv (Instr.fieldAt 35 v17 1)) h27) h27 fun v28 h28 =>
  gd (wantB v26 false) (opH Try.prog G (sv (Instr.loadAt 3 v28)) h28) h28 fun v29 h29 =>
  gd (wantB v26 false) (opH Try.prog G (sv (binOp .geq 3 v27 v29)) h29) h29 fun v30 h30 =>
  opH Try.prog G (xPick v26 (.bool true) v30) h30 fun v31 h31 =>
  cond v31
  (S37_l3_k5 G K (upd (upd (upd (upd (upd (upd (upd (upd (upd (upd (upd (upd (upd (upd (upd (upd (upd (upd (upd (upd (upd (upd (upd (upd (upd (upd (upd r 30 (r 0)) 31 v10) 32 v11) 33 v12) 34 (r 2)) 35 v13) 36 v14) 37 (r 11)) 38 v15) 39 v16) 12 v17) 40 v19) 41 v20) 42 (r 1)) 43 v21) 44 v21) 45 v22) 46 v23) 47 v24) 48 v25) 49 v26) 50 v26) 51 v27) 52 v28) 53 v29) 54 v30) 55 v31) h31)
  (S37_l3_k6 G K (upd (upd (upd (upd (upd (upd (upd (upd (upd (upd (upd (upd (upd (upd (upd (upd (upd (upd (upd (upd (upd (upd (upd (upd (upd (upd (upd r 30 (r 0)) 31 v10) 32 v11) 33 v12) 34 (r 2)) 35 v13) 36 v14) 37 (r 11)) 38 v15) 39 v16) 12 v17) 40 v19) 41 v20) 42 (r 1)) 43 v21) 44 v21) 45 v22) 46 v23) 47 v24) 48 v25) 49 v26) 50 v26) 51 v27) 52 v28) 53 v29) 54 v30) 55 v31) h31)
def S37_l3 (G : Hp) (r : Rg) (h : Hp) (K : Exit → Rg → Hp → Prop) : Prop :=
  opH Try.prog G (xNil (r 0)) h fun v2 h2 =>
  opH Try.prog G (sv (Instr.fieldAt 76 v2 0)) h2 fun v3 h3 =>
  opH Try.prog G (sv (Instr.loadAt 66 v3)) h3 fun v4 h4 =>
  opH Try.prog G (sv (Instr.indexAt 66 v4 (r 2))) h4 fun v5 h5 =>
  opH Try.prog G (sv (Instr.loadAt 32 v5)) h5 fun v6 h6 =>
  opH Try.prog G (sv (Builtin.len_ #[32] 3 #[v6])) h6 fun v7 h7 =>
  opH Try.prog G (sv (binOp .lss 3 (r 11) v7)) h7 fun v8 h8 =>
  cond v8
  (S37_l3_k4 G K (upd (upd (upd (upd (upd (upd (upd (upd (upd (upd r 18 (r 11)) 19 (r 0)) 20 v2) 21 v3) 22 v4) 23 (r 2)) 24 v5) 25 v6) 26 v7) 27 v8) h8)
  (K (.exit 0) (upd (upd (upd (upd (upd (upd (upd (upd (upd (upd r 18 (r 11)) 19 (r 0)) 20 v2) 21 v3) 22 v4) 23 (r 2)) 24 v5) 25 v6) 26 v7) 27 v8) h8)
def S37_k1 (G : Hp) (K : Exit → Rg → Hp → Prop) (r : Rg) (h : Hp) : Prop :=
  loopP (S37_l3 G) (upd r 11 (.int .i64 0)) h (blockK 0 (thenK (S37_k2 G K) K))
def S37 (G : Hp) (K : Exit → Rg → Hp → Prop) (r : Rg) (h : Hp) : Prop :=
  opH Try.prog G (callFunc 54 #[(r 0), (r 2)]) h fun v0 h0 =>
  opH Try.prog G (sv (Op.unary .not v0)) h0 fun v1 h1 =>
  cond v1
  (K .ret (upd (upd (upd (upd (upd (upd r 10 (.int .i64 0)) 14 (r 0)) 15 (r 2)) 16 v0) 17 v1) 10 (.int .i64 3)) h1)
  (S37_k1 G K (upd (upd (upd (upd (upd r 10 (.int .i64 0)) 14 (r 0)) 15 (r 2)) 16 v0) 17 v1) h1)
theorem S37_eq (G : Hp) (K : Exit → Rg → Hp → Prop) (r : Rg) (h : Hp) : wpC Try.prog G 74 md37 true (Try.f37.body.getD .skip) r h K = S37 G K r h := by kernel_rfl
theorem enter37 {G : Hp} {h : Hp} {args : Array Value} {R : Value → Hp → Prop} (hn : args.size ≤ 74) (H : S37 G (retK Try.prog G [.tmp 10] R) (regs args) h) : HCalls Try.prog G 37 args h R :=
  HCalls.enter (md := md37) mixed Try.func37 rfl hn (by rw [← S37_eq] at H; exact H)

def md38 : Nat → Hint
  | _ => ⟨false, [], [], [], [], false⟩
def S38 (G : Hp) (K : Exit → Rg → Hp → Prop) (r : Rg) (h : Hp) : Prop :=
  opH Try.prog G (sv (binOp .geq 3 (r 1) (.int .i64 0))) h fun v0 h0 =>
  cond v0
  (opH Try.prog G (callFunc 58 #[(r 0), (r 1), (r 2)]) h0 fun v1 h1 =>
  K .normal (upd (upd (upd (upd (upd (upd r 6 (r 1)) 7 v0) 8 (r 0)) 9 (r 1)) 10 (r 2)) 11 v1) h1)
  (K .normal (upd (upd r 6 (r 1)) 7 v0) h0)
theorem S38_eq (G : Hp) (K : Exit → Rg → Hp → Prop) (r : Rg) (h : Hp) : wpC Try.prog G 12 md38 true (Try.f38.body.getD .skip) r h K = S38 G K r h := by kernel_rfl
theorem enter38 {G : Hp} {h : Hp} {args : Array Value} {R : Value → Hp → Prop} (hn : args.size ≤ 12) (H : S38 G (retK Try.prog G [] R) (regs args) h) : HCalls Try.prog G 38 args h R :=
  HCalls.enter (md := md38) mixed Try.func38 rfl hn (by rw [← S38_eq] at H; exact H)

def md39 : Nat → Hint
  | _ => ⟨false, [], [], [], [], false⟩
def S39 (G : Hp) (K : Exit → Rg → Hp → Prop) (r : Rg) (h : Hp) : Prop :=
  opH Try.prog G (callFunc 58 #[(r 0), (.int .i64 (-1)), (r 1)]) h fun v0 h0 =>
  K .normal (upd (upd (upd r 4 (r 0)) 5 (r 1)) 6 v0) h0
theorem S39_eq (G : Hp) (K : Exit → Rg → Hp → Prop) (r : Rg) (h : Hp) : wpC Try.prog G 7 md39 true (Try.f39.body.getD .skip) r h K = S39 G K r h := by kernel_rfl
theorem enter39 {G : Hp} {h : Hp} {args : Array Value} {R : Value → Hp → Prop} (hn : args.size ≤ 7) (H : S39 G (retK Try.prog G [] R) (regs args) h) : HCalls Try.prog G 39 args h R :=
  HCalls.enter (md := md39) mixed Try.func39 rfl hn (by rw [← S39_eq] at H; exact H)

def md40 : Nat → Hint
  | _ => ⟨false, [], [], [], [], false⟩
def S40 (G : Hp) (K : Exit → Rg → Hp → Prop) (r : Rg) (h : Hp) : Prop :=
  opH Try.prog G (sv (binOp .geq 3 (r 1) (.int .i64 0))) h fun v0 h0 =>
  cond v0
  (opH Try.prog G (callFunc 58 #[(r 0), (r 1), (.int .i64 4611686018427387904)]) h0 fun v1 h1 =>
  K .normal (upd (upd (upd (upd (upd r 4 (r 1)) 5 v0) 6 (r 0)) 7 (r 1)) 8 v1) h1)
  (K .normal (upd (upd r 4 (r 1)) 5 v0) h0)
theorem S40_eq (G : Hp) (K : Exit → Rg → Hp → Prop) (r : Rg) (h : Hp) : wpC Try.prog G 9 md40 true (Try.f40.body.getD .skip) r h K = S40 G K r h := by kernel_rfl
theorem enter40 {G : Hp} {h : Hp} {args : Array Value} {R : Value → Hp → Prop} (hn : args.size ≤ 9) (H : S40 G (retK Try.prog G [] R) (regs args) h) : HCalls Try.prog G 40 args h R :=
  HCalls.enter (md := md40) mixed Try.func40 rfl hn (by rw [← S40_eq] at H; exact H)

def md41 : Nat → Hint
  | 6 => ⟨false, [0, 0, 0, 6, 14, 30, 63, 127, 255, 511, 511, 2047, 4095, 8191, 16383, 32767, 65535, 131071, 131071, 524287, 1048575, 2097151, 131071, 131071, 12713983, 29491199, 63045631, 134217727, 268435455, 536870911, 1073741823, 1073741823, 4294967295, 8589934591, 17179869183, 34359738367, 68719476735], [.pureN, .pureN, .pureN, .pureN, .pureN, .pureM, .eff, .pureN, .pureN, .pureN, .pureN, .pureN, .pureN, .pureM, .pureN, .pureN, .pureN, .pureN, .pureN, .pureN, .pureN, .pureM, .pureN, .pureN, .pureN, .pureN, .pureM, .pureN, .pureN, .pureN, .pureN, .pureN, .pureN, .pureN, .pureM, .pureN, .pureN], [.pureN, .pureN, .pureN, .pureN, .pureN, .pureM, .eff, .pureN, .pureN, .pureN, .pureN, .pureN, .pureN, .late, .pureN, .pureN, .pureN, .pureN, .pureN, .pureN, .pureN, .late, .pureN, .pureN, .pureN, .pureN, .late, .pureN, .pureN, .pureN, .pureN, .pureN, .pureN, .pureN, .late, .pureN, .pureN], [false, false, false, false, false, false, false, false, false, false, false, false, false, false, false, false, false, false, false, false, false, false, false, false, false, false, false, false, false, false, false, false, false, false, false, false, false], false⟩
  | 11 => ⟨false, [0, 0, 0, 0, 12, 28, 60, 0, 0, 384, 896, 1920, 0, 0, 12288, 28672, 61440, 131071], [.pureN, .pureN, .pureN, .pureN, .pureN, .pureN, .pureM, .pureN, .pureN, .pureN, .pureN, .pureM, .pureN, .pureN, .pureN, .pureN, .pureM, .eff], [.pureN, .pureN, .pureN, .pureN, .pureN, .pureN, .pureM, .pureN, .pureN, .pureN, .pureN, .pureM, .pureN, .pureN, .pureN, .pureN, .pureM, .eff], [false, false, false, false, false, false, false, false, false, false, false, false, false, false, false, false, false, false], false⟩
  | 16 => ⟨false, [0, 0, 0, 0, 12, 28, 60, 0, 0, 384, 896, 1920, 0, 0, 12288, 28672, 61440, 131071], [.pureN, .pureN, .pureN, .pureN, .pureN, .pureN, .pureM, .pureN, .pureN, .pureN, .pureN, .pureM, .pureN, .pureN, .pureN, .pureN, .pureM, .eff], [.pureN, .pureN, .pureN, .pureN, .pureN, .pureN, .pureM, .pureN, .pureN, .pureN, .pureN, .pureM, .pureN, .pureN, .pureN, .pureN, .pureM, .eff], [false, false, false, false, false, false, false, false, false, false, false, false, false, false, false, false, false, false], false⟩
  | _ => ⟨false, [], [], [], [], false⟩
def S41_k4 (G : Hp) (K : Exit → Rg → Hp → Prop) (r : Rg) (h : Hp) : Prop :=
  K .ret (upd r 6 (.int .i64 0)) h
def S41_l5_k7 (G : Hp) (K : Exit → Rg → Hp → Prop) (r : Rg) (h : Hp) : Prop :=
  opH Try.prog G (sv (binOp .add 3 (r 9) (.int .i64 1))) h fun v3 h3 =>
  K .normal (upd (upd (upd r 83 (r 9)) 84 v3) 9 v3) h3
def S41_l5_k6 (G : Hp) (K : Exit → Rg → Hp → Prop) (r : Rg) (h : Hp) : Prop :=
  pureW Try.prog noHp noHp (sv (Instr.indexAt 78 (r 2) (r 9))) h fun v4 h4 =>
  pureW Try.prog noHp noHp (sv (Instr.fieldAt 88 v4 0)) h4 fun v5 h5 =>
  pureW Try.prog G h (sv (Instr.loadAt 3 v5)) h5 fun v6 h6 =>
  pureW Try.prog noHp noHp (sv (Instr.indexAt 78 (r 2) (r 9))) h6 fun v7 h7 =>
  pureW Try.prog noHp noHp (sv (Instr.fieldAt 88 v7 1)) h7 fun v8 h8 =>
  pureW Try.prog G h (sv (Instr.loadAt 3 v8)) h8 fun v9 h9 =>
  pureW Try.prog noHp noHp (sv (Instr.indexAt 78 (r 2) (r 9))) h9 fun v10 h10 =>
  pureW Try.prog noHp noHp (sv (Instr.fieldAt 88 v10 2)) h10 fun v11 h11 =>
  pureW Try.prog G h (sv (Instr.loadAt 3 v11)) h11 fun v12 h12 =>
  opH Try.prog G (callFunc 57 #[(r 0), (r 1), v6, v9, v12]) h12 fun v13 h13 =>
  S41_l5_k7 G K (upd (upd (upd (upd (upd (upd (upd (upd (upd (upd (upd (upd (upd (upd (upd (upd (upd (upd r 85 (r 0)) 86 (r 1)) 87 (r 2)) 88 (r 9)) 89 v4) 90 v5) 91 v6) 92 (r 2)) 93 (r 9)) 94 v7) 95 v8) 96 v9) 97 (r 2)) 98 (r 9)) 99 v10) 100 v11) 101 v12) 102 v13) h13
def S41_l5 (G : Hp) (r : Rg) (h : Hp) (K : Exit → Rg → Hp → Prop) : Prop :=
  opH Try.prog G (sv (Builtin.len_ #[78] 3 #[(r 2)])) h fun v1 h1 =>
  opH Try.prog G (sv (binOp .lss 3 (r 9) v1)) h1 fun v2 h2 =>
  cond v2
  (S41_l5_k6 G K (upd (upd (upd (upd r 79 (r 9)) 80 (r 2)) 81 v1) 82 v2) h2)
  (K (.exit 4) (upd (upd (upd (upd r 79 (r 9)) 80 (r 2)) 81 v1) 82 v2) h2)
def S41_k3 (G : Hp) (K : Exit → Rg → Hp → Prop) (r : Rg) (h : Hp) : Prop :=
  loopP (S41_l5 G) (upd r 9 (.int .i64 0)) h (blockK 4 (thenK (S41_k4 G K) K))
def S41_l8_k10 (G : Hp) (K : Exit → Rg → Hp → Prop) (r : Rg) (h : Hp) : Prop :=
  opH Try.prog G (sv (binOp .add 3 (r 8) (.int .i64 1))) h fun v16 h16 =>
  K .normal (upd (upd (upd r 59 (r 8)) 60 v16) 8 v16) h16
def S41_l8_k9 (G : Hp) (K : Exit → Rg → Hp → Prop) (r : Rg) (h : Hp) : Prop :=
  pureW Try.prog noHp noHp (sv (Instr.indexAt 78 (r 2) (r 8))) h fun v17 h17 =>
  pureW Try.prog noHp noHp (sv (Instr.fieldAt 88 v17 0)) h17 fun v18 h18 =>
  pureW Try.prog G h (sv (Instr.loadAt 3 v18)) h18 fun v19 h19 =>
  pureW Try.prog noHp noHp (sv (Instr.indexAt 78 (r 2) (r 8))) h19 fun v20 h20 =>
  pureW Try.prog noHp noHp (sv (Instr.fieldAt 88 v20 1)) h20 fun v21 h21 =>
  pureW Try.prog G h (sv (Instr.loadAt 3 v21)) h21 fun v22 h22 =>
  pureW Try.prog noHp noHp (sv (Instr.indexAt 78 (r 2) (r 8))) h22 fun v23 h23 =>
  pureW Try.prog noHp noHp (sv (Instr.fieldAt 88 v23 2)) h23 fun v24 h24 =>
  pureW Try.prog G h (sv (Instr.loadAt 3 v24)) h24 fun v25 h25 =>
  opH Try.prog G (callFunc 56 #[(r 0), (r 1), v19, v22, v25]) h25 fun v26 h26 =>
  cond v26
  (K .ret (upd (upd (upd (upd (upd (upd (upd (upd (upd (upd (upd (upd (upd (upd (upd (upd (upd (upd (upd r 61 (r 0)) 62 (r 1)) 63 (r 2)) 64 (r 8)) 65 v17) 66 v18) 67 v19) 68 (r 2)) 69 (r 8)) 70 v20) 71 v21) 72 v22) 73 (r 2)) 74 (r 8)) 75 v23) 76 v24) 77 v25) 78 v26) 6 (.int .i64 18)) h26)
  (S41_l8_k10 G K (upd (upd (upd (upd (upd (upd (upd (upd (upd (upd (upd (upd (upd (upd (upd (upd (upd (upd r 61 (r 0)) 62 (r 1)) 63 (r 2)) 64 (r 8)) 65 v17) 66 v18) 67 v19) 68 (r 2)) 69 (r 8)) 70 v20) 71 v21) 72 v22) 73 (r 2)) 74 (r 8)) 75 v23) 76 v24) 77 v25) 78 v26) h26)
def S41_l8 (G : Hp) (r : Rg) (h : Hp) (K : Exit → Rg → Hp → Prop) : Prop :=
  opH Try.prog G (sv (Builtin.len_ #[78] 3 #[(r 2)])) h fun v14 h14 =>
  opH Try.prog G (sv (binOp .lss 3 (r 8) v14)) h14 fun v15 h15 =>
  cond v15
  (S41_l8_k9 G K (upd (upd (upd (upd r 55 (r 8)) 56 (r 2)) 57 v14) 58 v15) h15)
  (K (.exit 2) (upd (upd (upd (upd r 55 (r 8)) 56 (r 2)) 57 v14) 58 v15) h15)
def S41_k2 (G : Hp) (K : Exit → Rg → Hp → Prop) (r : Rg) (h : Hp) : Prop :=
  loopP (S41_l8 G) (upd r 8 (.int .i64 0)) h (blockK 2 (thenK (S41_k3 G K) K))
def S41_l11_k13 (G : Hp) (K : Exit → Rg → Hp → Prop) (r : Rg) (h : Hp) : Prop :=
  opH Try.prog G (sv (binOp .add 3 (r 7) (.int .i64 1))) h fun v29 h29 =>
  K .normal (upd (upd (upd r 16 (r 7)) 17 v29) 7 v29) h29
def S41_l11_k12 (G : Hp) (K : Exit → Rg → Hp → Prop) (r : Rg) (h : Hp) : Prop :=
  pureW Try.prog noHp noHp (sv (Instr.indexAt 78 (r 2) (r 7))) h fun v30 h30 =>
  pureW Try.prog noHp noHp (sv (Instr.fieldAt 88 v30 0)) h30 fun v31 h31 =>
  pureW Try.prog G h (sv (Instr.loadAt 3 v31)) h31 fun v32 h32 =>
  opH Try.prog G (callFunc 54 #[(r 0), v32]) h32 fun v33 h33 =>
  pureW Try.prog noHp noHp (sv (Op.unary .not v33)) h33 fun v34 h34 =>
  gd (wantB v34 false) (fun K1 => K1 (r 2) h34) h34 fun v35 h35 =>
  gd (wantB v34 false) (fun K1 => K1 (r 7) h35) h35 fun v36 h36 =>
  gd (wantB v34 false) (pureW Try.prog noHp noHp (sv (Instr.indexAt 78 v35 v36)) h36) h36 fun v37 h37 =>
  gd (wantB v34 false) (pureW Try.prog noHp noHp (sv (Instr.fieldAt 88 v37 1)) h37) h37 fun v38 h38 =>
  gd (wantB v34 false) (pureW Try.prog G h38 (sv (Instr.loadAt 3 v38)) h38) h38 fun v39 h39 =>
  gd (wantB v34 false) (pureW Try.prog noHp noHp (sv (binOp .lss 3 v39 (.int .i64 0))) h39) h39 fun v40 h40 =>
  pureW Try.prog noHp noHp (xPick v34 (.bool true) v40) h40 fun v41 h41 =>
  gd (wantB v41 false) (fun K1 => K1 (r 2) h41) h41 fun v42 h42 =>
  gd (wantB v41 false) (fun K1 => K1 (r 7) h42) h42 fun v43 h43 =>
  gd (wantB v41 false) (pureW Try.prog noHp noHp (sv (Instr.indexAt 78 v42 v43)) h43) h43 fun v44 h44 =>
  gd (wantB v41 false) (pureW Try.prog noHp noHp (sv (Instr.fieldAt 88 v44 1)) h44) h44 fun v45 h45 =>
  gd (wantB v41 false) (pureW Try.prog G h45 (sv (Instr.loadAt 3 v45)) h45) h45 fun v46 h46 =>
  gd (wantB v41 false) (fun K1 => K1 (r 2) h46) h46 fun v47 h47 =>
  gd (wantB v41 false) (fun K1 => K1 (r 7) h47) h47 fun v48 h48 =>
  gd (wantB v41 false) (pureW Try.prog noHp noHp (sv (Instr.indexAt 78 v47 v48)) h48) h48 fun v49 h49 =>
  gd (wantB v41 false) (pureW Try.prog noHp noHp (sv (Instr.fieldAt 88 v49 2)) h49) h49 fun v50 h50 =>
  gd (wantB v41 false) (pureW Try.prog G h50 (sv (Instr.loadAt 3 v50)) h50) h50 fun v51 h51 =>
  gd (wantB v41 false) (pureW Try.prog noHp noHp (sv (binOp .geq 3 v46 v51)) h51) h51 fun v52 h52 =>
  pureW Try.prog noHp noHp (xPick v41 (.bool true) v52) h52 fun v53 h53 =>
  gd (wantB v53 false) (fun K1 => K1 (r 2) h53) h53 fun v54 h54 =>
  gd (wantB v53 false) (fun K1 => K1 (r 7) h54) h54 fun v55 h55 =>
  gd (wantB v53 false) (pureW Try.prog noHp noHp (sv (Instr.indexAt 78 v54 v55)) h55) h55 fun v56 h56 =>
  gd (wantB v53 false) (pureW Try.prog noHp noHp (sv (Instr.fieldAt 88 v56 2)) h56) h56 fun v57 h57 =>
  gd (wantB v53 false) (pureW Try.prog G h57 (sv (Instr.loadAt 3 v57)) h57) h57 fun v58 h58 =>
  gd (wantB v53 false) (pureW Try.prog noHp noHp (sv (binOp .gtr 3 v58 (.int .i64 4611686018427387904))) h58) h58 fun v59 h59 =>
  pureW Try.prog noHp noHp (xPick v53 (.bool true) v59) h59 fun v60 h60 =>
  cond v60
  (K .ret (upd (upd (upd (upd (upd (upd (upd (upd (upd (upd (upd (upd (upd (upd (upd (upd (upd (upd (upd (upd (upd (upd (upd (upd (upd (upd (upd (upd (upd (upd (upd (upd (upd (upd (upd (upd (upd (upd r 18 (r 0)) 19 (r 2)) 20 (r 7)) 21 v30) 22 v31) 23 v32) 24 v33) 25 v34) 26 v34) 27 v35) 28 v36) 29 v37) 30 v38) 31 v39) 32 v40) 33 v41) 34 v41) 35 v42) 36 v43) 37 v44) 38 v45) 39 v46) 40 v47) 41 v48) 42 v49) 43 v50) 44 v51) 45 v52) 46 v53) 47 v53) 48 v54) 49 v55) 50 v56) 51 v57) 52 v58) 53 v59) 54 v60) 6 (.int .i64 1)) h60)
  (S41_l11_k13 G K (upd (upd (upd (upd (upd (upd (upd (upd (upd (upd (upd (upd (upd (upd (upd (upd (upd (upd (upd (upd (upd (upd (upd (upd (upd (upd (upd (upd (upd (upd (upd (upd (upd (upd (upd (upd (upd r 18 (r 0)) 19 (r 2)) 20 (r 7)) 21 v30) 22 v31) 23 v32) 24 v33) 25 v34) 26 v34) 27 v35) 28 v36) 29 v37) 30 v38) 31 v39) 32 v40) 33 v41) 34 v41) 35 v42) 36 v43) 37 v44) 38 v45) 39 v46) 40 v47) 41 v48) 42 v49) 43 v50) 44 v51) 45 v52) 46 v53) 47 v53) 48 v54) 49 v55) 50 v56) 51 v57) 52 v58) 53 v59) 54 v60) h60)
def S41_l11 (G : Hp) (r : Rg) (h : Hp) (K : Exit → Rg → Hp → Prop) : Prop :=
  opH Try.prog G (sv (Builtin.len_ #[78] 3 #[(r 2)])) h fun v27 h27 =>
  opH Try.prog G (sv (binOp .lss 3 (r 7) v27)) h27 fun v28 h28 =>
  cond v28
  (S41_l11_k12 G K (upd (upd (upd (upd r 12 (r 7)) 13 (r 2)) 14 v27) 15 v28) h28)
  (K (.exit 0) (upd (upd (upd (upd r 12 (r 7)) 13 (r 2)) 14 v27) 15 v28) h28)
def S41_k1 (G : Hp) (K : Exit → Rg → Hp → Prop) (r : Rg) (h : Hp) : Prop :=
  loopP (S41_l11 G) (upd r 7 (.int .i64 0)) h (blockK 0 (thenK (S41_k2 G K) K))
def S41 (G : Hp) (K : Exit → Rg → Hp → Prop) (r : Rg) (h : Hp) : Prop :=
  opH Try.prog G (sv (binOp .lss 3 (r 1) (.int .i64 0))) h fun v0 h0 =>
  cond v0
  (K .ret (upd (upd (upd (upd r 6 (.int .i64 0)) 10 (r 1)) 11 v0) 6 (.int .i64 1)) h0)
  (S41_k1 G K (upd (upd (upd r 6 (.int .i64 0)) 10 (r 1)) 11 v0) h0)
theorem S41_eq (G : Hp) (K : Exit → Rg → Hp → Prop) (r : Rg) (h : Hp) : wpC Try.prog G 103 md41 true (Try.f41.body.getD .skip) r h K = S41 G K r h := by kernel_rfl
theorem enter41 {G : Hp} {h : Hp} {args : Array Value} {R : Value → Hp → Prop} (hn : args.size ≤ 103) (H : S41 G (retK Try.prog G [.tmp 6] R) (regs args) h) : HCalls Try.prog G 41 args h R :=
  HCalls.enter (md := md41) mixed Try.func41 rfl hn (by rw [← S41_eq] at H; exact H)

def md54 : Nat → Hint
  | _ => ⟨false, [], [], [], [], false⟩
def S54 (G : Hp) (K : Exit → Rg → Hp → Prop) (r : Rg) (h : Hp) : Prop :=
  opH Try.prog G (sv (binOp .geq 3 (r 1) (.int .i64 0))) h fun v0 h0 =>
  gd (wantB v0 true) (fun K1 => K1 (r 1) h0) h0 fun v1 h1 =>
  gd (wantB v0 true) (fun K1 => K1 (r 0) h1) h1 fun v2 h2 =>
  gd (wantB v0 true) (opH Try.prog G (xNil v2) h2) h2 fun v3 h3 =>
  gd (wantB v0 true) (opH Try.prog G (sv (Instr.fieldAt 76 v3 0)) h3) h3 fun v4 h4 =>
  gd (wantB v0 true) (opH Try.prog G (sv (Instr.loadAt 66 v4)) h4) h4 fun v5 h5 =>
  gd (wantB v0 true) (opH Try.prog G (sv (Builtin.len_ #[66] 3 #[v5])) h5) h5 fun v6 h6 =>
  gd (wantB v0 true) (opH Try.prog G (sv (binOp .lss 3 v1 v6)) h6) h6 fun v7 h7 =>
  opH Try.prog G (xPick v0 v7 (.bool false)) h7 fun v8 h8 =>
  K .ret (upd (upd (upd (upd (upd (upd (upd (upd (upd (upd (upd (upd (upd r 4 (.bool false)) 5 (r 1)) 6 v0) 7 v0) 8 v1) 9 v2) 10 v3) 11 v4) 12 v5) 13 v6) 14 v7) 15 v8) 4 v8) h8
theorem S54_eq (G : Hp) (K : Exit → Rg → Hp → Prop) (r : Rg) (h : Hp) : wpC Try.prog G 16 md54 true (Try.f54.body.getD .skip) r h K = S54 G K r h := by kernel_rfl
theorem enter54 {G : Hp} {h : Hp} {args : Array Value} {R : Value → Hp → Prop} (hn : args.size ≤ 16) (H : S54 G (retK Try.prog G [.tmp 4] R) (regs args) h) : HCalls Try.prog G 54 args h R :=
  HCalls.enter (md := md54) mixed Try.func54 rfl hn (by rw [← S54_eq] at H; exact H)

def md55 : Nat → Hint
  | _ => ⟨false, [], [], [], [], false⟩
def S55_k1 (G : Hp) (K : Exit → Rg → Hp → Prop) (r : Rg) (h : Hp) : Prop :=
  opH Try.prog G (sv (binOp .add 3 (r 0) (r 1))) h fun v4 h4 =>
  K .ret (upd (upd (upd (upd r 13 (r 0)) 14 (r 1)) 15 v4) 4 v4) h4
def S55 (G : Hp) (K : Exit → Rg → Hp → Prop) (r : Rg) (h : Hp) : Prop :=
  opH Try.prog G (callFunc 62 #[(r 0)]) h fun v0 h0 =>
  opH Try.prog G (callFunc 62 #[(r 1)]) h0 fun v1 h1 =>
  opH Try.prog G (sv (binOp .sub 3 (.int .i64 4611686018427387904) v1)) h1 fun v2 h2 =>
  opH Try.prog G (sv (binOp .geq 3 v0 v2)) h2 fun v3 h3 =>
  cond v3
  (K .ret (upd (upd (upd (upd (upd (upd (upd (upd (upd (upd (upd (upd r 4 (.int .i64 0)) 5 (r 0)) 6 v0) 0 v0) 7 (r 1)) 8 v1) 1 v1) 9 v0) 10 v1) 11 v2) 12 v3) 4 (.int .i64 4611686018427387904)) h3)
  (S55_k1 G K (upd (upd (upd (upd (upd (upd (upd (upd (upd (upd (upd r 4 (.int .i64 0)) 5 (r 0)) 6 v0) 0 v0) 7 (r 1)) 8 v1) 1 v1) 9 v0) 10 v1) 11 v2) 12 v3) h3)
theorem S55_eq (G : Hp) (K : Exit → Rg → Hp → Prop) (r : Rg) (h : Hp) : wpC Try.prog G 16 md55 true (Try.f55.body.getD .skip) r h K = S55 G K r h := by kernel_rfl
theorem enter55 {G : Hp} {h : Hp} {args : Array Value} {R : Value → Hp → Prop} (hn : args.size ≤ 16) (H : S55 G (retK Try.prog G [.tmp 4] R) (regs args) h) : HCalls Try.prog G 55 args h R :=
  HCalls.enter (md := md55) mixed Try.func55 rfl hn (by rw [← S55_eq] at H; exact H)

def md56 : Nat → Hint
  | _ => ⟨false, [], [], [], [], false⟩
def S56_k1 (G : Hp) (K : Exit → Rg → Hp → Prop) (r : Rg) (h : Hp) : Prop :=
  K .ret (upd r 10 (.bool false)) h
def S56_l2_k4 (G : Hp) (K : Exit → Rg → Hp → Prop) (r : Rg) (h : Hp) : Prop :=
  opH Try.prog G (sv (binOp .add 3 (r 12) (.int .i64 1))) h fun v7 h7 =>
  K .normal (upd (upd (upd r 24 (r 12)) 25 v7) 12 v7) h7
def S56_l2_k3 (G : Hp) (K : Exit → Rg → Hp → Prop) (r : Rg) (h : Hp) : Prop :=
  opH Try.prog G (sv (Instr.indexAt 32 (r 11) (r 12))) h fun v8 h8 =>
  opH Try.prog G (sv (Instr.fieldAt 35 v8 2)) h8 fun v9 h9 =>
  opH Try.prog G (sv (Instr.loadAt 3 v9)) h9 fun v10 h10 =>
  opH Try.prog G (xEq .neq 3 (.tmp 0) (.tmp 0) v10 (r 1)) h10 fun v11 h11 =>
  gd (wantB v11 true) (fun K1 => K1 (r 11) h11) h11 fun v12 h12 =>
  gd (wantB v11 true) (fun K1 => K1 (r 12) h12) h12 fun v13 h13 =>
  gd (wantB v11 true) (opH Try.prog G (sv (Instr.indexAt 32 v12 v13)) h13) h13 fun v14 h14 =>
  gd (wantB v11 true) (opH Try.prog G (sv (Instr.fieldAt 35 v14 0)) h14) h14 fun v15 h15 =>
  gd (wantB v11 true) (opH Try.prog G (sv (Instr.loadAt 3 v15)) h15) h15 fun v16 h16 =>
  gd (wantB v11 true) (fun K1 => K1 (r 4) h16) h16 fun v17 h17 =>
  gd (wantB v11 true) (opH Try.prog G (sv (binOp .lss 3 v16 v17)) h17) h17 fun v18 h18 =>
  opH Try.prog G (xPick v11 v18 (.bool false)) h18 fun v19 h19 =>
  gd (wantB v19 true) (fun K1 => K1 (r 3) h19) h19 fun v20 h20 =>
  gd (wantB v19 true) (fun K1 => K1 (r 11) h20) h20 fun v21 h21 =>
  gd (wantB v19 true) (fun K1 => K1 (r 12) h21) h21 fun v22 h22 =>
  gd (wantB v19 true) (opH Try.prog G (sv (Instr.indexAt 32 v21 v22)) h22) h22 fun v23 h23 =>
  gd (wantB v19 true) (opH Try.prog G (sv (Instr.fieldAt 35 v23 1)) h23) h23 fun v24 h24 =>
  gd (wantB v19 true) (opH Try.prog G (sv (Instr.loadAt 3 v24)) h24) h24 fun v25 h25 =>
  gd (wantB v19 true) (opH Try.prog G (sv (binOp .lss 3 v20 v25)) h25) h25 fun v26 h26 =>
  opH Try.prog G (xPick v19 v26 (.bool false)) h26 fun v27 h27 =>
  cond v27
  (K .ret (upd (upd (upd (upd (upd (upd (upd (upd (upd (upd (upd (upd (upd (upd (upd (upd (upd (upd (upd (upd (upd (upd (upd (upd (upd (upd r 26 (r 11)) 27 (r 12)) 28 v8) 29 v9) 30 v10) 31 (r 1)) 32 v11) 33 v11) 34 v12) 35 v13) 36 v14) 37 v15) 38 v16) 39 v17) 40 v18) 41 v19) 42 v19) 43 v20) 44 v21) 45 v22) 46 v23) 47 v24) 48 v25) 49 v26) 50 v27) 10 (.bool true)) h27)
  (S56_l2_k4 G K (upd (upd (upd (upd (upd (upd (upd (upd (upd (upd (upd (upd (upd (upd (upd (upd (upd (upd (upd (upd (upd (upd (upd (upd (upd r 26 (r 11)) 27 (r 12)) 28 v8) 29 v9) 30 v10) 31 (r 1)) 32 v11) 33 v11) 34 v12) 35 v13) 36 v14) 37 v15) 38 v16) 39 v17) 40 v18) 41 v19) 42 v19) 43 v20) 44 v21) 45 v22) 46 v23) 47 v24) 48 v25) 49 v26) 50 v27) h27)
def S56_l2 (G : Hp) (r : Rg) (h : Hp) (K : Exit → Rg → Hp → Prop) : Prop :=
  opH Try.prog G (sv (Builtin.len_ #[32] 3 #[(r 11)])) h fun v5 h5 =>
  opH Try.prog G (sv (binOp .lss 3 (r 12) v5)) h5 fun v6 h6 =>
  cond v6
  (S56_l2_k3 G K (upd (upd (upd (upd r 20 (r 12)) 21 (r 11)) 22 v5) 23 v6) h6)
  (K (.exit 0) (upd (upd (upd (upd r 20 (r 12)) 21 (r 11)) 22 v5) 23 v6) h6)
def S56 (G : Hp) (K : Exit → Rg → Hp → Prop) (r : Rg) (h : Hp) : Prop :=
  opH Try.prog G (xNil (r 0)) h fun v0 h0 =>
  opH Try.prog G (sv (Instr.fieldAt 76 v0 0)) h0 fun v1 h1 =>
  opH Try.prog G (sv (Instr.loadAt 66 v1)) h1 fun v2 h2 =>
  opH Try.prog G (sv (Instr.indexAt 66 v2 (r 2))) h2 fun v3 h3 =>
  opH Try.prog G (sv (Instr.loadAt 32 v3)) h3 fun v4 h4 =>
  loopP (S56_l2 G) (upd (upd (upd (upd (upd (upd (upd (upd (upd (upd r 10 (.bool false)) 13 (r 0)) 14 v0) 15 v1) 16 v2) 17 (r 2)) 18 v3) 19 v4) 11 v4) 12 (.int .i64 0)) h4 (blockK 0 (thenK (S56_k1 G K) K))
theorem S56_eq (G : Hp) (K : Exit → Rg → Hp → Prop) (r : Rg) (h : Hp) : wpC Try.prog G 51 md56 true (Try.f56.body.getD .skip) r h K = S56 G K r h := by kernel_rfl
theorem enter56 {G : Hp} {h : Hp} {args : Array Value} {R : Value → Hp → Prop} (hn : args.size ≤ 51) (H : S56 G (retK Try.prog G [.tmp 10] R) (regs args) h) : HCalls Try.prog G 56 args h R :=
  HCalls.enter (md := md56) mixed Try.func56 rfl hn (by rw [← S56_eq] at H; exact H)

def md57 : Nat → Hint
  | 11 => ⟨false, [0, 0, 2, 7, 15, 31, 31, 127, 255, 511, 31, 1055, 4095, 8191], [.pureN, .pureN, .pureM, .pureN, .pureN, .pureN, .pureN, .pureN, .pureN, .pureM, .pureN, .pureM, .pureN, .pureN], [.pureN, .pureN, .pureM, .pureN, .pureN, .pureN, .pureN, .pureN, .pureN, .pureM, .pureN, .pureM, .pureN, .pureN], [false, false, false, false, false, false, false, false, false, false, false, false, false, false], false⟩
  | _ => ⟨false, [], [], [], [], false⟩
def S57_k2 (G : Hp) (K : Exit → Rg → Hp → Prop) (r : Rg) (h : Hp) : Prop :=
  opH Try.prog G (sv (Instr.sliceAt 32 (r 11) none (some (r 14)) none)) h fun v3 h3 =>
  opH Try.prog G (sv (Builtin.append_ #[32, 32] 32 #[(.slice none 0 0), v3])) h3 fun v4 h4 =>
  opH Try.prog G (sv (Instr.loadAt 35 (r 10))) h4 fun v5 h5 =>
  opH Try.prog G (sv (Instr.buildSlice 32 1 #[(0, v5)])) h5 fun v6 h6 =>
  opH Try.prog G (sv (Builtin.append_ #[32, 32] 32 #[v4, v6])) h6 fun v7 h7 =>
  opH Try.prog G (sv (Instr.sliceAt 32 (r 11) (some (r 14)) none none)) h7 fun v8 h8 =>
  opH Try.prog G (sv (Builtin.append_ #[32, 32] 32 #[v7, v8])) h8 fun v9 h9 =>
  opH Try.prog G (xNil (r 0)) h9 fun v10 h10 =>
  opH Try.prog G (sv (Instr.fieldAt 76 v10 0)) h10 fun v11 h11 =>
  opH Try.prog G (sv (Instr.loadAt 66 v11)) h11 fun v12 h12 =>
  opH Try.prog G (sv (Instr.indexAt 66 v12 (r 2))) h12 fun v13 h13 =>
  opH Try.prog G (su (Instr.storeAt 32 v13 v9)) h13 fun v14 h14 =>
  K .normal (upd (upd (upd (upd (upd (upd (upd (upd (upd (upd (upd (upd (upd (upd (upd (upd (upd (upd (upd (upd (upd (upd (upd (upd (upd r 15 (.slice none 0 0)) 92 (.slice none 0 0)) 93 (r 11)) 94 (r 14)) 95 v3) 96 v4) 15 v4) 97 v4) 98 v5) 99 v6) 100 v7) 15 v7) 101 v7) 102 (r 11)) 103 (r 14)) 104 v8) 105 v9) 15 v9) 106 (r 0)) 107 v10) 108 v11) 109 v12) 110 (r 2)) 111 v9) 112 v13) h14
def S57_l3_k4 (G : Hp) (K : Exit → Rg → Hp → Prop) (r : Rg) (h : Hp) : Prop :=
  opH Try.prog G (sv (binOp .add 3 (r 14) (.int .i64 1))) h fun v26 h26 =>
  K .normal (upd (upd (upd r 90 (r 14)) 91 v26) 14 v26) h26
def S57_l3 (G : Hp) (r : Rg) (h : Hp) (K : Exit → Rg → Hp → Prop) : Prop :=
  pureW Try.prog G h (sv (Builtin.len_ #[32] 3 #[(r 11)])) h fun v15 h15 =>
  pureW Try.prog noHp noHp (sv (binOp .lss 3 (r 14) v15)) h15 fun v16 h16 =>
  gd (wantB v16 true) (fun K1 => K1 (r 11) h16) h16 fun v17 h17 =>
  gd (wantB v16 true) (fun K1 => K1 (r 14) h17) h17 fun v18 h18 =>
  gd (wantB v16 true) (pureW Try.prog noHp noHp (sv (Instr.indexAt 32 v17 v18)) h18) h18 fun v19 h19 =>
  gd (wantB v16 true) (pureW Try.prog noHp noHp (sv (Instr.fieldAt 35 v19 0)) h19) h19 fun v20 h20 =>
  gd (wantB v16 true) (pureW Try.prog G h (sv (Instr.loadAt 3 v20)) h20) h20 fun v21 h21 =>
  gd (wantB v16 true) (pureW Try.prog noHp noHp (sv (Instr.fieldAt 35 (r 10) 0)) h21) h21 fun v22 h22 =>
  gd (wantB v16 true) (pureW Try.prog G h (sv (Instr.loadAt 3 v22)) h22) h22 fun v23 h23 =>
  gd (wantB v16 true) (pureW Try.prog noHp noHp (sv (binOp .lss 3 v21 v23)) h23) h23 fun v24 h24 =>
  pureW Try.prog noHp noHp (xPick v16 v24 (.bool false)) h24 fun v25 h25 =>
  cond v25
  (S57_l3_k4 G K (upd (upd (upd (upd (upd (upd (upd (upd (upd (upd (upd (upd (upd (upd r 76 (r 14)) 77 (r 11)) 78 v15) 79 v16) 80 v16) 81 v17) 82 v18) 83 v19) 84 v20) 85 v21) 86 v22) 87 v23) 88 v24) 89 v25) h25)
  (K (.exit 2) (upd (upd (upd (upd (upd (upd (upd (upd (upd (upd (upd (upd (upd (upd r 76 (r 14)) 77 (r 11)) 78 v15) 79 v16) 80 v16) 81 v17) 82 v18) 83 v19) 84 v20) 85 v21) 86 v22) 87 v23) 88 v24) 89 v25) h25)
def S57_k1 (G : Hp) (K : Exit → Rg → Hp → Prop) (r : Rg) (h : Hp) : Prop :=
  loopP (S57_l3 G) (upd r 14 (.int .i64 0)) h (blockK 2 (thenK (S57_k2 G K) K))
def S57_l5_k7 (G : Hp) (K : Exit → Rg → Hp → Prop) (r : Rg) (h : Hp) : Prop :=
  opH Try.prog G (sv (binOp .add 3 (r 12) (.int .i64 1))) h fun v34 h34 =>
  K .normal (upd (upd (upd r 30 (r 12)) 31 v34) 12 v34) h34
def S57_l5_k8 (G : Hp) (K : Exit → Rg → Hp → Prop) (r : Rg) (h : Hp) : Prop :=
  opH Try.prog G (sv (Instr.loadAt 35 (r 13))) h fun v59 h59 =>
  opH Try.prog G (sv (Instr.buildSlice 32 1 #[(0, v59)])) h59 fun v60 h60 =>
  opH Try.prog G (sv (Builtin.append_ #[32, 32] 32 #[(r 11), v60])) h60 fun v61 h61 =>
  S57_l5_k7 G K (upd (upd (upd (upd (upd r 72 (r 11)) 73 v59) 74 v60) 75 v61) 11 v61) h61
def S57_l5_k6 (G : Hp) (K : Exit → Rg → Hp → Prop) (r : Rg) (h : Hp) : Prop :=
  opH Try.prog G (xNil (r 0)) h fun v35 h35 =>
  opH Try.prog G (sv (Instr.fieldAt 76 v35 0)) h35 fun v36 h36 =>
  opH Try.prog G (sv (Instr.loadAt 66 v36)) h36 fun v37 h37 =>
  opH Try.prog G (sv (Instr.indexAt 66 v37 (r 2))) h37 fun v38 h38 =>
  opH Try.prog G (sv (Instr.loadAt 32 v38)) h38 fun v39 h39 =>
  opH Try.prog G (sv (Instr.indexAt 32 v39 (r 12))) h39 fun v40 h40 =>
  opH Try.prog G (sv (Instr.loadAt 35 v40)) h40 fun v41 h41 =>
  opH Try.prog G (sv (Instr.alloc 35 true (.tuple #[]))) h41 fun v42 h42 =>
  opH Try.prog G (su (Instr.storeAt 35 v42 v41)) h42 fun v43 h43 =>
  opH Try.prog G (sv (Instr.fieldAt 35 v42 2)) h43 fun v44 h44 =>
  opH Try.prog G (sv (Instr.loadAt 3 v44)) h44 fun v45 h45 =>
  opH Try.prog G (xEq .eql 3 (.tmp 0) (.tmp 0) v45 (r 1)) h45 fun v46 h46 =>
  gd (wantB v46 true) (opH Try.prog G (sv (Instr.fieldAt 35 v42 0)) h46) h46 fun v47 h47 =>
  gd (wantB v46 true) (opH Try.prog G (sv (Instr.loadAt 3 v47)) h47) h47 fun v48 h48 =>
  gd (wantB v46 true) (opH Try.prog G (sv (Instr.fieldAt 35 (r 10) 1)) h48) h48 fun v49 h49 =>
  gd (wantB v46 true) (opH Try.prog G (sv (Instr.loadAt 3 v49)) h49) h49 fun v50 h50 =>
  gd (wantB v46 true) (opH Try.prog G (sv (binOp .leq 3 v48 v50)) h50) h50 fun v51 h51 =>
  opH Try.prog G (xPick v46 v51 (.bool false)) h51 fun v52 h52 =>
  gd (wantB v52 true) (opH Try.prog G (sv (Instr.fieldAt 35 (r 10) 0)) h52) h52 fun v53 h53 =>
  gd (wantB v52 true) (opH Try.prog G (sv (Instr.loadAt 3 v53)) h53) h53 fun v54 h54 =>
  gd (wantB v52 true) (opH Try.prog G (sv (Instr.fieldAt 35 v42 1)) h54) h54 fun v55 h55 =>
  gd (wantB v52 true) (opH Try.prog G (sv (Instr.loadAt 3 v55)) h55) h55 fun v56 h56 =>
  gd (wantB v52 true) (opH Try.prog G (sv (binOp .leq 3 v54 v56)) h56) h56 fun v57 h57 =>
  opH Try.prog G (xPick v52 v57 (.bool false)) h57 fun v58 h58 =>
  cond v58
  (opH Try.prog G (sv (Instr.fieldAt 35 (r 10) 0)) h58 fun v62 h62 =>
  opH Try.prog G (sv (Instr.loadAt 3 v62)) h62 fun v63 h63 =>
  opH Try.prog G (sv (Instr.fieldAt 35 v42 0)) h63 fun v64 h64 =>
  opH Try.prog G (sv (Instr.loadAt 3 v64)) h64 fun v65 h65 =>
  opH Try.prog G (sv (Builtin.min_ #[3, 3] 3 #[v63, v65])) h65 fun v66 h66 =>
  opH Try.prog G (sv (Instr.fieldAt 35 (r 10) 0)) h66 fun v67 h67 =>
  opH Try.prog G (su (Instr.storeAt 3 v67 v66)) h67 fun v68 h68 =>
  opH Try.prog G (sv (Instr.fieldAt 35 (r 10) 1)) h68 fun v69 h69 =>
  opH Try.prog G (sv (Instr.loadAt 3 v69)) h69 fun v70 h70 =>
  opH Try.prog G (sv (Instr.fieldAt 35 v42 1)) h70 fun v71 h71 =>
  opH Try.prog G (sv (Instr.loadAt 3 v71)) h71 fun v72 h72 =>
  opH Try.prog G (sv (Builtin.max_ #[3, 3] 3 #[v70, v72])) h72 fun v73 h73 =>
  opH Try.prog G (sv (Instr.fieldAt 35 (r 10) 1)) h73 fun v74 h74 =>
  opH Try.prog G (su (Instr.storeAt 3 v74 v73)) h74 fun v75 h75 =>
  S57_l5_k7 G K (upd (upd (upd (upd (upd (upd (upd (upd (upd (upd (upd (upd (upd (upd (upd (upd (upd (upd (upd (upd (upd (upd (upd (upd (upd (upd (upd (upd (upd (upd (upd (upd (upd (upd (upd (upd (upd (upd (upd (upd (upd r 32 (r 0)) 33 v35) 34 v36) 35 v37) 36 (r 2)) 37 v38) 38 v39) 39 (r 12)) 40 v40) 41 v41) 13 v42) 42 v44) 43 v45) 44 (r 1)) 45 v46) 46 v46) 47 v47) 48 v48) 49 v49) 50 v50) 51 v51) 52 v52) 53 v52) 54 v53) 55 v54) 56 v55) 57 v56) 58 v57) 59 v58) 60 v62) 61 v63) 62 v64) 63 v65) 64 v66) 65 v67) 66 v69) 67 v70) 68 v71) 69 v72) 70 v73) 71 v74) h75)
  (S57_l5_k8 G K (upd (upd (upd (upd (upd (upd (upd (upd (upd (upd (upd (upd (upd (upd (upd (upd (upd (upd (upd (upd (upd (upd (upd (upd (upd (upd (upd (upd (upd r 32 (r 0)) 33 v35) 34 v36) 35 v37) 36 (r 2)) 37 v38) 38 v39) 39 (r 12)) 40 v40) 41 v41) 13 v42) 42 v44) 43 v45) 44 (r 1)) 45 v46) 46 v46) 47 v47) 48 v48) 49 v49) 50 v50) 51 v51) 52 v52) 53 v52) 54 v53) 55 v54) 56 v55) 57 v56) 58 v57) 59 v58) h58)
def S57_l5 (G : Hp) (r : Rg) (h : Hp) (K : Exit → Rg → Hp → Prop) : Prop :=
  opH Try.prog G (xNil (r 0)) h fun v27 h27 =>
  opH Try.prog G (sv (Instr.fieldAt 76 v27 0)) h27 fun v28 h28 =>
  opH Try.prog G (sv (Instr.loadAt 66 v28)) h28 fun v29 h29 =>
  opH Try.prog G (sv (Instr.indexAt 66 v29 (r 2))) h29 fun v30 h30 =>
  opH Try.prog G (sv (Instr.loadAt 32 v30)) h30 fun v31 h31 =>
  opH Try.prog G (sv (Builtin.len_ #[32] 3 #[v31])) h31 fun v32 h32 =>
  opH Try.prog G (sv (binOp .lss 3 (r 12) v32)) h32 fun v33 h33 =>
  cond v33
  (S57_l5_k6 G K (upd (upd (upd (upd (upd (upd (upd (upd (upd (upd r 20 (r 12)) 21 (r 0)) 22 v27) 23 v28) 24 v29) 25 (r 2)) 26 v30) 27 v31) 28 v32) 29 v33) h33)
  (K (.exit 0) (upd (upd (upd (upd (upd (upd (upd (upd (upd (upd r 20 (r 12)) 21 (r 0)) 22 v27) 23 v28) 24 v29) 25 (r 2)) 26 v30) 27 v31) 28 v32) 29 v33) h33)
def S57 (G : Hp) (K : Exit → Rg → Hp → Prop) (r : Rg) (h : Hp) : Prop :=
  opH Try.prog G (sv (Instr.build 35 #[(0, (r 3)), (1, (r 4)), (2, (r 1))])) h fun v0 h0 =>
  opH Try.prog G (sv (Instr.alloc 35 true (.tuple #[]))) h0 fun v1 h1 =>
  opH Try.prog G (su (Instr.storeAt 35 v1 v0)) h1 fun v2 h2 =>
  loopP (S57_l5 G) (upd (upd (upd (upd (upd (upd (upd r 16 (r 3)) 17 (r 4)) 18 (r 1)) 19 v0) 10 v1) 11 (.slice none 0 0)) 12 (.int .i64 0)) h2 (blockK 0 (thenK (S57_k1 G K) K))
theorem S57_eq (G : Hp) (K : Exit → Rg → Hp → Prop) (r : Rg) (h : Hp) : wpC Try.prog G 113 md57 true (Try.f57.body.getD .skip) r h K = S57 G K r h := by kernel_rfl
theorem enter57 {G : Hp} {h : Hp} {args : Array Value} {R : Value → Hp → Prop} (hn : args.size ≤ 113) (H : S57 G (retK Try.prog G [] R) (regs args) h) : HCalls Try.prog G 57 args h R :=
  HCalls.enter (md := md57) mixed Try.func57 rfl hn (by rw [← S57_eq] at H; exact H)

def md58 : Nat → Hint
  | _ => ⟨false, [], [], [], [], false⟩
def S58_l1_k3 (G : Hp) (K : Exit → Rg → Hp → Prop) (r : Rg) (h : Hp) : Prop :=
  opH Try.prog G (sv (binOp .add 3 (r 6) (.int .i64 1))) h fun v5 h5 =>
  K .normal (upd (upd (upd r 17 (r 6)) 18 v5) 6 v5) h5
def S58_l1_k4 (G : Hp) (K : Exit → Rg → Hp → Prop) (r : Rg) (h : Hp) : Prop :=
  opH Try.prog G (xNil (r 0)) h fun v6 h6 =>
  opH Try.prog G (sv (Instr.fieldAt 76 v6 0)) h6 fun v7 h7 =>
  opH Try.prog G (sv (Instr.loadAt 66 v7)) h7 fun v8 h8 =>
  opH Try.prog G (sv (Instr.indexAt 66 v8 (r 6))) h8 fun v9 h9 =>
  opH Try.prog G (su (Instr.storeAt 32 v9 (r 7))) h9 fun v10 h10 =>
  S58_l1_k3 G K (upd (upd (upd (upd (upd (upd (upd r 63 (r 0)) 64 v6) 65 v7) 66 v8) 67 (r 6)) 68 (r 7)) 69 v9) h10
def S58_l1_l5_k7 (G : Hp) (K : Exit → Rg → Hp → Prop) (r : Rg) (h : Hp) : Prop :=
  opH Try.prog G (sv (binOp .add 3 (r 8) (.int .i64 1))) h fun v18 h18 =>
  K .normal (upd (upd (upd r 29 (r 8)) 30 v18) 8 v18) h18
def S58_l1_l5_k8 (G : Hp) (K : Exit → Rg → Hp → Prop) (r : Rg) (h : Hp) : Prop :=
  opH Try.prog G (sv (Instr.fieldAt 35 (r 9) 0)) h fun v34 h34 =>
  opH Try.prog G (sv (Instr.loadAt 3 v34)) h34 fun v35 h35 =>
  opH Try.prog G (sv (Instr.fieldAt 35 (r 9) 1)) h35 fun v36 h36 =>
  opH Try.prog G (sv (Instr.loadAt 3 v36)) h36 fun v37 h37 =>
  opH Try.prog G (sv (binOp .lss 3 v35 v37)) h37 fun v38 h38 =>
  cond v38
  (opH Try.prog G (sv (Instr.loadAt 35 (r 9))) h38 fun v39 h39 =>
  opH Try.prog G (sv (Instr.buildSlice 32 1 #[(0, v39)])) h39 fun v40 h40 =>
  opH Try.prog G (sv (Builtin.append_ #[32, 32] 32 #[(r 7), v40])) h40 fun v41 h41 =>
  S58_l1_l5_k7 G K (upd (upd (upd (upd (upd (upd (upd (upd (upd (upd r 54 v34) 55 v35) 56 v36) 57 v37) 58 v38) 59 (r 7)) 60 v39) 61 v40) 62 v41) 7 v41) h41)
  (S58_l1_l5_k7 G K (upd (upd (upd (upd (upd r 54 v34) 55 v35) 56 v36) 57 v37) 58 v38) h38)
def S58_l1_l5_k6 (G : Hp) (K : Exit → Rg → Hp → Prop) (r : Rg) (h : Hp) : Prop :=
  opH Try.prog G (xNil (r 0)) h fun v19 h19 =>
  opH Try.prog G (sv (Instr.fieldAt 76 v19 0)) h19 fun v20 h20 =>
  opH Try.prog G (sv (Instr.loadAt 66 v20)) h20 fun v21 h21 =>
  opH Try.prog G (sv (Instr.indexAt 66 v21 (r 6))) h21 fun v22 h22 =>
  opH Try.prog G (sv (Instr.loadAt 32 v22)) h22 fun v23 h23 =>
  opH Try.prog G (sv (Instr.indexAt 32 v23 (r 8))) h23 fun v24 h24 =>
  opH Try.prog G (sv (Instr.loadAt 35 v24)) h24 fun v25 h25 =>
  opH Try.prog G (sv (Instr.alloc 35 true (.tuple #[]))) h25 fun v26 h26 =>
  opH Try.prog G (su (Instr.storeAt 35 v26 v25)) h26 fun v27 h27 =>
  opH Try.prog G (sv (binOp .lss 3 (r 1) (.int .i64 0))) h27 fun v28 h28 =>
  gd (wantB v28 false) (opH Try.prog G (sv (Instr.fieldAt 35 v26 2)) h28) h28 fun v29 h29 =>
  gd (wantB v28 false) (opH Try.prog G (sv (Instr.loadAt 3 v29)) h29) h29 fun v30 h30 =>
  gd (wantB v28 false) (fun K1 => K1 (r 1) h30) h30 fun v31 h31 =>
  gd (wantB v28 false) (opH Try.prog G (xEq .eql 3 (.tmp 0) (.tmp 0) v30 v31) h31) h31 fun v32 h32 =>
  opH Try.prog G (xPick v28 (.bool true) v32) h32 fun v33 h33 =>
  cond v33
  (opH Try.prog G (sv (Instr.fieldAt 35 v26 0)) h33 fun v42 h42 =>
  opH Try.prog G (sv (Instr.loadAt 3 v42)) h42 fun v43 h43 =>
  opH Try.prog G (sv (Builtin.max_ #[3, 3] 3 #[v43, (r 2)])) h43 fun v44 h44 =>
  opH Try.prog G (sv (Instr.fieldAt 35 v26 0)) h44 fun v45 h45 =>
  opH Try.prog G (su (Instr.storeAt 3 v45 v44)) h45 fun v46 h46 =>
  S58_l1_l5_k8 G K (upd (upd (upd (upd (upd (upd (upd (upd (upd (upd (upd (upd (upd (upd (upd (upd (upd (upd (upd (upd (upd (upd (upd (upd r 31 (r 0)) 32 v19) 33 v20) 34 v21) 35 (r 6)) 36 v22) 37 v23) 38 (r 8)) 39 v24) 40 v25) 9 v26) 41 (r 1)) 42 v28) 43 v28) 44 v29) 45 v30) 46 v31) 47 v32) 48 v33) 49 v42) 50 v43) 51 (r 2)) 52 v44) 53 v45) h46)
  (S58_l1_l5_k8 G K (upd (upd (upd (upd (upd (upd (upd (upd (upd (upd (upd (upd (upd (upd (upd (upd (upd (upd (upd r 31 (r 0)) 32 v19) 33 v20) 34 v21) 35 (r 6)) 36 v22) 37 v23) 38 (r 8)) 39 v24) 40 v25) 9 v26) 41 (r 1)) 42 v28) 43 v28) 44 v29) 45 v30) 46 v31) 47 v32) 48 v33) h33)
def S58_l1_l5 (G : Hp) (r : Rg) (h : Hp) (K : Exit → Rg → Hp → Prop) : Prop :=
  opH Try.prog G (xNil (r 0)) h fun v11 h11 =>
  opH Try.prog G (sv (Instr.fieldAt 76 v11 0)) h11 fun v12 h12 =>
  opH Try.prog G (sv (Instr.loadAt 66 v12)) h12 fun v13 h13 =>
  opH Try.prog G (sv (Instr.indexAt 66 v13 (r 6))) h13 fun v14 h14 =>
  opH Try.prog G (sv (Instr.loadAt 32 v14)) h14 fun v15 h15 =>
  opH Try.prog G (sv (Builtin.len_ #[32] 3 #[v15])) h15 fun v16 h16 =>
  opH Try.prog G (sv (binOp .lss 3 (r 8) v16)) h16 fun v17 h17 =>
  cond v17
  (S58_l1_l5_k6 G K (upd (upd (upd (upd (upd (upd (upd (upd (upd (upd r 19 (r 8)) 20 (r 0)) 21 v11) 22 v12) 23 v13) 24 (r 6)) 25 v14) 26 v15) 27 v16) 28 v17) h17)
  (K (.exit 2) (upd (upd (upd (upd (upd (upd (upd (upd (upd (upd r 19 (r 8)) 20 (r 0)) 21 v11) 22 v12) 23 v13) 24 (r 6)) 25 v14) 26 v15) 27 v16) 28 v17) h17)
def S58_l1_k2 (G : Hp) (K : Exit → Rg → Hp → Prop) (r : Rg) (h : Hp) : Prop :=
  loopP (S58_l1_l5 G) (upd (upd r 7 (.slice none 0 0)) 8 (.int .i64 0)) h (blockK 2 (thenK (S58_l1_k4 G K) (blockK 1 (thenK (S58_l1_k3 G K) K))))
def S58_l1 (G : Hp) (r : Rg) (h : Hp) (K : Exit → Rg → Hp → Prop) : Prop :=
  opH Try.prog G (xNil (r 0)) h fun v0 h0 =>
  opH Try.prog G (sv (Instr.fieldAt 76 v0 0)) h0 fun v1 h1 =>
  opH Try.prog G (sv (Instr.loadAt 66 v1)) h1 fun v2 h2 =>
  opH Try.prog G (sv (Builtin.len_ #[66] 3 #[v2])) h2 fun v3 h3 =>
  opH Try.prog G (sv (binOp .lss 3 (r 6) v3)) h3 fun v4 h4 =>
  cond v4
  (S58_l1_k2 G K (upd (upd (upd (upd (upd (upd (upd r 10 (r 6)) 11 (r 0)) 12 v0) 13 v1) 14 v2) 15 v3) 16 v4) h4)
  (K (.exit 0) (upd (upd (upd (upd (upd (upd (upd r 10 (r 6)) 11 (r 0)) 12 v0) 13 v1) 14 v2) 15 v3) 16 v4) h4)
def S58 (G : Hp) (K : Exit → Rg → Hp → Prop) (r : Rg) (h : Hp) : Prop :=
  loopP (S58_l1 G) (upd r 6 (.int .i64 0)) h (blockK 0 K)
theorem S58_eq (G : Hp) (K : Exit → Rg → Hp → Prop) (r : Rg) (h : Hp) : wpC Try.prog G 70 md58 true (Try.f58.body.getD .skip) r h K = S58 G K r h := by kernel_rfl
theorem enter58 {G : Hp} {h : Hp} {args : Array Value} {R : Value → Hp → Prop} (hn : args.size ≤ 70) (H : S58 G (retK Try.prog G [] R) (regs args) h) : HCalls Try.prog G 58 args h R :=
  HCalls.enter (md := md58) mixed Try.func58 rfl hn (by rw [← S58_eq] at H; exact H)

def md62 : Nat → Hint
  | _ => ⟨false, [], [], [], [], false⟩
def S62_k2 (G : Hp) (K : Exit → Rg → Hp → Prop) (r : Rg) (h : Hp) : Prop :=
  K .ret (upd (upd r 7 (r 0)) 2 (r 0)) h
def S62_k1 (G : Hp) (K : Exit → Rg → Hp → Prop) (r : Rg) (h : Hp) : Prop :=
  opH Try.prog G (sv (binOp .gtr 3 (r 0) (.int .i64 4611686018427387904))) h fun v1 h1 =>
  cond v1
  (K .ret (upd (upd (upd r 5 (r 0)) 6 v1) 2 (.int .i64 4611686018427387904)) h1)
  (S62_k2 G K (upd (upd r 5 (r 0)) 6 v1) h1)
def S62 (G : Hp) (K : Exit → Rg → Hp → Prop) (r : Rg) (h : Hp) : Prop :=
  opH Try.prog G (sv (binOp .lss 3 (r 0) (.int .i64 0))) h fun v0 h0 =>
  cond v0
  (K .ret (upd (upd (upd (upd r 2 (.int .i64 0)) 3 (r 0)) 4 v0) 2 (.int .i64 0)) h0)
  (S62_k1 G K (upd (upd (upd r 2 (.int .i64 0)) 3 (r 0)) 4 v0) h0)
theorem S62_eq (G : Hp) (K : Exit → Rg → Hp → Prop) (r : Rg) (h : Hp) : wpC Try.prog G 8 md62 true (Try.f62.body.getD .skip) r h K = S62 G K r h := by kernel_rfl
theorem enter62 {G : Hp} {h : Hp} {args : Array Value} {R : Value → Hp → Prop} (hn : args.size ≤ 8) (H : S62 G (retK Try.prog G [.tmp 2] R) (regs args) h) : HCalls Try.prog G 62 args h R :=
  HCalls.enter (md := md62) mixed Try.func62 rfl hn (by rw [← S62_eq] at H; exact H)

end Go.Proofs.Ytbloobepmgmbgaa

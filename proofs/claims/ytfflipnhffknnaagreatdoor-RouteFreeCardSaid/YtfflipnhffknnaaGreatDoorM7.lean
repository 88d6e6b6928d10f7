/- Texts of the proof, one behind the other. -/
import Derived.Test.YtfflipnhffknnaaGreatDoorM1
import Derived.Test.YtfflipnhffknnaaGreatDoorM6
import Derived.Test.YtfflipnhffknnaaGreatDoorM4
import Derived.Test.YtfflipnhffknnaaGreatDoorM3
import Derived.Test.YtfflipnhffknnaaGreatDoorM2
import Derived.Test.YtfflipnhffknnaaGreatDoorH2
import Derived.Test.YtfflipnhffknnaaGreatDoorH3
import Derived.Test.YtfflipnhffknnaaGreatDoorRows
import Derived.Test.YtfflipnhffknnaaGreatDoorTie
import Derived.JoinedOf
import Derived.Handed
import Derived.LaidMore
import Derived.LaidHandle
import Derived.LaidLaws
import Derived.MakeChecks
set_option linter.unusedVariables false
set_option maxRecDepth 100000
set_option linter.unusedSimpArgs false
set_option maxHeartbeats 8000000
set_option linter.defProp false
section
namespace Go.Proofs.YtfflipnhffknnaaGreatDoor
open Go Go.HL
section
variable (G:Hp) (K:EK) (r:Rg) (h:Hp)
def md31:Nat→Hint
 |_=>mh false [] [] [] false
def S31:Prop:=
 o_ G (Instr.box 54 (r 0)) h fun v0 h0=>
 o_ G (Instr.loadAt 54 v0) h0 fun v1 h1=>
 c_ G 73 #[v1,(r 1)] h1 fun v2 h2=>
 o_ G (Builtin.len_ #[168] 3 #[v2]) h2 fun v3 h3=>
 K .ret (u7 r 2 v0 4 (.int .i64 0) 5 v1 6 (r 1) 7 v2 8 v3 4 v3) h3
theorem enter31:Ent 9 31 [.tmp 4] S31:=ent_ (m:=md31) (c:=(Tryz.f31.body.getD .skip)) (fun _ _ _ _=>by kernel_rfl) Tryz.func31 rfl rfl rfl

def md73:Nat→Hint
 |_=>mh false [] [] [] false
def ap4 (G:Hp) (K:EK) (r:Rg) (h:Hp):Prop:=
 K .ret (u2 r 43 (r 5) 4 (r 5)) h
def Ko:Prop:=
 o_ G (Instr.loadAt 54 (r 2)) h fun v13 h13=>
 o_ G (Instr.fieldAt 54 (r 2) 0) h13 fun v14 h14=>
 o_ G (Instr.loadAt 3 v14) h14 fun v15 h15=>
 o_ G (binOp .mul 3 (r 1) v15) h15 fun v16 h16=>
 o_ G (binOp .sub 3 v16 (r 6)) h16 fun v17 h17=>
 o_ G (Instr.fieldAt 54 (r 2) 2) h17 fun v18 h18=>
 o_ G (Instr.loadAt 3 v18) h18 fun v19 h19=>
 c_ G 125 #[v13,v17,(r 7),v19] h19 fun v20 h20=>
 o_ G (binOp .add 3 (r 6) v20) h20 fun v21 h21=>
 o_ G (Instr.buildSlice 168 1 #[(0,v21)]) h21 fun v22 h22=>
 o_ G (Builtin.append_ #[168,168] 168 #[(r 5),v22]) h22 fun v23 h23=>
 K .normal (upd (u10 (u10 r 25 v13 26 (r 1) 27 v14 28 v15 29 v16 30 (r 6) 31 v17 32 (r 7) 33 v18 34 v19) 35 v20 7 v20 36 (r 6) 37 v20 38 v21 6 v21 39 (r 5) 40 v21 41 v22 42 v23) 5 v23) h23
def ap3 (r:Rg) (h:Hp) (K:EK):Prop:=
 o_ G (Instr.fieldAt 54 (r 2) 0) h fun v9 h9=>
 o_ G (Instr.loadAt 3 v9) h9 fun v10 h10=>
 o_ G (binOp .mul 3 (r 1) v10) h10 fun v11 h11=>
 o_ G (binOp .lss 3 (r 6) v11) h11 fun v12 h12=>
 (fun q=>cond v12
 (Ko G K q h12)
 (K (.exit 0) q h12))
 (u6 r 19 (r 6) 20 (r 1) 21 v9 22 v10 23 v11 24 v12)
def ap5:Prop:=
 bz (ap3 G) (u3 r 5 (.slice none 0 0) 6 (.int .i64 0) 7 (.int .i64 0)) h (bh 0 (bq (ap4 G K) K))
def S73:Prop:=
 o_ G (Instr.box 54 (r 0)) h fun v0 h0=>
 o_ G (binOp .lss 3 (r 1) (.int .i64 1)) h0 fun v1 h1=>
 g_ v1 false (fun K1=>K1 (r 1) h1) h1 fun v2 h2=>
 g_ v1 false (o_ G (binOp .gtr 3 v2 (.int .i64 16)) h2) h2 fun v3 h3=>
 opH P_ G (bf v1 (.bool true) v3) h3 fun v4 h4=>
 g_ v4 false (o_ G (Instr.loadAt 54 v0) h4) h4 fun v5 h5=>
 g_ v4 false (c_ G 124 #[v5] h5) h5 fun v6 h6=>
 g_ v4 false (o_ G (Op.unary .not v6) h6) h6 fun v7 h7=>
 opH P_ G (bf v4 (.bool true) v7) h7 fun v8 h8=>
 (fun q=>cond v8
 (K .ret (upd q 4 (.slice none 0 0)) h8)
 (ap5 G K q h8))
 (u3 (u10 r 2 v0 4 (.slice none 0 0) 8 (r 1) 9 v1 10 v1 11 v2 12 v3 13 v4 14 v4 15 v5) 16 v6 17 v7 18 v8)
theorem enter73:Ent 44 73 [.tmp 4] S73:=ent_ (m:=md73) (c:=(Tryz.f73.body.getD .skip)) (fun _ _ _ _=>by kernel_rfl) Tryz.func73 rfl rfl rfl

def md124:Nat→Hint
 |_=>mh false [] [] [] false
def S124:Prop:=
 o_ G (Instr.box 54 (r 0)) h fun v0 h0=>
 o_ G (Instr.fieldAt 54 v0 0) h0 fun v1 h1=>
 o_ G (Instr.loadAt 3 v1) h1 fun v2 h2=>
 o_ G (binOp .geq 3 v2 (.int .i64 1)) h2 fun v3 h3=>
 g_ v3 true (o_ G (Instr.fieldAt 54 v0 0) h3) h3 fun v4 h4=>
 g_ v3 true (o_ G (Instr.loadAt 3 v4) h4) h4 fun v5 h5=>
 g_ v3 true (o_ G (binOp .leq 3 v5 (.int .i64 1000)) h5) h5 fun v6 h6=>
 opH P_ G (bf v3 v6 (.bool false)) h6 fun v7 h7=>
 g_ v7 true (o_ G (Instr.fieldAt 54 v0 1) h7) h7 fun v8 h8=>
 g_ v7 true (o_ G (Instr.loadAt 3 v8) h8) h8 fun v9 h9=>
 g_ v7 true (o_ G (binOp .geq 3 v9 (.int .i64 1)) h9) h9 fun v10 h10=>
 opH P_ G (bf v7 v10 (.bool false)) h10 fun v11 h11=>
 g_ v11 true (o_ G (Instr.fieldAt 54 v0 1) h11) h11 fun v12 h12=>
 g_ v11 true (o_ G (Instr.loadAt 3 v12) h12) h12 fun v13 h13=>
 g_ v11 true (o_ G (binOp .leq 3 v13 (.int .i64 1000)) h13) h13 fun v14 h14=>
 opH P_ G (bf v11 v14 (.bool false)) h14 fun v15 h15=>
 g_ v15 true (o_ G (Instr.fieldAt 54 v0 2) h15) h15 fun v16 h16=>
 g_ v15 true (o_ G (Instr.loadAt 3 v16) h16) h16 fun v17 h17=>
 g_ v15 true (o_ G (binOp .geq 3 v17 (.int .i64 1)) h17) h17 fun v18 h18=>
 opH P_ G (bf v15 v18 (.bool false)) h18 fun v19 h19=>
 g_ v19 true (o_ G (Instr.fieldAt 54 v0 2) h19) h19 fun v20 h20=>
 g_ v19 true (o_ G (Instr.loadAt 3 v20) h20) h20 fun v21 h21=>
 g_ v19 true (o_ G (binOp .leq 3 v21 (.int .i64 1000)) h21) h21 fun v22 h22=>
 opH P_ G (bf v19 v22 (.bool false)) h22 fun v23 h23=>
 K .ret (upd (u10 (u10 (u10 r 1 v0 2 (.bool false) 3 v1 4 v2 5 v3 6 v3 7 v4 8 v5 9 v6 10 v7) 11 v7 12 v8 13 v9 14 v10 15 v11 16 v11 17 v12 18 v13 19 v14 20 v15) 21 v15 22 v16 23 v17 24 v18 25 v19 26 v19 27 v20 28 v21 29 v22 30 v23) 2 v23) h23
theorem aj0:Ent 31 124 [.tmp 2] S124:=ent_ (m:=md124) (c:=(Tryz.f124.body.getD .skip)) (fun _ _ _ _=>by kernel_rfl) Tryz.func124 rfl rfl rfl

def md125:Nat→Hint
 |_=>mh false [] [] [] false
def Nt (G:Hp) (K:EK) (r:Rg) (h:Hp):Prop:=
 K .ret (u2 r 35 (r 9) 8 (r 9)) h
def Ht:Prop:=
 o_ G (binOp .sub 3 (r 9) (.int .i64 1)) h fun v15 h15=>
 K .normal (u3 r 33 (r 9) 34 v15 9 v15) h15
def V3 (r:Rg) (h:Hp) (K:EK):Prop:=
 o_ G (binOp .gtr 3 (r 9) (.int .i64 1)) h fun v6 h6=>
 g_ v6 true (o_ G (Instr.loadAt 54 (r 4)) h6) h6 fun v7 h7=>
 g_ v6 true (fun K1=>K1 (r 9) h7) h7 fun v8 h8=>
 g_ v6 true (c_ G 153 #[v7,v8] h8) h8 fun v9 h9=>
 g_ v6 true (fun K1=>K1 (r 1) h9) h9 fun v10 h10=>
 g_ v6 true (fun K1=>K1 (r 9) h10) h10 fun v11 h11=>
 g_ v6 true (o_ G (binOp .sub 3 v10 v11) h11) h11 fun v12 h12=>
 g_ v6 true (o_ G (binOp .gtr 3 v9 v12) h12) h12 fun v13 h13=>
 opH P_ G (bf v6 v13 (.bool false)) h13 fun v14 h14=>
 (fun q=>cond v14
 (Ht G K q h14)
 (K (.exit 0) q h14))
 (upd (u10 r 22 (r 9) 23 v6 24 v6 25 v7 26 v8 27 v9 28 v10 29 v11 30 v12 31 v13) 32 v14)
def En:Prop:=
 bz (V3 G) r h (bh 0 (bq (Nt G K) K))
def Eo:Prop:=
 o_ G (binOp .gtr 3 (r 9) (r 1)) h fun v5 h5=>
 cond v5
 (En G K (u5 r 18 (r 9) 19 (r 1) 20 v5 21 (r 1) 9 (r 1)) h5)
 (En G K (u3 r 18 (r 9) 19 (r 1) 20 v5) h5)
def S125:Prop:=
 o_ G (Instr.box 54 (r 0)) h fun v0 h0=>
 o_ G (Instr.fieldAt 54 v0 1) h0 fun v1 h1=>
 o_ G (Instr.loadAt 3 v1) h1 fun v2 h2=>
 o_ G (binOp .add 3 (r 2) v2) h2 fun v3 h3=>
 o_ G (binOp .gtr 3 v3 (r 3)) h3 fun v4 h4=>
 (fun q=>cond v4
 (Eo G K (u2 q 17 (r 3) 9 (r 3)) h4)
 (Eo G K q h4))
 (u10 r 4 v0 8 (.int .i64 0) 10 (r 2) 11 v1 12 v2 13 v3 9 v3 14 v3 15 (r 3) 16 v4)
theorem ai9:Ent 36 125 [.tmp 8] S125:=ent_ (m:=md125) (c:=(Tryz.f125.body.getD .skip)) (fun _ _ _ _=>by kernel_rfl) Tryz.func125 rfl rfl rfl

def md153:Nat→Hint
 |_=>mh false [] [] [] false
def Ve (G:Hp) (K:EK) (r:Rg) (h:Hp):Prop:=
 K .ret (u2 r 19 (r 5) 4 (r 5)) h
def G4:Prop:=
 o_ G (Instr.fieldAt 54 (r 2) 1) h fun v5 h5=>
 o_ G (Instr.loadAt 3 v5) h5 fun v6 h6=>
 o_ G (binOp .sub 3 (r 1) v6) h6 fun v7 h7=>
 K .normal (u5 r 12 (r 1) 13 v5 14 v6 15 v7 1 v7) h7
def G5:Prop:=
 o_ G (binOp .add 3 (r 5) (r 1)) h fun v8 h8=>
 G4 G K (u4 r 16 (r 5) 17 (r 1) 18 v8 5 v8) h8
def Vd (r:Rg) (h:Hp) (K:EK):Prop:=
 o_ G (binOp .gtr 3 (r 1) (.int .i64 0)) h fun v4 h4=>
 cond v4
 (G5 G K (u2 r 10 (r 1) 11 v4) h4)
 (K (.exit 0) (u2 r 10 (r 1) 11 v4) h4)
def S153:Prop:=
 o_ G (Instr.box 54 (r 0)) h fun v0 h0=>
 o_ G (Instr.fieldAt 54 v0 1) h0 fun v1 h1=>
 o_ G (Instr.loadAt 3 v1) h1 fun v2 h2=>
 o_ G (binOp .sub 3 (r 1) v2) h2 fun v3 h3=>
 bz (Vd G) (u8 r 2 v0 4 (.int .i64 0) 5 (.int .i64 0) 6 (r 1) 7 v1 8 v2 9 v3 1 v3) h3 (bh 0 (bq (Ve G K) K))
theorem ag0:Ent 20 153 [.tmp 4] S153:=ent_ (m:=md153) (c:=(Tryz.f153.body.getD .skip)) (fun _ _ _ _=>by kernel_rfl) Tryz.func153 rfl rfl rfl

def md93:Nat→Hint
 |_=>mh false [] [] [] false
def S93:Prop:=
 o_ G (Instr.box 26 (r 0)) h fun v0 h0=>
 o_ G (Instr.alloc 54 true (.tuple #[])) h0 fun v1 h1=>
 o_ G (Instr.fieldAt 26 v0 7) h1 fun v2 h2=>
 o_ G (Instr.loadAt 3 v2) h2 fun v3 h3=>
 o_ G (Instr.fieldAt 26 v0 8) h3 fun v4 h4=>
 o_ G (Instr.loadAt 3 v4) h4 fun v5 h5=>
 o_ G (Instr.fieldAt 26 v0 9) h5 fun v6 h6=>
 o_ G (Instr.loadAt 3 v6) h6 fun v7 h7=>
 o_ G (Instr.build 54 #[(0,v3),(1,v5),(2,v7)]) h7 fun v8 h8=>
 opH P_ G (su (Instr.storeAt 54 v1 v8)) h8 fun v9 h9=>
 K .ret (u9 r 1 v0 2 v1 3 v2 4 v3 5 v4 6 v5 7 v6 8 v7 9 v8) h9
theorem enter93:Ent 10 93 [.cell 2 54] S93:=ent_ (m:=md93) (c:=(Tryz.f93.body.getD .skip)) (fun _ _ _ _=>by kernel_rfl) Tryz.func93 rfl rfl rfl

def md46:Nat→Hint
 |3=>mh false [0,1,0,4,15,31] [m_,e_,n_,m_,e_,n_] [false,true,false,false,false,false] false
 |_=>mh false [] [] [] false
def ar2 (G:Hp) (K:EK) (r:Rg) (h:Hp):Prop:=
 K .ret (upd r 4 (.int .i64 0)) h
def M3:Prop:=
 cond (r 18)
 (o_ G (Instr.fieldAt 26 (r 2) 11) h fun v14 h14=>
 o_ G (Instr.loadAt 3 v14) h14 fun v15 h15=>
 K .ret (u3 r 21 v14 22 v15 4 v15) h15)
 (ar2 G K r h)
def S46:Prop:=
 o_ G (Instr.box 26 (r 0)) h fun v0 h0=>
 o_ G (Instr.box 48 (r 1)) h0 fun v1 h1=>
 o_ G (Instr.fieldAt 48 v1 0) h1 fun v2 h2=>
 o_ G (Instr.loadAt 3 v2) h2 fun v3 h3=>
 opH P_ G (xEq .eql 3 (.tmp 0) (.const .nilFunc) v3 (.int .i64 1)) h3 fun v4 h4=>
 cond v4
 (w_ G h4 (Instr.loadAt 26 v0) h4 fun v5 h5=>
 c_ G 93 #[v5] h5 fun v6 h6=>h4.le h6∧
 p_ (Instr.fieldAt 48 v1 2) h6 fun v7 h7=>
 w_ G h4 (Instr.loadAt 3 v7) h7 fun v8 h8=>
 c_ G 31 #[v6,v8] h8 fun v9 h9=>
 K .ret (u3 (u10 r 2 v0 3 v1 4 (.int .i64 0) 5 v2 6 v3 8 v4 7 v4 9 v5 10 v6 11 v7) 12 v8 13 v9 4 v9) h9)
 (opH P_ G (xEq .eql 3 (.tmp 0) (.const .nilFunc) v3 (.int .i64 2)) h4 fun v10 h10=>
 cond v10
 (o_ G (Instr.fieldAt 26 v0 10) h10 fun v11 h11=>
 o_ G (Instr.loadAt 3 v11) h11 fun v12 h12=>
 K .ret (u2 (u10 r 2 v0 3 v1 4 (.int .i64 0) 5 v2 6 v3 8 v4 7 v4 15 v10 14 v10 16 v11) 17 v12 4 v12) h12)
 (opH P_ G (xEq .eql 3 (.tmp 0) (.const .nilFunc) v3 (.int .i64 3)) h10 fun v13 h13=>
 cond v13
 (M3 G K (upd (u10 r 2 v0 3 v1 4 (.int .i64 0) 5 v2 6 v3 8 v4 7 v4 15 v10 14 v10 19 v13) 18 v13) h13)
 (opH P_ G (xEq .eql 3 (.tmp 0) (.const .nilFunc) v3 (.int .i64 4)) h13 fun v16 h16=>
 M3 G K (u3 (u10 r 2 v0 3 v1 4 (.int .i64 0) 5 v2 6 v3 8 v4 7 v4 15 v10 14 v10 19 v13) 18 v13 20 v16 18 v16) h16)))
theorem enter46:Ent 23 46 [.tmp 4] S46:=ent_ (m:=md46) (c:=(Tryz.f46.body.getD .skip)) (fun _ _ _ _=>by kernel_rfl) Tryz.func46 rfl rfl rfl

def md110:Nat→Hint
 |8=>mh false [0,0,3,7,15,0,0,96,224,480,1023,2047] [n_,n_,n_,n_,m_,n_,n_,n_,n_,m_,n_,n_] (fs 12) false
 |9=>mh false [0,0,3,7,15,0,0,96,224,480,1023,2047] [n_,n_,n_,n_,m_,n_,n_,n_,n_,m_,n_,n_] (fs 12) false
 |_=>mh false [] [] [] false
def Wh (G:Hp) (K:EK) (r:Rg) (h:Hp):Prop:=
 K .ret (u2 r 53 (r 5) 4 (r 5)) h
def H7:Prop:=
 o_ G (binOp .add 3 (r 6) (.int .i64 1)) h fun v2 h2=>
 K .normal (u3 r 14 (r 6) 15 v2 6 v2) h2
def pk:Prop:=
 o_ G (binOp .add 3 (r 7) (.int .i64 1)) h fun v5 h5=>
 K .normal (u3 r 20 (r 7) 21 v5 7 v5) h5
def zj:Prop:=
 p_ (Instr.indexAt 108 (r 0) (r 6)) h fun v6 h6=>
 p_ (Instr.fieldAt 112 v6 0) h6 fun v7 h7=>
 w_ G h (Instr.loadAt 3 v7) h7 fun v8 h8=>
 p_ (Instr.indexAt 108 (r 1) (r 7)) h8 fun v9 h9=>
 p_ (Instr.fieldAt 112 v9 0) h9 fun v10 h10=>
 w_ G h (Instr.loadAt 3 v10) h10 fun v11 h11=>
 p_ (Builtin.max_ #[3,3] 3 #[v8,v11]) h11 fun v12 h12=>
 p_ (Instr.indexAt 108 (r 0) (r 6)) h12 fun v13 h13=>
 p_ (Instr.fieldAt 112 v13 1) h13 fun v14 h14=>
 w_ G h12 (Instr.loadAt 3 v14) h14 fun v15 h15=>
 p_ (Instr.indexAt 108 (r 1) (r 7)) h15 fun v16 h16=>
 p_ (Instr.fieldAt 112 v16 1) h16 fun v17 h17=>
 w_ G h12 (Instr.loadAt 3 v17) h17 fun v18 h18=>
 p_ (Builtin.min_ #[3,3] 3 #[v15,v18]) h18 fun v19 h19=>
 o_ G (binOp .lss 3 v12 v19) h19 fun v20 h20=>
 cond v20
 (o_ G (Instr.build 112 #[(0,v12),(1,v19)]) h20 fun v21 h21=>
 o_ G (Instr.buildSlice 108 1 #[(0,v21)]) h21 fun v22 h22=>
 o_ G (Builtin.append_ #[108,108] 108 #[(r 5),v22]) h22 fun v23 h23=>
 pk G K (u4 (u10 (u10 (u10 r 22 (r 0) 23 (r 6) 24 v6 25 v7 26 v8 27 (r 1) 28 (r 7) 29 v9 30 v10 31 v11) 32 v12 8 v12 33 (r 0) 34 (r 6) 35 v13 36 v14 37 v15 38 (r 1) 39 (r 7) 40 v16) 41 v17 42 v18 43 v19 9 v19 44 v12 45 v19 46 v20 47 (r 5) 48 v12 49 v19) 50 v21 51 v22 52 v23 5 v23) h23)
 (pk G K (u7 (u10 (u10 r 22 (r 0) 23 (r 6) 24 v6 25 v7 26 v8 27 (r 1) 28 (r 7) 29 v9 30 v10 31 v11) 32 v12 8 v12 33 (r 0) 34 (r 6) 35 v13 36 v14 37 v15 38 (r 1) 39 (r 7) 40 v16) 41 v17 42 v18 43 v19 9 v19 44 v12 45 v19 46 v20) h20)
def H6 (r:Rg) (h:Hp) (K:EK):Prop:=
 o_ G (Builtin.len_ #[108] 3 #[(r 1)]) h fun v3 h3=>
 o_ G (binOp .lss 3 (r 7) v3) h3 fun v4 h4=>
 cond v4
 (zj G K (u4 r 16 (r 7) 17 (r 1) 18 v3 19 v4) h4)
 (K (.exit 2) (u4 r 16 (r 7) 17 (r 1) 18 v3 19 v4) h4)
def H8:Prop:=
 bz (H6 G) (upd r 7 (.int .i64 0)) h (bh 2 (bh 1 (bq (H7 G K) K)))
def Wg (r:Rg) (h:Hp) (K:EK):Prop:=
 o_ G (Builtin.len_ #[108] 3 #[(r 0)]) h fun v0 h0=>
 o_ G (binOp .lss 3 (r 6) v0) h0 fun v1 h1=>
 cond v1
 (H8 G K (u4 r 10 (r 6) 11 (r 0) 12 v0 13 v1) h1)
 (K (.exit 0) (u4 r 10 (r 6) 11 (r 0) 12 v0 13 v1) h1)
def S110:Prop:=
 bz (Wg G) (u3 r 4 (.slice none 0 0) 5 (.slice none 0 0) 6 (.int .i64 0)) h (bh 0 (bq (Wh G K) K))
theorem ak4:Ent 54 110 [.tmp 4] S110:=ent_ (m:=md110) (c:=(Tryz.f110.body.getD .skip)) (fun _ _ _ _=>by kernel_rfl) Tryz.func110 rfl rfl rfl

def md55:Nat→Hint
 |5=>mh false [0,0,0,0,0,24,56,124,0,510,1023,2047] [n_,n_,m_,n_,n_,n_,m_,e_,n_,e_,e_,n_] (fs 12) false
 |_=>mh false [] [] [] false
def aq3 (G:Hp) (K:EK) (r:Rg) (h:Hp):Prop:=
 K .ret (u2 r 30 (r 9) 8 (r 9)) h
def Kv:Prop:=
 o_ G (binOp .add 3 (r 10) (.int .i64 1)) h fun v5 h5=>
 K .normal (u3 r 17 (r 10) 18 v5 10 v5) h5
def Kw:Prop:=
 w_ G h (Instr.loadAt 26 (r 4)) h fun v6 h6=>
 p_ (Instr.indexAt 22 (r 3) (r 10)) h6 fun v7 h7=>
 w_ G h (Instr.loadAt 28 v7) h7 fun v8 h8=>
 c_ G 41 #[v6,v8] h8 fun v9 h9=>
 c_ G 111 #[(r 1),v9,(r 2)] h9 fun v10 h10=>
 c_ G 110 #[(r 9),v10] h10 fun v11 h11=>
 Kv G K (u2 (u10 r 19 (r 9) 20 (r 1) 21 v6 22 (r 3) 23 (r 10) 24 v7 25 v8 26 v9 27 (r 2) 28 v10) 29 v11 9 v11) h11
def aq2 (r:Rg) (h:Hp) (K:EK):Prop:=
 o_ G (Builtin.len_ #[22] 3 #[(r 3)]) h fun v3 h3=>
 o_ G (binOp .lss 3 (r 10) v3) h3 fun v4 h4=>
 cond v4
 (Kw G K (u4 r 13 (r 10) 14 (r 3) 15 v3 16 v4) h4)
 (K (.exit 0) (u4 r 13 (r 10) 14 (r 3) 15 v3 16 v4) h4)
def S55:Prop:=
 o_ G (Instr.box 26 (r 0)) h fun v0 h0=>
 o_ G (Instr.build 112 #[(0,(.int .i64 0)),(1,(.int .i64 4611686018427387904))]) h0 fun v1 h1=>
 o_ G (Instr.buildSlice 108 1 #[(0,v1)]) h1 fun v2 h2=>
 bz (aq2 G) (u6 r 4 v0 8 (.slice none 0 0) 11 v1 12 v2 9 v2 10 (.int .i64 0)) h2 (bh 0 (bq (aq3 G K) K))
theorem enter55:Ent 31 55 [.tmp 8] S55:=ent_ (m:=md55) (c:=(Tryz.f55.body.getD .skip)) (fun _ _ _ _=>by kernel_rfl) Tryz.func55 rfl rfl rfl
end
end Go.Proofs.YtfflipnhffknnaaGreatDoor
end

section
namespace Go.Proofs.YtfflipnhffknnaaGreatDoor.Rv
open Go Go.HL Go.Proofs.Resv Go.Proofs.Srch
def jh:=jq bC (jq (jq @C0 (jq @dy @Cx)) (jq (jq @Pz @Py) (jq @ld3p @ln108)))
theorem Tv {A B:List (Int × Int)} {i:Nat} {x:Int × Int} (hx:A[i]?=some x):jf (A.take (i+1)) B=jf (A.take i) B++B.flatMap fun y=>capB x y:=by
 unfold jf
 rw [List.take_add_one,hx];simp
theorem am2 {B:List (Int × Int)} {j:Nat} {x y:Int × Int} (hy:B[j]?=some y):((B.take (j+1)).flatMap fun y=>capB x y)=((B.take j).flatMap fun y=>capB x y)++capB x y:=by
 rw [List.take_add_one,hy];simp
theorem Zo {A B:List (Int × Int)} (i:Nat):(jf (A.take i) B).length≤(jf A B).length:=by
 have e:jf A B=jf (A.take i) B++jf (A.drop i) B:=by
   unfold jf
   rw [← List.flatMap_append,List.take_append_drop]
 rw [e,List.length_append];omega
theorem cap_pre {B:List (Int × Int)} {x:Int × Int} (j:Nat):((B.take j).flatMap fun y=>capB x y).length≤(B.flatMap fun y=>capB x y).length:=by
 have e:(B.flatMap fun y=>capB x y)=((B.take j).flatMap fun y=>capB x y)++((B.drop j).flatMap fun y=>capB x y):=by
   rw [← List.flatMap_append,List.take_append_drop]
 rw [e,List.length_append];omega
theorem Zq {A B:List (Int × Int)} {i j:Nat} {x y:Int × Int} (hx:A[i]?=some x) (hy:B[j]?=some y):(jf (A.take i) B++(B.take j).flatMap fun y=>capB x y).length+(capB x y).length≤(jf A B).length:=by
 have h1:=Zo (A:=A) (B:=B) (i+1)
 rw [Tv hx]at h1
 have h2:=cap_pre (B:=B) (x:=x) (j+1)
 rw [am2 hy]at h2
 simp only [List.length_append]at*
 omega

theorem Q3 {G h:Hp} {va vb:Value} {A B:List (Int × Int)} (sA:Sees il G h va A) (sB:Sees il G h vb B) (hA:A.length≤1000000000) (hB:B.length≤1000000000) (hlen:(jf A B).length≤1000000000):
   aj P_ G 110 #[va,vb] h (fun u h'=>∃ip,Slc il 112 ip u (jf A B)∧HL.Sep [ip,h] h'∧Dis G h'):=by
 obtain ⟨a1,c1,rfl,_⟩:=id sA
 obtain ⟨a2,c2,rfl,_⟩:=id sB
 refine aj.assume fun d=>ak4 (by simp) ?_
 unfold S110
 generalize hKK:retK P_ G _ _=KK
 refine bv (fun m r h'=>∃(i:Nat) (ip:Hp) (v:Value),m=A.length-i∧i≤A.length∧r 0 = .slice a1 A.length c1∧r 1 = .slice a2 B.length c2∧r 5=v∧r 6 = .int .i64 i∧Slc il 112 ip v (jf (A.take i) B)∧HL.Sep [ip,h] h'∧Dis G h') ?_ (m:=A.length)
   ⟨0,noHp,.slice none 0 0,rfl,Nat.zero_le _,by simp (disch:=decide) only [jh],by simp (disch:=decide) only [jh],by simp (disch:=decide) only [jh],by simp only [jh]<;>rfl,Slc.nil,Sep.one.none,d⟩
 rintro m r h1 ⟨i,ip,v,rfl,hi,g0,g1,g5,g6,sl,s,d1⟩ X hX
 unfold Wg
 simp only [jh,g0,g6]
 refine ax (fun hlt=>?_) (fun hge=>?_)
 rotate_left
 · obtain rfl:i=A.length:=by omega
   try simp (disch:=first|decide|omega) only [jh,Nat.reduceAdd,Nat.reduceMul]
   unfold Wh
   rw [← hKK]
   try simp (disch:=decide) only [jh,g5]
   rw [List.take_length]at sl
   exact ⟨ip,sl,s,d1⟩
 obtain ⟨x,hx⟩:∃x,A[i]?=some x:=⟨_,List.getElem?_eq_getElem (by omega)⟩
 unfold H8
 refine bv (fun m r2 h'=>∃(j:Nat) (ip:Hp) (v:Value),m=B.length-j∧j≤B.length∧r2 0 = .slice a1 A.length c1∧r2 1 = .slice a2 B.length c2∧r2 5=v∧r2 6 = .int .i64 i∧r2 7 = .int .i64 j∧Slc il 112 ip v (jf (A.take i) B++(B.take j).flatMap fun y=>capB x y)∧HL.Sep [ip,h] h'∧Dis G h') ?_ (m:=B.length)
   ⟨0,ip,v,rfl,Nat.zero_le _,by simp (disch:=decide) only [jh,g0],by simp (disch:=decide) only [jh,g1],by simp (disch:=decide) only [jh,g5],by simp (disch:=decide) only [jh,g6],by simp only [jh]<;>rfl,by simpa using sl,s,d1⟩
 rintro m r2 h2 ⟨j,ip2,v2,rfl,hj,k0,k1,k5,k6,k7,sl2,s2,d2⟩ X2 hX2
 unfold H6
 simp only [jh,k1,k7]
 refine ax (fun hlt2=>?_) (fun hge2=>?_)
 rotate_left
 · obtain rfl:j=B.length:=by omega
   try simp (disch:=first|decide|omega) only [jh,Nat.reduceAdd,Nat.reduceMul]
   unfold H7
   simp (disch:=first|decide|omega) only [jh,k6]
   rw [List.take_length,← Tv hx]at sl2
   exact hX (A.length-(i+1)) _ _ (by omega) ⟨i+1,ip2,v2,rfl,by omega,by simp (disch:=decide) only [jh,k0],by simp (disch:=decide) only [jh,k1],by simp (disch:=decide) only [jh,k5],by simp only [jh]<;>rfl,sl2,s2,d2⟩
 obtain ⟨y,hy⟩:∃y,B[j]?=some y:=⟨_,List.getElem?_eq_getElem (by omega)⟩
 obtain ⟨b1,o1,rfl,x1,x2⟩:=Sees.pair (sA.up (s2.in 1 rfl) d2) hx
 obtain ⟨b2,o2,rfl,y1,y2⟩:=Sees.pair (sB.up (s2.in 1 rfl) d2) hy
 have ml:=Zq hx hy
 have hc:=am2 (x:=x) hy
 unfold zj
 simp (disch:=decide) only [jh,k0,k1,k6,k7,Rq (Int.natCast_nonneg i) hlt,Rq (Int.natCast_nonneg j) hlt2,x1,x2,y1,y2,max2p,min2p]
 refine ax (fun h5=>?_) (fun h5=>?_)
 · have hcap:capB x y=[(max x.1 y.1,min x.2 y.2)]:=by unfold capB;rw [if_pos h5]
   rw [hcap]at hc ml
   intro z hz gz
   generalize ez:Hp.set h2 z _=h4
   obtain ⟨l4,d4,b4⟩:=boxed ez hz d2 gz
   have s4:=s2.past (o:=(.cells #[.int .i64 (max x.1 y.1),.int .i64 (min x.2 y.2)] 112 (0,0))) hz
   rw [ez]at s4
   rw [k5]
   refine nl il (by decide) (M:=[(max x.1 y.1,min x.2 y.2)]) S7 eogr (by decide) s4 d4 sl2 (Sees.row (c:=il) (L:=[(max x.1 y.1,min x.2 y.2)]) b4 rfl (Nat.le_refl _)) (by simp only [List.length_cons,List.length_nil]at ml ⊢;omega) fun v5 a5 h6 sl5 s5 d5=>?_
   rw [List.append_assoc,← hc]at sl5
   unfold pk
   simp (disch:=first|decide|omega) only [jh,k7]
   exact hX2 (B.length-(j+1)) _ _ (by omega) ⟨j+1,a5,v5,rfl,by omega,by simp (disch:=decide) only [jh,k0],by simp (disch:=decide) only [jh,k1],by simp (disch:=decide) only [jh],by simp (disch:=decide) only [jh,k6],by simp only [jh]<;>rfl,sl5,s5,d5⟩
 · have hcap:capB x y=[]:=by unfold capB;rw [if_neg h5]
   rw [hcap,List.append_nil]at hc
   rw [← hc]at sl2
   unfold pk
   simp (disch:=first|decide|omega) only [jh,k7]
   exact hX2 (B.length-(j+1)) _ _ (by omega) ⟨j+1,ip2,v2,rfl,by omega,by simp (disch:=decide) only [jh,k0],by simp (disch:=decide) only [jh,k1],by simp (disch:=decide) only [jh,k5],by simp (disch:=decide) only [jh,k6],by simp only [jh]<;>rfl,sl2,s2,d2⟩
end Go.Proofs.YtfflipnhffknnaaGreatDoor.Rv
end

section
namespace Go.Proofs.YtfflipnhffknnaaGreatDoor
open Go Go.HL Go.Proofs.Resv Go.Proofs.Srch
def m8:=jq bC (jq (jq (jq @C0 @Cx) (jq @cf110 @cf111)) (jq (jq @cf41 @Fh) (jq @we @ln22)))
theorem Q7 {G h:Hp} {v cv:Value} {C:Conf} {tp bb:Nat} {T:Tb} {r:Int} {cells:List Cell} (hv:CV G h v C) (hw:C.w≤16) (hh:C.h≤16) (ts:Rv.TSee G h tp T) (gt:jj T) (fw:Few T bb) (hbb:bb≤50000) (sc:Sees cj G h cv cells) (hc:cells.length≤300):
   aj P_ G 55 #[v,.pointer (some ⟨tp,0,none⟩),.int .i64 r,cv] h (fun u h'=>∃ip,Slc Rv.il 112 ip u (gu T r (cells.map (numR C)))∧Sep [ip,h] h'∧Dis G h'):=by
 obtain ⟨sa,scap,rfl,_⟩:=id sc
 obtain ⟨ab,cb,ap,cp',ar,cr,az,cs,rfl,cA⟩:=hv
 refine aj.assume fun d=>enter55 (by simp) ?_
 unfold S55
 simp only [m8]
 intro xc hxc gxc x0 hx0 gx0
 generalize e1:Hp.set h xc _=h1 at*
 obtain ⟨l1,d1,q1⟩:=boxed e1 hxc d gxc
 generalize hOX:(Obj.cells _ _ _:Obj)=OX at e1 q1
 have s1:Sep [noHp.set xc OX,h] h1:=by rw [← e1];exact Sep.one.new hxc
 have s0:=s1.new (o := .cells #[.int .i64 0,.int .i64 4611686018427387904] 112 (0,0)) hx0
 have d0:=d1.set (o := .cells #[.int .i64 0,.int .i64 4611686018427387904] 112 (0,0)) gx0
 generalize Hp.set h1 x0 _=h0 at s0 d0 ⊢
 generalize hKK:retK P_ G _ _=KK
 refine bv (fun m p h'=>∃(i:Nat) (ip:Hp) (v:Value),m=cells.length-i∧i≤cells.length∧p 1 = .pointer (some ⟨tp,0,none⟩)∧p 2 = .int .i64 r∧p 3 = .slice sa cells.length scap∧p 4 = .pointer (some ⟨xc,0,none⟩)∧p 9=v∧p 10 = .int .i64 i∧
   Slc Rv.il 112 ip v (gu T r ((cells.take i).map (numR C)))∧Sep [ip,noHp.set xc OX,h] h'∧Dis G h') ?_ (m:=cells.length)
   ⟨0,noHp.set x0 (.cells #[.int .i64 0,.int .i64 4611686018427387904] 112 (0,0)),.slice (some ⟨x0,0,none⟩) 1 1,rfl,by omega,by simp (disch:=decide) only [m8],by simp (disch:=decide) only [m8],by simp (disch:=decide) only [m8],by simp (disch:=decide) only [m8],by simp (disch:=decide) only [m8],by simp only [m8];rfl,⟨some x0,1,[],rfl,by rw [af];rfl,rfl⟩,s0,d0⟩
 rintro m p h2 ⟨i,ip,v,rfl,hi,g1,g2,g3,g4,g9,g10,sl,s,d2⟩ X hX
 unfold aq2
 simp only [m8,g3,g10]
 refine ax (fun hlt=>?_) (fun hge=>?_)
 rotate_left
 · obtain rfl:i=cells.length:=by omega
   try simp (disch:=first|decide|omega) only [m8,Nat.reduceAdd,Nat.reduceMul]
   unfold aq3
   rw [← hKK]
   try simp (disch:=decide) only [m8,g9]
   rw [List.take_length]at sl
   exact ⟨ip,sl,(s.pick 1 rfl rfl).drop,d2⟩
 obtain ⟨c,hcx⟩:∃c,cells[i]?=some c:=⟨_,List.getElem?_eq_getElem (by omega)⟩
 obtain ⟨b,o,rfl,e1,e2⟩:=Sees.cell (sc.up (s.in 2 rfl) d2) hcx
 have htk:cells.take (i+1)=cells.take i++[c]:=by rw [List.take_add_one,hcx];rfl
 have qx:h2 xc=some OX:=s.at 1 rfl af
 rw [← hOX]at qx
 have cc:∀k,aa G h2 ⟨xc,k,none⟩=_:=fun k=>ai (ag qx)
 unfold Kw
 simp (disch:=decide) only [m8,g3,g4,g10,cc,qa (Int.natCast_nonneg i) hlt,e1,e2]
 refine (Ll (c:=c) (cA.up (s.in 2 rfl) d2).cv hw hh).mono ?_
 rintro _ h2 ⟨rfl,rfl⟩
 try simp only [m8,g1,g2]
 refine (Rv.Q6 (c:=numR C c) (r:=r) (ts.up (s.in 2 rfl) d2) (fun L hL=>by have:=fw L hL;omega)).mono ?_
 rintro v10 h5 ⟨ip2,sl2,t5,d5⟩
 have t:=(t5.pick 1 rfl rfl).open s
 try simp only [m8,g9]
 have f1:=qs gt fw r ((cells.take i).map (numR C))
 have f2:=qs gt fw r ((cells.take (i+1)).map (numR C))
 have f3:=yd fw r (numR C c)
 have e3:gu T r ((cells.take (i+1)).map (numR C))=jf (gu T r ((cells.take i).map (numR C))) (Rv.Mg T (numR C c) r):=by
   rw [htk,List.map_append];exact Jz
 have b1:(cells.take i).length*(bb+1)≤300*50001:=Nat.mul_le_mul (by rw [List.length_take];omega) (by omega)
 have b2:(cells.take (i+1)).length*(bb+1)≤300*50001:=Nat.mul_le_mul (by rw [List.length_take];omega) (by omega)
 rw [List.length_map]at f1 f2
 have f3':(Rv.Mg T (numR C c) r).length≤bb+1:=f3
 refine (Rv.Q3 (sl.see (by decide) (t.in 0 rfl)) (sl2.see (by decide) (t.in 3 rfl)) (by omega) (by omega) (by rw [← e3];omega)).mono ?_
 rintro v11 h6 ⟨ip3,sl3,t6,d6⟩
 have t7:=((t6.pick 1 rfl rfl).open t).sel (L':=[ip3,noHp.set xc OX,h]) [4,1,2] (by decide) rfl
 rw [← e3]at sl3
 try simp (disch:=first|decide|omega) only [m8,Nat.reduceAdd,Nat.reduceMul]
 unfold Kv
 simp (disch:=first|decide|omega) only [m8,g10]
 exact hX (cells.length-(i+1)) _ _ (by omega) ⟨i+1,ip3,v11,rfl,by omega,by simp (disch:=decide) only [m8,g1],by simp (disch:=decide) only [m8,g2],by simp (disch:=decide) only [m8,g3],by simp (disch:=decide) only [m8,g4],by simp (disch:=decide) only [m8],by simp only [m8]<;>rfl,sl3,t7,d6⟩
def lk:=jq bC (jq (jq (jq (jq @al103 @al142) (jq @Uz @ww)) (jq (jq @cf108 @cf109) (jq @ae2 @Ej))) (jq (jq (jq @Ei @ld103) (jq @ld142 @T2)) (jq (jq @ld3 @Ty) (jq @js (jq @ic @Lj)))))
theorem Ry {G h a q:Hp} {y v:Value} {Y Z:List (Int × Int)→Hp→Prop} {cc:List (Int × Int)→Bool} {Lt L:List (Int × Int)} {b1:Nat}
   (yl:HL.Yl P_ Rv.gapA G y Y Z cc) (ya:Y Lt a) (s:HL.Sep [a,q] h) (h1:q b1=some (.cells #[v] 142 (0,0))) (sv:Sees ju G q v L) (hl:L.length≤1000000000):
   aj P_ G 109 #[y,.pointer (some ⟨b1,0,none⟩)] h (fun _ h'=>HL.tn G q Y Z (HL.feed cc Lt L) h'):=by
 obtain ⟨sa,cap,rfl,_⟩:=id sv
 refine aj.assume fun d=>ak6 (by simp) ?_
 unfold S109
 generalize hTT:HL.feed cc Lt _=TT
 have c1:∀{h':Hp},q.le h'→∀j,aa G h' ⟨b1,j,none⟩=_:=fun l j=>ai (ag (l _ _ h1))
 have lq:=s.in 1 rfl
 simp only [lk,c1 lq]
 generalize hKK:retK P_ G _ _=KK
 refine bv (fun m p h3=>∃(i:Nat) (a:Hp) (Lt:List (Int × Int)),m=L.length-i∧i≤L.length∧p 0=y∧p 5 = .slice sa L.length cap∧p 6 = .int .i64 L.length∧p 7 = .int .i64 i∧Y Lt a∧HL.Sep [a,q] h3∧Dis G h3∧HL.feed cc Lt (L.drop i)=TT) ?_
   (m:=L.length) ⟨0,a,Lt,rfl,Nat.zero_le _,by simp (disch:=decide) only [lk],by simp (disch:=decide) only [lk],by simp (disch:=decide) only [lk],by simp only [lk]<;>rfl,ya,s,d,hTT⟩
 clear ya s d lq hTT
 clear Lt a h
 rintro m p h ⟨i,a,Lt,rfl,hi,p0,p5,p6,p7,ya,s,d,hTT⟩ X HX
 have lq:=s.in 1 rfl
 unfold Wi
 simp only [lk,p6,p7]
 refine ax (fun hlt=>?_) (fun hge=>?_)
 rotate_left
 · obtain rfl:i=L.length:=by omega
   rw [List.drop_of_length_le (Nat.le_refl _)]at hTT
   rw [← hKK]
   try simp only [lk]
   exact HL.tn.go s d ya hTT
 obtain ⟨x,hx⟩:∃x,L[i]?=some x:=⟨_,List.getElem?_eq_getElem (by omega)⟩
 obtain ⟨b',o,rfl,z0,z1⟩:=Sees.span (sv.up lq d) hx
 have hdr:L.drop i=x::L.drop (i+1):=by
   obtain ⟨hi',rfl⟩:=List.getElem?_eq_some_iff.1 hx
   exact List.drop_eq_getElem_cons hi'
 rw [hdr]at hTT
 unfold Ia
 simp (disch:=first|decide|exact au|exact am|omega|rfl) only [lk,p5,p7,Js (Int.natCast_nonneg i) hlt,z0,z1]
 intro b hb gb
 generalize eh:Hp.set h b _=h4
 obtain ⟨l4,d4,b4⟩:=boxed eh hb d gb
 have s4:HL.Sep [a,q] h4:=by rw [← eh];exact s.past hb
 have cx:∀j,aa G h4 ⟨b,j,none⟩=_:=fun j=>ai (ag b4)
 simp only [lk,cx,p0]
 refine ii ?_ (yl Lt x a q h4 ya s4 d4)
 rintro v h' ⟨a',rfl,s',d',hy⟩
 cases hc2:cc (Lt++[x])with
 |true=>
   rw [hc2,if_pos rfl]at hy
   rw [HL.Cr hc2]at hTT
   try simp only [lk]
   unfold H9
   simp (disch:=first|decide|omega) only [lk,p7]
   exact HX (L.length-(i+1)) _ _ (by omega) ⟨i+1,a',Lt++[x],rfl,by omega,by simp (disch:=decide) only [lk,p0],by simp (disch:=decide) only [lk,p5],by simp (disch:=decide) only [lk,p6],by simp only [lk]<;>rfl,hy,s',d',hTT⟩
 |false=>
   rw [hc2,if_neg (by decide)]at hy
   try simp only [lk]
   rw [← hKK]
   try simp only [lk]
   exact HL.tn.no s' d' hy hc2 hTT

theorem Rh {G h:Hp} {g cv:Value} {w k tp bb:Nat} {f:Nat→Nat→Int} {T:Tb} {r:Int} {cells:List Cell} (gs:GS G h g w k f) (ts:Rv.TSee G h tp T) (gt:jj T) (fw:Few T bb) (hbb:bb≤50000) (sc:Sees cj G h cv cells) (hc:cells.length≤300):
   aj P_ G 54 #[g,.pointer (some ⟨tp,0,none⟩),.int .i64 r,cv] h (fun u h'=>∃b1 v ip,u = .func (.func 109) #[] #[.pointer (some ⟨b1,0,none⟩)]∧Slc ju 151 ip v (gu T r (cells.map (numI w k)))∧Sep [ip,noHp.set b1 (.cells #[v] 142 (0,0)),h] h'∧Dis G h'):=by
 refine aj.assume fun d=>enter54 (by simp) ?_
 unfold S54
 try simp only [lk]
 refine (tf gs ts gt fw hbb sc hc).mono ?_
 rintro v h1 ⟨ip,sl,s,d1⟩
 obtain ⟨sa,cap,rfl,hcap⟩:=sl.len (by decide)
 try simp (disch:=first|decide|omega) only [lk,Nat.reduceAdd,Nat.reduceMul]
 intro b hb gb
 have s2:=s.new (o := .cells #[.slice none 0 0] 142 (0,0)) hb
 have d2:=d1.set (o := .cells #[.slice none 0 0] 142 (0,0)) gb
 generalize Hp.set h1 b _=h2 at s2 d2 ⊢
 have hk:h2 b=some (.cells [Value.slice none 0 0].toArray 142 (0,0)):=s2.at 0 rfl af
 rw [b8 sz142 rfl hk (by simp)]
 try simp only [lk,List.set_cons_zero]
 have s3:=s2.put (o := .cells #[.slice sa (gu T r (cells.map (numI w k))).length cap] 142 (0,0)) af
 rw [set_set]at s3
 exact ⟨b,_,ip,rfl,sl,s3.pick 1 rfl rfl,d2.set (d2 _ _ hk)⟩

theorem Qv {G h:Hp} {b1:Nat} {v:Value} {L:List (Int × Int)} {most:Int} (h1:h b1=some (.cells #[v] 142 (0,0))) (sv:Sees ju G h v L) (hl:L.length≤1000000000) (hm1:1≤most) (hm2:most≤100000):
   aj P_ G 53 #[.func (.func 109) #[] #[.pointer (some ⟨b1,0,none⟩)],.int .i64 most] h (fun u h'=>∃ip,Slc Rv.il 110 ip u (L.take most.toNat)∧HL.Sep [ip,h] h'∧Dis G h'):=by
 refine aj.assume fun d=>Uq (by simp) ?_
 unfold S53
 simp only [lk]
 intro mb hmb gmb lb hlb glb
 have s2:=((Sep.one (h:=h)).new (o := .cells #[.int .i64 most] 3 (0,0)) hmb).new (o := .cells #[.slice none 0 0] 103 (0,0)) hlb
 have d2:=(d.set (o := .cells #[.int .i64 most] 3 (0,0)) gmb).set (o := .cells #[.slice none 0 0] 103 (0,0)) glb
 generalize Hp.set (Hp.set h mb _) lb _=k2 at s2 d2 ⊢
 have cmb:∀j,aa G k2 ⟨mb,j,none⟩=_:=fun j=>ai (ag (s2.at 1 rfl af))
 have e1:decide (most<1)=false:=decide_eq_false (by omega)
 try simp only [lk,cmb,e1]
 unfold Ss
 try simp (disch:=decide) only [lk]
 obtain ⟨a,s3,sa⟩:=pa s2.none
 have ya:HL.GYb Rv.il 110 103 most lb mb [] a:=⟨⟨noHp,_,Slc.nil,sa⟩,by simp;omega⟩
 refine (Ry (Rv.Jx hm2) ya s3 h1 sv hl).mono ?_
 rintro _ h4 ⟨a4,s4,d4,z4⟩
 rw [HL.tg (by simp;omega)]at z4
 have gy:HL.GY Rv.il 110 103 most lb mb (L.take most.toNat) a4:=by
   unfold HL.Fin at z4
   simp only [List.nil_append,List.length_nil,Nat.sub_zero]at z4
   split at z4
   · exact z4.1
   · exact z4
 obtain ⟨ip,v,o,t4⟩:=gy
 have s5:HL.Sep [h,ip,noHp.set lb (.cells #[v] 103 (0,0)),noHp.set mb (.cells #[.int .i64 most] 3 (0,0))] h4:=by
   have:=s4.swap.split t4
   simpa using this
 have clb:∀j,aa G h4 ⟨lb,j,none⟩=_:=fun j=>ai (ag (s5.at 2 rfl af))
 try simp only [lk,clb]
 exact ⟨ip,o,(s5.take 2 rfl).swap,d4⟩
def dj:=jq bC (jq (jq (jq @rn (jq @je @qg)) (jq (jq @J8 @cf124) (jq @cf125 @cf153))) (jq (jq (jq @cf73 @fa54_0) (jq @fa54_1 @fa54_2)) (jq (jq @ld3 @ld54) (jq @Jl @true_and))))
abbrev kV (U A V:Int):Value := .agg #[.int .i64 U,.int .i64 A,.int .i64 V]
abbrev kO (U A V:Int):Obj := .cells #[.int .i64 U,.int .i64 A,.int .i64 V] 54 (0,0)

theorem Oq {G h:Hp} {U A V q:Int} (kb:KB U A V) (h0:0≤q) (h1:q≤V):
   aj P_ G 153 #[kV U A V,.int .i64 q] h (fun v h'=>v = .int .i64 (rx A q)∧h'=h):=by
 obtain ⟨ku1,ku2,ka1,ka2,kv1,kv2⟩:=kb
 refine quietly (ag0 (by simp) ?_)
 unfold S153
 simp (disch:=first|decide|omega) only [dj]
 intro kp hkp gkp
 have bk:(h.set kp (kO U A V)) kp=some (kO U A V):=af
 have l1:h.le (h.set kp (kO U A V)):=df hkp
 try simp (disch:=first|decide|omega) only [dj,Nat.reduceAdd,Nat.reduceMul]
 generalize Hp.set h kp _=h1 at bk l1 ⊢
 have ck:∀j,aa G h1 ⟨kp,j,none⟩=_:=fun j=>ai (ag bk)
 try simp (disch:=first|decide|omega) only [dj,Nat.reduceAdd,Nat.reduceMul,ck]
 have hbd:=Bp ka1 (show q≤1000 by omega)
 refine bv (fun m r h'=>h'=h1∧r 2 = .pointer (some ⟨kp,0,none⟩)∧∃s v:Int,r 5 = .int .i64 s∧r 1 = .int .i64 v∧v.toNat=m∧v≤1000 ∧ -1000≤v∧0≤s∧∃n:Nat,v≤n∧s+brk A n v=rx A q) ?_ (m:=(q-A).toNat)
   ⟨rfl,by simp (disch:=decide) only [dj],0,q-A,by simp (disch:=decide) only [dj],by simp only [dj],rfl,by omega,by omega,by omega,q.toNat,by omega,by unfold rx;omega⟩
 rintro m r h' ⟨rfl,g0,s,v,g5,g6,rfl,hv,hv2,hs,n,hn,hsum⟩ X hX
 unfold Vd
 simp only [dj,g6]
 by_cases hp:v>0
 · rw [gv hp]
   obtain ⟨n,rfl⟩:∃k,n=k+1:=⟨n-1,by omega⟩
   unfold brk at hsum
   rw [if_pos hp]at hsum
   have hb:=Ms ka1 n (v-A) (by omega)
   simp only [dj]
   unfold G5
   simp (disch:=first|decide|omega) only [dj,g5,g6]
   unfold G4
   simp (disch:=first|decide|omega) only [dj,g0,g6,ck]
   refine hX (v-A).toNat _ _ (by omega) ⟨rfl,by simp (disch:=decide) only [dj,g0],s+v,v-A,by simp (disch:=decide) only [dj],by simp only [dj],rfl,by omega,by omega,by omega,n,by omega,by omega⟩
 · rw [im hp]
   rw [Ux n (by omega)]at hsum
   simp only [dj]
   unfold Ve
   simp (disch:=decide) only [dj,g5]
   exact ⟨by rw [← hsum];simp,l1⟩

theorem Q2 {G h:Hp} {U A V x s v:Int} (kb:KB U A V) (hx1:1≤x) (hx2:x≤100000) (hs:0≤s) (hs2:s≤1000) (hv1:1≤v) (hv2:v≤V):
   aj P_ G 125 #[kV U A V,.int .i64 x,.int .i64 s,.int .i64 v] h (fun u h'=>u = .int .i64 (pq A x s v)∧h'=h):=by
 have kb':=kb
 obtain ⟨ku1,ku2,ka1,ka2,kv1,kv2⟩:=kb
 refine quietly (ai9 (by simp) ?_)
 unfold S125
 simp (disch:=first|decide|omega) only [dj]
 intro kp hkp gkp
 have bk:(h.set kp (kO U A V)) kp=some (kO U A V):=af
 have l1:h.le (h.set kp (kO U A V)):=df hkp
 try simp (disch:=first|decide|omega) only [dj,Nat.reduceAdd,Nat.reduceMul]
 generalize Hp.set h kp _=h1 at bk l1 ⊢
 have ck:∀j,aa G h1 ⟨kp,j,none⟩=_:=fun j=>ai (ag bk)
 try simp (disch:=first|decide|omega) only [dj,Nat.reduceAdd,Nat.reduceMul,ck]
 suffices k2:∀r:Rg,r 4 = .pointer (some ⟨kp,0,none⟩)→r 1 = .int .i64 x→r 9 = .int .i64 (min (min (s+A) v) x)→En G (retK P_ G [.tmp 8] fun u h'=>(u = .int .i64 (pq A x s v)∧h.le h')) r h1 by
   have k1:∀r:Rg,r 4 = .pointer (some ⟨kp,0,none⟩)→r 1 = .int .i64 x→r 9 = .int .i64 (min (s+A) v)→Eo G (retK P_ G [.tmp 8] fun u h'=>(u = .int .i64 (pq A x s v)∧h.le h')) r h1:=fun r e4 e1 e9=>by
     unfold Eo
     simp only [dj,e9,e1]
     refine ax (fun hb=>?_) (fun hb=>?_)
     · exact k2 _ (by simp (disch:=decide) only [dj,e4]) (by simp (disch:=decide) only [dj,e1]) (by simp only [dj];first|omega|(congr 1;omega))
     · exact k2 _ (by simp (disch:=decide) only [dj,e4]) (by simp (disch:=decide) only [dj,e1]) (by simp (disch:=decide) only [dj,e9];first|omega|(congr 1;omega))
   refine ax (fun hb=>?_) (fun hb=>?_)
   · exact k1 _ (by simp (disch:=decide) only [dj]) (by simp (disch:=decide) only [dj]) (by simp only [dj];first|omega|(congr 1;omega))
   · exact k1 _ (by simp (disch:=decide) only [dj]) (by simp (disch:=decide) only [dj]) (by simp (disch:=decide) only [dj];first|omega|(congr 1;omega))
 intro r e4 e1 e9
 unfold En
 refine bv (fun m r h'=>h'=h1∧r 4 = .pointer (some ⟨kp,0,none⟩)∧r 1 = .int .i64 x∧∃q:Int,r 9 = .int .i64 q∧q.toNat=m∧q≤V∧1≤q∧∃n:Nat,q≤n∧dq A x n q=pq A x s v) ?_ (m:=(min (min (s+A) v) x).toNat)
   ⟨rfl,e4,e1,min (min (s+A) v) x,e9,rfl,by omega,by omega,(min (min (s+A) v) x).toNat,by omega,rfl⟩
 rintro m r h' ⟨rfl,g0,g1,q,g9,rfl,hq,hq1,n,hn,hd⟩ X hX
 unfold V3
 simp only [dj,g9]
 obtain ⟨n,rfl⟩:∃k,n=k+1:=⟨n-1,by omega⟩
 unfold dq at hd
 by_cases hp:q>1
 · rw [gv hp]
   simp (disch:=first|decide|omega) only [dj,g0,g1,g9,ck]
   refine (Oq kb' (by omega) hq).mono ?_
   rintro _ _ ⟨rfl,rfl⟩
   have hbd:=Bp ka1 (show q≤1000 by omega)
   simp only [dj]
   refine ax (fun hb=>?_) (fun hb=>?_)
   · rw [if_pos ⟨hp,hb⟩]at hd
     unfold Ht
     simp (disch:=first|decide|omega) only [dj,g9]
     refine hX (q-1).toNat _ _ (by omega) ⟨rfl,by simp (disch:=decide) only [dj,g0],by simp (disch:=decide) only [dj,g1],q-1,by simp only [dj],rfl,by omega,by omega,n,by omega,hd⟩
   · rw [if_neg (by omega)]at hd
     unfold Nt
     simp (disch:=decide) only [dj,g9]
     exact ⟨by rw [hd],l1⟩
 · rw [im hp]
   rw [if_neg (by omega)]at hd
   simp only [dj,dv]
   unfold Nt
   simp (disch:=decide) only [dj,g9]
   exact ⟨by rw [hd],l1⟩

theorem Q4 {G h:Hp} {U A V:Int} (kb:KB U A V):aj P_ G 124 #[kV U A V] h (fun u h'=>u = .bool true∧h'=h):=by
 obtain ⟨ku1,ku2,ka1,ka2,kv1,kv2⟩:=kb
 refine quietly (aj0 (by simp) ?_)
 unfold S124
 simp only [dj]
 intro kp hkp gkp
 have bk:(h.set kp (kO U A V)) kp=some (kO U A V):=af
 have l1:h.le (h.set kp (kO U A V)):=df hkp
 try simp (disch:=first|decide|omega) only [dj,Nat.reduceAdd,Nat.reduceMul]
 generalize Hp.set h kp _=h1 at bk l1 ⊢
 have ck:∀j,aa G h1 ⟨kp,j,none⟩=_:=fun j=>ai (ag bk)
 try simp only [dj,ck,gv (show U≥1 from ku1),gv ku2,gv (show A≥1 from ka1),gv ka2,gv (show V≥1 from kv1),gv kv2]
 exact l1

theorem Ip {G h:Hp} {U A V n:Int} (kb:KB U A V) (hn:Bd n):
   aj P_ G 73 #[kV U A V,.int .i64 n] h (fun u h'=>∃ip,Slc intC 3 ip u (iu U A V n)∧Sep [ip,h] h'∧Dis G h'):=by
 have kb':=kb
 obtain ⟨ku1,ku2,ka1,ka2,kv1,kv2⟩:=kb
 refine aj.assume fun d=>enter73 (by simp) ?_
 unfold S73
 simp only [dj]
 intro kp hkp gkp
 have s1:=(Sep.one (h:=h)).past (o:=kO U A V) hkp
 try simp (disch:=first|decide|omega) only [dj,Nat.reduceAdd,Nat.reduceMul]
 generalize e1:Hp.set h kp _=h1 at*
 obtain ⟨l1,d1,bk⟩:=boxed e1 hkp d gkp
 have ck:∀{h':Hp},h1.le h'→∀j,aa G h' ⟨kp,j,none⟩=_:=fun l j=>ai (ag (l _ _ bk))
 have no:¬(1≤n∧n≤16)→∃ip,Slc intC 3 ip (.slice none 0 0) (iu U A V n)∧Sep [ip,h] h1∧Dis G h1:=fun hh=>by
   unfold iu
   rw [if_neg hh]
   exact ⟨noHp,Slc.nil,(Sep.one.cut l1).none,d1⟩
 by_cases q1:n<1
 · try simp only [dj,gv q1,dv]
   exact no (by omega)
 by_cases q2:n>16
 · try simp only [dj,im q1,gv q2,dv]
   exact no (by omega)
 try simp only [dj,im q1,im q2,ck (Hp.le.refl _)]
 refine (Q4 kb').mono ?_
 rintro _ h1 ⟨rfl,rfl⟩
 try simp only [dj]
 unfold ap5
 generalize hKK:retK P_ G _ _=KK
 have hnU:1*1≤n*U:=Int.mul_le_mul (by omega) ku1 (by omega) (by omega)
 have hnU2:n*U≤16*1000:=Int.mul_le_mul (by omega) ku2 (by omega) (by omega)
 have hwr:IntKind.i64.wrap (n*U)=n*U:=kv (by omega) (by omega)
 generalize he:n*U=e at hnU hnU2 hwr
 obtain ⟨W,hW⟩:∃W,W=iu U A V n:=⟨_,rfl⟩
 have hW2:W=prof A V e e.toNat 0 0:=by rw [hW];unfold iu;rw [if_pos (by omega),he]
 rw [← hW]at hKK
 refine bv (fun m r h'=>∃(ip:Hp) (v:Value) (M:List Int) (p sp:Int),m=(e-p).toNat∧r 1 = .int .i64 n∧r 2 = .pointer (some ⟨kp,0,none⟩)∧r 5=v∧r 6 = .int .i64 p∧r 7 = .int .i64 sp∧
     Slc intC 3 ip v M∧Sep [ip,h1] h'∧Dis G h'∧0≤p∧0≤sp∧sp≤V∧p≤e∧∃k:Nat,e-p≤k∧M++prof A V e k p sp=W) ?_ (m:=(e-0).toNat)
   ⟨noHp,_,[],0,0,rfl,by simp (disch:=decide) only [dj],by simp (disch:=decide) only [dj],by simp (disch:=decide) only [dj],by simp (disch:=decide) only [dj],by simp only [dj],Slc.nil,Sep.one.none,d1,by omega,by omega,by omega,by omega,e.toNat,by omega,hW2.symm⟩
 rintro m r h' ⟨ip,v,M,p,sp,rfl,g1,g2,g5,g6,g7,sl,s',d',hp0,hsp0,hspV,hpe,k,hk,hprof⟩ X hX
 have l':=s'.in 1 rfl
 unfold ap3
 simp (disch:=first|decide|omega) only [dj,g1,g2,g6,ck l']
 rw [he]
 by_cases hlt:p<e
 · rw [gv hlt]
   simp only [dj]
   unfold Ko
   simp (disch:=first|decide|omega) only [dj,g1,g2,g6,g7,ck l']
   rw [he]
   try simp (disch:=first|decide|omega) only [dj,Nat.reduceAdd,Nat.reduceMul]
   refine (Q2 kb' (x:=e-p) (s:=sp) (v:=V) (by omega) (by omega) hsp0 (by omega) (by omega) (by omega)).mono ?_
   rintro _ h' ⟨rfl,rfl⟩
   have hnx:=Tr ka1 (show 1≤e-p by omega) hsp0 kv1
   obtain ⟨k,rfl⟩:∃j,k=j+1:=⟨k-1,by omega⟩
   unfold prof at hprof
   rw [if_pos hlt]at hprof
   generalize pq A (e-p) sp V=x at*
   simp (disch:=first|decide|omega) only [dj]
   intro b hb gb
   have s2:=(s'.new (o := .cells #[.int .i64 (p+x)] 3 (0,0)) hb).sel (L':=[ip,noHp.set b (.cells #[.int .i64 (p+x)] 3 (0,0)),h1]) [1,0,2] (by decide) rfl
   have d2:=d'.set (o := .cells #[.int .i64 (p+x)] 3 (0,0)) gb
   generalize Hp.set h' b _=h2 at s2 d2 ⊢
   simp only [dj,g5]
   have hlen:M.length≤16000:=by
     have e1:=congrArg List.length hprof
     have e2:=Az (a:=A) (v:=V) (e:=e) e.toNat 0 0
     rw [hW2]at e1
     simp only [List.length_append]at e1
     omega
   refine dm intC (by decide) Db eo3 (by decide) (by decide) (M:=[p+x]) s2 d2 sl (Sees.row (c:=intC) (L:=[p+x]) (s2.at 1 rfl af) rfl (Nat.le_refl _)) (by simp;omega) fun v3 a3 h3 o3 s3 d3=>?_
   try simp (disch:=first|decide|omega) only [dj,Nat.reduceAdd,Nat.reduceMul]
   refine hX (e-(p+x)).toNat _ _ (by omega) ⟨a3,v3,M++[p+x],p+x,x,rfl,by simp (disch:=decide) only [dj,g1],by simp (disch:=decide) only [dj,g2],by simp only [dj],by simp (disch:=decide) only [dj],by simp (disch:=decide) only [dj],o3,s3.sel [0,2] (by decide) rfl,d3,by omega,by omega,by omega,by omega,k,by omega,?_⟩
   rw [← hprof]
   simp
 · rw [im hlt]
   try simp only [dj]
   have hz:prof A V e k p sp=[]:=by
     cases k with
     |zero=>rfl
     |succ k=>unfold prof;rw [if_neg hlt]
   rw [hz,List.append_nil]at hprof
   unfold ap4
   rw [← hKK]
   simp (disch:=decide) only [dj,g5]
   exact ⟨ip,by rw [← hprof];exact sl,(s'.swap.cut l1).swap,d'⟩

theorem Qz {G h:Hp} {U A V n:Int} (kb:KB U A V) (hn:Bd n):
   aj P_ G 31 #[kV U A V,.int .i64 n] h (fun u h'=>u = .int .i64 (Dc U A V n)∧h'=h):=by
 refine aj.assume fun d=>quietly (enter31 (by simp) ?_)
 unfold S31
 simp only [dj]
 intro kp hkp gkp
 have s1:=(Sep.one (h:=h)).past (o:=kO U A V) hkp
 try simp (disch:=first|decide|omega) only [dj,Nat.reduceAdd,Nat.reduceMul]
 generalize e1:Hp.set h kp _=h1 at*
 obtain ⟨l1,d1,bk⟩:=boxed e1 hkp d gkp
 have ck:∀j,aa G h1 ⟨kp,j,none⟩=_:=fun j=>ai (ag bk)
 try simp (disch:=first|decide|omega) only [dj,Nat.reduceAdd,Nat.reduceMul,ck]
 refine (Ip kb hn).mono ?_
 rintro u h2 ⟨ip,sl,s2,d2⟩
 obtain ⟨sa,cap,rfl,_⟩:=sl.len (by decide)
 try simp only [dj]
 exact ⟨rfl,l1.trans (s2.in 1 rfl)⟩
def pu:=jq bC (jq (jq (jq (jq @al54 @Se) (jq @cf31 @cf93)) (jq (jq @Bl @Bk) (jq @Cv (jq @Fy @Fx)))) (jq (jq (jq @Fu @T6) (jq @Fh @ld3)) (jq (jq @ld3p @ld54) (jq @vl (jq @sd @true_and)))))
theorem st_k {G h:Hp} {b:Nat} {U A V U' A' V':Int} {K:Unit→Hp→Prop} (hb:h b=some (kO U' A' V')):wpH P_ G (Instr.storeAt 54 (.pointer (some ⟨b,0,none⟩)) (kV U A V)) h K=K () (h.set b (kO U A V)):=by
 rw [qm (n:=3) sz54 hb rfl (by simp) (by intro v hv;simp [Value.cells]at hv;rcases hv with rfl|rfl|rfl<;>rfl)]
 rfl

theorem W8 {G h:Hp} {v:Value} {C:Conf} (hv:CV G h v C):aj P_ G 93 #[v] h (fun u h'=>u=kV C.un C.ac C.sp∧h'=h):=by
 obtain ⟨ab,cb,ap,cp,ar,cr,az,cs,rfl,ca⟩:=hv
 refine aj.assume fun d=>quietly (enter93 (by simp) ?_)
 unfold S93
 simp (disch:=decide) only [pu]
 intro xc hxc gxc
 generalize e1:Hp.set h xc _=h1 at*
 obtain ⟨l1,d1,q1⟩:=boxed e1 hxc d gxc
 intro xk hxk gxk
 generalize e2:Hp.set h1 xk _=h2 at*
 obtain ⟨l2,d2,q2⟩:=boxed e2 hxk d1 gxk
 have cc:∀k,aa G h2 ⟨xc,k,none⟩=_:=fun k=>ai (ag (l2 _ _ q1))
 try simp only [pu,cc]
 rw [st_k q2]
 have q3:=af (h:=h2) (b:=xk) (o:=kO C.un C.ac C.sp)
 have ck:∀k,aa G (h2.set xk (kO C.un C.ac C.sp)) ⟨xk,k,none⟩=_:=fun k=>ai (ag q3)
 try simp only [pu,ck]
 rw [← e2,set_set]
 exact l1.trans (df hxk)

theorem Ok {G h:Hp} {v:Value} {C:Conf} {m:Move} (hv:CV G h v C) (kb:KB C.un C.ac C.sp) (hn:Bd m.n):aj P_ G 46 #[v,A5 m] h (fun u h'=>u = .int .i64 (gj C m)∧h'=h):=by
 obtain ⟨ab,cb,ap,cp,ar,cr,az,cs,rfl,ca⟩:=hv
 refine aj.assume fun d=>quietly (enter46 (by simp) ?_)
 unfold S46
 simp only [pu]
 intro xc hxc gxc xm hxm gxm
 generalize e1:Hp.set h xc _=h1 at*
 obtain ⟨l1,d1,q1⟩:=boxed e1 hxc d gxc
 generalize e2:Hp.set h1 xm _=h2 at*
 obtain ⟨l2,d2,q2⟩:=boxed e2 hxm d1 gxm
 have cc:∀k,aa G h2 ⟨xc,k,none⟩=_:=fun k=>ai (ag (l2 _ _ q1))
 have cm:∀k,aa G h2 ⟨xm,k,none⟩=_:=fun k=>ai (ag q2)
 have ll:=l1.trans l2
 try simp (disch:=first|decide|omega) only [pu,Nat.reduceAdd,Nat.reduceMul,cm]
 by_cases k1:m.k=1
 · try simp only [pu,show (m.k==1)=true by simpa using k1,cc]
   refine (W8 (ca.up ll d2).cv).mono ?_
   rintro _ h2 ⟨rfl,rfl⟩
   refine ⟨Hp.le.refl _,?_⟩
   try simp (disch:=first|decide|omega) only [pu,Nat.reduceAdd,Nat.reduceMul,cm]
   refine (Qz kb hn).mono ?_
   rintro _ h2 ⟨rfl,rfl⟩
   try simp (disch:=first|decide|omega) only [pu,Nat.reduceAdd,Nat.reduceMul]
   exact ⟨by unfold gj;rw [if_pos k1],ll⟩
 try simp only [pu,show (m.k==1)=false by simpa using k1]
 by_cases k2:m.k=2
 · try simp only [pu,show (m.k==2)=true by simpa using k2,cc]
   exact ⟨by unfold gj;rw [if_neg k1,if_pos k2],ll⟩
 try simp only [pu,show (m.k==2)=false by simpa using k2]
 by_cases k3:m.k=3
 · try simp only [pu,show (m.k==3)=true by simpa using k3]
   unfold M3
   try simp (disch:=decide) only [pu,cc]
   exact ⟨by unfold gj;rw [if_neg k1,if_neg k2,if_pos (.inl k3)],ll⟩
 try simp only [pu,show (m.k==3)=false by simpa using k3]
 unfold M3
 by_cases k4:m.k=4
 · try simp (disch:=decide) only [pu,show (m.k==4)=true by simpa using k4,cc]
   exact ⟨by unfold gj;rw [if_neg k1,if_neg k2,if_pos (.inr k4)],ll⟩
 try simp (disch:=decide) only [pu,show (m.k==4)=false by simpa using k4]
 unfold ar2
 try simp only [pu]
 exact ⟨by unfold gj;rw [if_neg k1,if_neg k2,if_neg (by omega)],ll⟩
def ji:=jq bC (jq (jq (jq (jq @beq_self_eq_true.{0} (jq @je @bne_self_eq_false.{0})) (jq (jq @cf21 @cf23) (jq @cf28 @cf29))) (jq (jq @cf30 (jq @cf37 @cf42)) (jq (jq @cf46 @cf53) (jq @cf54 @cf55)))) (jq (jq (jq @ex2 (jq @Pz @Py)) (jq (jq @Cv @Fy) (jq @Fx @ld26))) (jq (jq (jq @Fh @ld3) (jq @ld3p @ld48p)) (jq (jq @ln103 @ln103p) (jq @ln108p @ln22)))))
theorem ia0p {G h:Hp} {a:Addr} {K:Value→Prop}:pw P_ G h (Instr.indexAt 110 (.pointer (some a)) (.int .i64 0)) K=K (.pointer (some (a.add 0))):=by kernel_rfl
theorem ia1p {G h:Hp} {a:Addr} {K:Value→Prop}:pw P_ G h (Instr.indexAt 110 (.pointer (some a)) (.int .i64 1)) K=K (.pointer (some (a.add 1))):=by kernel_rfl

theorem W2 {G h:Hp} {va vb:Value} {L:List (Int × Int)} (sA:∀{h':Hp},h.le h'→Dis G h'→Sees Rv.il G h' va L) (sB:∀{h':Hp},h.le h'→Dis G h'→Sees Rv.il G h' vb L) (hl:L.length≤1000000000) (d:Dis G h) {KK:EK} {r:Rg} (g18:r 18=va) (g19:r 19=vb)
   (H:∀r' h',S0 G KK r' h'):S2 G KK r h:=by
 obtain ⟨a1,c1,rfl,_⟩:=id (sA (Hp.le.refl _) d)
 obtain ⟨a2,c2,rfl,_⟩:=id (sB (Hp.le.refl _) d)
 unfold S2
 refine bv (fun m p h'=>∃i:Nat,m=L.length-i∧i≤L.length∧p 18 = .slice a1 L.length c1∧p 19 = .slice a2 L.length c2∧p 20 = .int .i64 i∧h.le h'∧Dis G h') ?_ (m:=L.length)
   ⟨0,rfl,Nat.zero_le _,by simp (disch:=decide) only [ji,g18],by simp (disch:=decide) only [ji,g19],by simp only [ji]<;>rfl,Hp.le.refl _,d⟩
 rintro m p h' ⟨i,rfl,hi,p18,p19,p20,l',d'⟩ X hX
 unfold at1
 simp only [ji,p18,p20]
 refine ax (fun hlt=>?_) (fun hge=>?_)
 rotate_left
 · try simp (disch:=first|decide|omega) only [ji,Nat.reduceAdd,Nat.reduceMul]
   exact H _ _
 obtain ⟨x,hx⟩:∃x,L[i]?=some x:=⟨_,List.getElem?_eq_getElem (by omega)⟩
 obtain ⟨b1,o1,rfl,x1,x2⟩:=Rv.Sees.pair (sA l' d') hx
 obtain ⟨b2,o2,rfl,y1,y2⟩:=Rv.Sees.pair (sB l' d') hx
 unfold Lb
 simp (disch:=decide) only [ji,p18,p19,p20,ix103p (Int.natCast_nonneg i) hlt,Rq (Int.natCast_nonneg i) hlt,ia0p,ia1p,x1,x2,y1,y2,show (x.1 != x.1)=false from bne_self_eq_false _,show (x.2 != x.2)=false from bne_self_eq_false _]
 unfold La
 simp (disch:=first|decide|omega) only [ji,p20]
 exact hX (L.length-(i+1)) _ _ (by omega) ⟨i+1,rfl,by omega,by simp (disch:=decide) only [ji,p18],by simp (disch:=decide) only [ji,p19],by simp only [ji]<;>rfl,l',d'⟩
theorem X0 {G:Hp} {v lv cv:Value} {C:Conf} {rb:Int} {l:List Hold} {cells:List Cell} {m:Move} (hl:tq Ju G lv l) (hlb:∀x∈l,Ql x) (hc:tq cj G cv cells) (bm:Bd m.n) (st:jo G) (hv:CV G noHp v C) (fit:Fit0 C) (hro:∀p∈C.ro,PB p):
   aj P_ G 17 #[v,lv,.int .i64 rb,cv,A5 m] noHp (fun u _=>u = .bool true):=by
 have hv0:=hv
 obtain ⟨ab,cb,ap,cp',ar,cr,az,cs,rfl,ca⟩:=hv
 refine aj.assume fun d=>enter17 (by simp) ?_
 unfold S17
 simp only [ji]
 intro xc hxc gxc x1 hx1 gx1
 generalize e1:Hp.set noHp xc _=h1 at*
 obtain ⟨l1,d1,q1⟩:=boxed e1 hxc d gxc
 generalize e2:Hp.set h1 x1 _=hz at*
 obtain ⟨l2,dz,q2⟩:=boxed e2 hx1 d1 gx1
 have L:=l1.trans (l2)
 have bc:=l2 _ _ (q1)
 have b1:=q2
 have cc:∀{h':Hp},hz.le h'→∀k,aa G h' ⟨xc,k,none⟩=_:=fun l k=>ai (ag (l _ _ bc))
 have c1:∀{h':Hp},hz.le h'→∀k,aa G h' ⟨x1,k,none⟩=_:=fun l k=>ai (ag (l _ _ b1))
 have ca0:=ca.up L dz
 have lz:=Hp.le.refl hz
 have aw:∀{h:Hp} {K:VK},(∀h',K (.bool true) h')→aj P_ G 23 #[] h K:=fun hK=>(awake12 st).mono fun u h' e=>by rw [e.1];exact hK h'
 try simp only [ji,cc lz]
 refine (small12 ca0.cv).mono ?_
 rintro _ hz ⟨⟨b,rfl,hb⟩,rfl⟩
 cases b with
 |false=>
   try simp (disch:=decide) only [ji,dv]
   exact aw fun h'=>by simp (disch:=decide) only [ji]
 |true=>
 have sm:=hb rfl
 have mk:li C:=Ff.2 sm.may
 obtain ⟨n1,n2,n3,n4⟩:=Ob sm
 try simp (disch:=first|decide|omega) only [ji]
 unfold at4
 have kb:KB C.un C.ac C.sp:=kb_of mk
 try simp -implicitDefEqProofs (maxSteps:=2000000) (disch:=first|decide|with_reducible exact Nat.ne_of_beq_eq_false rfl|exact au|exact am|omega|rfl|(simp;done)|fail) only [ji,cc lz]
 refine (N1 ca0.cv sm hl hlb).mono ?_
 rintro _ h4 ⟨a1,a2,t1,t2,rfl,tab1,tab2,s4,d4⟩
 have l4:=s4.in 2 rfl
 obtain ⟨gT,fT,lT⟩:=tab_ok (C.w*C.h).toNat l
 generalize hn:(C.w*C.h).toNat=n at*
 try simp only [ji,cc l4]
 refine (yw (ca0.up l4 d4).cv fit).mono ?_
 rintro u6 k6 ⟨⟨_,_,_,_,_,_,_,_,co6⟩,dk6⟩
 have lk6:h4.le k6:=co6.sep.in 4 rfl
 try simp (disch:=first|decide|omega) only [ji,Nat.reduceAdd,Nat.reduceMul]
 refine (qr (co6.cv (Hp.le.refl _)) st hro (by have:=fit.st;unfold Room at this;omega)).mono ?_
 rintro _ h5 ⟨l5,d5,hmk⟩
 obtain ⟨_,ga,gp,kb',rfl,go,s5⟩|⟨hno,_⟩:=hmk
 rotate_left
 · exact absurd mk hno
 have lz5:hz.le h5:=l4.trans (lk6.trans l5)
 try simp only [ji,cc lz5]
 refine (O6 (U:=C.un) (A:=C.ac) (V:=C.sp)).mono ?_
 rintro _ h7 (⟨_,ak,kp,rfl,kpk,s7,d7⟩|⟨hno,_⟩)
 rotate_left
 · exact absurd kb hno
 have sc:∀{h':Hp},Dis G h'→Sees cj G h' cv cells:=fun d=>hc _ d
 obtain ⟨sa,scap,rfl,_⟩:=id (sc d7)
 try simp only [ji]
 refine ax (fun hgt=>?_) (fun hle=>?_)
 · try simp (disch:=first|decide|omega) only [ji,Nat.reduceAdd,Nat.reduceMul,dv]
   exact aw fun h'=>by simp only [ji]
 unfold at3
 try simp (disch:=decide) only [ji]
 have hcl:cells.length≤20:=by omega
 refine dm cj (by decide) (L:=[]) (M:=cells) un22 eocell (by decide) (by decide) s7.none d7 Slc.nil (sc d7) (by simp;omega) fun v8 ip8 h8 o8 s8 d8=>?_
 rw [List.nil_append]at o8
 have l8:h5.le h8:=s8.in 2 rfl
 refine (Rh (bb:=100) (r:=rb) (go.gs.up ((s5.in 0 rfl).trans l8) d8) ((tab1.see (s4.in 0 rfl)).up (lk6.trans (l5.trans l8)) d8) gT fT (by omega) (o8.see (by decide) (s8.in 0 rfl)) (by omega)).mono ?_
 rintro _ h9 ⟨b9,v9,ip9,rfl,sl9,s9,d9⟩
 have l9:h8.le h9:=s9.in 2 rfl
 have hfl:=qs gT fT rb (cells.map (numI (wC C) (kC C)))
 rw [List.length_map]at hfl
 have hfl2:cells.length*(100+1)≤20*101:=Nat.mul_le_mul hcl (by omega)
 have hmap:cells.map (numI (wC C) (kC C))=cells.map (numR C):=List.map_congr_left fun c _=>num_eq mk c
 refine (Qv (most:=10000) (s9.at 1 rfl af) (sl9.see (by decide) (s9.in 0 rfl)) (by omega) (by decide) (by decide)).mono ?_
 rintro v10 h10 ⟨ip10,sl10,s10,d10⟩
 have l10:h9.le h10:=s10.in 1 rfl
 have lz10:hz.le h10:=lz5.trans (l8.trans (l9.trans l10))
 rw [List.take_of_length_le (by show _≤10000;omega),hmap]at sl10
 try simp only [ji,cc lz10]
 obtain ⟨w16,k16⟩:C.w≤16∧C.h≤16:=by obtain ⟨_,_,_,a,_,b⟩:=wk_of mk;omega
 refine (Q7 (bb:=100) (r:=rb) (ca0.up lz10 d10).cv w16 k16 ((tab2.see (s4.in 1 rfl)).up (lk6.trans (l5.trans (l8.trans (l9.trans l10)))) d10) gT fT (by omega) (sc d10) (by omega)).mono ?_
 rintro v11 h11 ⟨ip11,sl11,s11,d11⟩
 have t9:=((((s11.pick 1 rfl rfl).open s10).pick 1 rfl rfl).open s9).pick 2 rfl rfl
 have t8:=(t9.open s8).sel (L':=[h5,ip10,ip11,ak]) [2,5,6,1] (by decide) rfl
 obtain ⟨B,sB,tB⟩:=HL.Sep.pack [h5,ip10,ip11] (R:=[ak]) t8
 have dB:Dis G B:=fun x o hx=>d11 x o (sB.in 0 rfl x o hx)
 have lB:hz.le B:=lz5.trans (tB.in 0 rfl)
 have hfl3:(gu (tabL n l) rb (cells.map (numR C))).length≤100000:=by rw [← hmap];omega
 have seeA:∀{h':Hp},B.le h'→Dis G h'→Sees Rv.il G h' v10 (gu (tabL n l) rb (cells.map (numR C))):=fun l d=>sl10.see (by decide) ((tB.in 1 rfl).trans l)
 have seeB:∀{h':Hp},B.le h'→Dis G h'→Sees Rv.il G h' v11 (gu (tabL n l) rb (cells.map (numR C))):=fun l d=>sl11.see (by decide) ((tB.in 2 rfl).trans l)
 generalize gu (tabL n l) rb (cells.map (numR C))=FL at seeA seeB hfl3 sl10 sl11 ⊢
 obtain ⟨x10,y10,rfl,_⟩:=sl10.len (by decide)
 obtain ⟨x11,y11,rfl,_⟩:=sl11.len (by decide)
 refine ⟨B,sB.in 0 rfl,?_⟩
 try simp only [ji,show ((FL.length:Int) != (FL.length:Int))=false from bne_self_eq_false _,cc lB]
 have lB11:B.le h11:=sB.in 0 rfl
 refine (yw (ca0.up (lB.trans lB11) d11).cv fit).mono ?_
 rintro u12 h12 ⟨⟨pb,pp_,pr,pz,vb,vp,vr,vz,co⟩,d12⟩
 have l12:h11.le h12:=co.sep.in 4 rfl
 refine ⟨lB11.trans l12,?_⟩
 try simp only [ji,c1 lB]
 have s12:=(co.sep.sel (L':=[h11,pb,pp_,pr,pz]) [4,0,1,2,3] (by decide) rfl).open sB
 refine (Fj (m:=m) (co.cv (Hp.le.refl _)) kpk (s12.pick 1 rfl rfl) bm).mono ?_
 rintro _ h13 ⟨rfl,a13,k13,s13,d13⟩
 refine ⟨s13.in 1 rfl,?_⟩
 try simp (disch:=first|decide|omega) only [ji,Nat.reduceAdd,Nat.reduceMul,cc lB,c1 lB]
 have lB13:B.le h13:=s13.in 1 rfl
 refine (Ok (ca0.up (lB.trans lB13) d13).cv kb bm).mono ?_
 rintro _ h13 ⟨rfl,rfl⟩
 try simp only [ji,show (gj C m != gj C m)=false from bne_self_eq_false _]
 refine W2 (fun l d=>seeA (lB13.trans l) d) (fun l d=>seeB (lB13.trans l) d) (by omega) d13 (by simp (disch:=decide) only [ji]) (by simp (disch:=decide) only [ji]) fun r' h'=>?_
 unfold S0
 simp only [ji]
 exact aw fun h'=>by simp only [ji]
end Go.Proofs.YtfflipnhffknnaaGreatDoor
end

section
namespace Go.Proofs.YtfflipnhffknnaaGreatDoor
open Go Go.HL Go.ChangeShapes Go.WideShapes Go.RowKit
theorem Zd:ownKnob P_.godebug=none:=by kernel_rfl
theorem Zz:laidOutB P_=true:=by kernel_rfl
theorem Z6:P_.globalNamed "skep/grid.steps" = some 0:=by kernel_rfl
theorem tSteps:(P_.globals[0]?).map (·.type)=some 245:=by kernel_rfl

abbrev Jp:List (String × DataW Unit):=[("skep/grid.steps",Rows.laid_skep_grid_steps)]

theorem al5 (os:Os) (args:Array Value):laidMetH P_ Jp ((World.doorLaid P_ 400 os).forCall (fun _ _=>0) ⟨#[],args,[]⟩).memory:=
 laidMetH_of_parts3 (fuel:=8) (laidMet_of_run' 8 (by kernel_rfl) (by kernel_rfl)) (by kernel_rfl) (by kernel_rfl)

theorem P4 {H:Type} {enc:TypeId × Value→H} {P:Program} {w:World} {base:Nat} {spare:Nat→Bool} {held:Bool} {e:TypeId} {fuel:Nat} {cs:List Value} {y:DataW H × List MemPlace} {tos:List (TypeId × Nat)} (ht:ff P e=some tos)
   (h:DataW.trod enc P w base spare held fuel e cs=some y):cs.length=P.cellsOf e∧∃(xs:List (DataW H × List MemPlace)) (m:Nat),y=(.agg (xs.map (·.1)),xs.flatMap (·.2))∧xs.length=tos.length∧∀(i:Nat) (t o:Nat),tos[i]?=some (t,o)→DataW.trod enc P w base spare held m t ((cs.drop o).take (P.cellsOf t))=xs[i]?:=by
 unfold ff at ht
 split at ht
 · rename_i fs hfs
   obtain ⟨xs,n,_,h0,h1,h2,h3⟩:=DataW.trod_struct hfs h
   simp only [Option.some.injEq]at ht
   subst ht
   refine ⟨h1,xs,n,h0,by simp [h2],fun i t o hi=>?_⟩
   rw [List.getElem?_map,Array.getElem?_toList]at hi
   cases q:fs[i]? with
   |none=>rw [q]at hi;cases hi
   |some f=>
     rw [q]at hi
     simp only [Option.map_some,Option.some.injEq,Prod.mk.injEq]at hi
     obtain ⟨rfl,rfl⟩:=hi
     exact h3 i f q
 · cases ht

theorem un3i:P_.underlying 3=some (.int .i64):=by kernel_rfl
theorem c3:P_.cellsOf 3=1:=by kernel_rfl
theorem c28:P_.cellsOf 28=2:=by kernel_rfl
theorem c81:P_.cellsOf 245=8:=by kernel_rfl
theorem sf28:ff P_ 28=some [(3,0),(3,1)]:=by kernel_rfl

theorem Ar {H:Type} {enc:TypeId × Value→H} {w:World} {base:Nat} {spare:Nat→Bool} {held:Bool} {m:Nat} {cs:List Value} {x:DataW H × List MemPlace} {a b:Int}
   (h:DataW.trod enc P_ w base spare held m 28 cs=some x) (e:x.1 = .agg [.lit (.int .i64 a),.lit (.int .i64 b)]):cs=[.int .i64 a,.int .i64 b]:=by
 obtain ⟨hl,xs,n,rfl,hxl,d⟩:=P4 sf28 h
 rw [c28]at hl
 match cs,hl,xs,hxl with
 |[v0,v1],_,[x0,x1],_=>
 have h0:=d 0 3 0 rfl
 have h1:=d 1 3 1 rfl
 rw [c3]at h0 h1
 obtain ⟨k0,e0,f0,_⟩:=DataW.trod_int un3i (show DataW.trod _ _ _ _ _ _ n 3 _=some x0 from h0)
 obtain ⟨k1,e1,f1,_⟩:=DataW.trod_int un3i (show DataW.trod _ _ _ _ _ _ n 3 _=some x1 from h1)
 simp at e0 e1
 subst e0 e1 f0 f1
 simp at e
 obtain ⟨rfl,rfl⟩:=e
 rfl

theorem len8 {α:Type} {L:List α} (h:L.length=8):∃a b c d e f g i,L=[a,b,c,d,e,f,g,i]:=by
 match L,h with
 |[a,b,c,d,e,f,g,i],_=>exact ⟨a,b,c,d,e,f,g,i,rfl⟩

theorem of_laid {W:World} (h:laidMetH P_ Jp W):jo (ground W):=by
 rw [MakeChecks.laidMetH_plain _ _ _ (by kernel_rfl)]at h
 obtain ⟨ps,⟨g0,t0,cs0,f0,p0,q0,hg0,ht0,hv0,hd0,_,_⟩,_,_⟩:=h
 obtain rfl:=Option.some.inj (Z6.symm.trans hg0)
 obtain rfl:=Option.some.inj (tSteps.symm.trans ht0)
 obtain ⟨xs,m,rfl,hx,hl,hxl,hel⟩:=DataW.trod_array un81 hd0
 rw [c81]at hl
 rw [c28]at hel
 simp only [Prod.mk.injEq]at hx
 obtain ⟨hx,_⟩:=hx
 have hobj:∃e f,W.heap[0]?=some (.cells cs0 e f):=by
   unfold World.var? at hv0
   rw [Z6]at hv0
   simp only [Option.bind_some]at hv0
   split at hv0
   · rename_i c e f hc
     cases hv0
     exact ⟨e,f,hc⟩
   · cases hv0
 obtain ⟨e,f,hobj⟩:=hobj
 refine ⟨e,f,?_⟩
 show W.heap[0]?=_
 rw [hobj]
 match xs,hxl with
 |[x0,x1,x2,x3],_=>
 have h0:=hel 0 (by decide)
 have h1:=hel 1 (by decide)
 have h2:=hel 2 (by decide)
 have h3:=hel 3 (by decide)
 unfold Rows.laid_skep_grid_steps at hx
 simp only [List.map_cons,List.map_nil,DataW.agg.injEq,List.cons.injEq]at hx
 have k0:=Ar (show DataW.trod _ _ _ _ _ _ m 28 _=some x0 from h0) hx.1.symm
 have k1:=Ar (show DataW.trod _ _ _ _ _ _ m 28 _=some x1 from h1) hx.2.1.symm
 have k2:=Ar (show DataW.trod _ _ _ _ _ _ m 28 _=some x2 from h2) hx.2.2.1.symm
 have k3:=Ar (show DataW.trod _ _ _ _ _ _ m 28 _=some x3 from h3) hx.2.2.2.1.symm
 obtain ⟨cs⟩:=cs0
 obtain ⟨a0,a1,a2,a3,a4,a5,a6,a7,rfl⟩:=len8 hl
 simp at k0 k1 k2 k3
 obtain ⟨rfl,rfl⟩:=k0
 obtain ⟨rfl,rfl⟩:=k1
 obtain ⟨rfl,rfl⟩:=k2
 obtain ⟨rfl,rfl⟩:=k3
 rfl
section
theorem wc {H:Type} {P:Program} {ts:List TypeId} {ds:List (DataW H)} (h:(DataW.weightsEach P ts ds).all (· ≤ reachBytes)=true) {j:Nat} {t:TypeId} {d:DataW H} (ht:ts[j]?=some t) (hd:ds[j]?=some d):px P t d:=fun n hn=>by
 simpa using List.all_eq_true.1 h n (DataW.weights_mem_each ht hd n hn)

theorem vu {P:Program} {w:World} {r:Reach} {base:Nat} {t:TypeId} {v:Value} {tos:List (TypeId × Nat)} (ht:ff P t=some tos) (hv:Value.okWide P w r base t v):∃cs:Array Value,v = .agg cs:=by
 unfold ff at ht
 split at ht
 · rename_i fs hfs
   obtain ⟨cs,rfl,_⟩:=okWide_struct hfs hv
   exact ⟨cs,rfl⟩
 · cases ht

theorem sf30:ff P_ 30=some [(28,0),(4,2)]:=by kernel_rfl
theorem sf95:ff P_ 234=some [(28,0),(168,2)]:=by kernel_rfl
theorem sf26:ff P_ 26=some [(3,0),(3,1),(3,2),(22,3),(22,4),(23,5),(24,6),(3,7),(3,8),(3,9),(3,10),(3,11),(3,12),(3,13),(3,14),(4,15)]:=by kernel_rfl
theorem un4b:P_.underlying 4=some .bool:=by kernel_rfl
theorem c4:P_.cellsOf 4=1:=by kernel_rfl
theorem c22:P_.cellsOf 22=1:=by kernel_rfl
theorem c23:P_.cellsOf 23=1:=by kernel_rfl
theorem c24:P_.cellsOf 24=1:=by kernel_rfl
theorem c26:P_.cellsOf 26=16:=by kernel_rfl
theorem c30:P_.cellsOf 30=3:=by kernel_rfl
theorem c57:P_.cellsOf 168=1:=by kernel_rfl
theorem c95:P_.cellsOf 234=3:=by kernel_rfl

section
variable {H:Type} {enc:TypeId × Value→H} {w:World} {base:Nat} {spare:Nat→Bool} {held:Bool}

theorem len2 {α:Type} {L:List α} (h:L.length=2):∃a b,L=[a,b]:=by
 match L,h with
 |[a,b],_=>exact ⟨a,b,rfl⟩
theorem len3 {α:Type} {L:List α} (h:L.length=3):∃a b c,L=[a,b,c]:=by
 match L,h with
 |[a,b,c],_=>exact ⟨a,b,c,rfl⟩

theorem wu {m:Nat} {cs:List Value} {y:DataW H × List MemPlace} (h:DataW.trod enc P_ w base spare held m 28 cs=some y):∃c:Cell,cs=cj.enc c∧Bd c.1∧Bd c.2:=by
 obtain ⟨hl,d⟩:=uj sf28 h
 rw [c28]at hl
 obtain ⟨v0,v1,rfl⟩:=len2 hl
 obtain ⟨m0,z0,e0⟩:=d 0 _ _ rfl
 obtain ⟨m1,z1,e1⟩:=d 1 _ _ rfl
 rw [c3]at e0 e1
 obtain ⟨x0,f0,b0⟩:=ia un3i e0
 obtain ⟨x1,f1,b1⟩:=ia un3i e1
 simp at f0 f1
 subst f0 f1
 exact ⟨(x0,x1),rfl,b0,b1⟩
theorem Fb {m:Nat} {cs:List Value} {y:DataW H × List MemPlace} (h:DataW.trod enc P_ w base spare held m 30 cs=some y):∃p:Pose,cs=uw.enc p∧PB p:=by
 obtain ⟨hl,d⟩:=uj sf30 h
 rw [c30]at hl
 obtain ⟨v0,v1,v2,rfl⟩:=len3 hl
 obtain ⟨m0,z0,e0⟩:=d 0 _ _ rfl
 obtain ⟨m1,z1,e1⟩:=d 1 _ _ rfl
 rw [c28]at e0
 rw [c4]at e1
 obtain ⟨c,f0,b0⟩:=wu e0
 obtain ⟨b,f1⟩:=P5 un4b e1
 simp [cj]at f0 f1
 obtain ⟨rfl,rfl⟩:=f0
 subst f1
 exact ⟨⟨c.1,c.2,b⟩,rfl,b0⟩

def RawOk (G:Hp) (r:Raw):Prop:=∃L:List Int,r.n=L.length∧Room L.length 8∧∀h,Dis G h→Sees icC G h (.slice r.a r.n r.c) L

theorem Au {n bytes:Nat} (h:n*bytes≤reachBytes) (hb:bytes≤40):Room n bytes:=by
 unfold Room
 rw [show reachBytes=140737488351232 from rfl]at h
 rw [Nat.add_mul,Nat.mul_assoc]
 have:192*bytes≤7680:=by omega
 omega

theorem raw_dec {m:Nat} {cs:List Value} {y:DataW H × List MemPlace} (h:DataW.trod enc P_ w base spare held m 234 cs=some y) (hw:px P_ 234 y.1):∃r:Raw,cs=rawC.enc r∧RawOk (ground w) r:=by
 obtain ⟨hl,d⟩:=Dt sf95 h hw
 rw [c95]at hl
 obtain ⟨v0,v1,v2,rfl⟩:=len3 hl
 obtain ⟨m0,z0,e0,_⟩:=d 0 _ _ rfl
 obtain ⟨m1,z1,e1,w1⟩:=d 1 _ _ rfl
 rw [c28]at e0
 rw [c57]at e1
 obtain ⟨c,f0,b0⟩:=wu e0
 obtain ⟨a,n,cap,L,f1,hL,hs,hg,_⟩:=qv icC (fun _=>True) Db c3 (by decide) (fun _ _ _ h _=>let ⟨x,e,_⟩:=ia un3i h;⟨x,e,trivial⟩) e1 w1
 simp [cj]at f0 f1
 obtain ⟨rfl,rfl⟩:=f0
 subst f1
 rw [show P_.bytesOf 3=8 by kernel_rfl]at hs
 subst hL
 exact ⟨⟨c.1,c.2,a,L.length,cap⟩,rfl,L,rfl,Au hs (by decide),hg⟩

theorem len16 {α:Type} {L:List α} (h:L.length=16):∃a b c d e f g i j k l m n o p q,L=[a,b,c,d,e,f,g,i,j,k,l,m,n,o,p,q]:=by
 match L,h with
 |[a,b,c,d,e,f,g,i,j,k,l,m,n,o,p,q],_=>exact ⟨a,b,c,d,e,f,g,i,j,k,l,m,n,o,p,q,rfl⟩

theorem am0 {m:Nat} {cs:List Value} {y:DataW H × List MemPlace} (h:DataW.trod enc P_ w base spare held m 26 cs=some y) (hw:px P_ 26 y.1):
   ∃C:Conf,(∀h,Dis (ground w) h→CV (ground w) h (.agg cs.toArray) C)∧Fit0 C∧∀p∈C.ro,PB p:=by
 obtain ⟨hl,d⟩:=Dt sf26 h hw
 rw [c26]at hl
 obtain ⟨v0,v1,v2,v3,v4,v5,v6,v7,v8,v9,v10,v11,v12,v13,v14,v15,rfl⟩:=len16 hl
 obtain ⟨_,_,e0,_⟩:=d 0 _ _ rfl
 obtain ⟨_,_,e1,_⟩:=d 1 _ _ rfl
 obtain ⟨_,_,e2,_⟩:=d 2 _ _ rfl
 obtain ⟨_,_,e3,w3⟩:=d 3 _ _ rfl
 obtain ⟨_,_,e4,w4⟩:=d 4 _ _ rfl
 obtain ⟨_,_,e5,w5⟩:=d 5 _ _ rfl
 obtain ⟨_,_,e6,w6⟩:=d 6 _ _ rfl
 obtain ⟨_,_,e7,_⟩:=d 7 _ _ rfl
 obtain ⟨_,_,e8,_⟩:=d 8 _ _ rfl
 obtain ⟨_,_,e9,_⟩:=d 9 _ _ rfl
 obtain ⟨_,_,e10,_⟩:=d 10 _ _ rfl
 obtain ⟨_,_,e11,_⟩:=d 11 _ _ rfl
 obtain ⟨_,_,e12,_⟩:=d 12 _ _ rfl
 obtain ⟨_,_,e13,_⟩:=d 13 _ _ rfl
 obtain ⟨_,_,e14,_⟩:=d 14 _ _ rfl
 obtain ⟨_,_,e15,_⟩:=d 15 _ _ rfl
 simp only [c3,c4,c22,c23,c24]at e0 e1 e2 e3 e4 e5 e6 e7 e8 e9 e10 e11 e12 e13 e14 e15
 obtain ⟨x0,f0,_⟩:=ia un3i e0
 obtain ⟨x1,f1,_⟩:=ia un3i e1
 obtain ⟨x2,f2,_⟩:=ia un3i e2
 obtain ⟨ab,nb,cb,B,f3,hB,sB,gB,_⟩:=qv cj (fun _=>True) un22 c28 (by decide) (fun _ _ _ h _=>let ⟨x,e,_⟩:=wu h;⟨x,e,trivial⟩) e3 w3
 obtain ⟨ap,np,cp,PO,f4,hP,sP,gP,_⟩:=qv cj (fun _=>True) un22 c28 (by decide) (fun _ _ _ h _=>let ⟨x,e,_⟩:=wu h;⟨x,e,trivial⟩) e4 w4
 obtain ⟨ar,nr,cr,R,f5,hR,sR,gR,qR⟩:=qv uw PB un23 c30 (by decide) (fun _ _ _ h _=>Fb h) e5 w5
 obtain ⟨az,nz,cz,Z,f6,hZ,sZ,gZ,qZ⟩:=qv rawC (RawOk (ground w)) un24 c95 (by decide) (fun _ _ _ h hw=>raw_dec h hw) e6 w6
 obtain ⟨x7,f7,_⟩:=ia un3i e7
 obtain ⟨x8,f8,_⟩:=ia un3i e8
 obtain ⟨x9,f9,_⟩:=ia un3i e9
 obtain ⟨x10,f10,_⟩:=ia un3i e10
 obtain ⟨x11,f11,_⟩:=ia un3i e11
 obtain ⟨x12,f12,_⟩:=ia un3i e12
 obtain ⟨x13,f13,_⟩:=ia un3i e13
 obtain ⟨x14,f14,_⟩:=ia un3i e14
 obtain ⟨x15,f15⟩:=P5 un4b e15
 simp at f0 f1 f2 f3 f4 f5 f6 f7 f8 f9 f10 f11 f12 f13 f14 f15
 subst f0 f1 f2 f3 f4 f5 f6 f7 f8 f9 f10 f11 f12 f13 f14 f15
 subst hB hP hR hZ
 rw [show P_.bytesOf 28=16 by kernel_rfl]at sB sP
 rw [show P_.bytesOf 30=24 by kernel_rfl]at sR
 rw [show P_.bytesOf 234=40 by kernel_rfl]at sZ
 obtain ⟨S,hS,qS⟩:=Ef (Q:=fun i (s:Cell × List Int)=>∀r,Z[i]?=some r→(r.x,r.y)=s.1∧r.n=s.2.length∧Room s.2.length 8∧∀h,Dis (ground w) h→Sees icC (ground w) h (.slice r.a s.2.length r.c) s.2) Z.length (fun i hi=>by
   obtain ⟨L,e,rm,se⟩:=qZ _ (List.getElem_mem hi)
   refine ⟨((Z[i].x,Z[i].y),L),fun r hr=>?_⟩
   rw [List.getElem?_eq_getElem hi]at hr
   cases hr
   exact ⟨rfl,e,rm,fun h d=>by rw [← e];exact se h d⟩)
 refine ⟨⟨x0,x1,x2,B,PO,R,S,x7,x8,x9,x10,x11,x12,x13,x14,x15⟩,fun h d=>⟨ab,cb,ap,cp,ar,cr,az,cz,by simp only [P7,hS],gB h d,gP h d,gR h d,Z,by show Sees rawC _ h (.slice az S.length cz) Z;rw [hS];exact gZ h d,fun i r s hr hs=>?_⟩,⟨Au sB (by decide),Au sP (by decide),Au sR (by decide),by show Room S.length 40;rw [hS];exact Au sZ (by decide),fun s hs=>?_⟩,qR⟩
 · obtain ⟨a,b,c,e⟩:=qS i s hs r hr
   exact ⟨a,b,e h d⟩
 · obtain ⟨i,hi⟩:=List.getElem?_of_mem hs
   have hi2:i<Z.length:=by rw [← hS];exact (List.getElem?_eq_some_iff.1 hi).1
   exact (qS i s hi _ (List.getElem?_eq_getElem hi2)).2.2.1

theorem int_arg {r:Reach} {b0:Nat} {v:Value} {d:DataW H} {ps:List MemPlace} (k:Value.okWide P_ w r b0 3 v) (h:DataW.Trod enc P_ w base spare held 3 v d ps):∃n:Int,v = .int .i64 n∧Bd n:=by
 obtain ⟨n,rfl,rfl,rfl,wf⟩:=open_int un3i k h
 exact ⟨n,rfl,by simpa [Lit.wf,IntKind.min,IntKind.max,IntKind.signed,IntKind.bits,Bd]using wf⟩
theorem am1 {r:Reach} {b0:Nat} {v:Value} {d:DataW H} {ps:List MemPlace} (k:Value.okWide P_ w r b0 26 v) (h:DataW.Trod enc P_ w base spare held 26 v d ps) (hl:px P_ 26 d):
   ∃C:Conf,(∀h,Dis (ground w) h→CV (ground w) h v C)∧Fit0 C∧∀p∈C.ro,PB p:=by
 obtain ⟨cs,rfl⟩:=vu sf26 k
 obtain ⟨m,h⟩:=h
 obtain ⟨C,hC,f,hp⟩:=am0 (cs:=cs.toList) h hl
 exact ⟨C,fun h d=>by simpa using hC h d,f,hp⟩
end
end
end Go.Proofs.YtfflipnhffknnaaGreatDoor
end

section
namespace Go.Proofs.YtfflipnhffknnaaGreatDoor
open Go Go.HL Go.ChangeShapes Go.WideShapes Go.RowKit Go.Proofs.Resv
section
theorem chold:P_.cellsOf 97=4:=by kernel_rfl
theorem sfhold:ff P_ 97=some [(3,0),(3,1),(3,2),(3,3)]:=by kernel_rfl

section
variable {H:Type} {enc:TypeId × Value→H} {w:World} {base:Nat} {spare:Nat→Bool} {held:Bool}
theorem lenh4 {α:Type} {L:List α} (h:L.length=4):∃a b c d,L=[a,b,c,d]:=by
 match L,h with
 |[a,b,c,d],_=>exact ⟨a,b,c,d,rfl⟩

theorem Z2 {m:Nat} {cs:List Value} {y:DataW H × List MemPlace} (h:DataW.trod enc P_ w base spare held m 97 cs=some y):∃x:Hold,cs=Ju.enc x∧Ql x:=by
 obtain ⟨hl,d⟩:=uj sfhold h
 rw [chold]at hl
 obtain ⟨v0,v1,v2,v3,rfl⟩:=lenh4 hl
 obtain ⟨m0,z0,e0⟩:=d 0 _ _ rfl
 obtain ⟨m1,z1,e1⟩:=d 1 _ _ rfl
 obtain ⟨m2,z2,e2⟩:=d 2 _ _ rfl
 obtain ⟨m3,z3,e3⟩:=d 3 _ _ rfl
 rw [c3]at e0 e1 e2 e3
 obtain ⟨x0,f0,b0⟩:=ia un3i e0
 obtain ⟨x1,f1,b1⟩:=ia un3i e1
 obtain ⟨x2,f2,b2⟩:=ia un3i e2
 obtain ⟨x3,f3,b3⟩:=ia un3i e3
 simp at f0 f1 f2 f3
 subst f0 f1 f2 f3
 exact ⟨⟨x0,x1,x2,x3⟩,rfl,b0,b1,b2,b3⟩

theorem Xv {r:Reach} {b0:Nat} {v:Value} {d:DataW H} {ps:List MemPlace} (k:Value.okWide P_ w r b0 77 v) (h:DataW.Trod enc P_ w base spare held 77 v d ps):∃l:List Hold,tq Ju (ground w) v l∧∀x∈l,Ql x:=by
 obtain ⟨a,len,cap,rfl⟩:=okWide_slice un77 k
 obtain ⟨m,h⟩:=h
 obtain ⟨a',len',cap',L,e,hl,_,hg,hq⟩:=J3 Ju Ql un77 chold (by decide) (fun _ _ _ h=>Z2 h) h
 simp [Value.cells]at e
 obtain ⟨rfl,rfl,rfl⟩:=e
 exact ⟨L,hg,hq⟩
end
end
end Go.Proofs.YtfflipnhffknnaaGreatDoor
end

section
namespace Go.Proofs.YtfflipnhffknnaaGreatDoor
open Go Go.HL Go.ChangeShapes Go.WideShapes Go.RowKit
section
section
variable {H:Type} {enc:TypeId × Value→H} {w:World} {base:Nat} {spare:Nat→Bool} {held:Bool}
theorem Ye {r:Reach} {b0:Nat} {v:Value} {d:DataW H} {ps:List MemPlace} (k:Value.okWide P_ w r b0 22 v) (h:DataW.Trod enc P_ w base spare held 22 v d ps):
   ∃L:List Cell,tq cj (ground w) v L:=by
 obtain ⟨a,len,cap,rfl⟩:=okWide_slice un22 k
 obtain ⟨m,h⟩:=h
 obtain ⟨a',len',cap',L,e,hl,_,hg,hq⟩:=J3 cj (fun c=>Bd c.1∧Bd c.2) un22 c28 (by decide) (fun _ _ _ h=>wu h) h
 simp [Value.cells]at e
 obtain ⟨rfl,rfl,rfl⟩:=e
 exact ⟨L,hg⟩
end
end
section
theorem sf46:ff P_ 48=some [(3,0),(3,1),(3,2),(30,3),(30,6),(3,9),(3,10)]:=by kernel_rfl
theorem c46:P_.cellsOf 48=11:=by kernel_rfl

section
variable {H:Type} {enc:TypeId × Value→H} {w:World} {base:Nat} {spare:Nat→Bool} {held:Bool}

theorem len11 {α:Type} {L:List α} (h:L.length=11):∃a b c d e f g i j k l,L=[a,b,c,d,e,f,g,i,j,k,l]:=by
 match L,h with
 |[a,b,c,d,e,f,g,i,j,k,l],_=>exact ⟨a,b,c,d,e,f,g,i,j,k,l,rfl⟩

theorem Zk {m:Nat} {cs:List Value} {y:DataW H × List MemPlace} (h:DataW.trod enc P_ w base spare held m 48 cs=some y):∃v:Move,cs=lj.enc v∧MB v∧PB v.t:=by
 obtain ⟨hl,d⟩:=uj sf46 h
 rw [c46]at hl
 obtain ⟨v0,v1,v2,v3,v4,v5,v6,v7,v8,v9,v10,rfl⟩:=len11 hl
 obtain ⟨_,_,e0⟩:=d 0 _ _ rfl
 obtain ⟨_,_,e1⟩:=d 1 _ _ rfl
 obtain ⟨_,_,e2⟩:=d 2 _ _ rfl
 obtain ⟨_,_,e3⟩:=d 3 _ _ rfl
 obtain ⟨_,_,e4⟩:=d 4 _ _ rfl
 obtain ⟨_,_,e5⟩:=d 5 _ _ rfl
 obtain ⟨_,_,e6⟩:=d 6 _ _ rfl
 simp only [c3,c30]at e0 e1 e2 e3 e4 e5 e6
 obtain ⟨x0,f0,_⟩:=ia un3i e0
 obtain ⟨x1,f1,_⟩:=ia un3i e1
 obtain ⟨x2,f2,n2⟩:=ia un3i e2
 obtain ⟨p3,f3,b3⟩:=Fb e3
 obtain ⟨p4,f4,b4⟩:=Fb e4
 obtain ⟨x5,f5,_⟩:=ia un3i e5
 obtain ⟨x6,f6,_⟩:=ia un3i e6
 simp [uw]at f0 f1 f2 f3 f4 f5 f6
 obtain ⟨rfl,rfl,rfl⟩:=f3
 obtain ⟨rfl,rfl,rfl⟩:=f4
 subst f0 f1 f2 f5 f6
 exact ⟨⟨x0,x1,x2,p3,p4,x5,x6⟩,rfl,⟨n2,b3⟩,b4⟩

theorem Zl {r:Reach} {b0:Nat} {v:Value} {d:DataW H} {ps:List MemPlace} (k:Value.okWide P_ w r b0 48 v) (h:DataW.Trod enc P_ w base spare held 48 v d ps):∃m:Move,v=A5 m∧MB m∧PB m.t:=by
 obtain ⟨cs,rfl⟩:=vu sf46 k
 obtain ⟨m,h⟩:=h
 obtain ⟨c,e,b⟩:=Zk (cs:=cs.toList) h
 exact ⟨c,by rw [← Array.toArray_toList (xs:=cs),e];rfl,b⟩
end
end
end Go.Proofs.YtfflipnhffknnaaGreatDoor
end

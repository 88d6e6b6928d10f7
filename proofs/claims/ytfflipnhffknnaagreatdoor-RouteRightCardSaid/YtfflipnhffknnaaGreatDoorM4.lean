/- Texts of the proof, one behind the other. -/
import Derived.Test.YtfflipnhffknnaaGreatDoorM1
import Derived.Test.YtfflipnhffknnaaGreatDoorM2
import Derived.Test.YtfflipnhffknnaaGreatDoorM3
import Derived.Test.YtfflipnhffknnaaGreatDoorH3
import Derived.Test.YtfflipnhffknnaaGreatDoorH4
set_option linter.unusedVariables false
set_option maxRecDepth 100000
set_option linter.unusedSimpArgs false
set_option maxHeartbeats 4000000
set_option linter.defProp false
section
namespace Go.Proofs.YtfflipnhffknnaaGreatDoor
open Go Go.HL
section
variable (G:Hp) (K:EK) (r:Rg) (h:Hp)
def md108:Nat->Hint
 |_=>mh false [] [] [] false
def Yp (G:Hp) (K:EK) (r:Rg) (h:Hp):Prop:=
 K .ret (u2 r 45 (r 9) 8 (r 9)) h
def Bs:Prop:=
 o_ G (binOp .add 3 (r 20) (.int .i64 1)) h fun v4 h4=>
 K .normal (u2 r 44 v4 20 v4) h4
def Jv:Prop:=
 o_ G (Instr.loadAt 142 (r 13)) h fun v14 h14=>
 c_ G 146 #[(r 9),v14] h14 fun v15 h15=>
 Bs G K (u4 r 41 (r 9) 42 v14 43 v15 9 v15) h15
def Bu (G:Hp) (r:Rg) (h:Hp) (K:EK):Prop:=
 K .normal (u2 r 14 (r 33) 15 (r 34)) h
def Bt (r:Rg) (h:Hp) (K:EK):Prop:=
 o_ G (Instr.loadAt 142 (r 13)) h fun v16 h16=>o_ G (Instr.build 151 #[(0,(r 14)),(1,(r 15))]) h16 fun v17 h17=>o_ G (Instr.buildSlice 142 1 #[(0,v17)]) h17 fun v18 h18=>o_ G (Builtin.append_ #[142,142] 142 #[v16,v18]) h18 fun v19 h19=>
 opH P_ G (su (Instr.storeAt 142 (r 13) v19)) h19 fun v20 h20=>
 K .normal (u6 r 35 v16 36 (r 14) 37 (r 15) 38 v17 39 v18 40 v19) h20
def Jw:Prop:=
 o_ G (Instr.alloc 142 true (.tuple #[])) h fun v12 h12=>
 c_ G 145 #[(r 1),(r 12),(r 2)] h12 fun v13 h13=>
 J0 P_ G 2 (Bu G) (Bt G) (setR 46 #[33,34]) v13 (u5 r 13 v12 29 (r 1) 30 (r 12) 31 (r 2) 32 v13) h13 (bj 2 (bw (Jv G K) (bj 1 (bw (Bs G K) K))))
def Jx:Prop:=
 o_ G (Instr.indexAt 22 (r 18) (r 20)) h fun v5 h5=>o_ G (Instr.loadAt 28 v5) h5 fun v6 h6=>o_ G (Instr.alloc 28 true (.tuple #[])) h6 fun v7 h7=>
 opH P_ G (su (Instr.storeAt 28 v7 v6)) h7 fun v8 h8=>o_ G (Instr.loadAt 28 v7) h8 fun v9 h9=>
 c_ G 88 #[(r 0),v9] h9 fun v10 h10=>o_ G (binOp .lss 3 v10 (.int .i64 0)) h10 fun v11 h11=>
 (fun q=>cond v11
 (K .ret (upd q 8 (.slice none 0 0)) h11)
 (Jw G K q h11))
 (u9 r 22 v5 23 v6 11 v7 24 (r 0) 25 v9 26 v10 12 v10 27 v10 28 v11)
def Yo (r:Rg) (h:Hp) (K:EK):Prop:=
 o_ G (binOp .lss 3 (r 20) (r 19)) h fun v3 h3=>
 cond v3
 (Jx G K (upd r 21 v3) h3)
 (K (.exit 0) (upd r 21 v3) h3)
def S108:Prop:=
 o_ G (Instr.build 151 #[(0,(.int .i64 0)),(1,(.int .i64 4611686018427387904))]) h fun v0 h0=>o_ G (Instr.buildSlice 142 1 #[(0,v0)]) h0 fun v1 h1=>o_ G (Builtin.len_ #[22] 3 #[(r 3)]) h1 fun v2 h2=>
 dc (Yo G) (u7 r 8 (.slice none 0 0) 16 v0 17 v1 9 v1 18 (r 3) 19 v2 20 (.int .i64 0)) h2 (bj 0 (bw (Yp G K) K))
theorem at3:Ent 46 108 [.tmp 8] S108:=ent_ (m:=md108) (c:=(Tryz.f108.body.getD .skip)) (fun _ _ _ _=>by kernel_rfl) Tryz.func108 rfl rfl rfl
def md146:Nat->Hint
 |4=>mh false [0,0,3,7,15,0,0,96,224,480,1023,0,0,6144,14336,30720,0,0,196608,458752,983040,2095104,4194303,0,16777215] [n_,n_,n_,n_,m_,n_,n_,n_,n_,m_,n_,n_,n_,n_,n_,m_,n_,n_,n_,n_,m_,n_,n_,.alloc,.store] (fs 25) false
 |7=>mh false [0,0,3,7,15,0,0,96,224,480,1023] [n_,n_,n_,n_,m_,n_,n_,n_,n_,m_,n_] (fs 11) false
 |_=>mh false [] [] [] false
def F6 (G:Hp) (K:EK) (r:Rg) (h:Hp):Prop:=
 K .ret (u2 r 66 (r 5) 4 (r 5)) h
def vx:Prop:=
 p_ (Instr.indexAt 142 (r 0) (r 6)) h fun v29 h29=>
 p_ (Instr.fieldAt 151 v29 1) h29 fun v30 h30=>
 w_ G h (Instr.loadAt 3 v30) h30 fun v31 h31=>
 p_ (Instr.indexAt 142 (r 1) (r 7)) h31 fun v32 h32=>
 p_ (Instr.fieldAt 151 v32 1) h32 fun v33 h33=>
 w_ G h (Instr.loadAt 3 v33) h33 fun v34 h34=>
 p_ (binOp .lss 3 v31 v34) h34 fun v35 h35=>
 cond v35
 (o_ G (binOp .add 3 (r 6) (.int .i64 1)) h35 fun v36 h36=>
 K .normal (u4 (u10 r 51 (r 0) 52 (r 6) 53 v29 54 v30 55 v31 56 (r 1) 57 (r 7) 58 v32 59 v33 60 v34) 61 v35 62 (r 6) 63 v36 6 v36) h36)
 (o_ G (binOp .add 3 (r 7) (.int .i64 1)) h35 fun v37 h37=>
 K .normal (u4 (u10 r 51 (r 0) 52 (r 6) 53 v29 54 v30 55 v31 56 (r 1) 57 (r 7) 58 v32 59 v33 60 v34) 61 v35 64 (r 7) 65 v37 7 v37) h37)
def I2:Prop:=
 p_ (Instr.indexAt 142 (r 0) (r 6)) h fun v7 h7=>
 p_ (Instr.fieldAt 151 v7 0) h7 fun v8 h8=>
 w_ G h (Instr.loadAt 3 v8) h8 fun v9 h9=>
 p_ (Instr.indexAt 142 (r 1) (r 7)) h9 fun v10 h10=>
 p_ (Instr.fieldAt 151 v10 0) h10 fun v11 h11=>
 w_ G h (Instr.loadAt 3 v11) h11 fun v12 h12=>
 p_ (Builtin.max_ #[3,3] 3 #[v9,v12]) h12 fun v13 h13=>
 p_ (Instr.indexAt 142 (r 0) (r 6)) h13 fun v14 h14=>
 p_ (Instr.fieldAt 151 v14 1) h14 fun v15 h15=>
 w_ G h (Instr.loadAt 3 v15) h15 fun v16 h16=>
 p_ (Instr.indexAt 142 (r 1) (r 7)) h16 fun v17 h17=>
 p_ (Instr.fieldAt 151 v17 1) h17 fun v18 h18=>
 w_ G h (Instr.loadAt 3 v18) h18 fun v19 h19=>
 p_ (Builtin.min_ #[3,3] 3 #[v16,v19]) h19 fun v20 h20=>
 p_ (Instr.build 151 #[(0,v13),(1,v20)]) h20 fun v21 h21=>o_ G (Instr.alloc 151 true (.tuple #[])) h21 fun v22 h22=>
 opH P_ G (su (Instr.storeAt 151 v22 v21)) h22 fun v23 h23=>o_ G (Instr.fieldAt 151 v22 0) h23 fun v24 h24=>o_ G (Instr.loadAt 3 v24) h24 fun v25 h25=>o_ G (Instr.fieldAt 151 v22 1) h25 fun v26 h26=>o_ G (Instr.loadAt 3 v26) h26 fun v27 h27=>o_ G (binOp .lss 3 v25 v27) h27 fun v28 h28=>
 cond v28
 (o_ G (Instr.loadAt 151 v22) h28 fun v38 h38=>o_ G (Instr.buildSlice 142 1 #[(0,v38)]) h38 fun v39 h39=>o_ G (Builtin.append_ #[142,142] 142 #[(r 5),v39]) h39 fun v40 h40=>
 vx G K (u4 (u10 (u10 (u10 r 19 (r 0) 20 (r 6) 21 v7 22 v8 23 v9 24 (r 1) 25 (r 7) 26 v10 27 v11 28 v12) 29 v13 30 (r 0) 31 (r 6) 32 v14 33 v15 34 v16 35 (r 1) 36 (r 7) 37 v17 38 v18) 39 v19 40 v20 41 v21 8 v22 42 v24 43 v25 44 v26 45 v27 46 v28 47 (r 5)) 48 v38 49 v39 50 v40 5 v40) h40)
 (vx G K (u9 (u10 (u10 r 19 (r 0) 20 (r 6) 21 v7 22 v8 23 v9 24 (r 1) 25 (r 7) 26 v10 27 v11 28 v12) 29 v13 30 (r 0) 31 (r 6) 32 v14 33 v15 34 v16 35 (r 1) 36 (r 7) 37 v17 38 v18) 39 v19 40 v20 41 v21 8 v22 42 v24 43 v25 44 v26 45 v27 46 v28) h28)
def Xp (r:Rg) (h:Hp) (K:EK):Prop:=
 o_ G (Builtin.len_ #[142] 3 #[(r 0)]) h fun v0 h0=>o_ G (binOp .lss 3 (r 6) v0) h0 fun v1 h1=>g_ v1 true (fun K1=>K1 (r 7) h1) h1 fun v2 h2=>g_ v1 true (fun K1=>K1 (r 1) h2) h2 fun v3 h3=>g_ v1 true (o_ G (Builtin.len_ #[142] 3 #[v3]) h3) h3 fun v4 h4=>g_ v1 true (o_ G (binOp .lss 3 v2 v4) h4) h4 fun v5 h5=>
 opH P_ G (bf v1 v5 (.bool false)) h5 fun v6 h6=>
 (fun q=>cond v6
 (I2 G K q h6)
 (K (.exit 0) q h6))
 (u10 r 9 (r 6) 10 (r 0) 11 v0 12 v1 13 v1 14 v2 15 v3 16 v4 17 v5 18 v6)
def S146:Prop:=
 dc (Xp G) (u4 r 4 (.slice none 0 0) 5 (.slice none 0 0) 6 (.int .i64 0) 7 (.int .i64 0)) h (bj 0 (bw (F6 G K) K))
theorem aq1:Ent 67 146 [.tmp 4] S146:=ent_ (m:=md146) (c:=(Tryz.f146.body.getD .skip)) (fun _ _ _ _=>by kernel_rfl) Tryz.func146 rfl rfl rfl
def md65:Nat->Hint
 |_=>mh false [] [] [] false
def S65:Prop:=
 o_ G (Instr.box 3 (r 1)) h fun v0 h0=>
 opH P_ G (callFunc 113 #[(r 0),(.func (.func 114) #[] #[v0])]) h0 fun v1 h1=>
 K .ret (u6 r 3 v0 4 (.int .i64 0) 5 (r 0) 6 (.func (.func 114) #[] #[v0]) 7 v1 4 v1) h1
theorem enter65:Ent 8 65 [.tmp 4] S65:=ent_ (m:=md65) (c:=(Tryz.f65.body.getD .skip)) (fun _ _ _ _=>by kernel_rfl) Tryz.func65 rfl rfl rfl
def md114:Nat->Hint
 |_=>mh false [] [] [] false
def S114:Prop:=
 o_ G (Instr.box 151 (r 0)) h fun v0 h0=>o_ G (Instr.fieldAt 151 v0 0) h0 fun v1 h1=>o_ G (Instr.loadAt 3 v1) h1 fun v2 h2=>o_ G (Instr.loadAt 3 (r 1)) h2 fun v3 h3=>o_ G (binOp .leq 3 v2 v3) h3 fun v4 h4=>g_ v4 true (o_ G (Instr.loadAt 3 (r 1)) h4) h4 fun v5 h5=>g_ v4 true (o_ G (Instr.fieldAt 151 v0 1) h5) h5 fun v6 h6=>g_ v4 true (o_ G (Instr.loadAt 3 v6) h6) h6 fun v7 h7=>g_ v4 true (o_ G (binOp .lss 3 v5 v7) h7) h7 fun v8 h8=>
 opH P_ G (bf v4 v8 (.bool false)) h8 fun v9 h9=>
 K .ret (u3 (u10 r 2 v0 3 (.bool false) 4 v1 5 v2 6 v3 7 v4 8 v4 9 v5 10 v6 11 v7) 12 v8 13 v9 3 v9) h9
theorem at1:Ent 14 114 [.tmp 3] S114:=ent_ (m:=md114) (c:=(Tryz.f114.body.getD .skip)) (fun _ _ _ _=>by kernel_rfl) Tryz.func114 rfl rfl rfl
def md113:Nat->Hint
 |_=>mh false [] [] [] false
def Yn (G:Hp) (K:EK) (r:Rg) (h:Hp):Prop:=
 K .ret (upd r 4 (.int .i64 (-1))) h
def Jt:Prop:=
 o_ G (binOp .add 3 (r 8) (.int .i64 1)) h fun v2 h2=>
 K .normal (u2 r 18 v2 8 v2) h2
def Ju:Prop:=
 o_ G (Instr.indexAt 142 (r 0) (r 8)) h fun v3 h3=>o_ G (Instr.loadAt 151 v3) h3 fun v4 h4=>
 opH P_ G (il (r 1) #[v4]) h4 fun v5 h5=>
 (fun q=>cond v5
 (K .ret (u2 q 17 (r 8) 4 (r 8)) h5)
 (Jt G K q h5))
 (u8 r 10 (r 8) 5 (r 8) 11 (r 1) 12 (r 0) 13 (r 8) 14 v3 15 v4 16 v5)
def Ym (r:Rg) (h:Hp) (K:EK):Prop:=
 o_ G (binOp .lss 3 (r 8) (r 7)) h fun v1 h1=>
 cond v1
 (Ju G K (upd r 9 v1) h1)
 (K (.exit 0) (upd r 9 v1) h1)
def S113:Prop:=
 o_ G (Builtin.len_ #[142] 3 #[(r 0)]) h fun v0 h0=>
 dc (Ym G) (u4 r 4 (.int .i64 0) 6 (r 0) 7 v0 8 (.int .i64 0)) h0 (bj 0 (bw (Yn G K) K))
theorem at2:Ent 19 113 [.tmp 4] S113:=ent_ (m:=md113) (c:=(Tryz.f113.body.getD .skip)) (fun _ _ _ _=>by kernel_rfl) Tryz.func113 rfl rfl rfl
def md115:Nat->Hint
 |1=>mh false [0,1,3,7,0,16,63,127,255] [n_,n_,n_,m_,n_,m_,e_,n_,n_] (fs 9) false
 |4=>mh false [0,1,3,7,0,0,63] [n_,n_,n_,m_,n_,m_,e_] (fs 7) false
 |_=>mh false [] [] [] false
def F9:Prop:=
 bm P_ noHp noHp (xNil (r 0)) h fun v10 h10=>
 p_ (Instr.fieldAt 134 v10 7) h10 fun v11 h11=>
 w_ G h (Instr.loadAt 130 v11) h11 fun v12 h12=>
 w_ G h (Instr.loadAt 30 (r 3)) h12 fun v13 h13=>
 opH P_ G (su (Instr.mapUpdate 130 v12 (r 5) v13)) h13 fun v14 h14=>
 K .ret (u8 r 18 (r 0) 19 v10 20 v11 21 v12 22 (r 5) 23 v13 24 (r 5) 4 (r 5)) h14
def S115:Prop:=
 o_ G (Instr.box 30 (r 1)) h fun v0 h0=>
 bm P_ noHp noHp (xNil (r 0)) h0 fun v1 h1=>
 p_ (Instr.fieldAt 134 v1 1) h1 fun v2 h2=>
 w_ G h0 (Instr.loadAt 68 v2) h2 fun v3 h3=>
 p_ (Instr.fieldAt 30 v0 0) h3 fun v4 h4=>
 w_ G h0 (Instr.loadAt 28 v4) h4 fun v5 h5=>
 c_ G 88 #[v3,v5] h5 fun v6 h6=>
 p_ (binOp .mul 3 (.int .i64 2) v6) h6 fun v7 h7=>o_ G (Instr.fieldAt 30 v0 1) h7 fun v8 h8=>o_ G (Instr.loadAt 4 v8) h8 fun v9 h9=>
 cond v9
 (o_ G (binOp .add 3 v7 (.int .i64 1)) h9 fun v15 h15=>
 F9 G K (u6 (u10 r 3 v0 4 (.int .i64 0) 6 (r 0) 7 v1 8 v2 9 v3 10 v4 11 v5 12 v6 13 v7) 5 v7 14 v8 15 v9 16 v7 17 v15 5 v15) h15)
 (F9 G K (u3 (u10 r 3 v0 4 (.int .i64 0) 6 (r 0) 7 v1 8 v2 9 v3 10 v4 11 v5 12 v6 13 v7) 5 v7 14 v8 15 v9) h9)
theorem at0:Ent 25 115 [.tmp 4] S115:=ent_ (m:=md115) (c:=(Tryz.f115.body.getD .skip)) (fun _ _ _ _=>by kernel_rfl) Tryz.func115 rfl rfl rfl
def md66:Nat->Hint
 |4=>mh false [0,1,3,7,0,16,48,112,0,256,768,1792,0,4096,12288,28672,0,126976,262143,524287] [n_,n_,n_,m_,n_,n_,n_,m_,n_,n_,n_,m_,n_,n_,n_,m_,m_,e_,e_,n_] [false,false,false,false,false,false,false,false,false,false,false,false,false,false,false,false,false,true,false,false] false
 |_=>mh false [] [] [] false
def O4 (G:Hp) (K:EK) (r:Rg) (h:Hp):Prop:=
 K .ret (u2 r 47 (r 6) 4 (r 6)) h
def S66:Prop:=
 o_ G (Instr.box 30 (r 1)) h fun v0 h0=>o_ G (Instr.loadAt 30 v0) h0 fun v1 h1=>
 c_ G 115 #[(r 0),v1] h1 fun v2 h2=>
 opH P_ G (xNil (r 0)) h2 fun v3 h3=>o_ G (Instr.fieldAt 134 v3 5) h3 fun v4 h4=>o_ G (Instr.loadAt 128 v4) h4 fun v5 h5=>o_ G (Instr.lookup 128 v5 v2 true) h5 fun v6 h6=>o_ G (Instr.extract v6 0) h6 fun v7 h7=>o_ G (Instr.extract v6 1) h7 fun v8 h8=>o_ G (Op.unary .not v8) h8 fun v9 h9=>
 cond v9
 (bm P_ noHp noHp (xNil (r 0)) h9 fun v10 h10=>
 p_ (Instr.fieldAt 134 v10 1) h10 fun v11 h11=>
 w_ G h9 (Instr.loadAt 68 v11) h11 fun v12 h12=>
 bm P_ noHp noHp (xNil (r 0)) h12 fun v13 h13=>
 p_ (Instr.fieldAt 134 v13 3) h13 fun v14 h14=>
 w_ G h9 (Instr.loadAt 34 v14) h14 fun v15 h15=>
 bm P_ noHp noHp (xNil (r 0)) h15 fun v16 h16=>
 p_ (Instr.fieldAt 134 v16 4) h16 fun v17 h17=>
 w_ G h9 (Instr.loadAt 3 v17) h17 fun v18 h18=>
 bm P_ noHp noHp (xNil (r 0)) h18 fun v19 h19=>
 p_ (Instr.fieldAt 134 v19 1) h19 fun v20 h20=>
 w_ G h9 (Instr.loadAt 68 v20) h20 fun v21 h21=>
 w_ G h9 (Instr.loadAt 30 v0) h21 fun v22 h22=>
 c_ G 89 #[v21,v22] h22 fun v23 h23=>h9.le h23/\
 c_ G 108 #[v12,v15,v18,v23] h23 fun v24 h24=>
 opH P_ G (xNil (r 0)) h24 fun v25 h25=>o_ G (Instr.fieldAt 134 v25 5) h25 fun v26 h26=>o_ G (Instr.loadAt 128 v26) h26 fun v27 h27=>
 opH P_ G (su (Instr.mapUpdate 128 v27 v2 v24)) h27 fun v28 h28=>
 O4 G K (u5 (u10 (u10 (u10 (u10 r 3 v0 4 (.slice none 0 0) 8 (r 0) 9 v1 10 v2 5 v2 12 (r 0) 13 v3 14 v4 15 v5) 16 v2 17 v6 11 v6 18 v7 19 v8 6 v7 7 v8 20 v8 21 v9 22 (r 0)) 23 v10 24 v11 25 v12 26 (r 0) 27 v13 28 v14 29 v15 30 (r 0) 31 v16 32 v17) 33 v18 34 (r 0) 35 v19 36 v20 37 v21 38 v22 39 v23 40 v24 6 v24 41 (r 0)) 42 v25 43 v26 44 v27 45 v2 46 v24) h28)
 (O4 G K (u9 (u10 r 3 v0 4 (.slice none 0 0) 8 (r 0) 9 v1 10 v2 5 v2 12 (r 0) 13 v3 14 v4 15 v5) 16 v2 17 v6 11 v6 18 v7 19 v8 6 v7 7 v8 20 v8 21 v9) h9)
theorem enter66:Ent 48 66 [.tmp 4] S66:=ent_ (m:=md66) (c:=(Tryz.f66.body.getD .skip)) (fun _ _ _ _=>by kernel_rfl) Tryz.func66 rfl rfl rfl
def md121:Nat->Hint
 |5=>mh false [0,1,3,7,0,31] [m_,n_,n_,m_,m_,e_] (fs 6) false
 |7=>mh false [0,0,0,4,12,28,0,64,192,448,0,2044,0,4096,12288,28672,0,65536,196608,458752,0,1048576,3145728,7340032,0,16777216,50331648,117440512,0,520097788,1073741820,2147483646,4294967294,8589934591,17179869183] [m_,m_,m_,n_,n_,m_,m_,n_,n_,m_,m_,e_,m_,n_,n_,m_,m_,n_,n_,m_,m_,n_,n_,m_,m_,n_,n_,m_,m_,e_,e_,n_,.alloc,e_,.store] [false,false,false,false,false,false,false,false,false,false,false,true,false,false,false,false,false,false,false,false,false,false,false,false,false,false,false,false,false,true,true,false,false,false,false] true
 |8=>mh false [0,1,3,7,0,0,63] [m_,n_,n_,m_,n_,m_,e_] (fs 7) false
 |_=>mh false [] [] [] false
def Ye:Prop:=
 w_ G h (Instr.loadAt 127 (r 2)) h fun v20 h20=>
 bm P_ noHp noHp (xNil v20) h20 fun v21 h21=>
 p_ (Instr.fieldAt 134 v21 6) h21 fun v22 h22=>
 w_ G h (Instr.loadAt 129 v22) h22 fun v23 h23=>
 w_ G h (Instr.loadAt 229 (r 6)) h23 fun v24 h24=>
 opH P_ G (su (Instr.mapUpdate 129 v23 (r 5) v24)) h24 fun v25 h25=>o_ G (Instr.loadAt 229 (r 6)) h25 fun v26 h26=>
 K .ret (u8 r 64 v20 65 v21 66 v22 67 v23 68 (r 5) 69 v24 70 v26 4 v26) h26
def Pw (r:Rg) (h:Hp) (K:EK):Prop:=
 o_ G (Instr.alloc 48 true (.tuple #[])) h fun v27 h27=>
 opH P_ G (su (Instr.storeAt 48 v27 (r 29))) h27 fun v28 h28=>
 K .normal (upd r 8 v27) h28
def Pv (r:Rg) (h:Hp) (K:EK):Prop:=
 ∃q29:Hp,q29.le h/\
 w_ G q29 (Instr.loadAt 229 (r 6)) h fun v30 h30=>
 w_ G q29 (Instr.loadAt 48 (r 8)) h30 fun v31 h31=>
 w_ G q29 (Instr.loadAt 127 (r 2)) h31 fun v32 h32=>
 bm P_ noHp noHp (xNil v32) h32 fun v33 h33=>
 p_ (Instr.fieldAt 134 v33 0) h33 fun v34 h34=>
 w_ G q29 (Instr.loadAt 26 v34) h34 fun v35 h35=>
 w_ G q29 (Instr.loadAt 127 (r 2)) h35 fun v36 h36=>
 bm P_ noHp noHp (xNil v36) h36 fun v37 h37=>
 p_ (Instr.fieldAt 134 v37 2) h37 fun v38 h38=>
 w_ G q29 (Instr.loadAt 50 v38) h38 fun v39 h39=>
 w_ G q29 (Instr.loadAt 48 (r 8)) h39 fun v40 h40=>
 c_ G 30 #[v35,v39,v40] h40 fun v41 h41=>q29.le h41/\
 w_ G q29 (Instr.loadAt 127 (r 2)) h41 fun v42 h42=>
 bm P_ noHp noHp (xNil v42) h42 fun v43 h43=>
 p_ (Instr.fieldAt 134 v43 1) h43 fun v44 h44=>
 w_ G q29 (Instr.loadAt 68 v44) h44 fun v45 h45=>
 w_ G q29 (Instr.loadAt 127 (r 2)) h45 fun v46 h46=>
 bm P_ noHp noHp (xNil v46) h46 fun v47 h47=>
 p_ (Instr.fieldAt 134 v47 3) h47 fun v48 h48=>
 w_ G q29 (Instr.loadAt 34 v48) h48 fun v49 h49=>
 w_ G q29 (Instr.loadAt 127 (r 2)) h49 fun v50 h50=>
 bm P_ noHp noHp (xNil v50) h50 fun v51 h51=>
 p_ (Instr.fieldAt 134 v51 4) h51 fun v52 h52=>
 w_ G q29 (Instr.loadAt 3 v52) h52 fun v53 h53=>
 w_ G q29 (Instr.loadAt 127 (r 2)) h53 fun v54 h54=>
 bm P_ noHp noHp (xNil v54) h54 fun v55 h55=>
 p_ (Instr.fieldAt 134 v55 1) h55 fun v56 h56=>
 w_ G q29 (Instr.loadAt 68 v56) h56 fun v57 h57=>
 w_ G q29 (Instr.loadAt 48 (r 8)) h57 fun v58 h58=>
 c_ G 90 #[v57,v58] h58 fun v59 h59=>q29.le h59/\
 c_ G 108 #[v45,v49,v53,v59] h59 fun v60 h60=>q29.le h60/\
 p_ (Instr.build 232 #[(0,v31),(1,v41),(2,v60)]) h60 fun v61 h61=>o_ G (Instr.buildSlice 229 1 #[(0,v61)]) h61 fun v62 h62=>o_ G (Builtin.append_ #[229,229] 229 #[v30,v62]) h62 fun v63 h63=>
 opH P_ G (su (Instr.storeAt 229 (r 6) v63)) h63 fun v64 h64=>
 K .normal (u4 (u10 (u10 (u10 r 30 v30 31 v31 32 v32 33 v33 34 v34 35 v35 36 v36 37 v37 38 v38 39 v39) 40 v40 41 v41 42 v42 43 v43 44 v44 45 v45 46 v46 47 v47 48 v48 49 v49) 50 v50 51 v51 52 v52 53 v53 54 v54 55 v55 56 v56 57 v57 58 v58 59 v59) 60 v60 61 v61 62 v62 63 v63) h64
def Yg:Prop:=
 w_ G h (Instr.loadAt 127 (r 2)) h fun v14 h14=>
 bm P_ noHp noHp (xNil v14) h14 fun v15 h15=>
 p_ (Instr.fieldAt 134 v15 1) h15 fun v16 h16=>
 w_ G h (Instr.loadAt 68 v16) h16 fun v17 h17=>
 w_ G h (Instr.loadAt 30 (r 3)) h17 fun v18 h18=>
 c_ G 149 #[v17,v18] h18 fun v19 h19=>
 J0 P_ G 1 (Pw G) (Pv G) (setR 71 #[29]) v19 (u6 r 23 v14 24 v15 25 v16 26 v17 27 v18 28 v19) h19 (bj 0 (bw (Ye G K) K))
def S121:Prop:=
 o_ G (Instr.box 127 (r 0)) h fun v0 h0=>o_ G (Instr.box 30 (r 1)) h0 fun v1 h1=>o_ G (Instr.loadAt 127 v0) h1 fun v2 h2=>o_ G (Instr.loadAt 30 v1) h2 fun v3 h3=>
 c_ G 115 #[v2,v3] h3 fun v4 h4=>o_ G (Instr.loadAt 127 v0) h4 fun v5 h5=>
 opH P_ G (xNil v5) h5 fun v6 h6=>o_ G (Instr.fieldAt 134 v6 6) h6 fun v7 h7=>o_ G (Instr.loadAt 129 v7) h7 fun v8 h8=>o_ G (Instr.lookup 129 v8 v4 true) h8 fun v9 h9=>o_ G (Instr.extract v9 0) h9 fun v10 h10=>o_ G (Instr.extract v9 1) h10 fun v11 h11=>o_ G (Instr.alloc 229 true (.tuple #[])) h11 fun v12 h12=>
 opH P_ G (su (Instr.storeAt 229 v12 v10)) h12 fun v13 h13=>
 cond v11
 (o_ G (Instr.loadAt 229 v12) h13 fun v65 h65=>
 K .ret (upd (u10 (u10 r 2 v0 3 v1 4 (.slice none 0 0) 9 v2 10 v3 11 v4 5 v4 13 v5 14 v6 15 v7) 16 v8 17 v4 18 v9 12 v9 19 v10 20 v11 6 v12 7 v11 21 v11 22 v65) 4 v65) h65)
 (Yg G K (u9 (u10 r 2 v0 3 v1 4 (.slice none 0 0) 9 v2 10 v3 11 v4 5 v4 13 v5 14 v6 15 v7) 16 v8 17 v4 18 v9 12 v9 19 v10 20 v11 6 v12 7 v11 21 v11) h13)
theorem as4:Ent 71 121 [.tmp 4] S121:=ent_ (m:=md121) (c:=(Tryz.f121.body.getD .skip)) (fun _ _ _ _=>by kernel_rfl) Tryz.func121 rfl rfl rfl
def md67:Nat->Hint
 |4=>mh false [0,1,3,7,0,31,63,127,127,255,1023] [n_,n_,n_,m_,m_,m_,n_,n_,n_,n_,n_] (fs 11) false
 |7=>mh false [0,1,3,7,0,31] [n_,n_,n_,m_,m_,e_] (fs 6) false
 |8=>mh false [0,1,3,7,0,0,48,127] [n_,n_,n_,m_,n_,m_,n_,e_] (fs 8) false
 |_=>mh false [] [] [] false
def U6:Prop:=
 o_ G (Instr.fieldAt 146 (r 7) 2) h fun v31 h31=>
 opH P_ G (su (Instr.storeAt 3 v31 (r 2))) h31 fun v32 h32=>
 bm P_ noHp noHp (xNil (r 0)) h32 fun v33 h33=>
 p_ (Instr.fieldAt 134 v33 8) h33 fun v34 h34=>
 w_ G h32 (Instr.loadAt 131 v34) h34 fun v35 h35=>
 w_ G h32 (Instr.loadAt 137 (r 9)) h35 fun v36 h36=>
 opH P_ G (su (Instr.mapUpdate 131 v35 v36 (r 7))) h36 fun v37 h37=>
 bm P_ noHp noHp (xNil (r 0)) h37 fun v38 h38=>
 p_ (Instr.fieldAt 134 v38 9) h38 fun v39 h39=>
 w_ G h37 (Instr.loadAt 132 v39) h39 fun v40 h40=>
 w_ G h37 (Instr.loadAt 137 (r 9)) h40 fun v41 h41=>
 p_ (Instr.build 139 #[(0,(r 2)),(1,v41)]) h41 fun v42 h42=>
 c_ G 116 #[v40,v42] h42 fun v43 h43=>
 K .normal (u5 (u10 r 48 (r 2) 49 v31 50 (r 0) 51 v33 52 v34 53 v35 54 v36 55 (r 0) 56 v38 57 v39) 58 v40 59 (r 2) 60 v41 61 v42 62 v43) h43
def az0:Prop:=
 o_ G (Instr.loadAt 30 (r 5)) h fun v6 h6=>
 c_ G 115 #[(r 0),v6] h6 fun v7 h7=>o_ G (Instr.build 137 #[(0,v7),(1,(r 8))]) h7 fun v8 h8=>o_ G (Instr.alloc 137 true (.tuple #[])) h8 fun v9 h9=>
 opH P_ G (su (Instr.storeAt 137 v9 v8)) h9 fun v10 h10=>
 bm P_ noHp noHp (xNil (r 0)) h10 fun v11 h11=>
 p_ (Instr.fieldAt 134 v11 8) h11 fun v12 h12=>
 w_ G h10 (Instr.loadAt 131 v12) h12 fun v13 h13=>
 w_ G h10 (Instr.loadAt 137 v9) h13 fun v14 h14=>
 w_ G h10 (Instr.lookup 131 v13 v14 true) h14 fun v15 h15=>
 p_ (Instr.extract v15 0) h15 fun v16 h16=>
 p_ (Instr.extract v15 1) h16 fun v17 h17=>g_ v17 true (fun K1=>K1 v16 h17) h17 fun v18 h18=>g_ v17 true (opH P_ G (xNil v18) h18) h18 fun v19 h19=>g_ v17 true (o_ G (Instr.fieldAt 146 v19 3) h19) h19 fun v20 h20=>g_ v17 true (o_ G (Instr.loadAt 4 v20) h20) h20 fun v21 h21=>g_ v17 true (fun K1=>K1 v21 h21) h21 fun v22 h22=>g_ v22 false (fun K1=>K1 v16 h22) h22 fun v23 h23=>g_ v22 false (opH P_ G (xNil v23) h23) h23 fun v24 h24=>g_ v22 false (o_ G (Instr.fieldAt 146 v24 2) h24) h24 fun v25 h25=>g_ v22 false (o_ G (Instr.loadAt 3 v25) h25) h25 fun v26 h26=>g_ v22 false (fun K1=>K1 (r 2) h26) h26 fun v27 h27=>g_ v22 false (o_ G (binOp .leq 3 v26 v27) h27) h27 fun v28 h28=>g_ v17 true (opH P_ G (bf v22 (.bool true) v28) h28) h28 fun v29 h29=>
 opH P_ G (bf v17 v29 (.bool false)) h29 fun v30 h30=>
 (fun q=>cond v30
 (K .ret q h30)
 (U6 G K q h30))
 (u2 (u10 (u10 (u10 r 19 (r 0) 20 v6 21 v7 22 (r 8) 23 v8 9 v9 25 (r 0) 26 v11 27 v12 28 v13) 29 v14 30 v15 24 v15 31 v16 32 v17 10 v16 11 v17 33 v17 34 v17 35 v18) 36 v19 37 v20 38 v21 39 v22 40 v23 41 v24 42 v25 43 v26 44 v27 45 v28) 46 v29 47 v30)
def S67:Prop:=
 o_ G (Instr.box 30 (r 1)) h fun v0 h0=>o_ G (Instr.box 146 (r 3)) h0 fun v1 h1=>o_ G (Instr.loadAt 30 v0) h1 fun v2 h2=>
 c_ G 66 #[(r 0),v2] h2 fun v3 h3=>
 c_ G 65 #[v3,(r 2)] h3 fun v4 h4=>o_ G (binOp .lss 3 v4 (.int .i64 0)) h4 fun v5 h5=>
 (fun q=>cond v5
 (K .ret q h5)
 (az0 G K q h5))
 (u10 r 5 v0 7 v1 12 (r 0) 13 v2 14 v3 15 (r 2) 16 v4 8 v4 17 v4 18 v5)
theorem enter67:Ent 63 67 [] S67:=ent_ (m:=md67) (c:=(Tryz.f67.body.getD .skip)) (fun _ _ _ _=>by kernel_rfl) Tryz.func67 rfl rfl rfl
def md70:Nat->Hint
 |1=>mh false [0,1,3,7,0,16,63,0,255] [n_,n_,n_,m_,n_,m_,m_,.alloc,.store] (fs 9) false
 |2=>mh false [0,0,3,0,8,31,63,0,255] [n_,m_,e_,n_,m_,n_,m_,.alloc,.store] [false,false,true,false,false,false,false,false,false] true
 |_=>mh false [] [] [] false
def Eg:Prop:=
 o_ G (binOp .add 3 (r 33) (.int .i64 1)) h fun v22 h22=>
 K .normal (u2 r 93 v22 33 v22) h22
def nk:Prop:=
 o_ G (binOp .add 3 (r 40) (.int .i64 1)) h fun v31 h31=>
 K .normal (u2 r 92 v31 40 v31) h31
def De:Prop:=
 o_ G (Instr.fieldAt 232 (r 9) 0) h fun v64 h64=>o_ G (Instr.loadAt 48 v64) h64 fun v65 h65=>o_ G (Instr.alloc 48 true (.tuple #[])) h65 fun v66 h66=>
 opH P_ G (su (Instr.storeAt 48 v66 v65)) h66 fun v67 h67=>o_ G (Instr.fieldAt 48 v66 5) h67 fun v68 h68=>
 opH P_ G (su (Instr.storeAt 3 v68 (r 12))) h68 fun v69 h69=>o_ G (Instr.fieldAt 48 v66 6) h69 fun v70 h70=>
 opH P_ G (su (Instr.storeAt 3 v70 (r 13))) h70 fun v71 h71=>o_ G (Instr.fieldAt 48 v66 4) h71 fun v72 h72=>o_ G (Instr.loadAt 30 v72) h72 fun v73 h73=>o_ G (Instr.loadAt 137 (r 4)) h73 fun v74 h74=>o_ G (Instr.loadAt 48 v66) h74 fun v75 h75=>o_ G (Instr.build 146 #[(0,v74),(1,v75)]) h75 fun v76 h76=>
 c_ G 67 #[(r 0),v73,(r 13),v76] h76 fun v77 h77=>
 nk G K (u5 (u10 r 78 v64 79 v65 14 v66 80 (r 12) 81 (r 13) 82 v68 83 v70 84 (r 0) 85 v72 86 v73) 87 (r 13) 88 v74 89 v75 90 v76 91 v77) h77
def Df:Prop:=
 o_ G (Instr.fieldAt 151 (r 11) 0) h fun v47 h47=>o_ G (Instr.loadAt 3 v47) h47 fun v48 h48=>o_ G (Builtin.max_ #[3,3] 3 #[(r 2),v48]) h48 fun v49 h49=>o_ G (Instr.fieldAt 232 (r 9) 1) h49 fun v50 h50=>o_ G (Instr.loadAt 3 v50) h50 fun v51 h51=>
 c_ G 77 #[v49,v51] h51 fun v52 h52=>o_ G (Instr.fieldAt 151 (r 11) 1) h52 fun v53 h53=>o_ G (Instr.loadAt 3 v53) h53 fun v54 h54=>o_ G (binOp .geq 3 v49 v54) h54 fun v55 h55=>g_ v55 false (fun K1=>K1 v52 h55) h55 fun v56 h56=>g_ v55 false (o_ G (Instr.fieldAt 151 (r 11) 1) h56) h56 fun v57 h57=>g_ v55 false (o_ G (Instr.loadAt 3 v57) h57) h57 fun v58 h58=>g_ v55 false (o_ G (binOp .gtr 3 v56 v58) h58) h58 fun v59 h59=>
 opH P_ G (bf v55 (.bool true) v59) h59 fun v60 h60=>g_ v60 false (fun K1=>K1 v52 h60) h60 fun v61 h61=>g_ v60 false (o_ G (binOp .geq 3 v61 (.int .i64 4611686018427387904)) h61) h61 fun v62 h62=>
 opH P_ G (bf v60 (.bool true) v62) h62 fun v63 h63=>
 (fun q=>cond v63
 (nk G K q h63)
 (De G K q h63))
 (u4 (u10 (u10 r 56 (r 2) 57 v47 58 v48 59 v49 12 v49 60 v49 61 v50 62 v51 63 v52 13 v52) 64 v49 65 v53 66 v54 67 v55 68 v55 69 v56 70 v57 71 v58 72 v59 73 v60) 74 v60 75 v61 76 v62 77 v63)
def Dg:Prop:=
 o_ G (Instr.indexAt 142 (r 38) (r 40)) h fun v32 h32=>o_ G (Instr.loadAt 151 v32) h32 fun v33 h33=>o_ G (Instr.alloc 151 true (.tuple #[])) h33 fun v34 h34=>
 opH P_ G (su (Instr.storeAt 151 v34 v33)) h34 fun v35 h35=>o_ G (Instr.fieldAt 151 v34 0) h35 fun v36 h36=>o_ G (Instr.loadAt 3 v36) h36 fun v37 h37=>o_ G (Instr.fieldAt 151 (r 7) 0) h37 fun v38 h38=>o_ G (Instr.loadAt 3 v38) h38 fun v39 h39=>o_ G (binOp .lss 3 v37 v39) h39 fun v40 h40=>g_ v40 false (o_ G (Instr.fieldAt 151 v34 1) h40) h40 fun v41 h41=>g_ v40 false (o_ G (Instr.loadAt 3 v41) h41) h41 fun v42 h42=>g_ v40 false (o_ G (Instr.fieldAt 151 (r 7) 1) h42) h42 fun v43 h43=>g_ v40 false (o_ G (Instr.loadAt 3 v43) h43) h43 fun v44 h44=>g_ v40 false (o_ G (binOp .gtr 3 v42 v44) h44) h44 fun v45 h45=>
 opH P_ G (bf v40 (.bool true) v45) h45 fun v46 h46=>
 (fun q=>cond v46
 (nk G K q h46)
 (Df G K q h46))
 (u5 (u10 r 42 v32 43 v33 11 v34 44 v36 45 v37 46 v38 47 v39 48 v40 49 v40 50 v41) 51 v42 52 v43 53 v44 54 v45 55 v46)
def Ef (r:Rg) (h:Hp) (K:EK):Prop:=
 o_ G (binOp .lss 3 (r 40) (r 39)) h fun v30 h30=>
 cond v30
 (Dg G K (upd r 41 v30) h30)
 (K (.exit 2) (upd r 41 v30) h30)
def Mm:Prop:=
 o_ G (Instr.indexAt 229 (r 31) (r 33)) h fun v23 h23=>o_ G (Instr.loadAt 232 v23) h23 fun v24 h24=>o_ G (Instr.alloc 232 true (.tuple #[])) h24 fun v25 h25=>
 opH P_ G (su (Instr.storeAt 232 v25 v24)) h25 fun v26 h26=>o_ G (Instr.fieldAt 232 v25 2) h26 fun v27 h27=>o_ G (Instr.loadAt 142 v27) h27 fun v28 h28=>o_ G (Builtin.len_ #[142] 3 #[v28]) h28 fun v29 h29=>
 dc (Ef G) (u7 r 35 v23 36 v24 9 v25 37 v27 38 v28 39 v29 40 (.int .i64 0)) h29 (bj 2 (bj 1 (bw (Eg G K) K)))
def U4 (r:Rg) (h:Hp) (K:EK):Prop:=
 o_ G (binOp .lss 3 (r 33) (r 32)) h fun v21 h21=>
 cond v21
 (Mm G K (upd r 34 v21) h21)
 (K (.exit 0) (upd r 34 v21) h21)
def S70:Prop:=
 o_ G (Instr.box 137 (r 1)) h fun v0 h0=>
 bm P_ noHp noHp (xNil (r 0)) h0 fun v1 h1=>
 p_ (Instr.fieldAt 134 v1 7) h1 fun v2 h2=>
 w_ G h0 (Instr.loadAt 130 v2) h2 fun v3 h3=>
 p_ (Instr.fieldAt 137 v0 0) h3 fun v4 h4=>
 w_ G h0 (Instr.loadAt 3 v4) h4 fun v5 h5=>
 w_ G h0 (Instr.lookup 130 v3 v5 false) h5 fun v6 h6=>o_ G (Instr.alloc 30 true (.tuple #[])) h6 fun v7 h7=>
 opH P_ G (su (Instr.storeAt 30 v7 v6)) h7 fun v8 h8=>
 ∃q9:Hp,q9.le h8/\
 w_ G q9 (Instr.loadAt 30 v7) h8 fun v10 h10=>
 c_ G 66 #[(r 0),v10] h10 fun v11 h11=>q9.le h11/\
 p_ (Instr.fieldAt 137 v0 1) h11 fun v12 h12=>
 w_ G q9 (Instr.loadAt 3 v12) h12 fun v13 h13=>
 p_ (Instr.indexAt 142 v11 v13) h13 fun v14 h14=>
 w_ G q9 (Instr.loadAt 151 v14) h14 fun v15 h15=>o_ G (Instr.alloc 151 true (.tuple #[])) h15 fun v16 h16=>
 opH P_ G (su (Instr.storeAt 151 v16 v15)) h16 fun v17 h17=>o_ G (Instr.loadAt 30 v7) h17 fun v18 h18=>
 c_ G 121 #[(r 0),v18] h18 fun v19 h19=>o_ G (Builtin.len_ #[229] 3 #[v19]) h19 fun v20 h20=>
 dc (U4 G) (u2 (u10 (u10 r 4 v0 15 (r 0) 16 v1 17 v2 18 v3 19 v4 20 v5 21 v6 6 v7 22 (r 0)) 23 v10 24 v11 25 v12 26 v13 27 v14 28 v15 7 v16 29 (r 0) 30 v18 31 v19) 32 v20 33 (.int .i64 0)) h20 (bj 0 K)
theorem enter70:Ent 94 70 [] S70:=ent_ (m:=md70) (c:=(Tryz.f70.body.getD .skip)) (fun _ _ _ _=>by kernel_rfl) Tryz.func70 rfl rfl rfl
def md69:Nat->Hint
 |2=>mh false [0,1,3,7,0,31,63] [n_,n_,n_,m_,m_,m_,n_] (fs 7) false
 |4=>mh false [0,1,3,7,0,16,48,112,255,511] [n_,n_,n_,m_,n_,n_,n_,m_,m_,n_] (fs 10) false
 |_=>mh false [] [] [] false
def U5:Prop:=
 c_ G 120 #[(r 5)] h fun v6 h6=>
 K .ret (u4 r 35 (r 5) 36 v6 37 (r 5) 4 (r 5)) h6
def Mn:Prop:=
 bm P_ noHp noHp (xNil (r 0)) h fun v12 h12=>
 p_ (Instr.fieldAt 134 v12 8) h12 fun v13 h13=>
 w_ G h (Instr.loadAt 131 v13) h13 fun v14 h14=>
 bm P_ noHp noHp (xNil (r 6)) h14 fun v15 h15=>
 p_ (Instr.fieldAt 146 v15 0) h15 fun v16 h16=>
 w_ G h (Instr.loadAt 137 v16) h16 fun v17 h17=>
 w_ G h (Instr.lookup 131 v14 v17 false) h17 fun v18 h18=>
 K .normal (u10 r 19 (r 0) 20 v12 21 v13 22 v14 23 (r 6) 24 v15 25 v16 26 v17 27 v18 6 v18) h18
def Mo:Prop:=
 opH P_ G (xNil (r 6)) h fun v19 h19=>o_ G (Instr.fieldAt 146 v19 1) h19 fun v20 h20=>o_ G (Instr.loadAt 48 v20) h20 fun v21 h21=>o_ G (Instr.buildSlice 40 1 #[(0,v21)]) h21 fun v22 h22=>o_ G (Builtin.append_ #[40,40] 40 #[(r 5),v22]) h22 fun v23 h23=>
 Mn G K (u8 r 28 (r 5) 29 (r 6) 30 v19 31 v20 32 v21 33 v22 34 v23 5 v23) h23
def ay8 (r:Rg) (h:Hp) (K:EK):Prop:=
 opH P_ G (xNil (r 6)) h fun v7 h7=>o_ G (Instr.fieldAt 146 v7 1) h7 fun v8 h8=>o_ G (Instr.fieldAt 48 v8 0) h8 fun v9 h9=>o_ G (Instr.loadAt 3 v9) h9 fun v10 h10=>
 opH P_ G (xEq .neq 3 (.tmp 0) (.const .nilFunc) v10 (.int .i64 0)) h10 fun v11 h11=>
 (fun q=>cond v11
 (Mo G K q h11)
 (K (.exit 0) q h11))
 (u6 r 13 (r 6) 14 v7 15 v8 16 v9 17 v10 18 v11)
def S69:Prop:=
 o_ G (Instr.box 137 (r 1)) h fun v0 h0=>
 bm P_ noHp noHp (xNil (r 0)) h0 fun v1 h1=>
 p_ (Instr.fieldAt 134 v1 8) h1 fun v2 h2=>
 w_ G h0 (Instr.loadAt 131 v2) h2 fun v3 h3=>
 w_ G h0 (Instr.loadAt 137 v0) h3 fun v4 h4=>
 w_ G h0 (Instr.lookup 131 v3 v4 false) h4 fun v5 h5=>
 dc (ay8 G) (u10 r 3 v0 4 (.slice none 0 0) 5 (.slice none 0 0) 7 (r 0) 8 v1 9 v2 10 v3 11 v4 12 v5 6 v5) h5 (bj 0 (bw (U5 G K) K))
theorem enter69:Ent 38 69 [.tmp 4] S69:=ent_ (m:=md69) (c:=(Tryz.f69.body.getD .skip)) (fun _ _ _ _=>by kernel_rfl) Tryz.func69 rfl rfl rfl
def md27:Nat->Hint
 |7=>mh false [0,1,3,7,15,7,39,7,135,487,1023,2047,4095,8191,16383,32767,65535,131071,262143,524287,1048575,2097151,4194303,8388607,16777215,33554431,33554431,134217727,268435455,536870911,1073741823,2147483647,4294967295,8589934591] [n_,m_,n_,n_,e_,n_,m_,n_,m_,n_,m_,n_,n_,n_,n_,n_,n_,n_,n_,n_,n_,n_,n_,n_,n_,n_,m_,e_,n_,n_,n_,n_,n_,n_] [false,false,false,false,true,false,false,false,false,false,false,false,false,false,false,false,false,false,false,false,false,false,false,false,false,false,false,false,false,false,false,false,false,false] true
 |19=>mh false [0,1,3,7,0,16,63,127] [n_,n_,n_,m_,n_,m_,m_,n_] (fs 8) false
 |20=>mh false [0,1,3,7,15,31,63,127,255,31,543,2047,4095] [n_,n_,n_,m_,n_,n_,n_,n_,m_,n_,m_,m_,n_] (fs 13) false
 |23=>mh false [0,1,3,7,0,16,48,127,0,511] [n_,n_,n_,m_,n_,n_,m_,m_,.alloc,.store] (fs 10) false
 |25=>mh false [0,1,3,3,15,3,35,99,255,511,1023,2047,4095] [n_,n_,n_,m_,e_,n_,n_,m_,n_,n_,m_,m_,n_] [false,false,false,false,true,false,false,false,false,false,false,false,false] true
 |_=>mh false [] [] [] false
def El (G:Hp) (K:EK) (r:Rg) (h:Hp):Prop:=
 K .ret (u3 r 201 (r 15) 12 (.slice none 0 0) 13 (r 15)) h
def Ip:Prop:=
 o_ G (Instr.fieldAt 139 (r 21) 1) h fun v137 h137=>o_ G (Instr.loadAt 137 v137) h137 fun v138 h138=>o_ G (Instr.fieldAt 139 (r 21) 0) h138 fun v139 h139=>o_ G (Instr.loadAt 3 v139) h139 fun v140 h140=>
 c_ G 70 #[(r 19),v138,v140] h140 fun v141 h141=>
 K .normal (u6 r 195 (r 19) 196 v137 197 v138 198 v139 199 v140 200 v141) h141
def Ej:Prop:=
 o_ G (Instr.fieldAt 26 (r 6) 14) h fun v134 h134=>o_ G (Instr.loadAt 3 v134) h134 fun v135 h135=>
 opH P_ G (xEq .eql 3 (.tmp 0) (.tmp 0) (r 20) v135) h135 fun v136 h136=>
 (fun q=>cond v136
 (K (.exit 0) (upd q 15 (.int .i64 7)) h136)
 (Ip G K q h136))
 (u4 r 191 (r 20) 192 v134 193 v135 194 v136)
def Ek:Prop:=
 opH P_ G (xNil (r 23)) h fun v94 h94=>o_ G (Instr.fieldAt 146 v94 3) h94 fun v95 h95=>
 opH P_ G (su (Instr.storeAt 4 v95 (.bool true))) h95 fun v96 h96=>o_ G (binOp .add 3 (r 20) (.int .i64 1)) h96 fun v97 h97=>
 bm P_ noHp noHp (xNil (r 19)) h97 fun v98 h98=>
 p_ (Instr.fieldAt 134 v98 7) h98 fun v99 h99=>
 w_ G h97 (Instr.loadAt 130 v99) h99 fun v100 h100=>
 p_ (Instr.fieldAt 139 (r 21) 1) h100 fun v101 h101=>
 p_ (Instr.fieldAt 137 v101 0) h101 fun v102 h102=>
 w_ G h97 (Instr.loadAt 3 v102) h102 fun v103 h103=>
 w_ G h97 (Instr.lookup 130 v100 v103 false) h103 fun v104 h104=>o_ G (Instr.alloc 30 true (.tuple #[])) h104 fun v105 h105=>
 opH P_ G (su (Instr.storeAt 30 v105 v104)) h105 fun v106 h106=>o_ G (Instr.loadAt 30 v105) h106 fun v107 h107=>o_ G (Instr.fieldAt 45 (r 11) 0) h107 fun v108 h108=>o_ G (Instr.loadAt 30 v108) h108 fun v109 h109=>
 opH P_ G (xEq .eql 30 (.tmp 0) (.tmp 0) v107 v109) h109 fun v110 h110=>g_ v110 false (o_ G (Instr.fieldAt 45 (r 11) 1) h110) h110 fun v111 h111=>g_ v110 false (o_ G (Instr.loadAt 4 v111) h111) h111 fun v112 h112=>g_ v110 false (fun K1=>K1 v112 h112) h112 fun v113 h113=>g_ v113 true (o_ G (Instr.fieldAt 30 v105 0) h113) h113 fun v114 h114=>g_ v113 true (o_ G (Instr.loadAt 28 v114) h114) h114 fun v115 h115=>g_ v113 true (o_ G (Instr.fieldAt 45 (r 11) 0) h115) h115 fun v116 h116=>g_ v113 true (o_ G (Instr.fieldAt 30 v116 0) h116) h116 fun v117 h117=>g_ v113 true (o_ G (Instr.loadAt 28 v117) h117) h117 fun v118 h118=>g_ v113 true (opH P_ G (xEq .eql 28 (.tmp 0) (.tmp 0) v115 v118) h118) h118 fun v119 h119=>g_ v110 false (opH P_ G (bf v113 v119 (.bool false)) h119) h119 fun v120 h120=>
 opH P_ G (bf v110 (.bool true) v120) h120 fun v121 h121=>
 ∃q122:Hp,q122.le h121/\
 g_ v121 true (fun K1=>K1 (r 19) h121) h121 fun v123 h123=>g_ v121 true (w_ G q122 (Instr.loadAt 30 v105) h123) h123 fun v124 h124=>g_ v121 true (fun K1=>c_ G 66 #[v123,v124] h124 fun v h'=>q122.le h'/\K1 v h') h124 fun v125 h125=>g_ v121 true (p_ (Instr.fieldAt 139 (r 21) 1) h125) h125 fun v126 h126=>g_ v121 true (p_ (Instr.fieldAt 137 v126 1) h126) h126 fun v127 h127=>g_ v121 true (w_ G q122 (Instr.loadAt 3 v127) h127) h127 fun v128 h128=>g_ v121 true (p_ (Instr.indexAt 142 v125 v128) h128) h128 fun v129 h129=>g_ v121 true (p_ (Instr.fieldAt 151 v129 1) h129) h129 fun v130 h130=>g_ v121 true (w_ G q122 (Instr.loadAt 3 v130) h130) h130 fun v131 h131=>g_ v121 true (bm P_ G q122 (xEq .eql 3 (.tmp 0) (.const .nilFunc) v131 (.int .i64 4611686018427387904)) h131) h131 fun v132 h132=>
 bm P_ noHp noHp (bf v121 v132 (.bool false)) h132 fun v133 h133=>
 cond v133
 (o_ G (Instr.fieldAt 139 (r 21) 1) h133 fun v142 h142=>o_ G (Instr.loadAt 137 v142) h142 fun v143 h143=>
 c_ G 69 #[(r 19),v143] h143 fun v144 h144=>
 K .ret (upd (u10 (u10 (u10 (u10 (u10 r 145 (r 23) 146 v94 147 v95 148 (r 20) 149 v97 20 v97 150 (r 19) 151 v98 152 v99 153 v100) 154 v101 155 v102 156 v103 157 v104 24 v105 158 v107 159 v108 160 v109 161 v110 162 v110) 163 v111 164 v112 165 v113 166 v114 167 v115 168 v116 169 v117 170 v118 171 v119 172 v120) 173 v121 25 v121 174 v121 175 v121 176 v123 177 v124 178 v125 179 v126 180 v127 181 v128) 182 v129 183 v130 184 v131 185 v132 186 v133 187 (r 19) 188 v142 189 v143 190 v144 12 v144) 13 (.int .i64 0)) h144)
 (Ej G K (u5 (u10 (u10 (u10 (u10 r 145 (r 23) 146 v94 147 v95 148 (r 20) 149 v97 20 v97 150 (r 19) 151 v98 152 v99 153 v100) 154 v101 155 v102 156 v103 157 v104 24 v105 158 v107 159 v108 160 v109 161 v110 162 v110) 163 v111 164 v112 165 v113 166 v114 167 v115 168 v116 169 v117 170 v118 171 v119 172 v120) 173 v121 25 v121 174 v121 175 v121 176 v123 177 v124 178 v125 179 v126 180 v127 181 v128) 182 v129 183 v130 184 v131 185 v132 186 v133) h133)
def M7:Prop:=
 bm P_ noHp noHp (xNil (r 19)) h fun v77 h77=>
 p_ (Instr.fieldAt 134 v77 8) h77 fun v78 h78=>
 w_ G h (Instr.loadAt 131 v78) h78 fun v79 h79=>
 p_ (Instr.fieldAt 139 (r 21) 1) h79 fun v80 h80=>
 w_ G h (Instr.loadAt 137 v80) h80 fun v81 h81=>
 w_ G h (Instr.lookup 131 v79 v81 false) h81 fun v82 h82=>
 bm P_ noHp noHp (xNil v82) h82 fun v83 h83=>
 p_ (Instr.fieldAt 146 v83 3) h83 fun v84 h84=>
 w_ G h82 (Instr.loadAt 4 v84) h84 fun v85 h85=>g_ v85 false (fun K1=>K1 v82 h85) h85 fun v86 h86=>g_ v85 false (bm P_ noHp noHp (xNil v86) h86) h86 fun v87 h87=>g_ v85 false (p_ (Instr.fieldAt 146 v87 2) h87) h87 fun v88 h88=>g_ v85 false (w_ G h82 (Instr.loadAt 3 v88) h88) h88 fun v89 h89=>g_ v85 false (p_ (Instr.fieldAt 139 (r 21) 0) h89) h89 fun v90 h90=>g_ v85 false (w_ G h82 (Instr.loadAt 3 v90) h90) h90 fun v91 h91=>g_ v85 false (bm P_ G h82 (xEq .neq 3 (.tmp 0) (.tmp 0) v89 v91) h91) h91 fun v92 h92=>
 bm P_ noHp noHp (bf v85 (.bool true) v92) h92 fun v93 h93=>
 (fun q=>cond v93
 (K .normal q h93)
 (Ek G K q h93))
 (upd (u10 (u10 r 125 (r 19) 126 v77 127 v78 128 v79 129 v80 130 v81 131 v82 23 v82 132 v82 133 v83) 134 v84 135 v85 136 v85 137 v86 138 v87 139 v88 140 v89 141 v90 142 v91 143 v92) 144 v93)
def Vb (r:Rg) (h:Hp) (K:EK):Prop:=
 opH P_ G (xNil (r 19)) h fun v68 h68=>o_ G (Instr.fieldAt 134 v68 9) h68 fun v69 h69=>o_ G (Instr.loadAt 132 v69) h69 fun v70 h70=>
 c_ G 68 #[v70] h70 fun v71 h71=>o_ G (Instr.extract v71 0) h71 fun v72 h72=>o_ G (Instr.extract v71 1) h72 fun v73 h73=>o_ G (Instr.alloc 139 true (.tuple #[])) h73 fun v74 h74=>
 opH P_ G (su (Instr.storeAt 139 v74 v72)) h74 fun v75 h75=>o_ G (Op.unary .not v73) h75 fun v76 h76=>
 (fun q=>cond v76
 (K (.exit 0) q h76)
 (M7 G K q h76))
 (u2 (u10 r 116 (r 19) 117 v68 118 v69 119 v70 120 v71 115 v71 121 v72 122 v73 21 v74 22 v73) 123 v73 124 v76)
def aC2:Prop:=
 o_ G (Instr.loadAt 30 (r 9)) h fun v65 h65=>o_ G (Instr.build 146 #[]) h65 fun v66 h66=>
 c_ G 67 #[(r 19),v65,(r 4),v66] h66 fun v67 h67=>
 dc (Vb G) (u7 r 110 (r 19) 111 v65 112 (r 4) 113 v66 114 v67 20 (.int .i64 0) 15 (.int .i64 6)) h67 (bj 0 (bw (El G K) (tz K)))
def Vc:Prop:=
 o_ G (Instr.fieldAt 26 (r 6) 7) h fun v41 h41=>o_ G (Instr.loadAt 3 v41) h41 fun v42 h42=>o_ G (Instr.fieldAt 26 (r 6) 8) h42 fun v43 h43=>o_ G (Instr.loadAt 3 v43) h43 fun v44 h44=>o_ G (Instr.fieldAt 26 (r 6) 9) h44 fun v45 h45=>o_ G (Instr.loadAt 3 v45) h45 fun v46 h46=>
 c_ G 29 #[v42,v44,v46] h46 fun v47 h47=>o_ G (Instr.extract v47 0) h47 fun v48 h48=>o_ G (Instr.extract v47 1) h48 fun v49 h49=>o_ G (Instr.loadAt 26 (r 6)) h49 fun v50 h50=>o_ G (Instr.makeMap 128 none) h50 fun v51 h51=>o_ G (Instr.makeMap 129 none) h51 fun v52 h52=>o_ G (Instr.makeMap 130 none) h52 fun v53 h53=>o_ G (Instr.makeMap 131 none) h53 fun v54 h54=>o_ G (Instr.build 134 #[(0,v50),(1,(r 14)),(2,v48),(3,(r 1)),(4,(r 2)),(5,v51),(6,v52),(7,v53),(8,v54),(9,(.pointer none))]) h54 fun v55 h55=>o_ G (Instr.box 134 v55) h55 fun v56 h56=>
 opH P_ G (callFunc 63 #[(.func (.func 64) #[] #[])]) h56 fun v57 h57=>
 opH P_ G (xNil v56) h57 fun v58 h58=>o_ G (Instr.fieldAt 134 v58 9) h58 fun v59 h59=>
 opH P_ G (su (Instr.storeAt 132 v59 v57)) h59 fun v60 h60=>o_ G (Instr.loadAt 30 (r 9)) h60 fun v61 h61=>
 c_ G 66 #[v56,v61] h61 fun v62 h62=>
 c_ G 65 #[v62,(r 4)] h62 fun v63 h63=>o_ G (binOp .lss 3 v63 (.int .i64 0)) h63 fun v64 h64=>
 (fun q=>cond v64
 (K .ret (u2 q 12 (.slice none 0 0) 13 (.int .i64 18)) h64)
 (aC2 G K q h64))
 (u4 (u10 (u10 (u10 r 80 v41 81 v42 82 v43 83 v44 84 v45 85 v46 86 v47 79 v47 87 v48 88 v49) 17 v48 18 v49 89 v50 90 (r 14) 91 v48 92 (r 1) 93 (r 2) 94 v51 95 v52 96 v53) 97 v54 98 v55 99 v56 19 v56 100 v56 101 v57 102 v58 103 v59 104 v56 105 v61) 106 v62 107 (r 4) 108 v63 109 v64)
def Pb:Prop:=
 ∃q13:Hp,q13.le h/\
 bm P_ G q13 (xEq .eql 34 (.tmp 0) (.const .nilFunc) (r 1) (.pointer none)) h fun v14 h14=>g_ v14 false (fun K1=>K1 (r 1) h14) h14 fun v15 h15=>g_ v14 false (fun K1=>c_ G 26 #[v15] h15 fun v h'=>q13.le h'/\K1 v h') h15 fun v16 h16=>g_ v14 false (p_ (Instr.fieldAt 26 (r 6) 0) h16) h16 fun v17 h17=>g_ v14 false (w_ G q13 (Instr.loadAt 3 v17) h17) h17 fun v18 h18=>g_ v14 false (p_ (Instr.fieldAt 26 (r 6) 1) h18) h18 fun v19 h19=>g_ v14 false (w_ G q13 (Instr.loadAt 3 v19) h19) h19 fun v20 h20=>g_ v14 false (p_ (binOp .mul 3 v18 v20) h20) h20 fun v21 h21=>g_ v14 false (bm P_ G q13 (xEq .neq 3 (.tmp 0) (.tmp 0) v16 v21) h21) h21 fun v22 h22=>
 bm P_ noHp noHp (bf v14 (.bool true) v22) h22 fun v23 h23=>g_ v23 false (fun K1=>K1 (r 2) h23) h23 fun v24 h24=>g_ v23 false (p_ (binOp .lss 3 v24 (.int .i64 0)) h24) h24 fun v25 h25=>
 bm P_ noHp noHp (bf v23 (.bool true) v25) h25 fun v26 h26=>g_ v26 false (fun K1=>K1 (r 4) h26) h26 fun v27 h27=>g_ v26 false (p_ (binOp .lss 3 v27 (.int .i64 0)) h27) h27 fun v28 h28=>
 bm P_ noHp noHp (bf v26 (.bool true) v28) h28 fun v29 h29=>g_ v29 false (fun K1=>K1 (r 4) h29) h29 fun v30 h30=>g_ v29 false (p_ (binOp .geq 3 v30 (.int .i64 4611686018427387904)) h30) h30 fun v31 h31=>
 bm P_ noHp noHp (bf v29 (.bool true) v31) h31 fun v32 h32=>g_ v32 false (fun K1=>K1 (r 14) h32) h32 fun v33 h33=>g_ v32 false (w_ G q13 (Instr.loadAt 30 (r 9)) h33) h33 fun v34 h34=>g_ v32 false (c_ G 61 #[v33,v34] h34) h34 fun v35 h35=>g_ v32 false (p_ (Op.unary .not v35) h35) h35 fun v36 h36=>
 bm P_ noHp noHp (bf v32 (.bool true) v36) h36 fun v37 h37=>g_ v37 false (fun K1=>K1 (r 16) h37) h37 fun v38 h38=>g_ v37 false (p_ (Op.unary .not v38) h38) h38 fun v39 h39=>
 bm P_ noHp noHp (bf v37 (.bool true) v39) h39 fun v40 h40=>
 (fun q=>cond v40
 (K .ret (u2 q 12 (.slice none 0 0) 13 (.int .i64 1)) h40)
 (Vc G K q h40))
 (u4 (u10 (u10 (u10 r 45 (r 1) 46 v14 47 v14 48 v15 49 v16 50 v17 51 v18 52 v19 53 v20 54 v21) 55 v22 56 v23 57 v23 58 v24 59 v25 60 v26 61 v26 62 v27 63 v28 64 v29) 65 v29 66 v30 67 v31 68 v32 69 v32 70 v33 71 v34 72 v35 73 v36 74 v37) 75 v37 76 v38 77 v39 78 v40)
def aC3:Prop:=
 o_ G (Instr.fieldAt 45 (r 11) 0) h fun v8 h8=>o_ G (Instr.loadAt 30 v8) h8 fun v9 h9=>
 c_ G 61 #[(r 14),v9] h9 fun v10 h10=>o_ G (Instr.fieldAt 45 (r 11) 1) h10 fun v11 h11=>o_ G (Instr.loadAt 4 v11) h11 fun v12 h12=>
 cond v12
 (o_ G (Instr.fieldAt 45 (r 11) 0) h12 fun v145 h145=>o_ G (Instr.fieldAt 30 v145 0) h145 fun v146 h146=>o_ G (Instr.loadAt 28 v146) h146 fun v147 h147=>
 c_ G 62 #[(r 14),v147] h147 fun v148 h148=>
 Pb G K (u3 (u10 r 34 (r 14) 35 v8 36 v9 37 v10 16 v10 38 v11 39 v12 40 (r 14) 41 v145 42 v146) 43 v147 44 v148 16 v148) h148)
 (Pb G K (u7 r 34 (r 14) 35 v8 36 v9 37 v10 16 v10 38 v11 39 v12) h12)
def S27:Prop:=
 o_ G (Instr.box 26 (r 0)) h fun v0 h0=>o_ G (Instr.box 30 (r 3)) h0 fun v1 h1=>o_ G (Instr.box 45 (r 5)) h1 fun v2 h2=>o_ G (Instr.loadAt 26 v0) h2 fun v3 h3=>
 c_ G 37 #[v3] h3 fun v4 h4=>o_ G (Instr.extract v4 0) h4 fun v5 h5=>o_ G (Instr.extract v4 1) h5 fun v6 h6=>
 opH P_ G (xEq .neq 35 (.tmp 0) (.const .nilFunc) v6 (.int .i64 0)) h6 fun v7 h7=>
 (fun q=>cond v7
 (K .ret (u3 q 33 v6 12 (.slice none 0 0) 13 v6) h7)
 (aC3 G K q h7))
 (u4 (u10 r 6 v0 9 v1 11 v2 12 (.slice none 0 0) 13 (.int .i64 0) 27 v3 28 v4 26 v4 29 v5 30 v6) 14 v5 15 v6 31 v6 32 v7)
theorem enter27:Ent 202 27 [.tmp 12,.tmp 13] S27:=ent_ (m:=md27) (c:=(Tryz.f27.body.getD .skip)) (fun _ _ _ _=>by kernel_rfl) Tryz.func27 rfl rfl rfl
def md120:Nat->Hint
 |3=>mh false [0,0,0,0,0,0,48,112,0,0,768,1792,4083,8179,16383,32767] [n_,n_,n_,n_,n_,n_,n_,m_,n_,n_,n_,m_,n_,.store,n_,.store] (fs 16) false
 |_=>mh false [] [] [] false
def Jo:Prop:=
 o_ G (binOp .add 3 (r 2) (.int .i64 1)) h fun v3 h3=>o_ G (binOp .sub 3 (r 3) (.int .i64 1)) h3 fun v4 h4=>
 K .normal (u6 r 10 (r 2) 11 v3 12 (r 3) 13 v4 2 v3 3 v4) h4
def Jp:Prop:=
 p_ (Instr.indexAt 40 (r 0) (r 3)) h fun v5 h5=>
 w_ G h (Instr.loadAt 48 v5) h5 fun v6 h6=>
 p_ (Instr.indexAt 40 (r 0) (r 2)) h6 fun v7 h7=>
 w_ G h (Instr.loadAt 48 v7) h7 fun v8 h8=>
 p_ (Instr.indexAt 40 (r 0) (r 2)) h8 fun v9 h9=>
 opH P_ G (su (Instr.storeAt 48 v9 v6)) h9 fun v10 h10=>
 p_ (Instr.indexAt 40 (r 0) (r 3)) h10 fun v11 h11=>
 opH P_ G (su (Instr.storeAt 48 v11 v8)) h11 fun v12 h12=>
 Jo G K (u4 (u10 r 14 (r 0) 15 (r 2) 16 (r 0) 17 (r 3) 18 (r 0) 19 (r 3) 20 v5 21 v6 22 (r 0) 23 (r 2)) 24 v7 25 v8 26 v9 27 v11) h12
def Yh (r:Rg) (h:Hp) (K:EK):Prop:=
 o_ G (binOp .lss 3 (r 2) (r 3)) h fun v2 h2=>
 cond v2
 (Jp G K (u3 r 7 (r 2) 8 (r 3) 9 v2) h2)
 (K (.exit 0) (u3 r 7 (r 2) 8 (r 3) 9 v2) h2)
def S120:Prop:=
 o_ G (Builtin.len_ #[40] 3 #[(r 0)]) h fun v0 h0=>o_ G (binOp .sub 3 v0 (.int .i64 1)) h0 fun v1 h1=>
 dc (Yh G) (u5 r 4 (r 0) 5 v0 6 v1 2 (.int .i64 0) 3 v1) h1 (bj 0 K)
theorem as5:Ent 28 120 [] S120:=ent_ (m:=md120) (c:=(Tryz.f120.body.getD .skip)) (fun _ _ _ _=>by kernel_rfl) Tryz.func120 rfl rfl rfl
end
end Go.Proofs.YtfflipnhffknnaaGreatDoor
end
section
namespace Go.Proofs.YtfflipnhffknnaaGreatDoor
open Go Go.HL Go.Proofs.Resv Go.Proofs.Srch
def bRtL:=jq bC (jq (jq (jq (jq @al151 @Uw) (jq @Lx @cf72)) (jq (jq @Oq @am6) (jq @Oo @Sc))) (jq (jq (jq @Cv @Cu) (jq @Ba @Hq)) (jq (jq @ld151 @ld3) (jq @ld3p (jq @ln142 @Te)))))
def gi (C:Conf) (m:Move):Int:=if m.k=1 then Er C.un C.ac C.sp m.n else if m.k=2 then C.tu else if m.k=3\/m.k=4 then C.ho else 0
theorem T3 {G h a:Hp} {R:List Hp} {v:Value} {C:Conf} {kp:Nat} {m:Move} (hv:CV G h v C) (k:KP a kp C.un C.ac C.sp) (s:Sep (a::R) h) (hn:Bd m.n):
 aj P_ G 30 #[v,.pointer (some ⟨kp,0,none⟩),Cg m] h (fun u h'=>u = .int .i64 (gi C m)/\∃a',KP a' kp C.un C.ac C.sp/\Sep (a'::R) h'/\Dis G h'):=by
 obtain ⟨ab,cb,ap,cp,ar,cr,az,cs,rfl,ca⟩:=hv
 refine aj.assume fun d=>enter30 (by simp) ?_
 unfold S30
 simp only [bRtL]
 intro x hx gx y hy gy
 have s1:=((s.new (o := .cells #[C.w,C.h,C.ht,.slice ab C.bl.length cb,.slice ap C.po.length cp,.slice ar C.ro.length cr,.slice az C.st.length cs,C.un,C.ac,C.sp,C.tu,C.ho,C.qu,C.re,C.bu,.bool C.back] 26 (0,0)) hx).new (o:=ny m) hy)
 have d1:=(d.set (o := .cells #[C.w,C.h,C.ht,.slice ab C.bl.length cb,.slice ap C.po.length cp,.slice ar C.ro.length cr,.slice az C.st.length cs,C.un,C.ac,C.sp,C.tu,C.ho,C.qu,C.re,C.bu,.bool C.back] 26 (0,0)) gx).set (o:=ny m) gy
 generalize Hp.set (Hp.set h x _) y _=h1 at s1 d1 ⊢
 have cx:∀k,aa G h1 ⟨x,k,none⟩=_:=fun k=>ai (ag (s1.at 1 rfl af))
 have cy:∀k,aa G h1 ⟨y,k,none⟩=_:=fun k=>ai (ag (s1.at 0 rfl af))
 have out:∀u:Int,u=gi C m->(Value.int .i64 u = .int .i64 (gi C m)/\∃a',KP a' kp C.un C.ac C.sp/\Sep (a'::R) h1/\Dis G h1):=fun u e=>⟨by rw [e],a,k,s1.drop.drop,d1⟩
 try simp (disch:=first|decide|omega) only [bRtL,Nat.reduceAdd,Nat.reduceMul,cy]
 by_cases h1:m.k=1
 . rw [show (m.k==1)=true by simpa using h1]
   try simp only [bRtL,cy]
   refine (Y0 k (s1.drop.drop) hn).mono ?_
   rintro _ h2 ⟨rfl,a',k',s2,d2⟩
   try simp (disch:=first|decide|omega) only [bRtL,Nat.reduceAdd,Nat.reduceMul]
   exact ⟨by unfold gi;rw [if_pos h1],a',k',s2,d2⟩
 . rw [show (m.k==1)=false by simpa using h1]
   try simp only [bRtL,cy]
   by_cases h2:m.k=2
   . rw [show (m.k==2)=true by simpa using h2]
     try simp only [bRtL,cx]
     exact out _ (by unfold gi;rw [if_neg h1,if_pos h2])
   . rw [show (m.k==2)=false by simpa using h2]
     try simp only [bRtL,cy]
     by_cases h3:m.k=3
     . rw [show (m.k==3)=true by simpa using h3]
       try simp only [bRtL]
       unfold Pa
       try simp (disch:=decide) only [bRtL,cx]
       exact out _ (by unfold gi;rw [if_neg h1,if_neg h2,if_pos (.inl h3)])
     . rw [show (m.k==3)=false by simpa using h3]
       try simp only [bRtL]
       unfold Pa
       by_cases h4:m.k=4
       . rw [show (m.k==4)=true by simpa using h4]
         try simp (disch:=decide) only [bRtL,cx]
         exact out _ (by unfold gi;rw [if_neg h1,if_neg h2,if_pos (.inr h4)])
       . rw [show (m.k==4)=false by simpa using h4]
         try simp (disch:=decide) only [bRtL]
         unfold aB9
         try simp only [bRtL]
         exact out _ (by unfold gi;rw [if_neg h1,if_neg h2,if_neg (by omega)])
def lw:Cod Sp:=⟨2,fun x=>[.int .i64 x.1,.int .i64 x.2],fun _=>rfl,fun _ v hv=>by simp at hv;rcases hv with rfl|rfl<;>rfl⟩
theorem eospan:gu P_ 151 lw.n 16:=eo151
theorem Sees.span {G h:Hp} {sa:Option Addr} {cap n:Nat} {L:List Sp} (s:Sees lw G h (.slice sa n cap) L) {i:Nat} {x:Sp} (hx:L[i]?=some x):
 ∃b o,sa=some ⟨b,o,none⟩/\aa G h ⟨b,o+i*2,none⟩=some (.int .i64 x.1)/\aa G h ⟨b,o+i*2+1,none⟩=some (.int .i64 x.2):=by
 obtain ⟨s',cap',e,_,hc⟩:=s
 cases e
 rcases hc with rfl|⟨b,o,rfl,hc⟩
 . simp at hx
 . exact ⟨b,o,rfl,hc i x hx 0 (by decide),hc i x hx 1 (by decide)⟩
theorem both_at {A B:List Sp} {i j:Nat} {x y:Sp} (hx:A[i]?=some x) (hy:B[j]?=some y):ph (A.drop i) (B.drop j)=capB x y++(if x.2<y.2 then ph (A.drop (i+1)) (B.drop j)else ph (A.drop i) (B.drop (j+1))):=by
 obtain ⟨hi,rfl⟩:=List.getElem?_eq_some_iff.1 hx
 obtain ⟨hj,rfl⟩:=List.getElem?_eq_some_iff.1 hy
 rw [List.drop_eq_getElem_cons hi,List.drop_eq_getElem_cons hj,ph,<- List.drop_eq_getElem_cons hi,<- List.drop_eq_getElem_cons hj]
theorem Ec {G h:Hp} {va vb:Value} {A B:List Sp} (sA:Sees lw G h va A) (sB:Sees lw G h vb B) (hlen:A.length+B.length<=1000000000):
 aj P_ G 146 #[va,vb] h (fun u h'=>∃ip,Slc lw 151 ip u (ph A B)/\Sep [ip,h] h'/\Dis G h'):=by
 obtain ⟨a1,c1,rfl,_⟩:=id sA
 obtain ⟨a2,c2,rfl,_⟩:=id sB
 obtain ⟨W,hW⟩:∃W,W=ph A B:=⟨_,rfl⟩
 rw [<- hW]
 have hWl:W.length<=1000000000:=by have:=C4 _ A B (Nat.le_refl _);rw [hW];omega
 refine aj.assume fun d=>aq1 (by simp) ?_
 unfold S146
 refine ci (fun m r h'=>∃(i j:Nat) (ip:Hp) (O:List Sp) (v:Value),m=(A.length-i)+(B.length-j)/\i<=A.length/\j<=B.length/\r 0 = .slice a1 A.length c1/\r 1 = .slice a2 B.length c2/\r 5=v/\r 6 = .int .i64 i/\r 7 = .int .i64 j/\
  Slc lw 151 ip v O/\Sep [ip,h] h'/\Dis G h'/\O++ph (A.drop i) (B.drop j)=W) ?_ (m:=A.length+B.length)
  ⟨0,0,noHp,[],.slice none 0 0,rfl,by omega,by omega,by simp (disch:=decide) only [bRtL],by simp (disch:=decide) only [bRtL],by simp (disch:=decide) only [bRtL],by simp (disch:=decide) only [bRtL];rfl,by simp only [bRtL];rfl,Slc.nil,Sep.one.none,d,by simp [hW]⟩
 rintro m r h' ⟨i,j,ip,O,v,rfl,hi,hj,g0,g1,g5,g6,g7,sl,s,d',hO⟩ X hX
 unfold Xp
 simp only [bRtL,g0,g1,g6,g7]
 have fin:ph (A.drop i) (B.drop j)=[]->∀(r':Rg),r' 5=v->F6 G (retK P_ G [.tmp 4] fun u h'=>∃ip,Slc lw 151 ip u W/\Sep [ip,h] h'/\Dis G h') r' h':=fun e r' g=>by
  unfold F6
  try simp only [bRtL,g]
  rw [e,List.append_nil]at hO
  rw [<- hO]
  exact ⟨ip,sl,s,d'⟩
 by_cases hi2:i<A.length
 . rw [iy (show (i:Int)<(A.length:Int)by omega)]
   simp only [bRtL,g1,g7]
   by_cases hj2:j<B.length
   . rw [iy (show (j:Int)<(B.length:Int)by omega)]
     simp only [bRtL]
     obtain ⟨x,hx⟩:∃x,A[i]?=some x:=⟨_,List.getElem?_eq_getElem hi2⟩
     obtain ⟨y,hy⟩:∃y,B[j]?=some y:=⟨_,List.getElem?_eq_getElem hj2⟩
     rw [both_at hx hy]at hO
     obtain ⟨b1,o1,rfl,x1,x2⟩:=Sees.span (sA.up (s.in 1 rfl) d') hx
     obtain ⟨b2,o2,rfl,y1,y2⟩:=Sees.span (sB.up (s.in 1 rfl) d') hy
     unfold I2
     simp -implicitDefEqProofs (maxSteps:=2000000) (disch:=first|decide|with_reducible exact Nat.ne_of_beq_eq_false rfl|exact ao|exact am|omega|rfl|(simp;done)|fail) only [bRtL,g0,g1,g6,g7,D0 (Int.natCast_nonneg i) (show (i:Int)<(A.length:Int)by omega),D0 (Int.natCast_nonneg j) (show (j:Int)<(B.length:Int)by omega),x1,x2,y1,y2,max2p,min2p]
     intro z hz gz
     have s1:=s.past (o := .cells #[.int .i64 (max x.1 y.1),.int .i64 (min x.2 y.2)] 151 (0,0)) hz
     have d1:=d'.set (o := .cells #[.int .i64 (max x.1 y.1),.int .i64 (min x.2 y.2)] 151 (0,0)) gz
     have hzs:(h'.set z (.cells #[.int .i64 (max x.1 y.1),.int .i64 (min x.2 y.2)] 151 (0,0))) z=some (.cells #[.int .i64 (max x.1 y.1),.int .i64 (min x.2 y.2)] 151 (0,0)):=af
     have k4:∀(r':Rg) (h4 ip':Hp) (v':Value),r' 0=r 0->r' 1=r 1->r' 6=r 6->r' 7=r 7->r' 5=v'->Slc lw 151 ip' v' (O++capB x y)->Sep [ip',h] h4->Dis G h4->
      vx G (bw X (bj 0 (bw (F6 G (retK P_ G [.tmp 4] fun u h'=>∃ip,Slc lw 151 ip u W/\Sep [ip,h] h'/\Dis G h')) (retK P_ G [.tmp 4] fun u h'=>∃ip,Slc lw 151 ip u W/\Sep [ip,h] h'/\Dis G h')))) r' h4:=by
      intro r' h4 ip' v' e0 e1 e6 e7 e5 sl' s4 d4
      obtain ⟨q1,p1,f1,u1,u2⟩:=Sees.span (sA.up (s4.in 1 rfl) d4) hx
      obtain ⟨q2,p2,f2,w1,w2⟩:=Sees.span (sB.up (s4.in 1 rfl) d4) hy
      cases f1
      cases f2
      rw [g0]at e0;rw [g1]at e1;rw [g6]at e6;rw [g7]at e7
      unfold vx
      simp (disch:=first|decide|omega) only [bRtL,e0,e1,e6,e7,D0 (Int.natCast_nonneg i) (show (i:Int)<(A.length:Int)by omega),D0 (Int.natCast_nonneg j) (show (j:Int)<(B.length:Int)by omega),u2,w2]
      refine bh (fun hlt=>?_) (fun hge=>?_)
      . rw [if_pos hlt]at hO
        try simp (disch:=first|decide|omega) only [bRtL,Nat.reduceAdd,Nat.reduceMul,e6]
        refine hX ((A.length-(i+1))+(B.length-j)) _ _ (by omega) ⟨i+1,j,ip',O++capB x y,v',rfl,by omega,by omega,by simp (disch:=decide) only [bRtL,e0],by simp (disch:=decide) only [bRtL,e1],by simp (disch:=decide) only [bRtL,e5],by simp only [bRtL];rfl,by simp (disch:=decide) only [bRtL,e7],sl',s4,d4,by rw [List.append_assoc];exact hO⟩
      . rw [if_neg hge]at hO
        try simp (disch:=first|decide|omega) only [bRtL,Nat.reduceAdd,Nat.reduceMul,e7]
        refine hX ((A.length-i)+(B.length-(j+1))) _ _ (by omega) ⟨i,j+1,ip',O++capB x y,v',rfl,by omega,by omega,by simp (disch:=decide) only [bRtL,e0],by simp (disch:=decide) only [bRtL,e1],by simp (disch:=decide) only [bRtL,e5],by simp (disch:=decide) only [bRtL,e6],by simp only [bRtL];rfl,sl',s4,d4,by rw [List.append_assoc];exact hO⟩
     generalize Hp.set h' z _=h3 at s1 d1 hzs ⊢
     refine bh (fun hlt=>?_) (fun hge=>?_)
     . intro q hq gq
       have s2:=s1.past (o := .cells #[.int .i64 (max x.1 y.1),.int .i64 (min x.2 y.2)] 151 (0,0)) hq
       have d2:=d1.set (o := .cells #[.int .i64 (max x.1 y.1),.int .i64 (min x.2 y.2)] 151 (0,0)) gq
       have hqs:(h3.set q (.cells #[.int .i64 (max x.1 y.1),.int .i64 (min x.2 y.2)] 151 (0,0))) q=some (.cells #[.int .i64 (max x.1 y.1),.int .i64 (min x.2 y.2)] 151 (0,0)):=af
       generalize Hp.set h3 q _=h4 at s2 d2 hqs ⊢
       rw [g5]
       have hcap:capB x y=[(max x.1 y.1,min x.2 y.2)]:=by unfold capB;rw [if_pos hlt]
       have hOl:O.length+1<=1000000000:=by
        have:=congrArg List.length hO
        rw [hcap]at this
        simp only [List.length_append,List.length_cons]at this
        omega
       refine qd lw (by decide) (M:=[(max x.1 y.1,min x.2 y.2)]) Vh eospan (by decide) s2 d2 sl (Sees.row hqs (by simp [lw,Cod.rows]) (by simp)) (by simp only [List.length_cons,List.length_nil];omega) ?_
       intro v' ip' h5 sl' s5 d5
       refine k4 _ h5 ip' v' (by simp (disch:=decide) only [bRtL]) (by simp (disch:=decide) only [bRtL]) (by simp (disch:=decide) only [bRtL]) (by simp (disch:=decide) only [bRtL]) (by simp only [bRtL]) (by rw [hcap];exact sl') s5 d5
     . have hcap:capB x y=[]:=by unfold capB;rw [if_neg hge]
       refine k4 _ h3 ip v (by simp (disch:=decide) only [bRtL]) (by simp (disch:=decide) only [bRtL]) (by simp (disch:=decide) only [bRtL]) (by simp (disch:=decide) only [bRtL]) (by simp (disch:=decide) only [bRtL,g5]) (by rw [hcap,List.append_nil];exact sl) s1 d1
   . have hj3:j=B.length:=by omega
     rw [i9 (show ¬(j:Int)<(B.length:Int)by omega)]
     simp only [bRtL]
     exact fin (by rw [hj3,List.drop_length];cases A.drop i<;>simp [ph]) _ (by simp (disch:=decide) only [bRtL,g5])
 . have hi3:i=A.length:=by omega
   rw [i9 (show ¬(i:Int)<(A.length:Int)by omega)]
   simp only [bRtL]
   exact fin (by rw [hi3,List.drop_length];simp [ph]) _ (by simp (disch:=decide) only [bRtL,g5])
end Go.Proofs.YtfflipnhffknnaaGreatDoor
end
section
namespace Go.Proofs.YtfflipnhffknnaaGreatDoor
open Go Go.HL
section
variable (G:Hp) (K:EK) (r:Rg) (h:Hp)
def md24:Nat->Hint
 |_=>mh false [] [] [] false
def aC5:Prop:=
 o_ G (Instr.makeSlice 98 (r 0) (r 0)) h fun v4 h4=>o_ G (Instr.build 124 #[(0,v4)]) h4 fun v5 h5=>o_ G (Instr.box 124 v5) h5 fun v6 h6=>
 K .ret (u6 r 10 (r 0) 11 v4 12 v5 13 v6 2 v6 3 (.int .i64 0)) h6
def S24:Prop:=
 o_ G (binOp .lss 3 (r 0) (.int .i64 1)) h fun v0 h0=>g_ v0 false (fun K1=>K1 (r 0) h0) h0 fun v1 h1=>g_ v0 false (o_ G (binOp .gtr 3 v1 (.int .i64 256)) h1) h1 fun v2 h2=>
 opH P_ G (bf v0 (.bool true) v2) h2 fun v3 h3=>
 (fun q=>cond v3
 (K .ret (u2 q 2 (.pointer none) 3 (.int .i64 1)) h3)
 (aC5 G K q h3))
 (u8 r 2 (.pointer none) 3 (.int .i64 0) 4 (r 0) 5 v0 6 v0 7 v1 8 v2 9 v3)
theorem enter24:Ent 14 24 [.tmp 2,.tmp 3] S24:=ent_ (m:=md24) (c:=(Tryz.f24.body.getD .skip)) (fun _ _ _ _=>by kernel_rfl) Tryz.func24 rfl rfl rfl
def md50:Nat->Hint
 |_=>mh false [] [] [] false
def az5 (G:Hp) (K:EK) (r:Rg) (h:Hp):Prop:=
 K .ret (upd r 6 (.int .i64 0)) h
def Mq:Prop:=
 o_ G (binOp .add 3 (r 67) (.int .i64 1)) h fun v8 h8=>
 K .normal (u2 r 80 v8 67 v8) h8
def Mr:Prop:=
 o_ G (Instr.indexAt 71 (r 65) (r 67)) h fun v9 h9=>o_ G (Instr.loadAt 75 v9) h9 fun v10 h10=>o_ G (Instr.alloc 75 true (.tuple #[])) h10 fun v11 h11=>
 opH P_ G (su (Instr.storeAt 75 v11 v10)) h11 fun v12 h12=>o_ G (Instr.fieldAt 75 v11 0) h12 fun v13 h13=>o_ G (Instr.loadAt 3 v13) h13 fun v14 h14=>o_ G (Instr.fieldAt 75 v11 1) h14 fun v15 h15=>o_ G (Instr.loadAt 3 v15) h15 fun v16 h16=>o_ G (Instr.fieldAt 75 v11 2) h16 fun v17 h17=>o_ G (Instr.loadAt 3 v17) h17 fun v18 h18=>
 c_ G 105 #[(r 0),(r 1),v14,v16,v18] h18 fun v19 h19=>
 Mq G K (u2 (u10 r 69 v9 70 v10 12 v11 71 (r 0) 72 (r 1) 73 v13 74 v14 75 v15 76 v16 77 v17) 78 v18 79 v19) h19
def az4 (r:Rg) (h:Hp) (K:EK):Prop:=
 o_ G (binOp .lss 3 (r 67) (r 66)) h fun v7 h7=>
 cond v7
 (Mr G K (upd r 68 v7) h7)
 (K (.exit 4) (upd r 68 v7) h7)
def az6:Prop:=
 o_ G (Builtin.len_ #[71] 3 #[(r 2)]) h fun v6 h6=>
 dc (az4 G) (u3 r 65 (r 2) 66 v6 67 (.int .i64 0)) h6 (bj 4 (bw (az5 G K) K))
def Ii:Prop:=
 o_ G (binOp .add 3 (r 50) (.int .i64 1)) h fun v21 h21=>
 K .normal (u2 r 64 v21 50 v21) h21
def Mp:Prop:=
 o_ G (Instr.indexAt 71 (r 48) (r 50)) h fun v22 h22=>o_ G (Instr.loadAt 75 v22) h22 fun v23 h23=>o_ G (Instr.alloc 75 true (.tuple #[])) h23 fun v24 h24=>
 opH P_ G (su (Instr.storeAt 75 v24 v23)) h24 fun v25 h25=>o_ G (Instr.fieldAt 75 v24 0) h25 fun v26 h26=>o_ G (Instr.loadAt 3 v26) h26 fun v27 h27=>o_ G (Instr.fieldAt 75 v24 1) h27 fun v28 h28=>o_ G (Instr.loadAt 3 v28) h28 fun v29 h29=>o_ G (Instr.fieldAt 75 v24 2) h29 fun v30 h30=>o_ G (Instr.loadAt 3 v30) h30 fun v31 h31=>
 c_ G 104 #[(r 0),(r 1),v27,v29,v31] h31 fun v32 h32=>o_ G (Op.unary .not v32) h32 fun v33 h33=>
 (fun q=>cond v33
 (K .ret (upd q 6 (.int .i64 18)) h33)
 (Ii G K q h33))
 (u3 (u10 r 52 v22 53 v23 10 v24 54 (r 0) 55 (r 1) 56 v26 57 v27 58 v28 59 v29 60 v30) 61 v31 62 v32 63 v33)
def az3 (r:Rg) (h:Hp) (K:EK):Prop:=
 o_ G (binOp .lss 3 (r 50) (r 49)) h fun v20 h20=>
 cond v20
 (Mp G K (upd r 51 v20) h20)
 (K (.exit 2) (upd r 51 v20) h20)
def az7:Prop:=
 o_ G (Builtin.len_ #[71] 3 #[(r 2)]) h fun v5 h5=>
 dc (az3 G) (u3 r 48 (r 2) 49 v5 50 (.int .i64 0)) h5 (bj 2 (bw (az6 G K) K))
def zc:Prop:=
 o_ G (binOp .add 3 (r 21) (.int .i64 1)) h fun v35 h35=>
 K .normal (u2 r 47 v35 21 v35) h35
def Fk:Prop:=
 o_ G (Instr.indexAt 71 (r 19) (r 21)) h fun v36 h36=>o_ G (Instr.loadAt 75 v36) h36 fun v37 h37=>o_ G (Instr.alloc 75 true (.tuple #[])) h37 fun v38 h38=>
 opH P_ G (su (Instr.storeAt 75 v38 v37)) h38 fun v39 h39=>o_ G (Instr.fieldAt 75 v38 0) h39 fun v40 h40=>o_ G (Instr.loadAt 3 v40) h40 fun v41 h41=>
 c_ G 103 #[(r 0),v41] h41 fun v42 h42=>o_ G (Op.unary .not v42) h42 fun v43 h43=>g_ v43 false (o_ G (Instr.fieldAt 75 v38 1) h43) h43 fun v44 h44=>g_ v43 false (o_ G (Instr.loadAt 3 v44) h44) h44 fun v45 h45=>g_ v43 false (o_ G (binOp .lss 3 v45 (.int .i64 0)) h45) h45 fun v46 h46=>
 opH P_ G (bf v43 (.bool true) v46) h46 fun v47 h47=>g_ v47 false (o_ G (Instr.fieldAt 75 v38 1) h47) h47 fun v48 h48=>g_ v47 false (o_ G (Instr.loadAt 3 v48) h48) h48 fun v49 h49=>g_ v47 false (o_ G (Instr.fieldAt 75 v38 2) h49) h49 fun v50 h50=>g_ v47 false (o_ G (Instr.loadAt 3 v50) h50) h50 fun v51 h51=>g_ v47 false (o_ G (binOp .geq 3 v49 v51) h51) h51 fun v52 h52=>
 opH P_ G (bf v47 (.bool true) v52) h52 fun v53 h53=>g_ v53 false (o_ G (Instr.fieldAt 75 v38 2) h53) h53 fun v54 h54=>g_ v53 false (o_ G (Instr.loadAt 3 v54) h54) h54 fun v55 h55=>g_ v53 false (o_ G (binOp .gtr 3 v55 (.int .i64 4611686018427387904)) h55) h55 fun v56 h56=>
 opH P_ G (bf v53 (.bool true) v56) h56 fun v57 h57=>
 (fun q=>cond v57
 (K .ret (upd q 6 (.int .i64 1)) h57)
 (zc G K q h57))
 (u5 (u10 (u10 r 23 v36 24 v37 8 v38 25 (r 0) 26 v40 27 v41 28 v42 29 v43 30 v43 31 v44) 32 v45 33 v46 34 v47 35 v47 36 v48 37 v49 38 v50 39 v51 40 v52 41 v53) 42 v53 43 v54 44 v55 45 v56 46 v57)
def W9 (r:Rg) (h:Hp) (K:EK):Prop:=
 o_ G (binOp .lss 3 (r 21) (r 20)) h fun v34 h34=>
 cond v34
 (Fk G K (upd r 22 v34) h34)
 (K (.exit 0) (upd r 22 v34) h34)
def az8:Prop:=
 o_ G (Builtin.len_ #[71] 3 #[(r 2)]) h fun v4 h4=>
 dc (W9 G) (u3 r 19 (r 2) 20 v4 21 (.int .i64 0)) h4 (bj 0 (bw (az7 G K) K))
def S50:Prop:=
 opH P_ G (xEq .eql 34 (.tmp 0) (.const .nilFunc) (r 0) (.pointer none)) h fun v0 h0=>g_ v0 false (fun K1=>K1 (r 1) h0) h0 fun v1 h1=>g_ v0 false (o_ G (binOp .lss 3 v1 (.int .i64 0)) h1) h1 fun v2 h2=>
 opH P_ G (bf v0 (.bool true) v2) h2 fun v3 h3=>
 (fun q=>cond v3
 (K .ret (upd q 6 (.int .i64 1)) h3)
 (az8 G K q h3))
 (u7 r 6 (.int .i64 0) 13 (r 0) 14 v0 15 v0 16 v1 17 v2 18 v3)
theorem enter50:Ent 81 50 [.tmp 6] S50:=ent_ (m:=md50) (c:=(Tryz.f50.body.getD .skip)) (fun _ _ _ _=>by kernel_rfl) Tryz.func50 rfl rfl rfl
def md145:Nat->Hint
 |_=>mh false [] [] [] false
def S145:Prop:=
 o_ G (Instr.box 34 (r 0)) h fun v0 h0=>o_ G (Instr.box 3 (r 1)) h0 fun v1 h1=>o_ G (Instr.box 3 (r 2)) h1 fun v2 h2=>
 K .ret (u6 r 3 v0 4 v1 5 v2 6 .nilFunc 7 (.func (.func 164) #[] #[v0,v1,v2]) 6 (.func (.func 164) #[] #[v0,v1,v2])) h2
theorem aq2:Ent 8 145 [.tmp 6] S145:=ent_ (m:=md145) (c:=(Tryz.f145.body.getD .skip)) (fun _ _ _ _=>by kernel_rfl) Tryz.func145 rfl rfl rfl
def md26:Nat->Hint
 |_=>mh false [] [] [] false
def aC4:Prop:=
 opH P_ G (xNil (r 0)) h fun v1 h1=>o_ G (Instr.fieldAt 124 v1 0) h1 fun v2 h2=>o_ G (Instr.loadAt 98 v2) h2 fun v3 h3=>o_ G (Builtin.len_ #[98] 3 #[v3]) h3 fun v4 h4=>
 K .ret (u6 r 5 (r 0) 6 v1 7 v2 8 v3 9 v4 2 v4) h4
def S26:Prop:=
 opH P_ G (xEq .eql 34 (.tmp 0) (.const .nilFunc) (r 0) (.pointer none)) h fun v0 h0=>
 cond v0
 (K .ret (u4 r 2 (.int .i64 0) 3 (r 0) 4 v0 2 (.int .i64 0)) h0)
 (aC4 G K (u3 r 2 (.int .i64 0) 3 (r 0) 4 v0) h0)
theorem enter26:Ent 10 26 [.tmp 2] S26:=ent_ (m:=md26) (c:=(Tryz.f26.body.getD .skip)) (fun _ _ _ _=>by kernel_rfl) Tryz.func26 rfl rfl rfl
def md103:Nat->Hint
 |_=>mh false [] [] [] false
def S103:Prop:=
 opH P_ G (xEq .neq 34 (.tmp 0) (.const .nilFunc) (r 0) (.pointer none)) h fun v0 h0=>g_ v0 true (fun K1=>K1 (r 1) h0) h0 fun v1 h1=>g_ v0 true (o_ G (binOp .geq 3 v1 (.int .i64 0)) h1) h1 fun v2 h2=>
 opH P_ G (bf v0 v2 (.bool false)) h2 fun v3 h3=>g_ v3 true (fun K1=>K1 (r 1) h3) h3 fun v4 h4=>g_ v3 true (fun K1=>K1 (r 0) h4) h4 fun v5 h5=>g_ v3 true (opH P_ G (xNil v5) h5) h5 fun v6 h6=>g_ v3 true (o_ G (Instr.fieldAt 124 v6 0) h6) h6 fun v7 h7=>g_ v3 true (o_ G (Instr.loadAt 98 v7) h7) h7 fun v8 h8=>g_ v3 true (o_ G (Builtin.len_ #[98] 3 #[v8]) h8) h8 fun v9 h9=>g_ v3 true (o_ G (binOp .lss 3 v4 v9) h9) h9 fun v10 h10=>
 opH P_ G (bf v3 v10 (.bool false)) h10 fun v11 h11=>
 K .ret (u7 (u10 r 4 (.bool false) 5 (r 0) 6 v0 7 v0 8 v1 9 v2 10 v3 11 v3 12 v4 13 v5) 14 v6 15 v7 16 v8 17 v9 18 v10 19 v11 4 v11) h11
theorem at8:Ent 20 103 [.tmp 4] S103:=ent_ (m:=md103) (c:=(Tryz.f103.body.getD .skip)) (fun _ _ _ _=>by kernel_rfl) Tryz.func103 rfl rfl rfl
def md104:Nat->Hint
 |_=>mh false [] [] [] false
def Px (G:Hp) (K:EK) (r:Rg) (h:Hp):Prop:=
 K .ret (upd r 10 (.bool true)) h
def Bw:Prop:=
 o_ G (binOp .add 3 (r 21) (.int .i64 1)) h fun v7 h7=>
 K .normal (u2 r 41 v7 21 v7) h7
def Jz:Prop:=
 o_ G (Instr.indexAt 99 (r 19) (r 21)) h fun v8 h8=>o_ G (Instr.loadAt 203 v8) h8 fun v9 h9=>o_ G (Instr.alloc 203 true (.tuple #[])) h9 fun v10 h10=>
 opH P_ G (su (Instr.storeAt 203 v10 v9)) h10 fun v11 h11=>o_ G (Instr.fieldAt 203 v10 2) h11 fun v12 h12=>o_ G (Instr.loadAt 3 v12) h12 fun v13 h13=>
 opH P_ G (xEq .neq 3 (.tmp 0) (.tmp 0) v13 (r 1)) h13 fun v14 h14=>g_ v14 true (o_ G (Instr.fieldAt 203 v10 0) h14) h14 fun v15 h15=>g_ v14 true (o_ G (Instr.loadAt 3 v15) h15) h15 fun v16 h16=>g_ v14 true (fun K1=>K1 (r 4) h16) h16 fun v17 h17=>g_ v14 true (o_ G (binOp .lss 3 v16 v17) h17) h17 fun v18 h18=>
 opH P_ G (bf v14 v18 (.bool false)) h18 fun v19 h19=>g_ v19 true (fun K1=>K1 (r 3) h19) h19 fun v20 h20=>g_ v19 true (o_ G (Instr.fieldAt 203 v10 1) h20) h20 fun v21 h21=>g_ v19 true (o_ G (Instr.loadAt 3 v21) h21) h21 fun v22 h22=>g_ v19 true (o_ G (binOp .lss 3 v20 v22) h22) h22 fun v23 h23=>
 opH P_ G (bf v19 v23 (.bool false)) h23 fun v24 h24=>
 (fun q=>cond v24
 (K .ret (upd q 10 (.bool false)) h24)
 (Bw G K q h24))
 (u9 (u10 r 23 v8 24 v9 12 v10 25 v12 26 v13 27 (r 1) 28 v14 29 v14 30 v15 31 v16) 32 v17 33 v18 34 v19 35 v19 36 v20 37 v21 38 v22 39 v23 40 v24)
def Yt (r:Rg) (h:Hp) (K:EK):Prop:=
 o_ G (binOp .lss 3 (r 21) (r 20)) h fun v6 h6=>
 cond v6
 (Jz G K (upd r 22 v6) h6)
 (K (.exit 0) (upd r 22 v6) h6)
def S104:Prop:=
 opH P_ G (xNil (r 0)) h fun v0 h0=>o_ G (Instr.fieldAt 124 v0 0) h0 fun v1 h1=>o_ G (Instr.loadAt 98 v1) h1 fun v2 h2=>o_ G (Instr.indexAt 98 v2 (r 2)) h2 fun v3 h3=>o_ G (Instr.loadAt 99 v3) h3 fun v4 h4=>o_ G (Builtin.len_ #[99] 3 #[v4]) h4 fun v5 h5=>
 dc (Yt G) (u10 r 10 (.bool false) 13 (r 0) 14 v0 15 v1 16 v2 17 (r 2) 18 v3 19 v4 20 v5 21 (.int .i64 0)) h5 (bj 0 (bw (Px G K) K))
theorem at7:Ent 42 104 [.tmp 10] S104:=ent_ (m:=md104) (c:=(Tryz.f104.body.getD .skip)) (fun _ _ _ _=>by kernel_rfl) Tryz.func104 rfl rfl rfl
def md105:Nat->Hint
 |5=>mh false [0,0,2,7,0,0,32,112,15,511] [n_,n_,m_,n_,n_,n_,m_,n_,n_,n_] (fs 10) false
 |9=>mh false [0,1,3,7,0,0,0,0,0,0,896,1920,4064,8191,16383] [n_,n_,n_,m_,n_,n_,n_,n_,n_,n_,n_,.alloc,e_,n_,.store] [false,false,false,false,false,false,false,false,false,false,false,false,true,false,false] true
 |_=>mh false [] [] [] false
def Ys:Prop:=
 opH P_ G (callFunc 142 #[(r 10),(r 3),(.func (.func 143) #[] #[])]) h fun v6 h6=>o_ G (Instr.extract v6 0) h6 fun v7 h7=>o_ G (Instr.extract v6 1) h7 fun v8 h8=>
 ∃q9:Hp,q9.le h8/\
 bm P_ noHp noHp (xNil (r 0)) h8 fun v10 h10=>
 p_ (Instr.fieldAt 124 v10 0) h10 fun v11 h11=>
 w_ G q9 (Instr.loadAt 98 v11) h11 fun v12 h12=>
 p_ (Instr.build 203 #[(0,(r 3)),(1,(r 4)),(2,(r 1))]) h12 fun v13 h13=>o_ G (Instr.buildSlice 99 1 #[(0,v13)]) h13 fun v14 h14=>
 c_ G 144 #[(r 10),v7,v14] h14 fun v15 h15=>q9.le h15/\
 p_ (Instr.indexAt 98 v12 (r 2)) h15 fun v16 h16=>
 opH P_ G (su (Instr.storeAt 99 v16 v15)) h16 fun v17 h17=>
 K .normal (u2 (u10 (u10 r 57 (r 10) 58 (r 3) 59 v6 56 v6 60 v7 61 v8 13 v7 14 v8 62 (r 0) 63 v10) 64 v11 65 v12 66 (r 2) 67 (r 10) 68 v7 69 (r 3) 70 (r 4) 71 (r 1) 72 v13 73 v14) 74 v15 75 v16) h17
def wc:Prop:=
 o_ G (binOp .add 3 (r 23) (.int .i64 1)) h fun v19 h19=>
 K .normal (u2 r 55 v19 23 v19) h19
def Bv:Prop:=
 o_ G (Instr.loadAt 203 (r 12)) h fun v37 h37=>o_ G (Instr.buildSlice 99 1 #[(0,v37)]) h37 fun v38 h38=>o_ G (Builtin.append_ #[99,99] 99 #[(r 10),v38]) h38 fun v39 h39=>
 wc G K (u5 r 51 (r 10) 52 v37 53 v38 54 v39 10 v39) h39
def Jy:Prop:=
 o_ G (Instr.indexAt 99 (r 21) (r 23)) h fun v20 h20=>o_ G (Instr.loadAt 203 v20) h20 fun v21 h21=>o_ G (Instr.alloc 203 true (.tuple #[])) h21 fun v22 h22=>
 opH P_ G (su (Instr.storeAt 203 v22 v21)) h22 fun v23 h23=>o_ G (Instr.fieldAt 203 v22 2) h23 fun v24 h24=>o_ G (Instr.loadAt 3 v24) h24 fun v25 h25=>
 opH P_ G (xEq .eql 3 (.tmp 0) (.tmp 0) v25 (r 1)) h25 fun v26 h26=>g_ v26 true (o_ G (Instr.fieldAt 203 v22 0) h26) h26 fun v27 h27=>g_ v26 true (o_ G (Instr.loadAt 3 v27) h27) h27 fun v28 h28=>g_ v26 true (fun K1=>K1 (r 4) h28) h28 fun v29 h29=>g_ v26 true (o_ G (binOp .leq 3 v28 v29) h29) h29 fun v30 h30=>
 opH P_ G (bf v26 v30 (.bool false)) h30 fun v31 h31=>g_ v31 true (fun K1=>K1 (r 3) h31) h31 fun v32 h32=>g_ v31 true (o_ G (Instr.fieldAt 203 v22 1) h32) h32 fun v33 h33=>g_ v31 true (o_ G (Instr.loadAt 3 v33) h33) h33 fun v34 h34=>g_ v31 true (o_ G (binOp .leq 3 v32 v34) h34) h34 fun v35 h35=>
 opH P_ G (bf v31 v35 (.bool false)) h35 fun v36 h36=>
 cond v36
 (p_ (Instr.fieldAt 203 v22 0) h36 fun v40 h40=>
 w_ G h36 (Instr.loadAt 3 v40) h40 fun v41 h41=>
 p_ (Builtin.min_ #[3,3] 3 #[(r 3),v41]) h41 fun v42 h42=>
 p_ (Instr.fieldAt 203 v22 1) h42 fun v43 h43=>
 w_ G h36 (Instr.loadAt 3 v43) h43 fun v44 h44=>
 p_ (Builtin.max_ #[3,3] 3 #[(r 4),v44]) h44 fun v45 h45=>
 wc G K (u9 (u10 (u10 r 25 v20 26 v21 12 v22 27 v24 28 v25 29 (r 1) 30 v26 31 v26 32 v27 33 v28) 34 v29 35 v30 36 v31 37 v31 38 v32 39 v33 40 v34 41 v35 42 v36 43 (r 3)) 44 v40 45 v41 46 v42 47 (r 4) 48 v43 49 v44 50 v45 3 v42 4 v45) h45)
 (Bv G K (u9 (u10 r 25 v20 26 v21 12 v22 27 v24 28 v25 29 (r 1) 30 v26 31 v26 32 v27 33 v28) 34 v29 35 v30 36 v31 37 v31 38 v32 39 v33 40 v34 41 v35 42 v36) h36)
def Yr (r:Rg) (h:Hp) (K:EK):Prop:=
 o_ G (binOp .lss 3 (r 23) (r 22)) h fun v18 h18=>
 cond v18
 (Jy G K (upd r 24 v18) h18)
 (K (.exit 0) (upd r 24 v18) h18)
def S105:Prop:=
 opH P_ G (xNil (r 0)) h fun v0 h0=>o_ G (Instr.fieldAt 124 v0 0) h0 fun v1 h1=>o_ G (Instr.loadAt 98 v1) h1 fun v2 h2=>o_ G (Instr.indexAt 98 v2 (r 2)) h2 fun v3 h3=>o_ G (Instr.loadAt 99 v3) h3 fun v4 h4=>o_ G (Builtin.len_ #[99] 3 #[v4]) h4 fun v5 h5=>
 dc (Yr G) (u10 r 10 (.slice none 0 0) 15 (r 0) 16 v0 17 v1 18 v2 19 (r 2) 20 v3 21 v4 22 v5 23 (.int .i64 0)) h5 (bj 0 (bw (Ys G K) (tz K)))
theorem at6:Ent 76 105 [] S105:=ent_ (m:=md105) (c:=(Tryz.f105.body.getD .skip)) (fun _ _ _ _=>by kernel_rfl) Tryz.func105 rfl rfl rfl
def md106:Nat->Hint
 |_=>mh false [] [] [] false
def Yq:Prop:=
 o_ G (Builtin.len_ #[99] 3 #[(r 0)]) h fun v2 h2=>o_ G (Instr.makeSlice 99 v2 v2) h2 fun v3 h3=>o_ G (Builtin.copy_ #[99,99] 3 #[v3,(r 0)]) h3 fun v4 h4=>
 K .ret (u9 r 7 (r 0) 8 v2 9 v3 3 v3 10 v3 11 (r 0) 12 v4 13 v3 2 v3) h4
def S106:Prop:=
 o_ G (Builtin.len_ #[99] 3 #[(r 0)]) h fun v0 h0=>
 opH P_ G (xEq .eql 3 (.tmp 0) (.const .nilFunc) v0 (.int .i64 0)) h0 fun v1 h1=>
 (fun q=>cond v1
 (K .ret (upd q 2 (.slice none 0 0)) h1)
 (Yq G K q h1))
 (u4 r 2 (.slice none 0 0) 4 (r 0) 5 v0 6 v1)
theorem at5:Ent 14 106 [.tmp 2] S106:=ent_ (m:=md106) (c:=(Tryz.f106.body.getD .skip)) (fun _ _ _ _=>by kernel_rfl) Tryz.func106 rfl rfl rfl
def md164:Nat->Hint
 |2=>mh false [0,1,3,7,0,31,63,127,0] [m_,n_,n_,m_,m_,n_,m_,m_,n_] (fs 9) false
 |_=>mh false [] [] [] false
def Pi:Prop:=
 o_ G (binOp .lss 3 (r 5) (.int .i64 4611686018427387904)) h fun v12 h12=>
 cond v12
 (opH P_ G (il (r 0) #[(r 5),(.int .i64 4611686018427387904)]) h12 fun v13 h13=>
 K .normal (u5 r 43 (r 5) 44 v12 45 (r 0) 46 (r 5) 47 v13) h13)
 (K .normal (u2 r 43 (r 5) 44 v12) h12)
def qe:Prop:=
 o_ G (binOp .add 3 (r 20) (.int .i64 1)) h fun v15 h15=>
 K .normal (u2 r 42 v15 20 v15) h15
def sj:Prop:=
 o_ G (Instr.fieldAt 203 (r 7) 1) h fun v34 h34=>o_ G (Instr.loadAt 3 v34) h34 fun v35 h35=>
 qe G K (u3 r 40 v34 41 v35 5 v35) h35
def Bl:Prop:=
 o_ G (Instr.fieldAt 203 (r 7) 0) h fun v24 h24=>o_ G (Instr.loadAt 3 v24) h24 fun v25 h25=>o_ G (binOp .gtr 3 v25 (r 5)) h25 fun v26 h26=>g_ v26 true (fun K1=>K1 (r 0) h26) h26 fun v27 h27=>g_ v26 true (fun K1=>K1 (r 5) h27) h27 fun v28 h28=>g_ v26 true (o_ G (Instr.fieldAt 203 (r 7) 0) h28) h28 fun v29 h29=>g_ v26 true (o_ G (Instr.loadAt 3 v29) h29) h29 fun v30 h30=>g_ v26 true (opH P_ G (il v27 #[v28,v30]) h30) h30 fun v31 h31=>g_ v26 true (o_ G (Op.unary .not v31) h31) h31 fun v32 h32=>
 opH P_ G (bf v26 v32 (.bool false)) h32 fun v33 h33=>
 (fun q=>cond v33
 (K .ret q h33)
 (sj G K q h33))
 (u2 (u10 r 28 v24 29 v25 30 (r 5) 31 v26 32 v26 33 v27 34 v28 35 v29 36 v30 37 v31) 38 v32 39 v33)
def Bm:Prop:=
 o_ G (Instr.indexAt 99 (r 18) (r 20)) h fun v16 h16=>o_ G (Instr.loadAt 203 v16) h16 fun v17 h17=>o_ G (Instr.alloc 203 true (.tuple #[])) h17 fun v18 h18=>
 opH P_ G (su (Instr.storeAt 203 v18 v17)) h18 fun v19 h19=>o_ G (Instr.fieldAt 203 v18 2) h19 fun v20 h20=>o_ G (Instr.loadAt 3 v20) h20 fun v21 h21=>o_ G (Instr.loadAt 3 (r 3)) h21 fun v22 h22=>
 opH P_ G (xEq .eql 3 (.tmp 0) (.tmp 0) v21 v22) h22 fun v23 h23=>
 (fun q=>cond v23
 (qe G K q h23)
 (Bl G K q h23))
 (u7 r 22 v16 23 v17 7 v18 24 v20 25 v21 26 v22 27 v23)
def Ph (r:Rg) (h:Hp) (K:EK):Prop:=
 o_ G (binOp .lss 3 (r 20) (r 19)) h fun v14 h14=>
 cond v14
 (Bm G K (upd r 21 v14) h14)
 (K (.exit 0) (upd r 21 v14) h14)
def Pj:Prop:=
 w_ G h (Instr.loadAt 34 (r 1)) h fun v4 h4=>
 bm P_ noHp noHp (xNil v4) h4 fun v5 h5=>
 p_ (Instr.fieldAt 124 v5 0) h5 fun v6 h6=>
 w_ G h (Instr.loadAt 98 v6) h6 fun v7 h7=>
 w_ G h (Instr.loadAt 3 (r 2)) h7 fun v8 h8=>
 p_ (Instr.indexAt 98 v7 v8) h8 fun v9 h9=>
 w_ G h (Instr.loadAt 99 v9) h9 fun v10 h10=>
 w_ G h (Builtin.len_ #[99] 3 #[v10]) h10 fun v11 h11=>
 dc (Ph G) (u10 r 5 (.int .i64 0) 12 v4 13 v5 14 v6 15 v7 16 v8 17 v9 18 v10 19 v11 20 (.int .i64 0)) h11 (bj 0 (bw (Pi G K) (tz K)))
def S164:Prop:=
 o_ G (Instr.loadAt 34 (r 1)) h fun v0 h0=>o_ G (Instr.loadAt 3 (r 2)) h0 fun v1 h1=>
 c_ G 103 #[v0,v1] h1 fun v2 h2=>o_ G (Op.unary .not v2) h2 fun v3 h3=>
 cond v3
 (K .ret (u4 r 8 v0 9 v1 10 v2 11 v3) h3)
 (Pj G K (u4 r 8 v0 9 v1 10 v2 11 v3) h3)
theorem Si:Ent 48 164 [] S164:=ent_ (m:=md164) (c:=(Tryz.f164.body.getD .skip)) (fun _ _ _ _=>by kernel_rfl) Tryz.func164 rfl rfl rfl
def md77:Nat->Hint
 |_=>mh false [] [] [] false
def ay2:Prop:=
 o_ G (Instr.indexAt 110 (r 5) (.int .i64 0)) h fun v9 h9=>o_ G (Instr.loadAt 3 v9) h9 fun v10 h10=>o_ G (Instr.indexAt 110 (r 5) (.int .i64 1)) h10 fun v11 h11=>o_ G (Instr.loadAt 3 v11) h11 fun v12 h12=>o_ G (binOp .add 3 v10 v12) h12 fun v13 h13=>
 K .ret (u6 r 15 v9 16 v10 17 v11 18 v12 19 v13 4 v13) h13
def S77:Prop:=
 c_ G 126 #[(r 0),(r 1)] h fun v0 h0=>o_ G (Instr.alloc 110 true (.tuple #[])) h0 fun v1 h1=>
 opH P_ G (su (Instr.storeAt 110 v1 v0)) h1 fun v2 h2=>o_ G (Instr.indexAt 110 v1 (.int .i64 0)) h2 fun v3 h3=>o_ G (Instr.loadAt 3 v3) h3 fun v4 h4=>o_ G (Instr.indexAt 110 v1 (.int .i64 1)) h4 fun v5 h5=>o_ G (Instr.loadAt 3 v5) h5 fun v6 h6=>o_ G (binOp .sub 3 (.int .i64 4611686018427387904) v6) h6 fun v7 h7=>o_ G (binOp .gtr 3 v4 v7) h7 fun v8 h8=>
 (fun q=>cond v8
 (K .ret (upd q 4 (.int .i64 4611686018427387904)) h8)
 (ay2 G K q h8))
 (upd (u10 r 4 (.int .i64 0) 6 (r 0) 7 (r 1) 8 v0 5 v1 9 v3 10 v4 11 v5 12 v6 13 v7) 14 v8)
theorem enter77:Ent 20 77 [.tmp 4] S77:=ent_ (m:=md77) (c:=(Tryz.f77.body.getD .skip)) (fun _ _ _ _=>by kernel_rfl) Tryz.func77 rfl rfl rfl
def md142:Nat->Hint
 |_=>mh false [] [] [] false
def Xt:Prop:=
 o_ G (binOp .lss 3 (r 9) (r 8)) h fun v1 h1=>g_ v1 true (fun K1=>K1 (r 2) h1) h1 fun v2 h2=>g_ v1 true (fun K1=>K1 (r 0) h2) h2 fun v3 h3=>g_ v1 true (fun K1=>K1 (r 9) h3) h3 fun v4 h4=>g_ v1 true (o_ G (Instr.indexAt 99 v3 v4) h4) h4 fun v5 h5=>g_ v1 true (o_ G (Instr.loadAt 203 v5) h5) h5 fun v6 h6=>g_ v1 true (fun K1=>K1 (r 1) h6) h6 fun v7 h7=>g_ v1 true (opH P_ G (il v2 #[v6,v7]) h7) h7 fun v8 h8=>g_ v1 true (opH P_ G (xEq .eql 3 (.tmp 0) (.const .nilFunc) v8 (.int .i64 0)) h8) h8 fun v9 h9=>
 opH P_ G (bf v1 v9 (.bool false)) h9 fun v10 h10=>
 K .ret (u6 (u10 r 35 (r 9) 36 (r 9) 37 (r 8) 38 v1 39 v1 40 v2 41 v3 42 v4 43 v5 44 v6) 45 v7 46 v8 47 v9 48 v10 6 (r 9) 7 v10) h10
def I3:Prop:=
 o_ G (binOp .add 3 (r 9) (r 10)) h fun v12 h12=>o_ G (convert 3 272 v12) h12 fun v13 h13=>o_ G (binOp .shr 272 v13 (.int .u64 1)) h13 fun v14 h14=>o_ G (convert 272 3 v14) h14 fun v15 h15=>o_ G (Instr.indexAt 99 (r 0) v15) h15 fun v16 h16=>o_ G (Instr.loadAt 203 v16) h16 fun v17 h17=>
 opH P_ G (il (r 2) #[v17,(r 1)]) h17 fun v18 h18=>o_ G (binOp .lss 3 v18 (.int .i64 0)) h18 fun v19 h19=>
 cond v19
 (o_ G (binOp .add 3 v15 (.int .i64 1)) h19 fun v20 h20=>
 K .normal (u8 (u10 r 18 (r 9) 19 (r 10) 20 v12 21 v13 22 v14 23 v15 11 v15 24 (r 2) 25 (r 0) 26 v15) 27 v16 28 v17 29 (r 1) 30 v18 31 v19 32 v15 33 v20 9 v20) h20)
 (K .normal (u7 (u10 r 18 (r 9) 19 (r 10) 20 v12 21 v13 22 v14 23 v15 11 v15 24 (r 2) 25 (r 0) 26 v15) 27 v16 28 v17 29 (r 1) 30 v18 31 v19 34 v15 10 v15) h19)
def Xs (r:Rg) (h:Hp) (K:EK):Prop:=
 o_ G (binOp .lss 3 (r 9) (r 10)) h fun v11 h11=>
 cond v11
 (I3 G K (u3 r 15 (r 9) 16 (r 10) 17 v11) h11)
 (K (.exit 0) (u3 r 15 (r 9) 16 (r 10) 17 v11) h11)
def S142:Prop:=
 o_ G (Builtin.len_ #[99] 3 #[(r 0)]) h fun v0 h0=>
 dc (Xs G) (u8 r 6 (.int .i64 0) 7 (.bool false) 12 (r 0) 13 v0 8 v0 14 v0 9 (.int .i64 0) 10 v0) h0 (bj 0 (bw (Xt G K) K))
theorem aq5:Ent 49 142 [.tmp 6,.tmp 7] S142:=ent_ (m:=md142) (c:=(Tryz.f142.body.getD .skip)) (fun _ _ _ _=>by kernel_rfl) Tryz.func142 rfl rfl rfl
def md143:Nat->Hint
 |_=>mh false [] [] [] false
def S143:Prop:=
 o_ G (Instr.box 203 (r 0)) h fun v0 h0=>o_ G (Instr.fieldAt 203 v0 0) h0 fun v1 h1=>o_ G (Instr.loadAt 3 v1) h1 fun v2 h2=>o_ G (binOp .sub 3 v2 (r 1)) h2 fun v3 h3=>
 K .ret (u7 r 2 v0 4 (.int .i64 0) 5 v1 6 v2 7 (r 1) 8 v3 4 v3) h3
theorem aq4:Ent 9 143 [.tmp 4] S143:=ent_ (m:=md143) (c:=(Tryz.f143.body.getD .skip)) (fun _ _ _ _=>by kernel_rfl) Tryz.func143 rfl rfl rfl
def md144:Nat->Hint
 |11=>mh false [0,0,0,6,15,0,0,96,255] [n_,n_,n_,n_,n_,n_,n_,n_,e_] (fs 9) false
 |15=>mh false [0,0,0,6,15,0,0,96,255] [n_,n_,n_,n_,n_,n_,n_,n_,e_] (fs 9) false
 |_=>mh false [] [] [] false
def S144_k4:Prop:=
 o_ G (Instr.sliceAt 99 (r 0) (some (r 8)) none none) h fun v14 h14=>o_ G (Builtin.copy_ #[99,99] 3 #[v14,(r 2)]) h14 fun v15 h15=>o_ G (Instr.sliceAt 99 (r 0) (some (r 1)) none none) h15 fun v16 h16=>
 c_ G 163 #[v16,(r 7)] h16 fun v17 h17=>
 K .ret (u2 (u10 r 84 (r 0) 85 (r 8) 86 v14 87 (r 2) 88 v15 89 (r 0) 90 (r 1) 91 v16 92 (r 7) 93 v17) 94 (r 0) 6 (r 0)) h17
def Xq:Prop:=
 o_ G (binOp .add 3 (r 8) (r 7)) h fun v8 h8=>o_ G (Instr.sliceAt 99 (r 0) none (some v8) none) h8 fun v9 h9=>o_ G (binOp .add 3 (r 1) (r 7)) h9 fun v10 h10=>o_ G (Instr.sliceAt 99 v9 (some v10) none none) h10 fun v11 h11=>
 opH P_ G (callFunc 162 #[(r 2),v11]) h11 fun v12 h12=>o_ G (Op.unary .not v12) h12 fun v13 h13=>
 cond v13
 (p_ (binOp .add 3 (r 1) (r 7)) h13 fun v18 h18=>
 p_ (Instr.sliceAt 99 v9 (some v18) none none) h18 fun v19 h19=>
 p_ (Instr.sliceAt 99 v9 (some (r 1)) none none) h19 fun v20 h20=>o_ G (Builtin.copy_ #[99,99] 3 #[v19,v20]) h20 fun v21 h21=>o_ G (Instr.sliceAt 99 v9 (some (r 1)) none none) h21 fun v22 h22=>o_ G (Builtin.copy_ #[99,99] 3 #[v22,(r 2)]) h22 fun v23 h23=>
 K .ret (u10 (u10 (u10 r 56 (r 0) 57 (r 8) 58 (r 7) 59 v8 60 v9 0 v9 61 (r 2) 62 v9 63 (r 1) 64 (r 7)) 65 v10 66 v11 67 v12 68 v13 69 v9 70 (r 1) 71 (r 7) 72 v18 73 v19 74 v9) 75 (r 1) 76 v20 77 v21 78 v9 79 (r 1) 80 v22 81 (r 2) 82 v23 83 v9 6 v9) h23)
 (S144_k4 G K (u4 (u10 r 56 (r 0) 57 (r 8) 58 (r 7) 59 v8 60 v9 0 v9 61 (r 2) 62 v9 63 (r 1) 64 (r 7)) 65 v10 66 v11 67 v12 68 v13) h13)
def Xr:Prop:=
 o_ G (binOp .add 3 (r 8) (r 7)) h fun v5 h5=>o_ G (Builtin.cap_ #[99] 3 #[(r 0)]) h5 fun v6 h6=>o_ G (binOp .gtr 3 v5 v6) h6 fun v7 h7=>
 cond v7
 (o_ G (Instr.sliceAt 99 (r 0) none (some (r 1)) none) h7 fun v24 h24=>o_ G (binOp .add 3 (r 8) (r 7)) h24 fun v25 h25=>o_ G (binOp .sub 3 v25 (r 1)) h25 fun v26 h26=>o_ G (Builtin.append_ #[99,3] 99 #[v24,v26]) h26 fun v27 h27=>o_ G (Instr.sliceAt 99 v27 (some (r 1)) none none) h27 fun v28 h28=>o_ G (Builtin.copy_ #[99,99] 3 #[v28,(r 2)]) h28 fun v29 h29=>
 p_ (binOp .add 3 (r 1) (r 7)) h29 fun v30 h30=>
 p_ (Instr.sliceAt 99 v27 (some v30) none none) h30 fun v31 h31=>
 p_ (Instr.sliceAt 99 (r 0) (some (r 1)) none none) h31 fun v32 h32=>o_ G (Builtin.copy_ #[99,99] 3 #[v31,v32]) h32 fun v33 h33=>
 K .ret (u2 (u10 (u10 (u10 r 26 (r 8) 27 (r 7) 28 v5 29 (r 0) 30 v6 31 v7 32 (r 0) 33 (r 1) 34 v24 35 (r 8)) 36 (r 7) 37 v25 38 (r 1) 39 v26 40 v27 9 v27 41 v27 42 (r 1) 43 v28 44 (r 2)) 45 v29 46 v27 47 (r 1) 48 (r 7) 49 v30 50 v31 51 (r 0) 52 (r 1) 53 v32 54 v33) 55 v27 6 v27) h33)
 (Xq G K (u6 r 26 (r 8) 27 (r 7) 28 v5 29 (r 0) 30 v6 31 v7) h7)
def Pn:Prop:=
 o_ G (Builtin.len_ #[99] 3 #[(r 0)]) h fun v3 h3=>
 opH P_ G (xEq .eql 3 (.tmp 0) (.tmp 0) (r 1) v3) h3 fun v4 h4=>
 cond v4
 (o_ G (Builtin.append_ #[99,99] 99 #[(r 0),(r 2)]) h4 fun v34 h34=>
 K .ret (u10 r 18 (r 0) 19 v3 8 v3 20 (r 1) 21 v3 22 v4 23 (r 0) 24 (r 2) 25 v34 6 v34) h34)
 (Xr G K (u6 r 18 (r 0) 19 v3 8 v3 20 (r 1) 21 v3 22 v4) h4)
def S144:Prop:=
 o_ G (Instr.sliceAt 99 (r 0) (some (r 1)) none none) h fun v0 h0=>o_ G (Builtin.len_ #[99] 3 #[(r 2)]) h0 fun v1 h1=>
 opH P_ G (xEq .eql 3 (.tmp 0) (.const .nilFunc) v1 (.int .i64 0)) h1 fun v2 h2=>
 (fun q=>cond v2
 (K .ret (u2 q 17 (r 0) 6 (r 0)) h2)
 (Pn G K q h2))
 (u9 r 6 (.slice none 0 0) 10 (r 0) 11 (r 1) 12 v0 13 (r 2) 14 v1 7 v1 15 v1 16 v2)
theorem aq3:Ent 95 144 [.tmp 6] S144:=ent_ (m:=md144) (c:=(Tryz.f144.body.getD .skip)) (fun _ _ _ _=>by kernel_rfl) Tryz.func144 rfl rfl rfl
def md126:Nat->Hint
 |_=>mh false [] [] [] false
def S126:Prop:=
 o_ G (Instr.alloc 110 true (.tuple #[])) h fun v0 h0=>
 c_ G 154 #[(r 0)] h0 fun v1 h1=>
 c_ G 154 #[(r 1)] h1 fun v2 h2=>o_ G (Instr.build 110 #[(0,v1),(1,v2)]) h2 fun v3 h3=>
 opH P_ G (su (Instr.storeAt 110 v0 v3)) h3 fun v4 h4=>
 K .ret (u6 r 4 v0 5 (r 0) 6 v1 7 (r 1) 8 v2 9 v3) h4
theorem ar9:Ent 10 126 [.cell 4 110] S126:=ent_ (m:=md126) (c:=(Tryz.f126.body.getD .skip)) (fun _ _ _ _=>by kernel_rfl) Tryz.func126 rfl rfl rfl
def md154:Nat->Hint
 |_=>mh false [] [] [] false
def S154:Prop:=
 o_ G (Builtin.min_ #[3,3] 3 #[(r 0),(.int .i64 4611686018427387904)]) h fun v0 h0=>o_ G (Builtin.max_ #[3,3] 3 #[(.int .i64 0),v0]) h0 fun v1 h1=>
 K .ret (u5 r 2 (.int .i64 0) 3 (r 0) 4 v0 5 v1 2 v1) h1
theorem ap4:Ent 6 154 [.tmp 2] S154:=ent_ (m:=md154) (c:=(Tryz.f154.body.getD .skip)) (fun _ _ _ _=>by kernel_rfl) Tryz.func154 rfl rfl rfl
end
end Go.Proofs.YtfflipnhffknnaaGreatDoor
end
section
namespace Go.Proofs.YtfflipnhffknnaaGreatDoor.Rv
open Go Go.HL Go.Proofs.Resv
def Ai:=jq bC (jq (jq (jq @Bool.true_and (jq @List.length_nil.{0} @and_true)) (jq (jq @tq @W2) (jq @cf106 @Wu))) (jq (jq (jq @Or @ld98) (jq @ld99 @ln98)) (jq (jq @ln99 @ne34s) (jq @jo @true_and))))
def bn:Cod Slot:=⟨3,fun s=>[.int .i64 s.f,.int .i64 s.t,.int .i64 s.r],fun _=>rfl,fun _ v hv=>by simp at hv;rcases hv with rfl|rfl|rfl<;>rfl⟩
abbrev slotV (s:Slot):Value := .agg #[s.f,s.t,s.r]
abbrev nt (s:Slot):Obj := .cells #[s.f,s.t,s.r] 203 (0,0)
theorem eoslot:gu P_ 203 bn.n 24:=eo203
abbrev Sv:=Option Addr × Nat × Nat
def svC:Cod Sv:=⟨1,fun (s:Sv)=>[.slice s.1 s.2.1 s.2.2],fun _=>rfl,fun _ v hv=>by simp at hv;subst hv;rfl⟩
theorem eosv:gu P_ 99 svC.n 24:=⟨by kernel_rfl,by kernel_rfl,by kernel_rfl⟩
def TSee (G h:Hp) (tp:Nat) (T:List (List Slot)):Prop:=∃rb,aa G h ⟨tp,0,none⟩=some (.slice (some ⟨rb,0,none⟩) T.length T.length)/\
 ∀c L,T[c]?=some L->∃a cap,aa G h ⟨rb,c,none⟩=some (.slice a L.length cap)/\Sees bn G h (.slice a L.length cap) L
theorem TSee.up {G h h':Hp} {tp:Nat} {T:List (List Slot)} (s:TSee G h tp T) (l:h.le h') (d:Dis G h'):TSee G h' tp T:=by
 obtain ⟨rb,e1,e2⟩:=s
 exact ⟨rb,jg l d e1,fun c L hc=>let ⟨a,cap,e3,e4⟩:=e2 c L hc;⟨a,cap,jg l d e3,e4.up l d⟩⟩
def Rows (pb:Hp) (raws:List Sv) (T:List (List Slot)):Prop:=raws.length=T.length/\∀(i:Nat) (s:Sv) (L:List Slot),raws[i]?=some s->T[i]?=some L->s.2.1=L.length/\Slc bn 203 pb (.slice s.1 L.length s.2.2) L
def Tab (ty:TypeId) (a:Hp) (tp:Nat) (T:List (List Slot)):Prop:=∃rb raws pb,Sep [noHp.set tp (.cells #[.slice (some ⟨rb,0,none⟩) T.length T.length] ty (0,0)),noHp.set rb (.cells (svC.rows raws).toArray 99 (0,0)),pb] a/\Rows pb raws T
theorem sv_get {G h:Hp} {rb c:Nat} {raws:List Sv} {e:TypeId} {s:Sv} (hb:h rb=some (.cells (svC.rows raws).toArray e (0,0))) (hs:raws[c]?=some s):aa G h ⟨rb,c,none⟩=some (.slice s.1 s.2.1 s.2.2):=by
 rw [ai (ag hb)]
 have:=svC.rows_get (t:=[]) (j:=0) hs (by decide)
 rw [List.append_nil,show svC.n=1 from rfl,Nat.mul_one,Nat.add_zero]at this
 exact this
theorem Tab.see {G a h:Hp} {ty:TypeId} {tp:Nat} {T:List (List Slot)} (t:Tab ty a tp T) (l:a.le h):TSee G h tp T:=by
 obtain ⟨rb,raws,pb,s,hl,hr⟩:=t
 refine ⟨rb,?_,fun c L hc=>?_⟩
 . rw [ai (ag (l _ _ (s.at 0 rfl af)))]
   rfl
 . have hlt:c<raws.length:=by rw [hl];exact (List.getElem?_eq_some_iff.1 hc).1
   obtain ⟨e1,o⟩:=hr c _ L (List.getElem?_eq_getElem hlt) hc
   refine ⟨raws[c].1,raws[c].2.2,?_,o.sees (by decide) ((s.in 2 rfl).trans l)⟩
   rw [sv_get (l _ _ (s.at 1 rfl af)) (List.getElem?_eq_getElem hlt),e1]
theorem Sees.slot {G h:Hp} {sa:Option Addr} {cap n:Nat} {L:List Slot} (s:Sees bn G h (.slice sa n cap) L) {i:Nat} {x:Slot} (hx:L[i]?=some x):
 ∃b o,sa=some ⟨b,o,none⟩/\aa G h ⟨b,o+i*3,none⟩=some (.int .i64 x.f)/\aa G h ⟨b,o+i*3+1,none⟩=some (.int .i64 x.t)/\aa G h ⟨b,o+i*3+2,none⟩=some (.int .i64 x.r):=by
 obtain ⟨b,o,c,e1,e2⟩:=s.get hx
 simp only [Value.slice.injEq]at e1
 obtain ⟨rfl,-,-⟩:=e1
 have x0:=e2 0 (by decide)
 have x1:=e2 1 (by decide)
 have x2:=e2 2 (by decide)
 simp only [bn,Nat.add_zero,List.getElem?_cons_zero,List.getElem?_cons_succ]at x0 x1 x2
 exact ⟨b,o,rfl,x0,x1,x2⟩
def hasB (T:List (List Slot)) (c:Int):Bool:=decide (0<=c)&&decide (c<T.length)
theorem Hg {G h:Hp} {tp:Nat} {T:List (List Slot)} {c:Int} (ts:TSee G h tp T):aj P_ G 103 #[.pointer (some ⟨tp,0,none⟩),c] h (fun u h'=>u = .bool (hasB T c)/\h'=h):=by
 obtain ⟨rb,e1,_⟩:=ts
 refine at8 (by simp) ?_
 unfold S103 hasB
 try simp only [Ai]
 by_cases h0:0<=c
 . try simp only [Ai,decide_eq_true h0,show decide (c>=0)=true from decide_eq_true h0,e1]
 . try simp only [Ai,decide_eq_false h0,show decide (c>=0)=false from decide_eq_false h0,e1,Bool.false_and]
theorem oy {G h:Hp} {tp:Nat} {T:List (List Slot)} (ts:TSee G h tp T):aj P_ G 26 #[.pointer (some ⟨tp,0,none⟩)] h (fun u h'=>u = .int .i64 T.length/\h'=h):=by
 obtain ⟨rb,e1,_⟩:=ts
 refine enter26 (by simp) ?_
 unfold S26
 try simp only [Ai]
 unfold aC4
 try simp (disch:=decide) only [Ai,e1]
theorem K8 {G h:Hp} {v:Value} {L:List Slot} (sv:Sees bn G h v L) (hL:L.length<=100000):aj P_ G 106 #[v] h (fun u h'=>∃b,Slc bn 203 b u L/\Sep [b,h] h'/\Dis G h'):=by
 obtain ⟨sa,cap,rfl⟩:=sv.len
 refine aj.assume fun d=>at5 (by simp) ?_
 unfold S106
 simp only [Ai]
 by_cases hL0:L=[]
 . subst hL0
   try simp only [Ai,List.length_nil,show (((0:Nat):Int)==0)=true from rfl]
   exact ⟨noHp,Slc.nil,Sep.one.none,d⟩
 . have hpos:=List.length_pos_iff.2 hL0
   have e:((L.length:Int)==0)=false:=by
    have:(L.length:Int)≠0:=by omega
    simpa using this
   try simp only [Ai,e]
   unfold Yq
   try simp (disch:=decide) only [Ai]
   rw [tg bn ⟨0,0,0⟩ (by decide) un99 eoslot (by kernel_rfl) (by omega) (by omega)]
   intro x hx gx
   have d1:=d.set (o := .cells (bn.rows (List.replicate L.length (⟨0,0,0⟩:Slot))).toArray 203 (0,0)) gx
   rw [Sn bn (by decide) un99 eoslot (L:=L) af (by simp) (sv.up (b8 hx) d1) hL0 rfl,set_set]
   try simp (disch:=first|decide|omega) only [Ai,Nat.reduceAdd,Nat.reduceMul]
   exact ⟨noHp.set x _,⟨some x,_,[],rfl,by rw [af,List.append_nil],by rw [List.append_nil,bn.rows_length]⟩,Sep.one.new hx,d.set gx⟩
def dg:=jq bC (jq (jq (jq (jq @S4 @and_true) (jq @C2 @cf143)) (jq (jq @Or @vn) (jq @vm @vl))) (jq (jq (jq @Ri @ld3) (jq @ld98 @ld99)) (jq (jq @ln99 @jo) (jq @lr (jq @Gq @true_and)))))
theorem D7 {L:List Slot} {i:Nat} {s:Slot} {r f t:Int} (hs:L[i]?=some s):kg (L.take (i+1)) r f t=(kg (L.take i) r f t&&(s.r==r || !(decide (s.f<t)&&decide (f<s.t)))):=by
 unfold kg
 rw [List.take_add_one,hs,List.all_append]
 simp
theorem Hi {L:List Slot} {i:Nat} {s:Slot} {r f t:Int} (hs:L[i]?=some s) (h:(s.r==r || !(decide (s.f<t)&&decide (f<s.t)))=false):kg L r f t=false:=by
 unfold kg
 rw [List.all_eq_false]
 exact ⟨s,List.mem_of_getElem? hs,by rw [h];simp⟩
theorem zq {G h:Hp} {tp:Nat} {T:List (List Slot)} {L:List Slot} {c r f t:Int} (ts:TSee G h tp T) (h0:0<=c) (hL:T[c.toNat]?=some L) (hlen:L.length<=100000):
 aj P_ G 104 #[.pointer (some ⟨tp,0,none⟩),r,c,f,t] h (fun u h'=>u = .bool (kg L r f t)/\h'=h):=by
 have h1:c<T.length:=by have:=(List.getElem?_eq_some_iff.1 hL).1;omega
 obtain ⟨rb,e1,e2⟩:=ts
 obtain ⟨a,cap,e3,e4⟩:=e2 _ _ hL
 refine aj.assume fun d=>quietly (at7 (by simp) ?_)
 unfold S104
 simp only [dg,e1,ix98 h0 h1,Nat.mul_one,e3]
 refine ci (fun m q h3=>∃i:Nat,m=L.length-i/\i<=L.length/\q 1 = .int .i64 r/\q 3 = .int .i64 f/\q 4 = .int .i64 t/\q 10 = .bool false/\q 19 = .slice a L.length cap/\q 20 = .int .i64 L.length/\q 21 = .int .i64 i/\h.le h3/\Dis G h3/\kg (L.take i) r f t=true) ?_
  (m:=L.length) ⟨0,rfl,Nat.zero_le _,by simp (disch:=decide) only [dg],by simp (disch:=decide) only [dg],by simp (disch:=decide) only [dg],by simp (disch:=decide) only [dg],by simp (disch:=decide) only [dg],by simp (disch:=decide) only [dg],by simp only [dg]<;>rfl,Hp.le.refl h,d,rfl⟩
 rintro m q h3 ⟨i,rfl,hi,q1,q3,q4,q10,q19,q20,q21,l3,d3,hf⟩ X HX
 unfold Yt
 simp only [dg,q20,q21]
 refine bh (fun hlt=>?_) (fun hge=>?_)
 rotate_left
 . obtain rfl:i=L.length:=by omega
   rw [List.take_of_length_le (Nat.le_refl _)]at hf
   try simp (disch:=first|decide|omega) only [dg,Nat.reduceAdd,Nat.reduceMul]
   unfold Px
   try simp only [dg]
   exact ⟨by rw [hf],l3⟩
 obtain ⟨s,hs⟩:∃s,L[i]?=some s:=⟨_,List.getElem?_eq_getElem (by omega)⟩
 obtain ⟨b,o,rfl,z0,z1,z2⟩:=Sees.slot (e4.up l3 d3) hs
 unfold Jz
 simp (disch:=first|decide|exact ao|exact am|omega|rfl) only [dg,q19,q21,ix99 (Int.natCast_nonneg i) hlt,z0,z1,z2]
 intro x hx gx
 simp only [dg,q1]
 generalize eh:Hp.set h3 x _=h4
 obtain ⟨l4,d4,b4⟩:=boxed eh hx d3 gx
 have cx:∀j,aa G h4 ⟨x,j,none⟩=_:=fun j=>ai (ag b4)
 have k4:∀q':Rg,q' 1 = .int .i64 r->q' 3 = .int .i64 f->q' 4 = .int .i64 t->q' 10 = .bool false->q' 19=q 19->q' 20=q 20->q' 21=q 21->(s.r==r || !(decide (s.f<t)&&decide (f<s.t)))=true->Bw G (bw X (bj 0 (bw (Px G (retK P_ G [.tmp 10] fun u h'=>u = .bool (kg L r f t)/\h.le h')) (retK P_ G [.tmp 10] fun u h'=>u = .bool (kg L r f t)/\h.le h')))) q' h4:=by
  intro q' p1 p3 p4 p10 p19 p20 p21 hc
  unfold Bw
  simp (disch:=first|decide|omega) only [dg,p21,q21]
  exact HX (L.length-(i+1)) _ _ (by omega) ⟨i+1,rfl,by omega,by simp (disch:=decide) only [dg,p1],by simp (disch:=decide) only [dg,p3],by simp (disch:=decide) only [dg,p4],by simp (disch:=decide) only [dg,p10],by simp (disch:=decide) only [dg,p19,q19],by simp (disch:=decide) only [dg,p20,q20],by simp only [dg]<;>rfl,l3.trans l4,d4,by rw [D7 hs,hf,hc];rfl⟩
 cases hb:(s.r != r)with
 |false=>
  try simp only [dg,fg,hb]
  exact k4 _ (by simp (disch:=decide) only [dg,q1]) (by simp (disch:=decide) only [dg,q3]) (by simp (disch:=decide) only [dg,q4]) (by simp (disch:=decide) only [dg,q10]) (by simp (disch:=decide) only [dg]) (by simp (disch:=decide) only [dg]) (by simp (disch:=decide) only [dg]) (by simp at hb;simp [hb])
 |true=>
  try simp only [dg,cx,q4]
  by_cases hb2:s.f<t
  . try simp only [dg,decide_eq_true hb2,q3,cx]
    refine bh (fun hb3=>?_) (fun hb3=>?_)
    . try simp (disch:=first|decide|omega) only [dg,Nat.reduceAdd,Nat.reduceMul]
      have:(s.r==r || !(decide (s.f<t)&&decide (f<s.t)))=false:=by simp at hb;simp [hb,hb2,hb3]
      exact ⟨by rw [Hi hs this],l3.trans l4⟩
    . exact k4 _ (by simp (disch:=decide) only [dg,q1]) (by simp (disch:=decide) only [dg,q3]) (by simp (disch:=decide) only [dg,q4]) (by simp (disch:=decide) only [dg,q10]) (by simp (disch:=decide) only [dg]) (by simp (disch:=decide) only [dg]) (by simp (disch:=decide) only [dg]) (by simp [hb3])
  . try simp only [dg,decide_eq_false hb2,fg]
    exact k4 _ (by simp (disch:=decide) only [dg,q1]) (by simp (disch:=decide) only [dg,q3]) (by simp (disch:=decide) only [dg,q4]) (by simp (disch:=decide) only [dg,q10]) (by simp (disch:=decide) only [dg]) (by simp (disch:=decide) only [dg]) (by simp (disch:=decide) only [dg]) (by simp [hb2])
theorem cv_iu {G h:Hp} {x:Int} {K:VK}:wpH P_ G (convert 3 272 (.int .i64 x)) h K=K (.int .u64 (IntKind.u64.wrap x)) h:=by kernel_rfl
theorem cv_ui {G h:Hp} {x:Int} {K:VK}:wpH P_ G (convert 272 3 (.int .u64 x)) h K=K (IntKind.i64.wrap x) h:=by kernel_rfl
theorem shr1 {G h:Hp} {x:Int} {K:VK}:wpH P_ G (binOp .shr 272 (.int .u64 x) (.int .u64 1)) h K=K (.int .u64 (x.fdiv 2)) h:=by kernel_rfl
theorem wrap_u {x:Int} (h1:0<=x) (h2:x<18446744073709551616):IntKind.u64.wrap x=x:=by simp [IntKind.wrap,IntKind.bits,IntKind.signed];omega
theorem half {i j:Nat}:((i:Int)+(j:Int)).fdiv 2=(((i+j) / 2:Nat):Int):=by
 rw [Int.fdiv_eq_ediv_of_nonneg _ (by decide)]
 omega
theorem C0 {G h:Hp} {s:Slot} {n:Int} (h1:0<=s.f) (h2:s.f<=FV) (h3:0<=n) (h4:n<=FV):aj P_ G 143 #[slotV s,n] h (fun u h'=>u = .int .i64 (s.f-n)/\h'=h):=by
 refine aj.assume fun d=>quietly (aq4 (by simp) ?_)
 unfold S143
 simp only [dg]
 intro x hx gx
 have e:IntKind.i64.wrap (s.f-n)=s.f-n:=li (by unfold FV at *;omega) (by unfold FV at *;omega)
 simp only [dg,e]
 exact b8 hx
theorem Sw {G h:Hp} {a b:Value} {K:VK}:opH P_ G (il (.func (.func 143) #[] #[]) #[a,b]) h K=aj P_ G 143 #[a,b] h K:=by kernel_rfl
def rank (L:List Slot) (n:Int):Nat:=(L.takeWhile fun s=>decide (s.f<n)).length
theorem rank_at:∀{L:List Slot} {n:Int},L.Pairwise (fun a b=>a.f<=b.f)->∀(i:Nat) (s:Slot),L[i]?=some s->(s.f<n↔i<rank L n):=by
 intro L n hp i s hs
 unfold rank
 have e:=List.takeWhile_append_dropWhile (p:=fun s=>decide (s.f<n)) (l:=L)
 constructor
 . intro h
   refine Nat.lt_of_not_le fun hle=>?_
   rw [<- e,List.getElem?_append_right hle]at hs
   have:=Wy hp s (List.mem_of_getElem? hs)
   omega
 . intro h
   rw [<- e,List.getElem?_append_left h]at hs
   exact Vi s (List.mem_of_getElem? hs)
theorem Vr {L:List Slot} {n:Int}:rank L n<=L.length:=by
 unfold rank
 have:=congrArg List.length (List.takeWhile_append_dropWhile (p:=fun s=>decide (s.f<n)) (l:=L))
 rw [List.length_append]at this
 omega
theorem Qi {G h:Hp} {v:Value} {L:List Slot} {n:Int} (sv:Sees bn G h v L) (hlen:L.length<=100000) (hp:L.Pairwise fun a b=>a.f<=b.f) (hf:∀s∈L,0<=s.f/\s.f<=FV) (h3:0<=n) (h4:n<=FV):
 aj P_ G 142 #[v,n,.func (.func 143) #[] #[]] h (fun u h'=>(∃b,u = .tuple #[(rank L n),.bool b])/\h'=h):=by
 obtain ⟨sa,cap,rfl⟩:=sv.len
 refine aq5 (by simp) ?_
 unfold S142
 simp only [dg]
 refine ci (fun m q h3=>∃i j:Nat,m=j-i/\i<=rank L n/\rank L n<=j/\j<=L.length/\q 0 = .slice sa L.length cap/\q 1 = .int .i64 n/\q 2 = .func (.func 143) #[] #[]/\q 8 = .int .i64 L.length/\q 9 = .int .i64 i/\q 10 = .int .i64 j/\h3=h) ?_
  (m:=L.length) ⟨0,L.length,by omega,Nat.zero_le _,Vr,Nat.le_refl _,by simp (disch:=decide) only [dg],by simp (disch:=decide) only [dg],by simp (disch:=decide) only [dg],by simp (disch:=decide) only [dg],by simp (disch:=decide) only [dg]<;>rfl,by simp only [dg],rfl⟩
 rintro m q h3' ⟨i,j,rfl,hi,hj,hjl,q0,q1,q2,q8,q9,q10,rfl⟩ X HX
 unfold Xs
 simp only [dg,q9,q10]
 refine bh (fun hlt=>?_) (fun hge=>?_)
 . have hlt':i<j:=by omega
   have hm:(i+j) / 2<L.length:=by omega
   obtain ⟨s,hs⟩:∃s,L[(i+j) / 2]?=some s:=⟨_,List.getElem?_eq_getElem hm⟩
   obtain ⟨b,o,rfl,z0,z1,z2⟩:=Sees.slot sv hs
   obtain ⟨f0,f1⟩:=hf s (List.mem_of_getElem? hs)
   have w1:IntKind.i64.wrap ((i:Int)+(j:Int))=(i:Int)+(j:Int):=li (by omega) (by omega)
   have w2:IntKind.u64.wrap ((i:Int)+(j:Int))=(i:Int)+(j:Int):=wrap_u (by omega) (by omega)
   have w3:IntKind.i64.wrap (((i+j) / 2:Nat):Int)=(((i+j) / 2:Nat):Int):=li (by omega) (by omega)
   have hm':(((i+j) / 2:Nat):Int)<(L.length:Int):=by omega
   unfold I3
   simp (disch:=first|decide|omega) only [dg,q0,q1,q2,q9,q10,cv_iu,w1,w2,shr1,half,cv_ui,w3,ix99 (Int.natCast_nonneg ((i+j) / 2)) hm',z0,z1,z2,Sw]
   refine (C0 f0 f1 h3 h4).mono ?_
   rintro _ _ ⟨rfl,rfl⟩
   have hr:=rank_at hp _ _ hs (n:=n)
   simp only [dg]
   refine bh (fun hlt2=>?_) (fun hge2=>?_)
   . have:(i+j) / 2<rank L n:=hr.1 (by omega)
     try simp (disch:=first|decide|omega) only [dg,Nat.reduceAdd,Nat.reduceMul]
     refine HX (j-((i+j) / 2+1)) _ _ (by omega) ⟨(i+j) / 2+1,j,rfl,by omega,hj,hjl,by simp (disch:=decide) only [dg,q0],by simp (disch:=decide) only [dg,q1],by simp (disch:=decide) only [dg,q2],by simp (disch:=decide) only [dg,q8],by simp only [dg]<;>rfl,by simp (disch:=decide) only [dg,q10],rfl⟩
   . have:¬(i+j) / 2<rank L n:=fun h=>hge2 (by have:=hr.2 h;omega)
     try simp (disch:=first|decide|omega) only [dg,Nat.reduceAdd,Nat.reduceMul]
     refine HX ((i+j) / 2-i) _ _ (by omega) ⟨i,(i+j) / 2,rfl,hi,by omega,by omega,by simp (disch:=decide) only [dg,q0],by simp (disch:=decide) only [dg,q1],by simp (disch:=decide) only [dg,q2],by simp (disch:=decide) only [dg,q8],by simp (disch:=decide) only [dg,q9],by simp only [dg],rfl⟩
 obtain rfl:i=rank L n:=by omega
 try simp (disch:=first|decide|omega) only [dg,Nat.reduceAdd,Nat.reduceMul]
 unfold Xt
 simp (disch:=decide) only [dg,q8,q9]
 by_cases hlt:rank L n<L.length
 . obtain ⟨s,hs⟩:∃s,L[rank L n]?=some s:=⟨_,List.getElem?_eq_getElem hlt⟩
   obtain ⟨b,o,rfl,z0,z1,z2⟩:=Sees.slot sv hs
   obtain ⟨f0,f1⟩:=hf s (List.mem_of_getElem? hs)
   have hlt':((rank L n:Nat):Int)<(L.length:Int):=by omega
   simp only [dg,decide_eq_true hlt',q0,q1,q2,q9,ix99 (Int.natCast_nonneg (rank L n)) hlt',z0,z1,z2,Sw]
   refine (C0 f0 f1 h3 h4).mono ?_
   rintro _ _ ⟨rfl,rfl⟩
   simp only [dg]
   exact ⟨_,rfl⟩
 . have hlt':¬((rank L n:Nat):Int)<(L.length:Int):=by omega
   simp only [dg,decide_eq_false hlt',fg]
   exact ⟨_,rfl⟩
def qp:=jq bC (jq @kf @ln99)
theorem an7:(Tryz.f162.name == "runtime.NumGoroutine")=false:=by kernel_rfl
theorem an9:Tryz.f162.body.isNone=true:=by kernel_rfl
theorem an6:(Extern.findNext Tryz.f162).isNone=true:=by kernel_rfl
theorem an8:Extern.find Tryz.f162=some (Extern.SlicesOverlaps.overlaps Tryz.f162.params Tryz.f162.resultTypes):=by kernel_rfl
theorem Uh:Tryz.f162.params=#[99,99]:=by kernel_rfl
theorem over_eq {G h:Hp} {a b:Value} {K:VK}:opH P_ G (callFunc 162 #[a,b]) h K=wpH P_ G (Extern.SlicesOverlaps.overlaps Tryz.f162.params Tryz.f162.resultTypes #[a,b]) h K:=by
 have hb':∀(α β:Type) (s:Sem α) (g:α->Sem β),(s >>= g)=s.bind g:=fun _ _ _ _=>rfl
 have hn:Extern.findNext Tryz.f162=none:=by simpa using an6
 have hx:=Tryz.func162
 unfold opH callFunc
 simp only [hb',program,Sem.bind,wpH,hx,an7,an9,if_true,Bool.false_eq_true,if_false,mark,hn,an8,pure]
 rw [bv]
 rfl
theorem over_no {G h:Hp} {x b o la ca lb cb:Nat} {cs cs2:Array Value} {e e2:TypeId} (hx:h x=some (.cells cs e (0,0))) (hb:h b=some (.cells cs2 e2 (0,0))) (hne:x≠b) {K:VK}:
 opH P_ G (callFunc 162 #[.slice (some ⟨x,0,none⟩) la ca,.slice (some ⟨b,o,none⟩) lb cb]) h K=K (.bool false) h:=by
 rw [over_eq]
 have hb':∀(α β:Type) (s:Sem α) (g:α->Sem β),(s >>= g)=s.bind g:=fun _ _ _ _=>rfl
 have lx:HL.look G h x=some (.cells cs e (0,0)):=ag hx
 have lb':HL.look G h b=some (.cells cs2 e2 (0,0)):=ag hb
 obtain ⟨i,z,hi,hsz,_⟩:=eoslot.get
 rw [Uh]
 conv=>lhs;arg 3;whnf
 simp only [hb',underlying,program,sizeOf,typeInfo,Sem.bind,pure,wpH,bv,un99,hi,List.getElem?_toArray,List.getElem?_cons_zero]
 rw [show (#[99,99]:Array TypeId)[0]=99 from rfl,un99]
 simp only [wpH,bv,hi]
 split
 . rfl
 . have hxb:(x != b)=true:=by simpa using hne
   have hxb2:(x==b)=false:=by simpa using hne
   simp [frozen,noView,viewAt,mayBeOne,stringish,shape,wpH,bv,lx,lb',pc,Cf,hxb,hxb2,bind,pure,getObj,Sem.bind]
theorem cap32 {G h:Hp} {a:Option Addr} {n c:Nat} {K:VK}:wpH P_ G (Builtin.cap_ #[99] 3 #[.slice a n c]) h K=K c h:=by kernel_rfl
theorem add0 {b n:Nat}:(⟨b,0,none⟩:Addr).add n=⟨b,n,none⟩:=by rw [mn,Nat.zero_add]
theorem Tf {A D:List Slot} {x:Slot} {zs:List Value} {m:Nat}:∃rest,(((bn.rows A++zs).take (A.length*3)++bn.rows [x]++(bn.rows A++zs).drop (A.length*3+[x].length*bn.n)).take ((A.length+1)*3)++bn.rows D++
 ((bn.rows A++zs).take (A.length*3)++bn.rows [x]++(bn.rows A++zs).drop (A.length*3+[x].length*bn.n)).drop m)=bn.rows (A++x::D)++rest:=by
 have e1:(bn.rows A++zs).take (A.length*3)=bn.rows A:=List.take_left' (by rw [bn.rows_length];rfl)
 rw [e1,<- bn.rows_append]
 rw [List.take_left' (l₁:=bn.rows (A++[x])) (by rw [bn.rows_length];simp;rfl),<- bn.rows_append]
 rw [show A++[x]++D=A++x::D by simp]
 exact ⟨_,rfl⟩
theorem Y4 {L:List Slot} {i:Nat} {x:Slot} {t:List Value} (hi:i<L.length) {m:Nat}:∃rest,(((bn.rows L++t).take ((i+1)*3)++bn.rows (L.drop i)++(bn.rows L++t).drop m).take (i*3)++bn.rows [x]++
 ((bn.rows L++t).take ((i+1)*3)++bn.rows (L.drop i)++(bn.rows L++t).drop m).drop (i*3+[x].length*bn.n))=bn.rows (L.take i++x::L.drop i)++rest:=by
 refine ⟨(bn.rows L++t).drop m,?_⟩
 have e1:(bn.rows L++t).take ((i+1)*3)=bn.rows (L.take (i+1)):=bn.rows_take (by omega)
 rw [e1,<- bn.rows_append]
 have hlen:(L.take (i+1)++L.drop i).length=L.length+1:=by simp;omega
 have e2:=bn.rows_take (L:=L.take (i+1)++L.drop i) (t:=(bn.rows L++t).drop m) (k:=i) (by omega)
 have e3:=bn.rows_drop (L:=L.take (i+1)++L.drop i) (t:=(bn.rows L++t).drop m) (k:=i+1) (by omega)
 rw [show bn.n=3 from rfl]at e2 e3 ⊢
 rw [e2,show i*3+[x].length*3=(i+1)*3 by simp;omega,e3]
 have t1:(L.take (i+1)++L.drop i).take i=L.take i:=by
  rw [List.take_append_of_le_length (by simp;omega),List.take_take]
  congr 1;omega
 have t2:(L.take (i+1)++L.drop i).drop (i+1)=L.drop i:=List.drop_left' (by simp;omega)
 rw [t1,t2,<- bn.rows_append,<- List.append_assoc,<- bn.rows_append]
 simp
theorem Rr {G h a:Hp} {R:List Hp} {v:Value} {L:List Slot} {i xb:Nat} {x:Slot} (s:Sep (a::R) h) (d:Dis G h) (o:Slc bn 203 a v L) (hx:h xb=some (nt x)) (hxa:a xb=none) (hi:i<=L.length) (hlen:L.length<=100000):
 aj P_ G 144 #[v,i,.slice (some ⟨xb,0,none⟩) 1 1] h (fun u h'=>∃a',Slc bn 203 a' u (L.take i++x::L.drop i)/\Sep (a'::R) h'/\Dis G h'):=by
 refine aq3 (by simp) ?_
 unfold S144
 have sx:Sees bn G h (.slice (some ⟨xb,0,none⟩) 1 1) [x]:=Sees.row (c:=bn) (L:=[x]) hx rfl (Nat.le_refl _)
 obtain ⟨ob,o⟩:=o
 cases ob with
 |none=>
  obtain ⟨rfl,rfl⟩:=o
  obtain rfl:i=0:=by simpa using hi
  simp only [qp,show ((0:Nat):Int)=0 from rfl,Et un99 p7,show (((1:Nat):Int)==0)=false from rfl]
  unfold Pn
  simp (disch:=decide) only [qp,show ((0:Nat):Int)=0 from rfl,show ((0:Int)==0)=true from rfl]
  refine dw bn (by decide) un99 eoslot (by decide) (by decide) (M:=[x]) s d Slc.nil sx (by simp) fun v' a' h' o' s' d'=>?_
  try simp (disch:=first|decide|omega) only [qp,Nat.reduceAdd,Nat.reduceMul]
  exact ⟨a',o',s',d'⟩
 |some b=>
  obtain ⟨cap,t,rfl,hb,hl⟩:=o
  have hc:L.length<=cap:=by
   have:=congrArg (fun n=>n) hl
   rw [List.length_append,bn.rows_length]at hl
   have:bn.n=3:=rfl
   rw [this]at hl
   omega
  have ow:Slc bn 203 a (.slice (some ⟨b,0,none⟩) L.length cap) L:=⟨some b,cap,t,rfl,hb,hl⟩
  have sv:=ow.sees (G:=G) (by decide) s.hd
  have hbh:=s.hd _ _ hb
  have hne:xb≠b:=fun e=>by rw [e,hb]at hxa;cases hxa
  simp only [qp,mz un99 p7 (Int.natCast_nonneg i) (show (i:Int)<=(L.length:Nat)by omega) hc,show (((1:Nat):Int)==0)=false from rfl]
  unfold Pn
  simp (disch:=decide) only [qp]
  by_cases hin:i=L.length
  . subst hin
    simp only [qp,show ((L.length:Int)==(L.length:Int))=true by simp]
    refine dw bn (by decide) un99 eoslot (by decide) (by decide) (M:=[x]) s d ow sx (by simp;omega) fun v' a' h' o' s' d'=>?_
    try simp (disch:=first|decide|omega) only [qp,Nat.reduceAdd,Nat.reduceMul]
    refine ⟨a',?_,s',d'⟩
    rw [List.take_of_length_le (Nat.le_refl _),List.drop_of_length_le (Nat.le_refl _)]
    exact o'
  have hin':i<L.length:=by omega
  simp only [qp,show ((i:Int)==(L.length:Int))=false by simp;omega]
  unfold Xr
  have w1:IntKind.i64.wrap ((L.length:Int)+((1:Nat):Int))=((L.length+1:Nat):Int):=by rw [li (by omega) (by omega)];omega
  simp (disch:=first|decide|omega) only [qp,w1,cap32]
  refine bh (fun hgt=>?_) (fun hle=>?_)
  . -- a new row
    have hcap:cap=L.length:=by omega
    have lt1:(L.take i).length=i:=by rw [List.length_take];omega
    have s0:Src G h bn.n (.slice (some ⟨b,0,none⟩) i cap) i (bn.rows (L.take i)):=by
     refine ⟨by rw [bn.rows_length,lt1],.inr ⟨b,0,cap,rfl,fun j hj=>?_⟩⟩
     rw [ai (ag hbh),Nat.zero_add,bn.rows_split L i,List.append_assoc,List.getElem?_append_left hj]
    have w2:((L.length+1:Nat):Int)-(i:Int)=((L.length+1-i:Nat):Int):=by omega
    simp only [qp,xf un99 p7 (Int.natCast_nonneg i) (show (i:Int)<=(cap:Nat)by omega),w1,w2]
    refine S2 un99 (show P_.underlying 3=some (.int .i64)by kernel_rfl) eoslot (by decide) s0 (by omega) (by omega) (by omega) fun q cap' zs hq gq hcap' hzl=>?_
    have ei:i+(L.length+1-i)=L.length+1:=by omega
    rw [ei]at hcap' ⊢
    have hzl':zs.length=cap'*3-i*3:=by
     rw [List.length_append,bn.rows_length,lt1]at hzl
     have:bn.n=3:=rfl
     rw [this]at hzl
     omega
    generalize e2:Hp.set h q _=h2
    obtain ⟨l2,d2,b2⟩:=boxed e2 hq d gq
    have hw:(i:Int)+((1:Nat):Int)=((i+1:Nat):Int):=by omega
    simp only [qp,mz un99 p7 (Int.natCast_nonneg i) (show (i:Int)<=(L.length+1:Nat)by omega) hcap',if_neg (show ¬cap'=i by omega),add0]
    rw [W1 bn (by decide) un99 eoslot (M:=[x]) b2 ((sx.up l2 d2).src (by decide) (by simp)) (by simp;omega) (by rw [hzl,show bn.n=3 from rfl,List.length_singleton];omega)]
    generalize e3:Hp.set h2 q _=h3
    have b3:=Tg e3
    have hqb:q≠b:=fun e=>by rw [e,hbh]at hq;cases hq
    have hb3:h3 b=some (.cells (bn.rows L++t).toArray 203 (0,0)):=by rw [Dv e3 (Ne.symm hqb)];exact l2 _ _ hbh
    simp only [qp,hw,sn un99 p7 (Int.natCast_nonneg (i+1)) (show ((i+1:Nat):Int)<=(L.length+1:Nat)by omega) hcap',if_neg (show ¬cap'=i+1 by omega),add0,sn un99 p7 (Int.natCast_nonneg i) (show (i:Int)<=(L.length:Nat)by omega) hc,if_neg (show ¬cap=i by omega)]
    have hdl:(L.drop i).length=L.length-i:=List.length_drop
    rw [Lq bn (by decide) un99 eoslot (M:=L.drop i) b3 (by rw [hdl];exact Nat.min_eq_left (by omega)) (fun j hj=>by
     rw [ai (ag hb3),bn.rows_split L i,List.append_assoc,List.getElem?_append_right (by rw [bn.rows_length,lt1];exact Nat.le_add_right _ _),bn.rows_length,lt1,show i*3+j-i*bn.n=j by rw [show bn.n=3 from rfl];omega,List.getElem?_append_left hj]) (by
     rw [hdl,show bn.n=3 from rfl]
     simp only [List.length_append,List.length_take,List.length_drop,bn.rows_length,lt1,show bn.n=3 from rfl,List.length_singleton,hzl']
     omega)]
    rw [show i*3=(L.take i).length*3 by rw [lt1],show (i+1)*3=((L.take i).length+1)*3 by rw [lt1]]
    obtain ⟨rest,er⟩:=Tf (A:=L.take i) (D:=L.drop i) (x:=x) (zs:=zs) (m:=((L.take i).length+1)*3+(L.drop i).length*bn.n)
    have hlr:=congrArg List.length er
    rw [er]
    have sq:HL.Sep (noHp.set q (.cells (bn.rows (L.take i++x::L.drop i)++rest).toArray 203 (0,0))::a::R) (h3.set q (.cells (bn.rows (L.take i++x::L.drop i)++rest).toArray 203 (0,0))):=by
     have s1:=s.new (o := .cells (bn.rows (L.take i)++zs).toArray 203 (0,0)) hq
     rw [e2]at s1
     have s2:=s1.put (o:=Obj.cells (bn.rows (L.take i++x::L.drop i)++rest).toArray 203 (0,0)) af
     rw [set_set]at s2
     rw [<- e3,set_set]
     exact s2
    try simp (disch:=first|decide|omega) only [qp,Nat.reduceAdd,Nat.reduceMul]
    refine ⟨_,⟨some q,cap',rest,?_,af,?_⟩,sq.swap.drop,?_⟩
    . rw [List.length_append,List.length_cons,lt1,hdl,show i+(L.length-i+1)=L.length+1 by omega]
    . rw [<- hlr]
      simp only [List.length_append,List.length_take,List.length_drop,bn.rows_length,lt1,show bn.n=3 from rfl,List.length_singleton,hzl',hdl]
      omega
    . have d3:Dis G h3:=by rw [<- e3];exact d2.set gq
      exact d3.set gq
  . -- room in the row
    have hcap:L.length+1<=cap:=by omega
    have hl3:(bn.rows L++t).length=cap*3:=hl
    unfold Xq
    have hw:(i:Int)+((1:Nat):Int)=((i+1:Nat):Int):=by omega
    simp (disch:=first|decide|omega) only [qp,w1,xf un99 p7 (Int.natCast_nonneg (L.length+1)) (show ((L.length+1:Nat):Int)<=(cap:Nat)by omega),hw,mz un99 p7 (Int.natCast_nonneg (i+1)) (show ((i+1:Nat):Int)<=(L.length+1:Nat)by omega) hcap,if_neg (show ¬cap=i+1 by omega),add0]
    rw [over_no hx hbh hne]
    simp only [qp,hw,sn un99 p7 (Int.natCast_nonneg (i+1)) (show ((i+1:Nat):Int)<=(L.length+1:Nat)by omega) hcap,if_neg (show ¬cap=i+1 by omega),add0,sn un99 p7 (Int.natCast_nonneg i) (show ((i:Nat):Int)<=(L.length+1:Nat)by omega) hcap,if_neg (show ¬cap=i by omega)]
    have hdl:(L.drop i).length=L.length-i:=List.length_drop
    have lt1:(L.take i).length=i:=by rw [List.length_take];omega
    rw [Lq bn (by decide) un99 eoslot (M:=L.drop i) hbh (by rw [hdl];show min (L.length+1-i) (L.length+1-(i+1))=L.length-i;omega) (fun j hj=>by
     rw [ai (ag hbh),bn.rows_split L i,List.append_assoc,List.getElem?_append_right (by rw [bn.rows_length,lt1];exact Nat.le_add_right _ _),bn.rows_length,lt1,show i*3+j-i*bn.n=j by rw [show bn.n=3 from rfl];omega,List.getElem?_append_left hj]) (by
     rw [hdl,show bn.n=3 from rfl,hl3]
     omega)]
    generalize e3:Hp.set h b _=h3
    have b3:=Tg e3
    have d3:Dis G h3:=by rw [<- e3];exact d.set (d _ _ hbh)
    have hx3:h3 xb=some (nt x):=by rw [Dv e3 hne];exact hx
    have sx3:Sees bn G h3 (.slice (some ⟨xb,0,none⟩) 1 1) [x]:=Sees.row (c:=bn) (L:=[x]) hx3 rfl (Nat.le_refl _)
    simp only [qp,mz un99 p7 (Int.natCast_nonneg i) (show ((i:Nat):Int)<=(L.length+1:Nat)by omega) hcap,if_neg (show ¬cap=i by omega),add0]
    rw [W1 bn (by decide) un99 eoslot (M:=[x]) b3 (sx3.src (by decide) (by simp)) (by simp;omega) (by
     simp only [List.length_append,List.length_take,List.length_drop,bn.rows_length,lt1,show bn.n=3 from rfl,List.length_singleton,hdl]
     rw [List.length_append,bn.rows_length,show bn.n=3 from rfl]at hl3
     omega)]
    obtain ⟨rest,er⟩:=Y4 (L:=L) (i:=i) (x:=x) (t:=t) hin' (m:=(i+1)*3+(L.drop i).length*bn.n)
    have hlr:=congrArg List.length er
    rw [er]
    try simp (disch:=first|decide|omega) only [qp,Nat.reduceAdd,Nat.reduceMul]
    have sq:=s.put (o:=Obj.cells (bn.rows (L.take i++x::L.drop i)++rest).toArray 203 (0,0)) hb
    rw [<- e3,set_set]
    refine ⟨_,⟨some b,cap,rest,?_,af,?_⟩,sq,d.set (d _ _ hbh)⟩
    . rw [List.length_append,List.length_cons,lt1,hdl,show i+(L.length-i+1)=L.length+1 by omega]
    . rw [<- hlr]
      simp only [List.length_append,List.length_take,List.length_drop,bn.rows_length,lt1,show bn.n=3 from rfl,List.length_singleton,hdl]
      rw [List.length_append,bn.rows_length,show bn.n=3 from rfl]at hl3
      omega
def fj:=jq bC (jq (jq (jq (jq @S4 (jq @Oz @pu)) (jq (jq @Sx @cf142) (jq @cf144 @Or))) (jq (jq @Hy (jq @vn @Sb)) (jq (jq @vm @al7) (jq @vl @ix98p)))) (jq (jq (jq @Ri (jq @ld3 @ld3p)) (jq (jq @ld98 @ld98p) (jq @ld99 @ln99))) (jq (jq @jo (jq @ii @ls)) (jq (jq @ji @tc) (jq @Gq @true_and)))))
theorem sv_set {raws:List Sv} {c:Nat} {s:Sv} (hc:c<raws.length):(svC.rows raws).set c (.slice s.1 s.2.1 s.2.2)=svC.rows (raws.set c s):=by
 have:=svC.rows_put (t:=[]) (x:=s) hc
 rw [List.append_nil,List.append_nil,show svC.n=1 from rfl,Nat.mul_one]at this
 exact this
theorem Km {ty:TypeId} {a io h:Hp} {R:List Hp} {G:Hp} {tp c:Nat} {T:List (List Slot)} {L:List Slot} {v:Value} (t:Tab ty a tp T) (s:HL.Sep (io::a::R) h) (d:Dis G h) (o:Slc bn 203 io v L) (hc:c<T.length):
 ∃(rb:Nat) (l:List Value),aa G a ⟨tp,0,none⟩=some (.slice (some ⟨rb,0,none⟩) T.length T.length)/\h rb=some (.cells l.toArray 99 (0,0))/\c<l.length/\
  ∃a',Tab ty a' tp (T.set c L)/\HL.Sep (a'::R) (h.set rb (.cells (l.set c v).toArray 99 (0,0)))/\Dis G (h.set rb (.cells (l.set c v).toArray 99 (0,0))):=by
 obtain ⟨rb,raws,pb,st,hl,hr⟩:=t
 have s1:=s.split st
 simp only [List.cons_append,List.nil_append]at s1
 have hrb:h rb=some (.cells (svC.rows raws).toArray 99 (0,0)):=s1.at 2 rfl af
 obtain ⟨sa,cap,rfl,_⟩:=o.len (by decide)
 refine ⟨rb,svC.rows raws,?_,hrb,by rw [svC.rows_length,show svC.n=1 from rfl,hl];omega,?_⟩
 . rw [ai (ag (st.at 0 rfl af))]
   rfl
 have e:=sv_set (raws:=raws) (c:=c) (s:=(sa,L.length,cap)) (by omega)
 simp only at e
 rw [e]
 have s2:=(s1.pick 2 rfl rfl).put (o:=Obj.cells (svC.rows (raws.set c (sa,L.length,cap))).toArray 99 (0,0)) af
 rw [set_set]at s2
 have s3:=(s2.pick 3 rfl rfl).pick 2 rfl rfl
 obtain ⟨pb',s4,t4⟩:=Dw s3
 have s5:=((s4.pick 1 rfl rfl).pick 2 rfl rfl)
 obtain ⟨a',s6,t6⟩:=rh s5
 refine ⟨a',⟨rb,raws.set c (sa,L.length,cap),pb',?_,by simp [hl],fun i s L' h1 h2=>?_⟩,s6,d.set (d _ _ hrb)⟩
 . rw [List.length_set]
   exact t6
 . by_cases hi:i=c
   . subst hi
     rw [List.getElem?_set_self (by omega)]at h1 h2
     cases h1
     cases h2
     exact ⟨rfl,o.le (t4.in 0 rfl)⟩
   . rw [List.getElem?_set_ne (Ne.symm hi)]at h1 h2
     obtain ⟨e1,e2⟩:=hr i s L' h1 h2
     exact ⟨e1,e2.le (t4.in 1 rfl)⟩
theorem mn_eq {a b:Int}:(if b<a then b else a)=min a b:=by split<;>omega
theorem mx_eq {a b:Int}:(if b>a then b else a)=max a b:=by split<;>omega
theorem ag9 {P:Program} {G h:Hp} {a b:Int} {K:Value->Prop}:pw P G h (Builtin.min_ #[3,3] 3 #[a,b]) K=K (.int .i64 (min a b)):=by rw [<- mn_eq];rfl
theorem ai0 {P:Program} {G h:Hp} {a b:Int} {K:Value->Prop}:pw P G h (Builtin.max_ #[3,3] 3 #[a,b]) K=K (.int .i64 (max a b)):=by rw [<- mx_eq];rfl
theorem Vz {P:Program} {G h:Hp} {a b:Int} {K:VK}:wpH P G (Builtin.min_ #[3,3] 3 #[a,b]) h K=K (.int .i64 (min a b)) h:=by rw [<- mn_eq];rfl
theorem V1 {P:Program} {G h:Hp} {a b:Int} {K:VK}:wpH P G (Builtin.max_ #[3,3] 3 #[a,b]) h K=K (.int .i64 (max a b)) h:=by rw [<- mx_eq];rfl
theorem vf {r:Int}:∀{L:List Slot} {i:Nat} {s:Slot} {f t:Int} {out:List Slot},L[i]?=some s->ld r (L.drop i) f t out=if jb r f t s=true then ld r (L.drop (i+1)) (min f s.f) (max t s.t) out else ld r (L.drop (i+1)) f t (out++[s]):=by
 intro L i s f t out hs
 obtain ⟨hlt,rfl⟩:=List.getElem?_eq_some_iff.1 hs
 rw [List.drop_eq_getElem_cons hlt,ld]
theorem Rs {out:List Slot} {x:Slot}:yn out x=out.take (rank out x.f)++x::out.drop (rank out x.f):=by
 unfold yn rank
 have e:=List.takeWhile_append_dropWhile (p:=fun s=>decide (s.f<x.f)) (l:=out)
 have h1:=List.take_left' (l₁:=out.takeWhile fun s=>decide (s.f<x.f)) (l₂:=out.dropWhile fun s=>decide (s.f<x.f)) rfl
 have h2:=List.drop_left' (l₁:=out.takeWhile fun s=>decide (s.f<x.f)) (l₂:=out.dropWhile fun s=>decide (s.f<x.f)) rfl
 rw [e]at h1 h2
 rw [h1,h2]
theorem af2 {G h a:Hp} {R:List Hp} {tp:Nat} {T:List (List Slot)} {L:List Slot} {c r f t:Int} (tb:Tab 124 a tp T) (sp:HL.Sep (a::R) h) (h0:0<=c) (hL:T[c.toNat]?=some L) (g:Resv.Good L) (hlen:L.length<=50000) (hf:0<=f) (hft:f<t) (ht:t<=FV):
 aj P_ G 105 #[.pointer (some ⟨tp,0,none⟩),r,c,f,t] h (fun u h'=>u = .tuple #[]/\∃a',Tab 124 a' tp (T.set c.toNat (Resv.putL L r f t))/\HL.Sep (a'::R) h'/\Dis G h'):=by
 have h1:c<T.length:=by have:=(List.getElem?_eq_some_iff.1 hL).1;omega
 refine aj.assume fun d=>at6 (by simp) ?_
 have da:Dis G a:=fun b o e=>d _ _ (sp.hd _ _ e)
 obtain ⟨rb,e1,e2⟩:=tb.see (G:=G) (Hp.le.refl a)
 obtain ⟨sa,cap,e3,e4⟩:=e2 _ _ hL
 unfold S105
 simp only [fj,jg sp.hd d e1,ix98 h0 h1,Nat.mul_one,jg sp.hd d e3]
 refine ci (fun m q h3=>∃(i:Nat) (fi ti:Int) (io:Hp) (v:Value) (out:List Slot),m=L.length-i/\i<=L.length/\q 0 = .pointer (some ⟨tp,0,none⟩)/\q 1 = .int .i64 r/\q 2 = .int .i64 c/\q 3 = .int .i64 fi/\q 4 = .int .i64 ti/\q 10=v/\q 21 = .slice sa L.length cap/\q 22 = .int .i64 L.length/\q 23 = .int .i64 i/\
  Slc bn 203 io v out/\out.length<=i/\HL.Sep (io::a::R) h3/\Dis G h3/\ld r (L.drop i) fi ti out=ld r L f t []) ?_
  (m:=L.length) ⟨0,f,t,noHp,_,[],rfl,Nat.zero_le _,by simp (disch:=decide) only [fj],by simp (disch:=decide) only [fj],by simp (disch:=decide) only [fj],by simp (disch:=decide) only [fj],by simp (disch:=decide) only [fj],rfl,by simp (disch:=decide) only [fj],by simp (disch:=decide) only [fj],by simp only [fj]<;>rfl,by simp (disch:=decide) only [fj];exact Slc.nil,Nat.zero_le _,sp.none,d,rfl⟩
 rintro m q h3 ⟨i,fi,ti,io,v,out,rfl,hi,q0,q1,q2,q3,q4,q10,q21,q22,q23,o,ho,s3,d3,hm⟩ X HX
 have l3:=s3.in 1 rfl
 unfold Yr
 simp only [fj,q22,q23]
 refine bh (fun hlt=>?_) (fun hge=>?_)
 . obtain ⟨s,hs⟩:∃s,L[i]?=some s:=⟨_,List.getElem?_eq_getElem (by omega)⟩
   obtain ⟨b,of,rfl,z0,z1,z2⟩:=Sees.slot (e4.up l3 d3) hs
   unfold Jy
   simp (disch:=first|decide|exact ao|exact am|omega|rfl) only [fj,q21,q23,ix99 (Int.natCast_nonneg i) hlt,z0,z1,z2]
   intro x hx gx
   simp only [fj,q1]
   generalize eh:Hp.set h3 x _=h4
   obtain ⟨l4,d4,b4⟩:=boxed eh hx d3 gx
   have s4:HL.Sep (io::a::R) h4:=by rw [<- eh];exact s3.past hx
   have cx:∀j,aa G h4 ⟨x,j,none⟩=_:=fun j=>ai (ag b4)
   have k5:∀(K0:Exit->Rg->Hp->Prop) (q':Rg),(∀k,k<=11->q' k=q k)->q' 21=q 21->q' 22=q 22->q' 23=q 23->q' 12 = .pointer (some ⟨x,0,none⟩)->jb r fi ti s=false->Bv G (bw X K0) q' h4:=by
    intro K0 q' hq q'21 q'22 q'23 q'12 htb
    unfold Bv
    simp only [fj,q'12,cx]
    intro y hy gy
    generalize ey:Hp.set h4 y _=h5
    obtain ⟨l5,d5,b5⟩:=boxed ey hy d4 gy
    have s5:HL.Sep (io::a::R) h5:=by rw [<- ey];exact s4.past hy
    rw [hq 10 (by decide),q10]
    refine dw bn (by decide) un99 eoslot (by decide) (by decide) (M:=[s]) s5 d5 o (Sees.row (c:=bn) (L:=[s]) b5 rfl (Nat.le_refl _)) (by simp;omega) fun v' a' h' o' s' d'=>?_
    unfold wc
    simp (disch:=first|decide|omega) only [fj,q'23,q23]
    refine HX (L.length-(i+1)) _ _ (by omega) ⟨i+1,fi,ti,a',v',out++[s],rfl,by omega,by simp (disch:=decide) only [fj,hq 0 (by decide),q0],by simp (disch:=decide) only [fj,hq 1 (by decide),q1],by simp (disch:=decide) only [fj,hq 2 (by decide),q2],by simp (disch:=decide) only [fj,hq 3 (by decide),q3],by simp (disch:=decide) only [fj,hq 4 (by decide),q4],by simp (disch:=decide) only [fj],by simp (disch:=decide) only [fj,q'21,q21],by simp (disch:=decide) only [fj,q'22,q22],by simp only [fj]<;>rfl,o',by simp;omega,s',d',?_⟩
    rw [<- hm,vf hs,if_neg (by rw [htb];decide)]
   cases hb:(s.r==r)with
   |false=>
    simp only [fj,hb,fg]
    exact k5 _ _ (fun k hk=>by simp (disch:=omega) only [aq]) (by simp (disch:=decide) only [fj]) (by simp (disch:=decide) only [fj]) (by simp (disch:=decide) only [fj]) (by simp (disch:=decide) only [fj]) (by unfold jb;rw [hb];rfl)
   |true=>
   simp only [fj,cx,q4]
   by_cases hb2:s.f<=ti
   rotate_left
   . simp only [fj,decide_eq_false hb2,fg]
     exact k5 _ _ (fun k hk=>by simp (disch:=omega) only [aq]) (by simp (disch:=decide) only [fj]) (by simp (disch:=decide) only [fj]) (by simp (disch:=decide) only [fj]) (by simp (disch:=decide) only [fj]) (by unfold jb;rw [decide_eq_false hb2];simp)
   simp only [fj,decide_eq_true hb2,q3,cx]
   refine bh (fun hb3=>?_) (fun hb3=>?_)
   rotate_left
   . exact k5 _ _ (fun k hk=>by simp (disch:=omega) only [aq]) (by simp (disch:=decide) only [fj]) (by simp (disch:=decide) only [fj]) (by simp (disch:=decide) only [fj]) (by simp (disch:=decide) only [fj]) (by unfold jb;rw [decide_eq_false hb3];simp)
   simp only [fj,cx,q3,q4,ag9,ai0]
   unfold wc
   simp (disch:=first|decide|omega) only [fj,q23]
   refine HX (L.length-(i+1)) _ _ (by omega) ⟨i+1,min fi s.f,max ti s.t,io,v,out,rfl,by omega,by simp (disch:=decide) only [fj,q0],by simp (disch:=decide) only [fj,q1],by simp (disch:=decide) only [fj,q2],by simp (disch:=decide) only [fj],by simp (disch:=decide) only [fj],by simp (disch:=decide) only [fj,q10],by simp (disch:=decide) only [fj,q21],by simp (disch:=decide) only [fj,q22],by simp only [fj]<;>rfl,o,by omega,s4,d4,?_⟩
   rw [<- hm,vf hs,if_pos (by unfold jb;rw [hb,decide_eq_true hb2,decide_eq_true hb3];rfl)]
 obtain rfl:i=L.length:=by omega
 rw [List.drop_of_length_le (Nat.le_refl _),ld]at hm
 obtain ⟨f',t',em,m1,m2,m3,m4,m5⟩:=Ax (r:=r) (f:=f) (t:=t) (out:=[]) g.apart (fun s hs=>(g.ok s hs).2.1) hft
 rw [<- hm]at em
 simp only [Prod.mk.injEq,List.nil_append]at em
 obtain ⟨rfl,rfl,eo⟩:=em
 have ep:Resv.putL L r f t=yn out ⟨fi,ti,r⟩:=by unfold Resv.putL;rw [<- hm]
 have hmem:∀s∈out,s∈L:=fun s hs=>by rw [eo]at hs;exact (List.mem_filter.1 hs).1
 have hsort:out.Pairwise fun a b=>a.f<=b.f:=by
  rw [eo]
  exact (Kq g.apart fun s hs=>(g.ok s hs).2.1).filter _
 have hfi:0<=fi:=by
  rcases m3 with rfl|⟨s,hs,_,rfl⟩
  . exact hf
  . exact (g.ok s hs).1
 try simp (disch:=first|decide|omega) only [fj,Nat.reduceAdd,Nat.reduceMul]
 unfold Ys
 simp (disch:=decide) only [fj,q10,q3]
 refine (Qi (n:=fi) (o.sees (by decide) (s3.in 0 rfl)) (by omega) hsort (fun s hs=>have k:=g.ok s (hmem s hs);⟨k.1,Int.le_trans (Int.le_of_lt k.2.1) k.2.2.1⟩) hfi (by omega)).mono ?_
 rintro _ _ ⟨⟨bb,rfl⟩,rfl⟩
 simp only [fj]
 refine ⟨a,l3,?_⟩
 simp (disch:=first|decide|omega) only [fj,q0,q1,q2,q3,q4,q10,e1]
 intro x hx gx
 generalize ex:Hp.set _ x _=h5
 obtain ⟨l5,d5,b5⟩:=boxed ex hx d3 gx
 have s5:HL.Sep (io::a::R) h5:=by rw [<- ex];exact s3.past hx
 refine (Rr (x:=⟨fi,ti,r⟩) s5 d5 o b5 ((s3.in 0 rfl).none hx) Vr (by omega)).mono ?_
 rintro v6 h6 ⟨io6,o6,s6,d6⟩
 rw [show out.take (rank out fi)++⟨fi,ti,r⟩::out.drop (rank out fi)=Resv.putL L r f t by rw [ep,Rs]]at o6
 refine ⟨s6.in 1 rfl,?_⟩
 obtain ⟨rb',l,e1',hrb,hcl,a',t',s7,d7⟩:=Km (c:=c.toNat) tb s6 d6 o6 (by omega)
 rw [e1]at e1'
 obtain rfl:rb=rb':=by simpa using e1'
 obtain ⟨sa6,cap6,rfl,_⟩:=o6.len (by decide)
 rw [Nat.mul_one,di sz99 rfl hrb hcl]
 exact ⟨a',t',s7,d7⟩
def dl:=jq bC (jq (jq (jq (jq @al75 @bd124_0) (jq @tq @kf)) (jq (jq @W2 @cf104) (jq @cf105 @Wu))) (jq (jq (jq @fa75_0 @fa75_1) (jq @fa75_2 @ld3)) (jq (jq @ld75 @ln71) (jq @lr (jq @st75w @true_and)))))
def Kl:Cod Want:=⟨3,fun s=>[.int .i64 s.c,.int .i64 s.f,.int .i64 s.t],fun _=>rfl,fun _ v hv=>by simp at hv;rcases hv with rfl|rfl|rfl<;>rfl⟩
theorem Sees.want {G h:Hp} {sa:Option Addr} {cap n:Nat} {L:List Want} (s:Sees Kl G h (.slice sa n cap) L) {i:Nat} {x:Want} (hx:L[i]?=some x):
 ∃b o,sa=some ⟨b,o,none⟩/\aa G h ⟨b,o+i*3,none⟩=some (.int .i64 x.c)/\aa G h ⟨b,o+i*3+1,none⟩=some (.int .i64 x.f)/\aa G h ⟨b,o+i*3+2,none⟩=some (.int .i64 x.t):=by
 obtain ⟨b,o,c,e1,e2⟩:=s.get hx
 simp only [Value.slice.injEq]at e1
 obtain ⟨rfl,-,-⟩:=e1
 have x0:=e2 0 (by decide)
 have x1:=e2 1 (by decide)
 have x2:=e2 2 (by decide)
 simp only [Kl,Nat.add_zero,List.getElem?_cons_zero,List.getElem?_cons_succ]at x0 x1 x2
 exact ⟨b,o,rfl,x0,x1,x2⟩
theorem Oc {T:Tb} {c:Int}:hasB T c=inT T.length c:=rfl
theorem um {G h:Hp} {n:Nat} (h1:1<=n) (h2:n<=256):aj P_ G 24 #[n] h (fun u h'=>∃a tp,u = .tuple #[.pointer (some ⟨tp,0,none⟩),(0:Int)]/\Tab 124 a tp (List.replicate n [])/\HL.Sep [a,h] h'/\Dis G h'):=by
 refine aj.assume fun d=>enter24 (by simp) ?_
 unfold S24
 simp (disch:=decide) only [dl,decide_eq_false (show ¬(n:Int)<1 by omega),show decide ((n:Int)>256)=false from decide_eq_false (by omega)]
 unfold aC5
 simp (disch:=decide) only [dl]
 rw [tg svC (none,0,0) (by decide) un98 eosv (by kernel_rfl) (by omega) (by omega)]
 intro rb hrb grb
 simp only [dl]
 intro tp htp gtp
 have s1:=(Sep.one (h:=h)).new (o := .cells (svC.rows (List.replicate n (none,0,0))).toArray 99 (0,0)) hrb
 have d1:=d.set (o := .cells (svC.rows (List.replicate n (none,0,0))).toArray 99 (0,0)) grb
 have s2:=s1.new (o := .cells #[.slice (some ⟨rb,0,none⟩) n n] 124 (0,0)) htp
 have s3:=(s2.none.pick 2 rfl rfl).pick 2 rfl rfl
 obtain ⟨a,s4,t4⟩:=rh s3
 refine ⟨a,tp,rfl,⟨rb,List.replicate n (none,0,0),noHp,?_,by simp,fun i s L h1 h2=>?_⟩,s4,d1.set gtp⟩
 . rw [List.length_replicate]
   exact t4
 . rw [List.getElem?_replicate]at h1 h2
   split at h1
   . rename_i hi
     rw [if_pos hi]at h2
     cases h1
     cases h2
     exact ⟨rfl,Slc.nil⟩
   . cases h1
theorem Da {α:Type} {L:List α} {i:Nat} {x:α} {p:α->Bool} (hx:L[i]?=some x):(L.take (i+1)).all p=((L.take i).all p&&p x):=by
 rw [List.take_add_one,hx,List.all_append]
 simp
theorem F5 {α:Type} {L:List α} {i:Nat} {x:α} {p:α->Bool} (hx:L[i]?=some x) (h:p x=false):L.all p=false:=by
 rw [List.all_eq_false]
 exact ⟨x,List.mem_of_getElem? hx,by rw [h];simp⟩
theorem Ks {r:Int} {T:Tb} {L:List Want} {i:Nat} {x:Want} (hx:L[i]?=some x):te r T (L.take (i+1))=putW r (te r T (L.take i)) x:=by
 unfold te
 rw [List.take_add_one,hx,List.foldl_append]
 rfl
theorem Ul {G h a w:Hp} {R:List Hp} {tp b:Nat} {T:Tb} {r:Int} {v:Value} {l:List Want} (tb:Tab 124 a tp T) (sp:HL.Sep (a::w::R) h) (sv:Sees Kl G w v l) (g:ja T) (fw:Few T b) (hb:b+l.length<=50000):
 aj P_ G 50 #[.pointer (some ⟨tp,0,none⟩),r,v] h (fun u h'=>u = .int .i64 (jr T r l).1/\∃a',Tab 124 a' tp (jr T r l).2/\HL.Sep (a'::w::R) h'/\Dis G h'):=by
 obtain ⟨sa,cap,rfl⟩:=sv.len
 refine aj.assume fun d=>enter50 (by simp) ?_
 unfold S50
 simp only [dl]
 refine bh (fun hr=>?_) (fun hr=>?_)
 . try simp (disch:=first|decide|omega) only [dl,Nat.reduceAdd,Nat.reduceMul]
   have e:jr T r l=(1,T):=by unfold jr;rw [if_pos hr]
   rw [e]
   exact ⟨rfl,a,tb,sp,d⟩
 unfold az8
 simp (disch:=decide) only [dl]
 generalize hKK:retK P_ G _ _=KK
 refine ci (fun m q h3=>∃i:Nat,m=l.length-i/\i<=l.length/\q 0 = .pointer (some ⟨tp,0,none⟩)/\q 1 = .int .i64 r/\q 2 = .slice sa l.length cap/\q 19 = .slice sa l.length cap/\q 20 = .int .i64 l.length/\q 21 = .int .i64 i/\HL.Sep (a::w::R) h3/\Dis G h3/\(l.take i).all (l8 T.length)=true) ?_
  (m:=l.length) ⟨0,rfl,Nat.zero_le _,by simp (disch:=decide) only [dl],by simp (disch:=decide) only [dl],by simp (disch:=decide) only [dl],by simp (disch:=decide) only [dl],by simp (disch:=decide) only [dl],by simp only [dl]<;>rfl,sp,d,rfl⟩
 rintro m q h3 ⟨i,rfl,hi,q0,q1,q2,q19,q20,q21,s3,d3,hv⟩ X HX
 unfold W9
 simp only [dl,q20,q21]
 refine bh (fun hlt=>?_) (fun hge=>?_)
 . obtain ⟨x,hx⟩:∃x,l[i]?=some x:=⟨_,List.getElem?_eq_getElem (by omega)⟩
   obtain ⟨bb,of,rfl,z0,z1,z2⟩:=Sees.want (sv.up (s3.in 1 rfl) d3) hx
   unfold Fk
   simp (disch:=first|decide|exact ao|exact am|omega|rfl) only [dl,q19,q21,ix71 (Int.natCast_nonneg i) hlt,z0,z1,z2]
   intro y hy gy
   simp only [dl,q0]
   generalize eh:Hp.set h3 y _=h4
   obtain ⟨l4,d4,b4⟩:=boxed eh hy d3 gy
   have s4:HL.Sep (a::w::R) h4:=by rw [<- eh];exact s3.past hy
   have cy:∀j,aa G h4 ⟨y,j,none⟩=_:=fun j=>ai (ag b4)
   refine (Hg (c:=x.c) (tb.see (s4.in 0 rfl))).mono ?_
   rintro _ h4 ⟨rfl,rfl⟩
   rw [Oc]
   have bad:∀r1:Rg,r1 6 = .int .i64 1->l8 T.length x=false->KK .ret r1 h4:=fun r1 h6 hf=>by
    rw [<- hKK]
    have e:jr T r l=(1,T):=by unfold jr;rw [if_neg hr,if_neg (by rw [F5 hx hf];decide)]
    simp only [dl,h6,e]
    exact ⟨a,tb,s4,d4⟩
   have go:∀(K0:Exit->Rg->Hp->Prop) (r1:Rg),(∀k,k<=2->r1 k=q k)->r1 19=q 19->r1 20=q 20->r1 21=q 21->l8 T.length x=true->zc G (bw X K0) r1 h4:=fun K0 r1 hk p19 p20 p21 ht=>by
    unfold zc
    simp (disch:=first|decide|omega) only [dl,p21,q21]
    exact HX (l.length-(i+1)) _ _ (by omega) ⟨i+1,rfl,by omega,by simp (disch:=decide) only [dl,hk 0 (by decide),q0],by simp (disch:=decide) only [dl,hk 1 (by decide),q1],by simp (disch:=decide) only [dl,hk 2 (by decide),q2],by simp (disch:=decide) only [dl,p19,q19],by simp (disch:=decide) only [dl,p20,q20],by simp only [dl]<;>rfl,s4,d4,by rw [Da hx,hv,ht];rfl⟩
   cases e1:inT T.length x.c with
   |false=>
    try simp only [dl,fg]
    exact bad _ (by simp only [dl]) (by unfold l8;rw [e1];rfl)
   |true=>
   try simp only [dl,cy]
   by_cases e2:x.f<0
   . try simp only [dl,decide_eq_true e2,fg]
     exact bad _ (by simp only [dl]) (by unfold l8;rw [decide_eq_false (show ¬0<=x.f by omega)];simp)
   try simp only [dl,decide_eq_false e2,cy]
   by_cases e3:x.f>=x.t
   . try simp only [dl,decide_eq_true e3,fg]
     exact bad _ (by simp only [dl]) (by unfold l8;rw [decide_eq_false (show ¬x.f<x.t by omega)];simp)
   try simp only [dl,decide_eq_false e3,cy]
   refine bh (fun e4=>?_) (fun e4=>?_)
   . exact bad _ (by simp only [dl]) (by unfold l8;rw [decide_eq_false (show ¬x.t<=FV by simp only [FV];omega)];simp)
   . exact go _ _ (fun k hk=>by simp (disch:=omega) only [aq]) (by simp (disch:=decide) only [dl]) (by simp (disch:=decide) only [dl]) (by simp (disch:=decide) only [dl]) (qa.2 ⟨th.1 e1,by omega,by omega,by simp only [FV];omega⟩)
 obtain rfl:i=l.length:=by omega
 rw [List.take_of_length_le (Nat.le_refl _)]at hv
 clear HX
 try simp (disch:=first|decide|omega) only [dl,Nat.reduceAdd,Nat.reduceMul]
 unfold az7
 simp (disch:=decide) only [dl,q2]
 refine ci (fun m q' h3=>∃i:Nat,m=l.length-i/\i<=l.length/\q' 0 = .pointer (some ⟨tp,0,none⟩)/\q' 1 = .int .i64 r/\q' 2 = .slice sa l.length cap/\q' 48 = .slice sa l.length cap/\q' 49 = .int .i64 l.length/\q' 50 = .int .i64 i/\HL.Sep (a::w::R) h3/\Dis G h3/\(l.take i).all (qv T r)=true) ?_
  (m:=l.length) ⟨0,rfl,Nat.zero_le _,by simp (disch:=decide) only [dl,q0],by simp (disch:=decide) only [dl,q1],by simp (disch:=decide) only [dl,q2],by simp (disch:=decide) only [dl],by simp (disch:=decide) only [dl],by simp only [dl]<;>rfl,s3,d3,rfl⟩
 clear q0 q1 q2 q19 q20 q21 s3 d3
 clear q h3
 rintro m q h3 ⟨i,rfl,hi,q0,q1,q2,q19,q20,q21,s3,d3,hf⟩ X HX
 unfold az3
 simp only [dl,q20,q21]
 refine bh (fun hlt=>?_) (fun hge=>?_)
 . obtain ⟨x,hx⟩:∃x,l[i]?=some x:=⟨_,List.getElem?_eq_getElem (by omega)⟩
   obtain ⟨bb,of,rfl,z0,z1,z2⟩:=Sees.want (sv.up (s3.in 1 rfl) d3) hx
   obtain ⟨⟨c0,c1⟩,f0,f1,f2⟩:=qa.1 (List.all_eq_true.1 hv x (List.mem_of_getElem? hx))
   unfold Mp
   simp (disch:=first|decide|exact ao|exact am|omega|rfl) only [dl,q19,q21,ix71 (Int.natCast_nonneg i) hlt,z0,z1,z2]
   intro y hy gy
   simp only [dl,q0,q1]
   generalize eh:Hp.set h3 y _=h4
   obtain ⟨l4,d4,b4⟩:=boxed eh hy d3 gy
   have s4:HL.Sep (a::w::R) h4:=by rw [<- eh];exact s3.past hy
   have cy:∀j,aa G h4 ⟨y,j,none⟩=_:=fun j=>ai (ag b4)
   refine (zq (r:=r) (f:=x.f) (t:=x.t) (tb.see (s4.in 0 rfl)) c0 (m7 c0 c1) (by have:=rp fw x.c;omega)).mono ?_
   rintro _ h4 ⟨rfl,rfl⟩
   cases e1:kg (rowT T x.c) r x.f x.t with
   |false=>
    try simp only [dl]
    rw [<- hKK]
    have e:jr T r l=(18,T):=by unfold jr;rw [if_neg hr,if_pos hv,if_neg (by rw [F5 hx (by unfold qv;exact e1)];decide)]
    simp only [dl,e]
    exact ⟨a,tb,s4,d4⟩
   |true=>
    try simp only [dl]
    unfold Ii
    simp (disch:=first|decide|omega) only [dl,q21]
    exact HX (l.length-(i+1)) _ _ (by omega) ⟨i+1,rfl,by omega,by simp (disch:=decide) only [dl,q0],by simp (disch:=decide) only [dl,q1],by simp (disch:=decide) only [dl,q2],by simp (disch:=decide) only [dl,q19],by simp (disch:=decide) only [dl,q20],by simp only [dl]<;>rfl,s4,d4,by rw [Da hx,hf];unfold qv;rw [e1];rfl⟩
 obtain rfl:i=l.length:=by omega
 rw [List.take_of_length_le (Nat.le_refl _)]at hf
 clear HX
 try simp (disch:=first|decide|omega) only [dl,Nat.reduceAdd,Nat.reduceMul]
 unfold az6
 simp (disch:=decide) only [dl,q2]
 refine ci (fun m q' h3=>∃(i:Nat) (a':Hp),m=l.length-i/\i<=l.length/\q' 0 = .pointer (some ⟨tp,0,none⟩)/\q' 1 = .int .i64 r/\q' 65 = .slice sa l.length cap/\q' 66 = .int .i64 l.length/\q' 67 = .int .i64 i/\Tab 124 a' tp (te r T (l.take i))/\HL.Sep (a'::w::R) h3/\Dis G h3) ?_
  (m:=l.length) ⟨0,a,rfl,Nat.zero_le _,by simp (disch:=decide) only [dl,q0],by simp (disch:=decide) only [dl,q1],by simp (disch:=decide) only [dl],by simp (disch:=decide) only [dl],by simp only [dl]<;>rfl,tb,s3,d3⟩
 clear q0 q1 q2 q19 q20 q21 s3 d3
 clear q h3
 rintro m q h3 ⟨i,a3,rfl,hi,q0,q1,q19,q20,q21,t3,s3,d3⟩ X HX
 unfold az4
 simp only [dl,q20,q21]
 refine bh (fun hlt=>?_) (fun hge=>?_)
 . obtain ⟨x,hx⟩:∃x,l[i]?=some x:=⟨_,List.getElem?_eq_getElem (by omega)⟩
   obtain ⟨bb,of,rfl,z0,z1,z2⟩:=Sees.want (sv.up (s3.in 1 rfl) d3) hx
   obtain ⟨⟨c0,c1⟩,f0,f1,f2⟩:=qa.1 (List.all_eq_true.1 hv x (List.mem_of_getElem? hx))
   have sub:∀u∈l.take i,u∈l:=fun u hu=>List.mem_of_mem_take hu
   obtain ⟨g3,fw3,l3,k3⟩:=G2 (by omega:0<=r) (l:=l.take i) g fw (List.all_eq_true.2 fun u hu=>List.all_eq_true.1 hv u (sub u hu)) (List.all_eq_true.2 fun u hu=>List.all_eq_true.1 hf u (sub u hu))
   unfold Mr
   simp (disch:=first|decide|exact ao|exact am|omega|rfl) only [dl,q19,q21,ix71 (Int.natCast_nonneg i) hlt,z0,z1,z2]
   intro y hy gy
   simp only [dl,q0,q1]
   generalize eh:Hp.set h3 y _=h4
   obtain ⟨l4,d4,b4⟩:=boxed eh hy d3 gy
   have s4:HL.Sep (a3::w::R) h4:=by rw [<- eh];exact s3.past hy
   have hlen:(rowT (te r T (l.take i)) x.c).length<=50000:=by
    have h5:=rp fw3 x.c
    rw [List.length_take]at h5
    omega
   refine (af2 (r:=r) t3 s4 c0 (m7 c0 (by rw [l3];exact c1)) (ri g3 x.c) hlen f0 f1 f2).mono ?_
   rintro _ h5 ⟨rfl,a5,t5,s5,d5⟩
   unfold Mq
   simp (disch:=first|decide|omega) only [dl,q21]
   refine HX (l.length-(i+1)) _ _ (by omega) ⟨i+1,a5,rfl,by omega,by simp (disch:=decide) only [dl,q0],by simp (disch:=decide) only [dl,q1],by simp (disch:=decide) only [dl,q19],by simp (disch:=decide) only [dl,q20],by simp only [dl]<;>rfl,?_,s5,d5⟩
   rw [Ks hx]
   exact t5
 obtain rfl:i=l.length:=by omega
 rw [List.take_of_length_le (Nat.le_refl _)]at t3
 try simp (disch:=first|decide|omega) only [dl,Nat.reduceAdd,Nat.reduceMul]
 unfold az5
 have e:jr T r l=(0,te r T l):=by unfold jr;rw [if_neg hr,if_pos hv,if_pos hf]
 rw [<- hKK]
 simp only [dl,e]
 exact ⟨a3,t3,s3,d3⟩
def Fd:=jq bC (jq (jq (jq @al110 @and_true) (jq @Ed (jq @kf @cf126))) (jq (jq @cf154 (jq @ld3 @xu)) (jq @uh (jq @st110w @true_and))))
theorem un58:P_.underlying 110=some (.array 2 3):=by kernel_rfl
theorem sz3':(P_.info? 3).map (·.size)=some 1:=sz3
theorem ix58a {G h:Hp} {b o:Nat} {K:VK}:wpH P_ G (Instr.indexAt 110 (.pointer (some ⟨b,o,none⟩)) (.int .i64 0)) h K=K (.pointer (some ⟨b,o,none⟩)) h:=by
 rw [D5 un58 sz3' (by decide) (by decide),mn]
 rfl
theorem ix58b {G h:Hp} {b o:Nat} {K:VK}:wpH P_ G (Instr.indexAt 110 (.pointer (some ⟨b,o,none⟩)) (.int .i64 1)) h K=K (.pointer (some ⟨b,o+1,none⟩)) h:=by
 rw [D5 un58 sz3' (by decide) (by decide),mn]
 rfl
theorem Lp {G h:Hp} {a:Int}:aj P_ G 154 #[a] h (fun u h'=>u = .int .i64 (cutI a)/\h'=h):=by
 refine ap4 (by simp) ?_
 unfold S154
 simp only [Fd,Vz,V1]
 simp [cutI,FV]
theorem ldP2 {G h:Hp} {a:Addr} {K:VK}:wpH P_ G (Instr.loadAt 110 (.pointer (some a))) h K=(∃x0,aa G h (a.add 0)=some x0/\∃x1,aa G h (a.add 1)=some x1/\K (.agg #[x0,x1]) h):=by kernel_rfl
theorem Ec {G h:Hp} {a b:Int}:aj P_ G 126 #[a,b] h (fun u h'=>u = .agg #[(cutI a),(cutI b)]/\h'=h):=by
 refine aj.assume fun d=>quietly (ar9 (by simp) ?_)
 unfold S126
 simp (disch:=decide) only [Fd,al110]
 intro x hx gx
 refine (Lp (a:=a)).mono ?_
 rintro _ _ ⟨rfl,rfl⟩
 refine (Lp (a:=b)).mono ?_
 rintro _ _ ⟨rfl,rfl⟩
 simp (disch:=first|decide|exact ao|exact am|omega|rfl) only [Fd,ldP2]
 exact b8 hx
theorem W0 {a:Int}:0<=cutI a/\cutI a<=FV:=by unfold cutI;simp only [FV];omega
theorem ad2 {G h:Hp} {a b:Int}:aj P_ G 77 #[a,b] h (fun u h'=>u = .int .i64 (sumI a b)/\h'=h):=by
 refine aj.assume fun d=>quietly (enter77 (by simp) ?_)
 unfold S77
 simp only [Fd]
 refine (Ec (a:=a) (b:=b)).mono ?_
 rintro _ _ ⟨rfl,rfl⟩
 obtain ⟨a0,a1⟩:=W0 (a:=a)
 obtain ⟨b0,b1⟩:=W0 (a:=b)
 simp only [FV]at a1 b1
 simp (disch:=first|decide|exact ao|exact am|omega|rfl) only [Fd,al110]
 intro x hx gx
 simp (disch:=first|decide|omega) only [Fd,ix58a,ix58b]
 refine bh (fun h1=>?_) (fun h1=>?_)
 . try simp (disch:=first|decide|omega) only [Fd,Nat.reduceAdd,Nat.reduceMul]
   exact ⟨by unfold sumI;rw [if_pos h1],b8 hx⟩
 . unfold ay2
   simp (disch:=first|decide|omega) only [Fd,ix58a,ix58b]
   exact ⟨by unfold sumI;rw [if_neg h1],b8 hx⟩
end Go.Proofs.YtfflipnhffknnaaGreatDoor.Rv
end
section
namespace Go.Proofs.YtfflipnhffknnaaGreatDoor
open Go Go.HL
section
variable (G:Hp) (K:EK) (r:Rg) (h:Hp)
def md53:Nat->Hint
 |_=>mh false [] [] [] false
def az2:Prop:=
 opH P_ G (il (r 0) #[(.func (.func 107) #[] #[(r 5),(r 3)])]) h fun v6 h6=>o_ G (Instr.loadAt 103 (r 5)) h6 fun v7 h7=>
 K .ret (u5 r 12 (r 0) 13 (.func (.func 107) #[] #[(r 5),(r 3)]) 14 v6 15 v7 4 v7) h7
def S53:Prop:=
 o_ G (Instr.box 3 (r 1)) h fun v0 h0=>o_ G (Instr.alloc 103 true (.tuple #[])) h0 fun v1 h1=>
 opH P_ G (xEq .eql 106 (.tmp 0) (.const .nilFunc) (r 0) .nilFunc) h1 fun v2 h2=>g_ v2 false (o_ G (Instr.loadAt 3 v0) h2) h2 fun v3 h3=>g_ v2 false (o_ G (binOp .lss 3 v3 (.int .i64 1)) h3) h3 fun v4 h4=>
 opH P_ G (bf v2 (.bool true) v4) h4 fun v5 h5=>
 (fun q=>cond v5
 (K .ret (upd q 4 (.slice none 0 0)) h5)
 (az2 G K q h5))
 (u9 r 3 v0 4 (.slice none 0 0) 5 v1 6 (r 0) 7 v2 8 v2 9 v3 10 v4 11 v5)
theorem enter53:Ent 16 53 [.tmp 4] S53:=ent_ (m:=md53) (c:=(Tryz.f53.body.getD .skip)) (fun _ _ _ _=>by kernel_rfl) Tryz.func53 rfl rfl rfl
def md107:Nat->Hint
 |_=>mh false [] [] [] false
def S107:Prop:=
 o_ G (Instr.loadAt 103 (r 2)) h fun v0 h0=>o_ G (Instr.build 110 #[(0,(r 0)),(1,(r 1))]) h0 fun v1 h1=>o_ G (Instr.buildSlice 103 1 #[(0,v1)]) h1 fun v2 h2=>o_ G (Builtin.append_ #[103,103] 103 #[v0,v2]) h2 fun v3 h3=>
 opH P_ G (su (Instr.storeAt 103 (r 2) v3)) h3 fun v4 h4=>o_ G (Instr.loadAt 103 (r 2)) h4 fun v5 h5=>o_ G (Builtin.len_ #[103] 3 #[v5]) h5 fun v6 h6=>o_ G (Instr.loadAt 3 (r 3)) h6 fun v7 h7=>o_ G (binOp .lss 3 v6 v7) h7 fun v8 h8=>
 K .ret (u2 (u10 r 6 (.bool false) 7 v0 8 (r 0) 9 (r 1) 10 v1 11 v2 12 v3 13 v5 14 v6 15 v7) 16 v8 6 v8) h8
theorem at4:Ent 17 107 [.tmp 6] S107:=ent_ (m:=md107) (c:=(Tryz.f107.body.getD .skip)) (fun _ _ _ _=>by kernel_rfl) Tryz.func107 rfl rfl rfl
end
end Go.Proofs.YtfflipnhffknnaaGreatDoor
end
section
namespace Go.Proofs.YtfflipnhffknnaaGreatDoor.Rv
open Go Go.HL Go.Proofs.Resv
def fm:=jq bC (jq (jq (jq (jq @S4 @kf) (jq @qc (jq @W2 @Hy))) (jq (jq @vn (jq @vm @vl)) (jq @Ri (jq @ld3 @ld34)))) (jq (jq (jq @V3 @ld3p) (jq @ld98p (jq @ld99p @ln99p))) (jq (jq @ii (jq @ls @ji)) (jq @tc (jq @vc @Gq)))))
abbrev gapA (g:Int × Int):Array Value:=#[g.1,g.2]
theorem aj3 {r:Int} {L:List Slot} {i:Nat} {s:Slot} {at_:Int} (hs:L[i]?=some s):fu r (L.drop i) at_=if s.r=r then fu r (L.drop (i+1)) at_ else if s.f>at_ then (at_,s.f)::fu r (L.drop (i+1)) s.t else fu r (L.drop (i+1)) s.t:=by
 obtain ⟨hlt,rfl⟩:=List.getElem?_eq_some_iff.1 hs
 rw [List.drop_eq_getElem_cons hlt,fu]
theorem Rw {G h:Hp} {tp:Nat} {c r:Int}:aj P_ G 145 #[.pointer (some ⟨tp,0,none⟩),c,r] h (fun u h'=>∃b1 b2 b3,u = .func (.func 164) #[] #[.pointer (some ⟨b1,0,none⟩),.pointer (some ⟨b2,0,none⟩),.pointer (some ⟨b3,0,none⟩)]/\h.le h'/\Dis G h'/\h' b1=some (.cells #[.pointer (some ⟨tp,0,none⟩)] 34 (0,0))/\h' b2=some (.cells #[c] 3 (0,0))/\h' b3=some (.cells #[r] 3 (0,0))/\∀R,HL.Sep R h->HL.Sep R h'):=by
 refine aj.assume fun d=>aq2 (by simp) ?_
 unfold S145
 simp only [fm]
 intro x hx gx y hy gy z hz gz
 have nxy:=i4 hy
 have nxz:x≠z:=fun e=>by subst e;rw [au nxy,af]at hz;cases hz
 have nyz:=i4 hz
 refine ⟨x,y,z,rfl,((b8 hx).trans (b8 hy)).trans (b8 hz),((d.set gx).set gy).set gz,by rw [au nxz,au nxy,af],by rw [au nyz,af],af,fun R s=>((s.past hx).past hy).past hz⟩
theorem T8 {G h a q:Hp} {y:Value} {Y Z:List (Int × Int)->Hp->Prop} {cc:List (Int × Int)->Bool} {Lt:List (Int × Int)} {b1 b2 b3 tp:Nat} {T:Tb} {c r:Int}
 (yl:HL.Yl P_ gapA G y Y Z cc) (ya:Y Lt a) (s:HL.Sep [a,q] h) (h1:q b1=some (.cells #[.pointer (some ⟨tp,0,none⟩)] 34 (0,0))) (h2:q b2=some (.cells #[c] 3 (0,0))) (h3:q b3=some (.cells #[r] 3 (0,0))) (ts:TSee G q tp T)
 (fw:∀L∈T,L.length<=50000):
 aj P_ G 164 #[y,.pointer (some ⟨b1,0,none⟩),.pointer (some ⟨b2,0,none⟩),.pointer (some ⟨b3,0,none⟩)] h (fun _ h'=>Aj G q Y Z (HL.feed cc Lt (if inT T.length c=true then E7 (rowT T c) r else [])) h'):=by
 refine aj.assume fun d=>Si (by simp) ?_
 unfold S164
 generalize hTT:HL.feed cc Lt _=TT
 have c1:∀{h':Hp},q.le h'->∀j,aa G h' ⟨b1,j,none⟩=_:=fun l j=>ai (ag (l _ _ h1))
 have c2:∀{h':Hp},q.le h'->∀j,aa G h' ⟨b2,j,none⟩=_:=fun l j=>ai (ag (l _ _ h2))
 have c3:∀{h':Hp},q.le h'->∀j,aa G h' ⟨b3,j,none⟩=_:=fun l j=>ai (ag (l _ _ h3))
 have lq:=s.in 1 rfl
 simp only [fm,c1 lq,c2 lq]
 refine (Hg (c:=c) (ts.up lq d)).mono ?_
 rintro _ h ⟨rfl,rfl⟩
 rw [Oc]
 cases hc:inT T.length c with
 |false=>
  rw [hc,if_neg (by decide)]at hTT
  try simp only [fm]
  exact Aj.go s d ya hTT
 |true=>
 obtain ⟨k0,k1⟩:=th.1 hc
 have hL:=m7 k0 k1
 rw [hc,if_pos rfl]at hTT
 generalize hLL:rowT T c=L at*
 obtain ⟨rb,e1,e2⟩:=ts
 obtain ⟨sa,cap,e3,e4⟩:=e2 _ _ hL
 have fL:=fw L (List.mem_of_getElem? hL)
 try simp only [fm]
 unfold Pj
 simp (disch:=decide) only [fm,c1 lq,c2 lq,c3 lq,jg lq d e1,ix98p k0 k1,Nat.mul_one,jg lq d e3]
 generalize hKK:retK P_ G _ _=KK
 refine ci (fun m p h3=>∃(i:Nat) (a:Hp) (Lt:List (Int × Int)) (at_:Int),m=L.length-i/\i<=L.length/\p 0=y/\p 1 = .pointer (some ⟨b1,0,none⟩)/\p 2 = .pointer (some ⟨b2,0,none⟩)/\p 3 = .pointer (some ⟨b3,0,none⟩)/\p 5 = .int .i64 at_/\p 18 = .slice sa L.length cap/\p 19 = .int .i64 L.length/\p 20 = .int .i64 i/\
  Y Lt a/\HL.Sep [a,q] h3/\Dis G h3/\HL.feed cc Lt (fu r (L.drop i) at_)=TT) ?_
  (m:=L.length) ⟨0,a,Lt,0,rfl,Nat.zero_le _,by simp (disch:=decide) only [fm],by simp (disch:=decide) only [fm],by simp (disch:=decide) only [fm],by simp (disch:=decide) only [fm],by simp (disch:=decide) only [fm],by simp (disch:=decide) only [fm],by simp (disch:=decide) only [fm],by simp only [fm]<;>rfl,ya,s,d,hTT⟩
 clear ya s d lq
 clear hTT
 clear Lt a h
 rintro m p h ⟨i,a,Lt,at_,rfl,hi,p0,p1,p2,p3,p5,p18,p19,p20,ya,s,d,hTT⟩ X HX
 have lq:=s.in 1 rfl
 unfold Ph
 simp only [fm,p19,p20]
 refine bh (fun hlt=>?_) (fun hge=>?_)
 rotate_left
 . -- the last one
   obtain rfl:i=L.length:=by omega
   rw [List.drop_of_length_le (Nat.le_refl _),fu]at hTT
   try simp (disch:=first|decide|omega) only [fm,Nat.reduceAdd,Nat.reduceMul]
   unfold Pi
   simp (disch:=decide) only [fm,p5]
   refine bh (fun hl=>?_) (fun hl=>?_)
   . rw [if_pos hl]at hTT
     simp only [fm,p0]
     refine jj ?_ (yl Lt (at_,FV) a q h ya s d)
     rintro v h' ⟨a',rfl,s',d',hy⟩
     rw [<- hKK]
     try simp only [fm]
     cases hc2:cc (Lt++[(at_,FV)])with
     |true=>
      rw [hc2,if_pos rfl]at hy
      rw [HL.Ho hc2]at hTT
      exact Aj.go s' d' hy hTT
     |false=>
      rw [hc2,if_neg (by decide)]at hy
      exact Aj.no s' d' hy hc2 hTT
   . rw [if_neg hl]at hTT
     rw [<- hKK]
     try simp only [fm]
     exact Aj.go s d ya hTT
 obtain ⟨sl,hs⟩:∃sl,L[i]?=some sl:=⟨_,List.getElem?_eq_getElem (by omega)⟩
 obtain ⟨b',of,rfl,z0,z1,z2⟩:=Sees.slot (e4.up lq d) hs
 rw [aj3 hs]at hTT
 unfold Bm
 simp (disch:=first|decide|exact ao|exact am|omega|rfl) only [fm,p18,p20,ix99 (Int.natCast_nonneg i) hlt,z0,z1,z2]
 intro x hx gx
 generalize eh:Hp.set h x _=h4
 obtain ⟨l4,d4,b4⟩:=boxed eh hx d gx
 have s4:HL.Sep [a,q] h4:=by rw [<- eh];exact s.past hx
 have lq4:=s4.in 1 rfl
 have cx:∀j,aa G h4 ⟨x,j,none⟩=_:=fun j=>ai (ag b4)
 have next:∀(K0:Exit->Rg->Hp->Prop) (p':Rg) (h5 a':Hp) (Lt':List (Int × Int)) (at':Int),(∀k,k<=3->p' k=p k)->p' 18=p 18->p' 19=p 19->p' 20=p 20->p' 5 = .int .i64 at'->Y Lt' a'->HL.Sep [a',q] h5->Dis G h5->HL.feed cc Lt' (fu r (L.drop (i+1)) at')=TT->
  qe G (bw X K0) p' h5:=by
  intro K0 p' h5 a' Lt' at' hk w18 w19 w20 w5 ya' s' d' hT'
  unfold qe
  simp (disch:=first|decide|omega) only [fm,w20,p20]
  exact HX (L.length-(i+1)) _ _ (by omega) ⟨i+1,a',Lt',at',rfl,by omega,by simp (disch:=decide) only [fm,hk 0 (by decide),p0],by simp (disch:=decide) only [fm,hk 1 (by decide),p1],by simp (disch:=decide) only [fm,hk 2 (by decide),p2],by simp (disch:=decide) only [fm,hk 3 (by decide),p3],by simp (disch:=decide) only [fm,w5],by simp (disch:=decide) only [fm,w18,p18],by simp (disch:=decide) only [fm,w19,p19],by simp only [fm]<;>rfl,ya',s',d',hT'⟩
 simp only [fm,cx,p3,c3 lq4]
 refine pf (fun hb=>?_) (fun hb=>?_)
 . rw [if_pos (by simpa using hb)]at hTT
   exact next _ _ _ a Lt at_ (fun k hk=>by simp (disch:=omega) only [aq]) (by simp (disch:=decide) only [fm]) (by simp (disch:=decide) only [fm]) (by simp (disch:=decide) only [fm]) (by simp (disch:=decide) only [fm,p5]) ya s4 d4 hTT
 rw [if_neg (by simpa using hb)]at hTT
 unfold Bl
 have k7:∀(K0:Exit->Rg->Hp->Prop) (p':Rg) (h5 a':Hp) (Lt':List (Int × Int)),(∀k,k<=3->p' k=p k)->p' 18=p 18->p' 19=p 19->p' 20=p 20->p' 7 = .pointer (some ⟨x,0,none⟩)->h5 x=some (nt sl)->Y Lt' a'->HL.Sep [a',q] h5->Dis G h5->HL.feed cc Lt' (fu r (L.drop (i+1)) sl.t)=TT->
  sj G (bw X K0) p' h5:=by
  intro K0 p' h5 a' Lt' hk w18 w19 w20 w7 b5 ya' s' d' hT'
  have c5:∀j,aa G h5 ⟨x,j,none⟩=_:=fun j=>ai (ag b5)
  unfold sj
  simp only [fm,w7,c5]
  exact next _ _ _ a' Lt' sl.t (fun k hk'=>by simp (disch:=omega) only [aq];exact hk k hk') (by simp (disch:=decide) only [fm,w18]) (by simp (disch:=decide) only [fm,w19]) (by simp (disch:=decide) only [fm,w20]) (by simp only [fm]) ya' s' d' hT'
 simp (disch:=decide) only [fm,cx,p5]
 by_cases hg:sl.f>at_
 rotate_left
 . rw [if_neg hg]at hTT
   simp only [fm,show decide (sl.f>at_)=false from decide_eq_false hg,fg]
   exact k7 _ _ _ a Lt (fun k hk=>by simp (disch:=omega) only [aq]) (by simp (disch:=decide) only [fm]) (by simp (disch:=decide) only [fm]) (by simp (disch:=decide) only [fm]) (by simp (disch:=decide) only [fm]) b4 ya s4 d4 hTT
 rw [if_pos hg]at hTT
 simp only [fm,show decide (sl.f>at_)=true from decide_eq_true hg,p0,p5,cx]
 have s5:HL.Sep [a,q.set x (nt sl)] h4:=by
  rw [<- eh]
  have:=(s.swap.grow (o:=nt sl) hx).swap
  exact this
 refine jj ?_ (yl Lt (at_,sl.f) a (q.set x (nt sl)) h4 ya s5 d4)
 rintro v h6 ⟨a',rfl,s',d',hy⟩
 have b6:h6 x=some (nt sl):=s'.at 1 rfl af
 have s6:HL.Sep [a',q] h6:=(s'.swap.cut (b8 (s.drop.hd.none hx))).swap
 simp only [fm]
 cases hc2:cc (Lt++[(at_,sl.f)])with
 |true=>
  rw [hc2,if_pos rfl]at hy
  rw [HL.Ho hc2]at hTT
  simp only [fm]
  exact k7 _ _ _ a' _ (fun k hk=>by simp (disch:=omega) only [aq]) (by simp (disch:=decide) only [fm]) (by simp (disch:=decide) only [fm]) (by simp (disch:=decide) only [fm]) (by simp (disch:=decide) only [fm]) b6 hy s6 d' hTT
 |false=>
  rw [hc2,if_neg (by decide)]at hy
  simp only [fm]
  rw [<- hKK]
  try simp only [fm]
  exact Aj.no s6 d' hy hc2 hTT
def bRtM:=jq bC (jq (jq (jq (jq @S4 @kf) (jq @W2 (jq @Hy @vn))) (jq (jq @vm @vl) (jq @Ri (jq @ld3 @ld34)))) (jq (jq (jq @V3 @ld3p) (jq @ld98p (jq @ld99p @ln99p))) (jq (jq @ii (jq @ls @ji)) (jq @tc (jq @vc @Gq)))))
theorem T7 {G h a q:Hp} {y:Value} {Y:List (Int × Int)->Hp->Prop} {N:Nat} {b1 b2 b3 tp:Nat} {T:Tb} {c r:Int}
 (yl:YlN P_ gapA (fun _=>True) N G y Y) (ya:Y [] a) (s:HL.Sep [a,q] h) (h1:q b1=some (.cells #[.pointer (some ⟨tp,0,none⟩)] 34 (0,0))) (h2:q b2=some (.cells #[c] 3 (0,0))) (h3:q b3=some (.cells #[r] 3 (0,0))) (ts:TSee G q tp T)
 (fw:∀L∈T,L.length<=50000) (hN:(if inT T.length c=true then E7 (rowT T c) r else []).length<=N+1):
 aj P_ G 164 #[y,.pointer (some ⟨b1,0,none⟩),.pointer (some ⟨b2,0,none⟩),.pointer (some ⟨b3,0,none⟩)] h (fun _ h'=>wv G q Y (if inT T.length c=true then E7 (rowT T c) r else []) h'):=by
 refine aj.assume fun d=>Si (by simp) ?_
 unfold S164
 generalize hTT:(if inT T.length c=true then E7 (rowT T c) r else [])=TT at hN ⊢
 have c1:∀{h':Hp},q.le h'->∀j,aa G h' ⟨b1,j,none⟩=_:=fun l j=>ai (ag (l _ _ h1))
 have c2:∀{h':Hp},q.le h'->∀j,aa G h' ⟨b2,j,none⟩=_:=fun l j=>ai (ag (l _ _ h2))
 have c3:∀{h':Hp},q.le h'->∀j,aa G h' ⟨b3,j,none⟩=_:=fun l j=>ai (ag (l _ _ h3))
 have lq:=s.in 1 rfl
 simp only [bRtM,c1 lq,c2 lq]
 refine (Hg (c:=c) (ts.up lq d)).mono ?_
 rintro _ h ⟨rfl,rfl⟩
 rw [Oc]
 cases hc:inT T.length c with
 |false=>
  rw [hc,if_neg (by decide)]at hTT
  try simp only [bRtM]
  exact wv.go s d ya hTT
 |true=>
 obtain ⟨k0,k1⟩:=th.1 hc
 have hL:=m7 k0 k1
 rw [hc,if_pos rfl]at hTT
 generalize hLL:rowT T c=L at*
 obtain ⟨rb,e1,e2⟩:=ts
 obtain ⟨sa,cap,e3,e4⟩:=e2 _ _ hL
 have fL:=fw L (List.mem_of_getElem? hL)
 try simp only [bRtM]
 unfold Pj
 simp (disch:=decide) only [bRtM,c1 lq,c2 lq,c3 lq,jg lq d e1,ix98p k0 k1,Nat.mul_one,jg lq d e3]
 generalize hKK:retK P_ G _ _=KK
 refine ci (fun m p h3=>∃(i:Nat) (a:Hp) (Lt:List (Int × Int)) (at_:Int),m=L.length-i/\i<=L.length/\p 0=y/\p 1 = .pointer (some ⟨b1,0,none⟩)/\p 2 = .pointer (some ⟨b2,0,none⟩)/\p 3 = .pointer (some ⟨b3,0,none⟩)/\p 5 = .int .i64 at_/\p 18 = .slice sa L.length cap/\p 19 = .int .i64 L.length/\p 20 = .int .i64 i/\
  Y Lt a/\HL.Sep [a,q] h3/\Dis G h3/\Lt++fu r (L.drop i) at_=TT) ?_
  (m:=L.length) ⟨0,a,[],0,rfl,Nat.zero_le _,by simp (disch:=decide) only [bRtM],by simp (disch:=decide) only [bRtM],by simp (disch:=decide) only [bRtM],by simp (disch:=decide) only [bRtM],by simp (disch:=decide) only [bRtM],by simp (disch:=decide) only [bRtM],by simp (disch:=decide) only [bRtM],by simp only [bRtM]<;>rfl,ya,s,d,hTT⟩
 clear ya s d lq
 clear hTT
 clear a h
 rintro m p h ⟨i,a,Lt,at_,rfl,hi,p0,p1,p2,p3,p5,p18,p19,p20,ya,s,d,hTT⟩ X HX
 have lq:=s.in 1 rfl
 unfold Ph
 simp only [bRtM,p19,p20]
 refine bh (fun hlt=>?_) (fun hge=>?_)
 rotate_left
 . -- the last one
   obtain rfl:i=L.length:=by omega
   rw [List.drop_of_length_le (Nat.le_refl _),fu]at hTT
   try simp (disch:=first|decide|omega) only [bRtM,Nat.reduceAdd,Nat.reduceMul]
   unfold Pi
   simp (disch:=decide) only [bRtM,p5]
   refine bh (fun hl=>?_) (fun hl=>?_)
   . rw [if_pos hl]at hTT
     simp only [bRtM,p0]
     refine jj ?_ (yl Lt (at_,FV) a q h (by rw [<- hTT]at hN;simp only [List.length_append,List.length_cons,List.length_nil]at hN;omega) trivial ya s d)
     rintro v h' ⟨a',rfl,s',d',hy⟩
     rw [<- hKK]
     try simp only [bRtM]
     exact wv.go s' d' hy hTT
   . rw [if_neg hl,List.append_nil]at hTT
     rw [<- hKK]
     try simp only [bRtM]
     exact wv.go s d ya hTT
 obtain ⟨sl,hs⟩:∃sl,L[i]?=some sl:=⟨_,List.getElem?_eq_getElem (by omega)⟩
 obtain ⟨b',of,rfl,z0,z1,z2⟩:=Sees.slot (e4.up lq d) hs
 rw [aj3 hs]at hTT
 unfold Bm
 simp (disch:=first|decide|exact ao|exact am|omega|rfl) only [bRtM,p18,p20,ix99 (Int.natCast_nonneg i) hlt,z0,z1,z2]
 intro x hx gx
 generalize eh:Hp.set h x _=h4
 obtain ⟨l4,d4,b4⟩:=boxed eh hx d gx
 have s4:HL.Sep [a,q] h4:=by rw [<- eh];exact s.past hx
 have lq4:=s4.in 1 rfl
 have cx:∀j,aa G h4 ⟨x,j,none⟩=_:=fun j=>ai (ag b4)
 have next:∀(K0:Exit->Rg->Hp->Prop) (p':Rg) (h5 a':Hp) (Lt':List (Int × Int)) (at':Int),(∀k,k<=3->p' k=p k)->p' 18=p 18->p' 19=p 19->p' 20=p 20->p' 5 = .int .i64 at'->Y Lt' a'->HL.Sep [a',q] h5->Dis G h5->Lt'++fu r (L.drop (i+1)) at'=TT->
  qe G (bw X K0) p' h5:=by
  intro K0 p' h5 a' Lt' at' hk w18 w19 w20 w5 ya' s' d' hT'
  unfold qe
  simp (disch:=first|decide|omega) only [bRtM,w20,p20]
  exact HX (L.length-(i+1)) _ _ (by omega) ⟨i+1,a',Lt',at',rfl,by omega,by simp (disch:=decide) only [bRtM,hk 0 (by decide),p0],by simp (disch:=decide) only [bRtM,hk 1 (by decide),p1],by simp (disch:=decide) only [bRtM,hk 2 (by decide),p2],by simp (disch:=decide) only [bRtM,hk 3 (by decide),p3],by simp (disch:=decide) only [bRtM,w5],by simp (disch:=decide) only [bRtM,w18,p18],by simp (disch:=decide) only [bRtM,w19,p19],by simp only [bRtM]<;>rfl,ya',s',d',hT'⟩
 simp only [bRtM,cx,p3,c3 lq4]
 refine pf (fun hb=>?_) (fun hb=>?_)
 . rw [if_pos (by simpa using hb)]at hTT
   exact next _ _ _ a Lt at_ (fun k hk=>by simp (disch:=omega) only [aq]) (by simp (disch:=decide) only [bRtM]) (by simp (disch:=decide) only [bRtM]) (by simp (disch:=decide) only [bRtM]) (by simp (disch:=decide) only [bRtM,p5]) ya s4 d4 hTT
 rw [if_neg (by simpa using hb)]at hTT
 unfold Bl
 have k7:∀(K0:Exit->Rg->Hp->Prop) (p':Rg) (h5 a':Hp) (Lt':List (Int × Int)),(∀k,k<=3->p' k=p k)->p' 18=p 18->p' 19=p 19->p' 20=p 20->p' 7 = .pointer (some ⟨x,0,none⟩)->h5 x=some (nt sl)->Y Lt' a'->HL.Sep [a',q] h5->Dis G h5->Lt'++fu r (L.drop (i+1)) sl.t=TT->
  sj G (bw X K0) p' h5:=by
  intro K0 p' h5 a' Lt' hk w18 w19 w20 w7 b5 ya' s' d' hT'
  have c5:∀j,aa G h5 ⟨x,j,none⟩=_:=fun j=>ai (ag b5)
  unfold sj
  simp only [bRtM,w7,c5]
  exact next _ _ _ a' Lt' sl.t (fun k hk'=>by simp (disch:=omega) only [aq];exact hk k hk') (by simp (disch:=decide) only [bRtM,w18]) (by simp (disch:=decide) only [bRtM,w19]) (by simp (disch:=decide) only [bRtM,w20]) (by simp only [bRtM]) ya' s' d' hT'
 simp (disch:=decide) only [bRtM,cx,p5]
 by_cases hg:sl.f>at_
 rotate_left
 . rw [if_neg hg]at hTT
   simp only [bRtM,show decide (sl.f>at_)=false from decide_eq_false hg,fg]
   exact k7 _ _ _ a Lt (fun k hk=>by simp (disch:=omega) only [aq]) (by simp (disch:=decide) only [bRtM]) (by simp (disch:=decide) only [bRtM]) (by simp (disch:=decide) only [bRtM]) (by simp (disch:=decide) only [bRtM]) b4 ya s4 d4 hTT
 rw [if_pos hg]at hTT
 simp only [bRtM,show decide (sl.f>at_)=true from decide_eq_true hg,p0,p5,cx]
 have s5:HL.Sep [a,q.set x (nt sl)] h4:=by
  rw [<- eh]
  have:=(s.swap.grow (o:=nt sl) hx).swap
  exact this
 refine jj ?_ (yl Lt (at_,sl.f) a (q.set x (nt sl)) h4 (by rw [<- hTT]at hN;simp only [List.length_append,List.length_cons]at hN;omega) trivial ya s5 d4)
 rintro v h6 ⟨a',rfl,s',d',hy⟩
 have b6:h6 x=some (nt sl):=s'.at 1 rfl af
 have s6:HL.Sep [a',q] h6:=(s'.swap.cut (b8 (s.drop.hd.none hx))).swap
 simp only [bRtM]
 exact k7 _ _ _ a' _ (fun k hk=>by simp (disch:=omega) only [aq]) (by simp (disch:=decide) only [bRtM]) (by simp (disch:=decide) only [bRtM]) (by simp (disch:=decide) only [bRtM]) (by simp (disch:=decide) only [bRtM]) b6 hy s6 d' (by rw [<- hTT];simp)
end Go.Proofs.YtfflipnhffknnaaGreatDoor.Rv
end
section
namespace Go.Proofs.YtfflipnhffknnaaGreatDoor
open Go Go.HL Go.Proofs.Resv Go.Proofs.Srch
def bRtN:=jq bC (jq (jq (jq @al142 (jq @al28 @ac2)) (jq @fh (jq @Lx @cf145))) (jq (jq @cf146 (jq @cf88 @ld142)) (jq (jq @ld28 @ln22) (jq @Qb @true_and))))
theorem setR2 {n d e:Nat} {v u:Value} {r:Rg} (hd:d<n) (he:e<n):setR n #[d,e] #[v,u] r=upd (upd r d v) e u:=by
 show putR n (putR n r (some d) v) (some e) u=_
 simp only [putR,if_pos hd,if_pos he]
theorem ag3 {G:Hp} {a b c y:Value} {h:Hp} {K:VK}:opE P_ G (il (.func (.func 164) #[] #[a,b,c]) #[y]) h K=aj P_ G 164 #[y,a,b,c] h K:=by kernel_rfl
def SpY (xb l:Nat) (ob:Obj) (L:List Sp) (b:Hp):Prop:=∃ip v,Slc lw 151 ip v L/\Sep [ip,noHp.set xb (.cells #[v] 142 (0,0)),noHp.set l ob] b
theorem T9 {G:Hp} {y:Value} {xb l:Nat} {oo:Option Exit->Obj} {r:Rg} (gl:G l=none) (ho:∀e,gm (oo e)=false) (g13:r 13 = .pointer (some ⟨xb,0,none⟩))
 (hy:∀(args:Array Value) (h1:Hp) (K1:Value->Hp->Prop),args.size=2->h1 l=some (oo none)->
  Bu G (setR 46 #[33,34] args r) h1 (fun e r2 h2=>e = .normal/\h2 l=some (oo none)/\∀ob,gm ob=false->Bt G r2 (h2.set l ob) (fun e _ h3=>h3 l=some ob/\match e with
   | .normal=>K1 (.bool true) (h3.set l (oo none))
   | .panic _=>False
   | .outgrown=>False
   |e=>K1 (.bool false) (h3.set l (oo (some e)))))->
  opH P_ G (il y args) h1 K1):YlN P_ Rv.gapA (fun _=>True) 60000 G y (SpY xb l (oo none)):=by
 rintro L p b q h hL _ ⟨ip,v,sl,sb⟩ s d
 have s1:Sep [ip,noHp.set xb (.cells #[v] 142 (0,0)),noHp.set l (oo none),q] h:=s.open sb
 refine hy (Rv.gapA p) h _ rfl (s1.at 2 rfl af) ?_
 rw [setR2 (by decide) (by decide)]
 unfold Bu
 refine ⟨rfl,s1.at 2 rfl af,fun ob hob=>?_⟩
 have s2:=(s1.pick 2 rfl rfl).put (o:=ob) af
 rw [set_set]at s2
 have d2:Dis G (h.set l ob):=d.set gl
 generalize Hp.set h l ob=h2 at s2 d2 ⊢
 have cb:aa G h2 ⟨xb,0,none⟩=some v:=by rw [ai (ag (s2.at 2 rfl af))];rfl
 unfold Bt
 simp (disch:=decide) only [bRtN,g13,cb]
 intro x hx gx
 have s4:=s2.past (o := .cells #[p.1,p.2] 151 (0,0)) hx
 have d4:=d2.set (o := .cells #[p.1,p.2] 151 (0,0)) gx
 have hxs:(h2.set x (.cells #[p.1,p.2] 151 (0,0))) x=some (.cells #[p.1,p.2] 151 (0,0)):=af
 generalize Hp.set h2 x _=h4 at s4 d4 hxs ⊢
 refine dw lw (by decide) (L:=L) (M:=[p]) Vh eospan (by decide) (by decide) (s4.pick 1 rfl rfl) d4 sl (Sees.row hxs (by simp [lw,Cod.rows]) (by simp)) (by simp;omega) ?_
 intro v' ip' h5 sl' s5 d5
 obtain ⟨sa,cap,rfl,hcap⟩:=sl.len (by decide)
 obtain ⟨sa',cap',rfl,hcap'⟩:=sl'.len (by decide)
 have hk5:h5 xb=some (.cells [Value.slice sa L.length cap].toArray 142 (0,0)):=s5.at 2 rfl af
 try simp (disch:=first|decide|omega) only [bRtN,Nat.reduceAdd,Nat.reduceMul]
 rw [di sz142 rfl hk5 (by simp)]
 try simp only [bRtN,List.set_cons_zero]
 have s7:=(s5.pick 2 rfl rfl).put (o := .cells #[.slice sa' (L++[p]).length cap'] 142 (0,0)) af
 rw [set_set]at s7
 have d7:=d5.set (o := .cells #[.slice sa' (L++[p]).length cap'] 142 (0,0)) (d5 _ _ hk5)
 generalize Hp.set h5 xb _=h7 at s7 d7 ⊢
 try simp (disch:=first|decide|omega) only [bRtN,Nat.reduceAdd,Nat.reduceMul]
 refine ⟨s7.at 2 rfl af,?_⟩
 have s8:=(s7.pick 2 rfl rfl).put (o:=oo none) af
 rw [set_set]at s8
 obtain ⟨b',t1,t2⟩:=Sep.pack [_,_,_] (s8.sel (L':=[ip',noHp.set xb (.cells #[.slice sa' (L++[p]).length cap'] 142 (0,0)),noHp.set l (oo none),q]) [2,1,0,3] (by decide) rfl)
 exact ⟨b',t1,d7.set gl,ip',_,sl',t2⟩
theorem Z9 {T:Tb} {r:Int} {N:List Int} {n:Int}:lh T r (N++[n])=qm (lh T r N) (nq T r n):=by
 unfold lh
 rw [List.foldl_append]
 rfl
theorem zq {G h:Hp} {g cv:Value} {w k tp bb:Nat} {f:Nat->Nat->Int} {T:Tb} {r:Int} {cells:List Cell} (gs:GS G h g w k f) (ts:Rv.TSee G h tp T) (gt:ja T) (fw:Few T bb) (hbb:bb<=50000) (sc:Sees cj G h cv cells) (hc:cells.length<=300):
 aj P_ G 108 #[g,.pointer (some ⟨tp,0,none⟩),r,cv] h (fun u h'=>∃ip,Slc lw 151 ip u (lh T r (cells.map (numI w k)))/\Sep [ip,h] h'/\Dis G h'):=by
 obtain ⟨ca,cc,rfl,_⟩:=id sc
 refine aj.assume fun d=>at3 (by simp) ?_
 unfold S108
 simp only [bRtN]
 intro x0 hx0 gx0
 have s0:=(Sep.one (h:=h)).new (o := .cells #[(0:Int),(4611686018427387904:Int)] 151 (0,0)) hx0
 have d0:=d.set (o := .cells #[(0:Int),(4611686018427387904:Int)] 151 (0,0)) gx0
 generalize Hp.set h x0 _=h0 at s0 d0 ⊢
 generalize hKK:retK P_ G _ _=KK
 refine ci (fun m p h'=>∃(i:Nat) (ip:Hp) (v:Value),m=cells.length-i/\i<=cells.length/\p 0=g/\p 1 = .pointer (some ⟨tp,0,none⟩)/\p 2 = .int .i64 r/\p 9=v/\p 18 = .slice ca cells.length cc/\p 19 = .int .i64 cells.length/\p 20 = .int .i64 i/\
  Slc lw 151 ip v (lh T r ((cells.take i).map (numI w k)))/\Sep [ip,h] h'/\Dis G h') ?_ (m:=cells.length)
  ⟨0,noHp.set x0 (.cells #[(0:Int),(4611686018427387904:Int)] 151 (0,0)),.slice (some ⟨x0,0,none⟩) 1 1,rfl,by omega,by simp (disch:=decide) only [bRtN],by simp (disch:=decide) only [bRtN],by simp (disch:=decide) only [bRtN],by simp (disch:=decide) only [bRtN],by simp (disch:=decide) only [bRtN],by simp (disch:=decide) only [bRtN],by simp only [bRtN];rfl,⟨some x0,1,[],rfl,by rw [af];rfl,rfl⟩,s0,d0⟩
 rintro m p h1 ⟨i,ip,v,rfl,hi,g0,g1,g2,g9,g18,g19,g20,sl,s,d1⟩ X hX
 unfold Yo
 simp only [bRtN,g19,g20]
 refine bh (fun hlt=>?_) (fun hge=>?_)
 rotate_left
 . obtain rfl:i=cells.length:=by omega
   try simp (disch:=first|decide|omega) only [bRtN,Nat.reduceAdd,Nat.reduceMul]
   unfold Yp
   rw [<- hKK]
   try simp (disch:=decide) only [bRtN,g9]
   rw [List.take_length]at sl
   exact ⟨ip,sl,s,d1⟩
 obtain ⟨c,hcx⟩:∃c,cells[i]?=some c:=⟨_,List.getElem?_eq_getElem (by omega)⟩
 obtain ⟨b,o,rfl,e1,e2⟩:=Sees.cell (sc.up (s.in 1 rfl) d1) hcx
 have htk:cells.take (i+1)=cells.take i++[c]:=by rw [List.take_add_one,hcx];rfl
 unfold Jx
 simp (disch:=first|decide|exact ao|exact am|omega|rfl) only [bRtN,g18,g20,g0,ix22 (Int.natCast_nonneg i) hlt,e1,e2]
 intro y hy gy
 have s2:=s.past (o := .cells #[c.1,c.2] 28 (0,0)) hy
 have d2:=d1.set (o := .cells #[c.1,c.2] 28 (0,0)) gy
 have hys:(h1.set y (.cells #[c.1,c.2] 28 (0,0))) y=some (.cells #[c.1,c.2] 28 (0,0)):=af
 try simp (disch:=first|decide|omega) only [bRtN,Nat.reduceAdd,Nat.reduceMul]
 generalize Hp.set h1 y _=h2 at s2 d2 hys ⊢
 have cy:∀k,aa G h2 ⟨y,k,none⟩=_:=fun k=>ai (ag hys)
 try simp (disch:=first|decide|omega) only [bRtN,Nat.reduceAdd,Nat.reduceMul,cy]
 refine (nx (c:=c) (gs.up (s2.in 1 rfl) d2)).mono ?_
 rintro _ h2 ⟨rfl,rfl⟩
 try simp only [bRtN]
 refine bh (fun hneg=>?_) (fun hpos=>?_)
 . rw [<- hKK]
   try simp only [bRtN]
   have hin:inT T.length (numI w k c)=false:=by
    cases e:inT T.length (numI w k c)with
    |false=>rfl
    |true=>have:=(th.1 e).1;omega
   rw [aj7 (List.mem_map.2 ⟨c,List.mem_of_getElem? hcx,rfl⟩) hin]
   exact ⟨noHp,Slc.nil,s2.drop.none,d2⟩
 unfold Jw
 simp (disch:=decide) only [bRtN,g1,g2]
 intro xb hxb gxb
 have s3:=s2.new (o := .cells #[.slice none 0 0] 142 (0,0)) hxb
 have d3:=d2.set (o := .cells #[.slice none 0 0] 142 (0,0)) gxb
 try simp (disch:=first|decide|omega) only [bRtN,Nat.reduceAdd,Nat.reduceMul]
 generalize Hp.set h2 xb _=h3 at s3 d3 ⊢
 refine (Rv.Rw).mono ?_
 rintro _ h4 ⟨b1,b2,b3,rfl,l4,d4,q1,q2,q3,hR⟩
 have s4:=hR _ s3
 have hx4:h4 xb=some (.cells #[.slice none 0 0] 142 (0,0)):=s4.at 0 rfl af
 have ne1:b1≠xb:=fun e=>by rw [e,hx4]at q1;simp at q1
 have ne2:b2≠xb:=fun e=>by rw [e,hx4]at q2;simp at q2
 have ne3:b3≠xb:=fun e=>by rw [e,hx4]at q3;simp at q3
 obtain ⟨s5,sQ⟩:=s4.but
 generalize hQ:but h4 xb=Q at s5 sQ
 have dQ:Dis G Q:=fun b o e=>d4 b o (s5.in 1 rfl _ _ e)
 intro y2 l oo hl gl hoo hy2
 rw [ag3]
 have yl:=T9 (xb:=xb) gl hoo (by simp (disch:=decide) only [bRtN]) hy2
 have s6:Sep [noHp,noHp.set xb (.cells #[.slice none 0 0] 142 (0,0)),noHp.set l (oo none),Q] (h4.set l (oo none)):=((s5.new (o:=oo none) hl).none).sel [0,2,1,3] (by decide) rfl
 obtain ⟨a,s7,sa⟩:=Sep.pack [_,_,_] s6
 refine (Rv.T7 (T:=T) yl ⟨noHp,.slice none 0 0,Slc.nil,sa⟩ s7 (by rw [<- hQ,Ov ne1];exact q1) (by rw [<- hQ,Ov ne2];exact q2) (by rw [<- hQ,Ov ne3];exact q3) (ts.up (sQ.in 1 rfl) dQ) (fun L hL=>by have:=fw L hL;omega)
  (by have:=D6 fw r (numI w k c);unfold nq at this;omega)).mono ?_
 rintro _ h8 ⟨a',s8,d8,ip2,v2,sl2,sa2⟩
 obtain ⟨h9,s9,t9⟩:=Sep.pack [_,_,_,_] ((((s8.open sa2).pick 3 rfl rfl).open sQ).sel (L':=[ip2,noHp.set xb (.cells #[v2] 142 (0,0)),ip,h,noHp.set l (oo none)]) [2,3,0,1,4] (by decide) rfl)
 have d9:Dis G h9:=fun b o e=>d8 b o (s9.in 0 rfl _ _ e)
 refine ⟨h9,s9.in 0 rfl,?_,.inl ⟨s9.at 1 rfl af,?_⟩⟩
 . rcases s9.apart (b:=noHp.set l (oo none)) (by simp) l with e|e
   . exact e
   . rw [af]at e;cases e
 try simp only [bRtN]
 unfold Jv
 have cb:aa G h9 ⟨xb,0,none⟩=some v2:=by rw [ai (ag (t9.at 1 rfl af))];rfl
 simp (disch:=decide) only [bRtN,cb,g9]
 have hlA:=Cr gt fw r ((cells.take i).map (numI w k))
 have hlB:=D6 fw r (numI w k c)
 have hmul:((cells.take i).map (numI w k)).length*(bb+1)<=300*50001:=Nat.mul_le_mul (by rw [List.length_map,List.length_take];omega) (by omega)
 refine (Ec (A:=lh T r ((cells.take i).map (numI w k))) (B:=nq T r (numI w k c)) (sl.see (by decide) (t9.in 2 rfl)) (sl2.see (by decide) (t9.in 0 rfl)) (by omega)).mono ?_
 rintro v3 h10 ⟨ip3,sl3,s10,d10⟩
 have s11:Sep [ip3,h] h10:=(s10.swap.cut (t9.in 3 rfl)).swap
 unfold Bs
 simp (disch:=first|decide|omega) only [bRtN,g20]
 refine hX (cells.length-(i+1)) _ _ (by omega) ⟨i+1,ip3,v3,rfl,by omega,by simp (disch:=decide) only [bRtN,g0],by simp (disch:=decide) only [bRtN,g1],by simp (disch:=decide) only [bRtN,g2],by simp (disch:=decide) only [bRtN],by simp (disch:=decide) only [bRtN,g18],by simp (disch:=decide) only [bRtN,g19],by simp only [bRtN];rfl,?_,s11,d10⟩
 rw [htk,List.map_append,List.map_cons,List.map_nil,Z9,<- zx _ _ _ (Nat.le_refl _) (xt gt r _) (B7 gt r _)]
 exact sl3
end Go.Proofs.YtfflipnhffknnaaGreatDoor
end
section
namespace Go.Proofs.YtfflipnhffknnaaGreatDoor
open Go Go.HL
section
variable (G:Hp) (K:EK) (r:Rg) (h:Hp)
def md90:Nat->Hint
 |_=>mh false [] [] [] false
def ax1:Prop:=
 opH P_ G (callFunc 134 #[(r 5),(.func (.func 135) #[] #[(r 2)])]) h fun v8 h8=>
 c_ G 136 #[(r 5)] h8 fun v9 h9=>
 K .ret (u6 r 15 (r 5) 16 (.func (.func 135) #[] #[(r 2)]) 17 v8 18 (r 5) 19 v9 4 v9) h9
def S90:Prop:=
 o_ G (Instr.box 68 (r 0)) h fun v0 h0=>o_ G (Instr.box 48 (r 1)) h0 fun v1 h1=>o_ G (Instr.loadAt 68 v0) h1 fun v2 h2=>o_ G (Instr.loadAt 48 v1) h2 fun v3 h3=>
 c_ G 127 #[v2,v3] h3 fun v4 h4=>o_ G (Instr.extract v4 0) h4 fun v5 h5=>o_ G (Instr.extract v4 1) h5 fun v6 h6=>o_ G (Op.unary .not v6) h6 fun v7 h7=>
 (fun q=>cond v7
 (K .ret (upd q 4 (.slice none 0 0)) h7)
 (ax1 G K q h7))
 (u3 (u10 r 2 v0 3 v1 4 (.slice none 0 0) 8 v2 9 v3 10 v4 7 v4 11 v5 12 v6 5 v5) 6 v6 13 v6 14 v7)
theorem enter90:Ent 20 90 [.tmp 4] S90:=ent_ (m:=md90) (c:=(Tryz.f90.body.getD .skip)) (fun _ _ _ _=>by kernel_rfl) Tryz.func90 rfl rfl rfl
def md135:Nat->Hint
 |1=>mh false [0,0,3,0,0,31,63,127] [m_,m_,e_,m_,m_,e_,n_,n_] [false,false,true,false,false,false,false,false] false
 |_=>mh false [] [] [] false
def S135:Prop:=
 o_ G (Instr.box 28 (r 0)) h fun v0 h0=>o_ G (Instr.box 28 (r 1)) h0 fun v1 h1=>
 w_ G h1 (Instr.loadAt 68 (r 2)) h1 fun v2 h2=>
 w_ G h1 (Instr.loadAt 28 v0) h2 fun v3 h3=>
 c_ G 88 #[v2,v3] h3 fun v4 h4=>h1.le h4/\
 w_ G h1 (Instr.loadAt 68 (r 2)) h4 fun v5 h5=>
 w_ G h1 (Instr.loadAt 28 v1) h5 fun v6 h6=>
 c_ G 88 #[v5,v6] h6 fun v7 h7=>
 p_ (binOp .sub 3 v4 v7) h7 fun v8 h8=>
 K .ret (upd (u10 r 3 v0 4 v1 5 (.int .i64 0) 6 v2 7 v3 8 v4 9 v5 10 v6 11 v7 12 v8) 5 v8) h8
theorem ar2:Ent 13 135 [.tmp 5] S135:=ent_ (m:=md135) (c:=(Tryz.f135.body.getD .skip)) (fun _ _ _ _=>by kernel_rfl) Tryz.func135 rfl rfl rfl
def md136:Nat->Hint
 |6=>mh false [0,0,3,7,0,0,32,112,240,511] [n_,n_,n_,m_,n_,n_,n_,n_,m_,m_] (fs 10) false
 |11=>mh false [0,0,3,7,0,0,32,112,240,511] [n_,n_,n_,m_,n_,n_,n_,n_,m_,m_] (fs 10) false
 |_=>mh false [] [] [] false
def X0 (G:Hp) (K:EK) (r:Rg) (h:Hp):Prop:=
 K .ret (u2 r 60 (r 0) 2 (r 0)) h
def Bp:Prop:=
 o_ G (binOp .add 3 (r 3) (.int .i64 1)) h fun v4 h4=>
 K .normal (u3 r 14 (r 3) 15 v4 3 v4) h4
def I8:Prop:=
 o_ G (Instr.sliceAt 22 (r 0) (some (r 3)) none none) h fun v12 h12=>o_ G (Builtin.clear_ #[22] 0 #[v12]) h12 fun v13 h13=>o_ G (Instr.sliceAt 22 (r 0) none (some (r 3)) none) h13 fun v14 h14=>
 K .ret (u7 r 54 (r 0) 55 (r 3) 56 v12 57 (r 0) 58 (r 3) 59 v14 2 v14) h14
def qg:Prop:=
 o_ G (binOp .add 3 (r 5) (.int .i64 1)) h fun v17 h17=>
 K .normal (u3 r 33 (r 5) 34 v17 5 v17) h17
def Ao:Prop:=
 p_ (Instr.indexAt 22 (r 4) (r 5)) h fun v18 h18=>
 w_ G h (Instr.loadAt 28 v18) h18 fun v19 h19=>
 p_ (binOp .sub 3 (r 5) (.int .i64 1)) h19 fun v20 h20=>
 p_ (Instr.indexAt 22 (r 4) v20) h20 fun v21 h21=>
 w_ G h (Instr.loadAt 28 v21) h21 fun v22 h22=>
 bm P_ G h (xEq .neq 28 (.tmp 0) (.tmp 0) v19 v22) h22 fun v23 h23=>
 cond v23
 (o_ G (Instr.indexAt 22 (r 4) (r 5)) h23 fun v24 h24=>o_ G (Instr.loadAt 28 v24) h24 fun v25 h25=>o_ G (Instr.indexAt 22 (r 0) (r 3)) h25 fun v26 h26=>
 opH P_ G (su (Instr.storeAt 28 v26 v25)) h26 fun v27 h27=>o_ G (binOp .add 3 (r 3) (.int .i64 1)) h27 fun v28 h28=>
 qg G K (u10 (u10 r 35 (r 4) 36 (r 5) 37 v18 38 v19 39 (r 4) 40 (r 5) 41 v20 42 v21 43 v22 44 v23) 45 (r 0) 46 (r 3) 47 (r 4) 48 (r 5) 49 v24 50 v25 51 v26 52 (r 3) 53 v28 3 v28) h28)
 (qg G K (u10 r 35 (r 4) 36 (r 5) 37 v18 38 v19 39 (r 4) 40 (r 5) 41 v20 42 v21 43 v22 44 v23) h23)
def I7 (r:Rg) (h:Hp) (K:EK):Prop:=
 o_ G (Builtin.len_ #[22] 3 #[(r 4)]) h fun v15 h15=>o_ G (binOp .lss 3 (r 5) v15) h15 fun v16 h16=>
 cond v16
 (Ao G K (u4 r 29 (r 5) 30 (r 4) 31 v15 32 v16) h16)
 (K (.exit 2) (u4 r 29 (r 5) 30 (r 4) 31 v15 32 v16) h16)
def I9:Prop:=
 p_ (Instr.indexAt 22 (r 0) (r 3)) h fun v5 h5=>
 w_ G h (Instr.loadAt 28 v5) h5 fun v6 h6=>
 p_ (binOp .sub 3 (r 3) (.int .i64 1)) h6 fun v7 h7=>
 p_ (Instr.indexAt 22 (r 0) v7) h7 fun v8 h8=>
 w_ G h (Instr.loadAt 28 v8) h8 fun v9 h9=>
 bm P_ G h (xEq .eql 28 (.tmp 0) (.tmp 0) v6 v9) h9 fun v10 h10=>
 cond v10
 (o_ G (Instr.sliceAt 22 (r 0) (some (r 3)) none none) h10 fun v11 h11=>
 dc (I7 G) (u5 (u10 r 16 (r 0) 17 (r 3) 18 v5 19 v6 20 (r 0) 21 (r 3) 22 v7 23 v8 24 v9 25 v10) 26 (r 0) 27 (r 3) 28 v11 4 v11 5 (.int .i64 1)) h11 (bj 2 (bw (I8 G K) (bj 1 (bw (Bp G K) K)))))
 (Bp G K (u10 r 16 (r 0) 17 (r 3) 18 v5 19 v6 20 (r 0) 21 (r 3) 22 v7 23 v8 24 v9 25 v10) h10)
def Xz (r:Rg) (h:Hp) (K:EK):Prop:=
 o_ G (Builtin.len_ #[22] 3 #[(r 0)]) h fun v2 h2=>o_ G (binOp .lss 3 (r 3) v2) h2 fun v3 h3=>
 cond v3
 (I9 G K (u4 r 10 (r 3) 11 (r 0) 12 v2 13 v3) h3)
 (K (.exit 0) (u4 r 10 (r 3) 11 (r 0) 12 v2 13 v3) h3)
def X1:Prop:=
 dc (Xz G) (upd r 3 (.int .i64 1)) h (bj 0 (bw (X0 G K) K))
def S136:Prop:=
 o_ G (Builtin.len_ #[22] 3 #[(r 0)]) h fun v0 h0=>o_ G (binOp .lss 3 v0 (.int .i64 2)) h0 fun v1 h1=>
 (fun q=>cond v1
 (K .ret (u2 q 9 (r 0) 2 (r 0)) h1)
 (X1 G K q h1))
 (u4 r 2 (.slice none 0 0) 6 (r 0) 7 v0 8 v1)
theorem aq9:Ent 61 136 [.tmp 2] S136:=ent_ (m:=md136) (c:=(Tryz.f136.body.getD .skip)) (fun _ _ _ _=>by kernel_rfl) Tryz.func136 rfl rfl rfl
end
section
variable (G:Hp) (K:EK) (r:Rg) (h:Hp)
def md21:Nat->Hint
 |_=>mh false [] [] [] false
def S21:Prop:=
 o_ G (Instr.box 26 (r 0)) h fun v0 h0=>o_ G (Instr.fieldAt 26 v0 0) h0 fun v1 h1=>o_ G (Instr.loadAt 3 v1) h1 fun v2 h2=>o_ G (binOp .leq 3 v2 (.int .i64 6)) h2 fun v3 h3=>g_ v3 true (o_ G (Instr.fieldAt 26 v0 1) h3) h3 fun v4 h4=>g_ v3 true (o_ G (Instr.loadAt 3 v4) h4) h4 fun v5 h5=>g_ v3 true (o_ G (binOp .leq 3 v5 (.int .i64 6)) h5) h5 fun v6 h6=>
 opH P_ G (bf v3 v6 (.bool false)) h6 fun v7 h7=>g_ v7 true (o_ G (Instr.fieldAt 26 v0 14) h7) h7 fun v8 h8=>g_ v7 true (o_ G (Instr.loadAt 3 v8) h8) h8 fun v9 h9=>g_ v7 true (o_ G (binOp .leq 3 v9 (.int .i64 4000)) h9) h9 fun v10 h10=>
 opH P_ G (bf v7 v10 (.bool false)) h10 fun v11 h11=>g_ v11 true (o_ G (Instr.fieldAt 26 v0 7) h11) h11 fun v12 h12=>g_ v11 true (o_ G (Instr.loadAt 3 v12) h12) h12 fun v13 h13=>g_ v11 true (o_ G (binOp .leq 3 v13 (.int .i64 100)) h13) h13 fun v14 h14=>
 opH P_ G (bf v11 v14 (.bool false)) h14 fun v15 h15=>g_ v15 true (o_ G (Instr.fieldAt 26 v0 10) h15) h15 fun v16 h16=>g_ v15 true (o_ G (Instr.loadAt 3 v16) h16) h16 fun v17 h17=>g_ v15 true (o_ G (binOp .leq 3 v17 (.int .i64 200)) h17) h17 fun v18 h18=>
 opH P_ G (bf v15 v18 (.bool false)) h18 fun v19 h19=>g_ v19 true (o_ G (Instr.fieldAt 26 v0 11) h19) h19 fun v20 h20=>g_ v19 true (o_ G (Instr.loadAt 3 v20) h20) h20 fun v21 h21=>g_ v19 true (o_ G (binOp .leq 3 v21 (.int .i64 200)) h21) h21 fun v22 h22=>
 opH P_ G (bf v19 v22 (.bool false)) h22 fun v23 h23=>g_ v23 true (o_ G (Instr.fieldAt 26 v0 5) h23) h23 fun v24 h24=>g_ v23 true (o_ G (Instr.loadAt 23 v24) h24) h24 fun v25 h25=>g_ v23 true (o_ G (Builtin.len_ #[23] 3 #[v25]) h25) h25 fun v26 h26=>g_ v23 true (o_ G (binOp .leq 3 v26 (.int .i64 4)) h26) h26 fun v27 h27=>
 opH P_ G (bf v23 v27 (.bool false)) h27 fun v28 h28=>g_ v28 true (o_ G (Instr.loadAt 26 v0) h28) h28 fun v29 h29=>g_ v28 true (c_ G 38 #[v29] h29) h29 fun v30 h30=>
 opH P_ G (bf v28 v30 (.bool false)) h30 fun v31 h31=>
 K .ret (upd (u10 (u10 (u10 (u10 r 1 v0 2 (.bool false) 3 v1 4 v2 5 v3 6 v3 7 v4 8 v5 9 v6 10 v7) 11 v7 12 v8 13 v9 14 v10 15 v11 16 v11 17 v12 18 v13 19 v14 20 v15) 21 v15 22 v16 23 v17 24 v18 25 v19 26 v19 27 v20 28 v21 29 v22 30 v23) 31 v23 32 v24 33 v25 34 v26 35 v27 36 v28 37 v28 38 v29 39 v30 40 v31) 2 v31) h31
theorem enter21:Ent 41 21 [.tmp 2] S21:=ent_ (m:=md21) (c:=(Tryz.f21.body.getD .skip)) (fun _ _ _ _=>by kernel_rfl) Tryz.func21 rfl rfl rfl
end
abbrev W3 (c:Cell):Obj := .cells #[c.1,c.2] 28 (0,0)
def ib {α:Type} (p:Nat->Bool) (mk:Nat->α):Nat->Nat->List α
 |_,0=>[]
 |n,k+1=>if p n=true then mk n::ib p mk (n+1) k else ib p mk (n+1) k
end Go.Proofs.YtfflipnhffknnaaGreatDoor
end

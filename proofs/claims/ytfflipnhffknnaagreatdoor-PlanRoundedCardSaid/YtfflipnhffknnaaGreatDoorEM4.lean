/- Texts of the proof, one behind the other. -/
import Derived.Test.YtfflipnhffknnaaGreatDoorEM1
import Derived.Test.YtfflipnhffknnaaGreatDoorEH3
import Derived.Test.YtfflipnhffknnaaGreatDoorEH4
import Derived.Test.YtfflipnhffknnaaGreatDoorEM2
import Derived.Test.YtfflipnhffknnaaGreatDoorEM3
import Derived.Test.YtfflipnhffknnaaGreatDoorEHZ
set_option linter.unusedVariables false
set_option maxRecDepth 100000
set_option linter.unusedSimpArgs false
set_option maxHeartbeats 8000000
set_option linter.defProp false
section
namespace Go.Proofs.YtfflipnhffknnaaGreatDoor
open Go Go.HL
section
variable (G:Hp) (K:EK) (r:Rg) (h:Hp)
def md24:Nat->Hint
 |_=>mh false [] [] [] false
def aD7:Prop:=
 o_ G (Instr.makeSlice 98 (r 0) (r 0)) h fun v4 h4=>o_ G (Instr.build 124 #[(0,v4)]) h4 fun v5 h5=>o_ G (Instr.box 124 v5) h5 fun v6 h6=>
 K .ret (u6 r 10 (r 0) 11 v4 12 v5 13 v6 2 v6 3 (.int .i64 0)) h6
def S24:Prop:=
 o_ G (binOp .lss 3 (r 0) (.int .i64 1)) h fun v0 h0=>g_ v0 false (fun K1=>K1 (r 0) h0) h0 fun v1 h1=>g_ v0 false (o_ G (binOp .gtr 3 v1 (.int .i64 256)) h1) h1 fun v2 h2=>
 opH P_ G (bj v0 (.bool true) v2) h2 fun v3 h3=>
 (fun q=>cond v3
 (K .ret (u2 q 2 (.pointer none) 3 (.int .i64 1)) h3)
 (aD7 G K q h3))
 (u8 r 2 (.pointer none) 3 (.int .i64 0) 4 (r 0) 5 v0 6 v0 7 v1 8 v2 9 v3)
theorem enter24:Ent 14 24 [.tmp 2,.tmp 3] S24:=ent_ (m:=md24) (c:=(Tryz.f24.body.getD .skip)) (fun _ _ _ _=>by kernel_rfl) Tryz.func24 rfl rfl rfl
def md50:Nat->Hint
 |_=>mh false [] [] [] false
def aB1 (G:Hp) (K:EK) (r:Rg) (h:Hp):Prop:=
 K .ret (upd r 6 (.int .i64 0)) h
def M4:Prop:=
 o_ G (binOp .add 3 (r 67) (.int .i64 1)) h fun v8 h8=>
 K .normal (u2 r 80 v8 67 v8) h8
def M5:Prop:=
 o_ G (Instr.indexAt 71 (r 65) (r 67)) h fun v9 h9=>o_ G (Instr.loadAt 75 v9) h9 fun v10 h10=>o_ G (Instr.alloc 75 true (.tuple #[])) h10 fun v11 h11=>
 opH P_ G (su (Instr.storeAt 75 v11 v10)) h11 fun v12 h12=>o_ G (Instr.fieldAt 75 v11 0) h12 fun v13 h13=>o_ G (Instr.loadAt 3 v13) h13 fun v14 h14=>o_ G (Instr.fieldAt 75 v11 1) h14 fun v15 h15=>o_ G (Instr.loadAt 3 v15) h15 fun v16 h16=>o_ G (Instr.fieldAt 75 v11 2) h16 fun v17 h17=>o_ G (Instr.loadAt 3 v17) h17 fun v18 h18=>
 c_ G 105 #[(r 0),(r 1),v14,v16,v18] h18 fun v19 h19=>
 M4 G K (u2 (u10 r 69 v9 70 v10 12 v11 71 (r 0) 72 (r 1) 73 v13 74 v14 75 v15 76 v16 77 v17) 78 v18 79 v19) h19
def aB0 (r:Rg) (h:Hp) (K:EK):Prop:=
 o_ G (binOp .lss 3 (r 67) (r 66)) h fun v7 h7=>
 cond v7
 (M5 G K (upd r 68 v7) h7)
 (K (.exit 4) (upd r 68 v7) h7)
def aB2:Prop:=
 o_ G (Builtin.len_ #[71] 3 #[(r 2)]) h fun v6 h6=>
 ci (aB0 G) (u3 r 65 (r 2) 66 v6 67 (.int .i64 0)) h6 (bn 4 (bv (aB1 G K) K))
def Ix:Prop:=
 o_ G (binOp .add 3 (r 50) (.int .i64 1)) h fun v21 h21=>
 K .normal (u2 r 64 v21 50 v21) h21
def M3:Prop:=
 o_ G (Instr.indexAt 71 (r 48) (r 50)) h fun v22 h22=>o_ G (Instr.loadAt 75 v22) h22 fun v23 h23=>o_ G (Instr.alloc 75 true (.tuple #[])) h23 fun v24 h24=>
 opH P_ G (su (Instr.storeAt 75 v24 v23)) h24 fun v25 h25=>o_ G (Instr.fieldAt 75 v24 0) h25 fun v26 h26=>o_ G (Instr.loadAt 3 v26) h26 fun v27 h27=>o_ G (Instr.fieldAt 75 v24 1) h27 fun v28 h28=>o_ G (Instr.loadAt 3 v28) h28 fun v29 h29=>o_ G (Instr.fieldAt 75 v24 2) h29 fun v30 h30=>o_ G (Instr.loadAt 3 v30) h30 fun v31 h31=>
 c_ G 104 #[(r 0),(r 1),v27,v29,v31] h31 fun v32 h32=>o_ G (Op.unary .not v32) h32 fun v33 h33=>
 (fun q=>cond v33
 (K .ret (upd q 6 (.int .i64 18)) h33)
 (Ix G K q h33))
 (u3 (u10 r 52 v22 53 v23 10 v24 54 (r 0) 55 (r 1) 56 v26 57 v27 58 v28 59 v29 60 v30) 61 v31 62 v32 63 v33)
def aA9 (r:Rg) (h:Hp) (K:EK):Prop:=
 o_ G (binOp .lss 3 (r 50) (r 49)) h fun v20 h20=>
 cond v20
 (M3 G K (upd r 51 v20) h20)
 (K (.exit 2) (upd r 51 v20) h20)
def aB3:Prop:=
 o_ G (Builtin.len_ #[71] 3 #[(r 2)]) h fun v5 h5=>
 ci (aA9 G) (u3 r 48 (r 2) 49 v5 50 (.int .i64 0)) h5 (bn 2 (bv (aB2 G K) K))
def zp:Prop:=
 o_ G (binOp .add 3 (r 21) (.int .i64 1)) h fun v35 h35=>
 K .normal (u2 r 47 v35 21 v35) h35
def Fo:Prop:=
 o_ G (Instr.indexAt 71 (r 19) (r 21)) h fun v36 h36=>o_ G (Instr.loadAt 75 v36) h36 fun v37 h37=>o_ G (Instr.alloc 75 true (.tuple #[])) h37 fun v38 h38=>
 opH P_ G (su (Instr.storeAt 75 v38 v37)) h38 fun v39 h39=>o_ G (Instr.fieldAt 75 v38 0) h39 fun v40 h40=>o_ G (Instr.loadAt 3 v40) h40 fun v41 h41=>
 c_ G 103 #[(r 0),v41] h41 fun v42 h42=>o_ G (Op.unary .not v42) h42 fun v43 h43=>g_ v43 false (o_ G (Instr.fieldAt 75 v38 1) h43) h43 fun v44 h44=>g_ v43 false (o_ G (Instr.loadAt 3 v44) h44) h44 fun v45 h45=>g_ v43 false (o_ G (binOp .lss 3 v45 (.int .i64 0)) h45) h45 fun v46 h46=>
 opH P_ G (bj v43 (.bool true) v46) h46 fun v47 h47=>g_ v47 false (o_ G (Instr.fieldAt 75 v38 1) h47) h47 fun v48 h48=>g_ v47 false (o_ G (Instr.loadAt 3 v48) h48) h48 fun v49 h49=>g_ v47 false (o_ G (Instr.fieldAt 75 v38 2) h49) h49 fun v50 h50=>g_ v47 false (o_ G (Instr.loadAt 3 v50) h50) h50 fun v51 h51=>g_ v47 false (o_ G (binOp .geq 3 v49 v51) h51) h51 fun v52 h52=>
 opH P_ G (bj v47 (.bool true) v52) h52 fun v53 h53=>g_ v53 false (o_ G (Instr.fieldAt 75 v38 2) h53) h53 fun v54 h54=>g_ v53 false (o_ G (Instr.loadAt 3 v54) h54) h54 fun v55 h55=>g_ v53 false (o_ G (binOp .gtr 3 v55 (.int .i64 4611686018427387904)) h55) h55 fun v56 h56=>
 opH P_ G (bj v53 (.bool true) v56) h56 fun v57 h57=>
 (fun q=>cond v57
 (K .ret (upd q 6 (.int .i64 1)) h57)
 (zp G K q h57))
 (u5 (u10 (u10 r 23 v36 24 v37 8 v38 25 (r 0) 26 v40 27 v41 28 v42 29 v43 30 v43 31 v44) 32 v45 33 v46 34 v47 35 v47 36 v48 37 v49 38 v50 39 v51 40 v52 41 v53) 42 v53 43 v54 44 v55 45 v56 46 v57)
def X4 (r:Rg) (h:Hp) (K:EK):Prop:=
 o_ G (binOp .lss 3 (r 21) (r 20)) h fun v34 h34=>
 cond v34
 (Fo G K (upd r 22 v34) h34)
 (K (.exit 0) (upd r 22 v34) h34)
def aB4:Prop:=
 o_ G (Builtin.len_ #[71] 3 #[(r 2)]) h fun v4 h4=>
 ci (X4 G) (u3 r 19 (r 2) 20 v4 21 (.int .i64 0)) h4 (bn 0 (bv (aB3 G K) K))
def S50:Prop:=
 opH P_ G (xEq .eql 34 (.tmp 0) (.const .nilFunc) (r 0) (.pointer none)) h fun v0 h0=>g_ v0 false (fun K1=>K1 (r 1) h0) h0 fun v1 h1=>g_ v0 false (o_ G (binOp .lss 3 v1 (.int .i64 0)) h1) h1 fun v2 h2=>
 opH P_ G (bj v0 (.bool true) v2) h2 fun v3 h3=>
 (fun q=>cond v3
 (K .ret (upd q 6 (.int .i64 1)) h3)
 (aB4 G K q h3))
 (u7 r 6 (.int .i64 0) 13 (r 0) 14 v0 15 v0 16 v1 17 v2 18 v3)
theorem enter50:Ent 81 50 [.tmp 6] S50:=ent_ (m:=md50) (c:=(Tryz.f50.body.getD .skip)) (fun _ _ _ _=>by kernel_rfl) Tryz.func50 rfl rfl rfl
def md145:Nat->Hint
 |_=>mh false [] [] [] false
def S145:Prop:=
 o_ G (Instr.box 34 (r 0)) h fun v0 h0=>o_ G (Instr.box 3 (r 1)) h0 fun v1 h1=>o_ G (Instr.box 3 (r 2)) h1 fun v2 h2=>
 K .ret (u6 r 3 v0 4 v1 5 v2 6 .nilFunc 7 (.func (.func 164) #[] #[v0,v1,v2]) 6 (.func (.func 164) #[] #[v0,v1,v2])) h2
theorem as5:Ent 8 145 [.tmp 6] S145:=ent_ (m:=md145) (c:=(Tryz.f145.body.getD .skip)) (fun _ _ _ _=>by kernel_rfl) Tryz.func145 rfl rfl rfl
def md26:Nat->Hint
 |_=>mh false [] [] [] false
def aD6:Prop:=
 opH P_ G (xNil (r 0)) h fun v1 h1=>o_ G (Instr.fieldAt 124 v1 0) h1 fun v2 h2=>o_ G (Instr.loadAt 98 v2) h2 fun v3 h3=>o_ G (Builtin.len_ #[98] 3 #[v3]) h3 fun v4 h4=>
 K .ret (u6 r 5 (r 0) 6 v1 7 v2 8 v3 9 v4 2 v4) h4
def S26:Prop:=
 opH P_ G (xEq .eql 34 (.tmp 0) (.const .nilFunc) (r 0) (.pointer none)) h fun v0 h0=>
 cond v0
 (K .ret (u4 r 2 (.int .i64 0) 3 (r 0) 4 v0 2 (.int .i64 0)) h0)
 (aD6 G K (u3 r 2 (.int .i64 0) 3 (r 0) 4 v0) h0)
theorem enter26:Ent 10 26 [.tmp 2] S26:=ent_ (m:=md26) (c:=(Tryz.f26.body.getD .skip)) (fun _ _ _ _=>by kernel_rfl) Tryz.func26 rfl rfl rfl
def md103:Nat->Hint
 |_=>mh false [] [] [] false
def S103:Prop:=
 opH P_ G (xEq .neq 34 (.tmp 0) (.const .nilFunc) (r 0) (.pointer none)) h fun v0 h0=>g_ v0 true (fun K1=>K1 (r 1) h0) h0 fun v1 h1=>g_ v0 true (o_ G (binOp .geq 3 v1 (.int .i64 0)) h1) h1 fun v2 h2=>
 opH P_ G (bj v0 v2 (.bool false)) h2 fun v3 h3=>g_ v3 true (fun K1=>K1 (r 1) h3) h3 fun v4 h4=>g_ v3 true (fun K1=>K1 (r 0) h4) h4 fun v5 h5=>g_ v3 true (opH P_ G (xNil v5) h5) h5 fun v6 h6=>g_ v3 true (o_ G (Instr.fieldAt 124 v6 0) h6) h6 fun v7 h7=>g_ v3 true (o_ G (Instr.loadAt 98 v7) h7) h7 fun v8 h8=>g_ v3 true (o_ G (Builtin.len_ #[98] 3 #[v8]) h8) h8 fun v9 h9=>g_ v3 true (o_ G (binOp .lss 3 v4 v9) h9) h9 fun v10 h10=>
 opH P_ G (bj v3 v10 (.bool false)) h10 fun v11 h11=>
 K .ret (u7 (u10 r 4 (.bool false) 5 (r 0) 6 v0 7 v0 8 v1 9 v2 10 v3 11 v3 12 v4 13 v5) 14 v6 15 v7 16 v8 17 v9 18 v10 19 v11 4 v11) h11
theorem av7:Ent 20 103 [.tmp 4] S103:=ent_ (m:=md103) (c:=(Tryz.f103.body.getD .skip)) (fun _ _ _ _=>by kernel_rfl) Tryz.func103 rfl rfl rfl
def md104:Nat->Hint
 |_=>mh false [] [] [] false
def Qc (G:Hp) (K:EK) (r:Rg) (h:Hp):Prop:=
 K .ret (upd r 10 (.bool true)) h
def Cg:Prop:=
 o_ G (binOp .add 3 (r 21) (.int .i64 1)) h fun v7 h7=>
 K .normal (u2 r 41 v7 21 v7) h7
def J8:Prop:=
 o_ G (Instr.indexAt 99 (r 19) (r 21)) h fun v8 h8=>o_ G (Instr.loadAt 203 v8) h8 fun v9 h9=>o_ G (Instr.alloc 203 true (.tuple #[])) h9 fun v10 h10=>
 opH P_ G (su (Instr.storeAt 203 v10 v9)) h10 fun v11 h11=>o_ G (Instr.fieldAt 203 v10 2) h11 fun v12 h12=>o_ G (Instr.loadAt 3 v12) h12 fun v13 h13=>
 opH P_ G (xEq .neq 3 (.tmp 0) (.tmp 0) v13 (r 1)) h13 fun v14 h14=>g_ v14 true (o_ G (Instr.fieldAt 203 v10 0) h14) h14 fun v15 h15=>g_ v14 true (o_ G (Instr.loadAt 3 v15) h15) h15 fun v16 h16=>g_ v14 true (fun K1=>K1 (r 4) h16) h16 fun v17 h17=>g_ v14 true (o_ G (binOp .lss 3 v16 v17) h17) h17 fun v18 h18=>
 opH P_ G (bj v14 v18 (.bool false)) h18 fun v19 h19=>g_ v19 true (fun K1=>K1 (r 3) h19) h19 fun v20 h20=>g_ v19 true (o_ G (Instr.fieldAt 203 v10 1) h20) h20 fun v21 h21=>g_ v19 true (o_ G (Instr.loadAt 3 v21) h21) h21 fun v22 h22=>g_ v19 true (o_ G (binOp .lss 3 v20 v22) h22) h22 fun v23 h23=>
 opH P_ G (bj v19 v23 (.bool false)) h23 fun v24 h24=>
 (fun q=>cond v24
 (K .ret (upd q 10 (.bool false)) h24)
 (Cg G K q h24))
 (u9 (u10 r 23 v8 24 v9 12 v10 25 v12 26 v13 27 (r 1) 28 v14 29 v14 30 v15 31 v16) 32 v17 33 v18 34 v19 35 v19 36 v20 37 v21 38 v22 39 v23 40 v24)
def Zj (r:Rg) (h:Hp) (K:EK):Prop:=
 o_ G (binOp .lss 3 (r 21) (r 20)) h fun v6 h6=>
 cond v6
 (J8 G K (upd r 22 v6) h6)
 (K (.exit 0) (upd r 22 v6) h6)
def S104:Prop:=
 opH P_ G (xNil (r 0)) h fun v0 h0=>o_ G (Instr.fieldAt 124 v0 0) h0 fun v1 h1=>o_ G (Instr.loadAt 98 v1) h1 fun v2 h2=>o_ G (Instr.indexAt 98 v2 (r 2)) h2 fun v3 h3=>o_ G (Instr.loadAt 99 v3) h3 fun v4 h4=>o_ G (Builtin.len_ #[99] 3 #[v4]) h4 fun v5 h5=>
 ci (Zj G) (u10 r 10 (.bool false) 13 (r 0) 14 v0 15 v1 16 v2 17 (r 2) 18 v3 19 v4 20 v5 21 (.int .i64 0)) h5 (bn 0 (bv (Qc G K) K))
theorem av6:Ent 42 104 [.tmp 10] S104:=ent_ (m:=md104) (c:=(Tryz.f104.body.getD .skip)) (fun _ _ _ _=>by kernel_rfl) Tryz.func104 rfl rfl rfl
def md105:Nat->Hint
 |5=>mh false [0,0,2,7,0,0,32,112,15,511] [n_,n_,m_,n_,n_,n_,m_,n_,n_,n_] (fs 10) false
 |9=>mh false [0,1,3,7,0,0,0,0,0,0,896,1920,4064,8191,16383] [n_,n_,n_,m_,n_,n_,n_,n_,n_,n_,n_,.alloc,e_,n_,.store] [false,false,false,false,false,false,false,false,false,false,false,false,true,false,false] true
 |_=>mh false [] [] [] false
def Zi:Prop:=
 opH P_ G (callFunc 142 #[(r 10),(r 3),(.func (.func 143) #[] #[])]) h fun v6 h6=>o_ G (Instr.extract v6 0) h6 fun v7 h7=>o_ G (Instr.extract v6 1) h7 fun v8 h8=>
 ∃q9:Hp,q9.le h8/\
 bk P_ noHp noHp (xNil (r 0)) h8 fun v10 h10=>
 p_ (Instr.fieldAt 124 v10 0) h10 fun v11 h11=>
 w_ G q9 (Instr.loadAt 98 v11) h11 fun v12 h12=>
 p_ (Instr.build 203 #[(0,(r 3)),(1,(r 4)),(2,(r 1))]) h12 fun v13 h13=>o_ G (Instr.buildSlice 99 1 #[(0,v13)]) h13 fun v14 h14=>
 c_ G 144 #[(r 10),v7,v14] h14 fun v15 h15=>q9.le h15/\
 p_ (Instr.indexAt 98 v12 (r 2)) h15 fun v16 h16=>
 opH P_ G (su (Instr.storeAt 99 v16 v15)) h16 fun v17 h17=>
 K .normal (u2 (u10 (u10 r 57 (r 10) 58 (r 3) 59 v6 56 v6 60 v7 61 v8 13 v7 14 v8 62 (r 0) 63 v10) 64 v11 65 v12 66 (r 2) 67 (r 10) 68 v7 69 (r 3) 70 (r 4) 71 (r 1) 72 v13 73 v14) 74 v15 75 v16) h17
def wt:Prop:=
 o_ G (binOp .add 3 (r 23) (.int .i64 1)) h fun v19 h19=>
 K .normal (u2 r 55 v19 23 v19) h19
def Cf:Prop:=
 o_ G (Instr.loadAt 203 (r 12)) h fun v37 h37=>o_ G (Instr.buildSlice 99 1 #[(0,v37)]) h37 fun v38 h38=>o_ G (Builtin.append_ #[99,99] 99 #[(r 10),v38]) h38 fun v39 h39=>
 wt G K (u5 r 51 (r 10) 52 v37 53 v38 54 v39 10 v39) h39
def J7:Prop:=
 o_ G (Instr.indexAt 99 (r 21) (r 23)) h fun v20 h20=>o_ G (Instr.loadAt 203 v20) h20 fun v21 h21=>o_ G (Instr.alloc 203 true (.tuple #[])) h21 fun v22 h22=>
 opH P_ G (su (Instr.storeAt 203 v22 v21)) h22 fun v23 h23=>o_ G (Instr.fieldAt 203 v22 2) h23 fun v24 h24=>o_ G (Instr.loadAt 3 v24) h24 fun v25 h25=>
 opH P_ G (xEq .eql 3 (.tmp 0) (.tmp 0) v25 (r 1)) h25 fun v26 h26=>g_ v26 true (o_ G (Instr.fieldAt 203 v22 0) h26) h26 fun v27 h27=>g_ v26 true (o_ G (Instr.loadAt 3 v27) h27) h27 fun v28 h28=>g_ v26 true (fun K1=>K1 (r 4) h28) h28 fun v29 h29=>g_ v26 true (o_ G (binOp .leq 3 v28 v29) h29) h29 fun v30 h30=>
 opH P_ G (bj v26 v30 (.bool false)) h30 fun v31 h31=>g_ v31 true (fun K1=>K1 (r 3) h31) h31 fun v32 h32=>g_ v31 true (o_ G (Instr.fieldAt 203 v22 1) h32) h32 fun v33 h33=>g_ v31 true (o_ G (Instr.loadAt 3 v33) h33) h33 fun v34 h34=>g_ v31 true (o_ G (binOp .leq 3 v32 v34) h34) h34 fun v35 h35=>
 opH P_ G (bj v31 v35 (.bool false)) h35 fun v36 h36=>
 cond v36
 (p_ (Instr.fieldAt 203 v22 0) h36 fun v40 h40=>
 w_ G h36 (Instr.loadAt 3 v40) h40 fun v41 h41=>
 p_ (Builtin.min_ #[3,3] 3 #[(r 3),v41]) h41 fun v42 h42=>
 p_ (Instr.fieldAt 203 v22 1) h42 fun v43 h43=>
 w_ G h36 (Instr.loadAt 3 v43) h43 fun v44 h44=>
 p_ (Builtin.max_ #[3,3] 3 #[(r 4),v44]) h44 fun v45 h45=>
 wt G K (u9 (u10 (u10 r 25 v20 26 v21 12 v22 27 v24 28 v25 29 (r 1) 30 v26 31 v26 32 v27 33 v28) 34 v29 35 v30 36 v31 37 v31 38 v32 39 v33 40 v34 41 v35 42 v36 43 (r 3)) 44 v40 45 v41 46 v42 47 (r 4) 48 v43 49 v44 50 v45 3 v42 4 v45) h45)
 (Cf G K (u9 (u10 r 25 v20 26 v21 12 v22 27 v24 28 v25 29 (r 1) 30 v26 31 v26 32 v27 33 v28) 34 v29 35 v30 36 v31 37 v31 38 v32 39 v33 40 v34 41 v35 42 v36) h36)
def Zh (r:Rg) (h:Hp) (K:EK):Prop:=
 o_ G (binOp .lss 3 (r 23) (r 22)) h fun v18 h18=>
 cond v18
 (J7 G K (upd r 24 v18) h18)
 (K (.exit 0) (upd r 24 v18) h18)
def S105:Prop:=
 opH P_ G (xNil (r 0)) h fun v0 h0=>o_ G (Instr.fieldAt 124 v0 0) h0 fun v1 h1=>o_ G (Instr.loadAt 98 v1) h1 fun v2 h2=>o_ G (Instr.indexAt 98 v2 (r 2)) h2 fun v3 h3=>o_ G (Instr.loadAt 99 v3) h3 fun v4 h4=>o_ G (Builtin.len_ #[99] 3 #[v4]) h4 fun v5 h5=>
 ci (Zh G) (u10 r 10 (.slice none 0 0) 15 (r 0) 16 v0 17 v1 18 v2 19 (r 2) 20 v3 21 v4 22 v5 23 (.int .i64 0)) h5 (bn 0 (bv (Zi G K) (qa K)))
theorem av5:Ent 76 105 [] S105:=ent_ (m:=md105) (c:=(Tryz.f105.body.getD .skip)) (fun _ _ _ _=>by kernel_rfl) Tryz.func105 rfl rfl rfl
def md106:Nat->Hint
 |_=>mh false [] [] [] false
def Zg:Prop:=
 o_ G (Builtin.len_ #[99] 3 #[(r 0)]) h fun v2 h2=>o_ G (Instr.makeSlice 99 v2 v2) h2 fun v3 h3=>o_ G (Builtin.copy_ #[99,99] 3 #[v3,(r 0)]) h3 fun v4 h4=>
 K .ret (u9 r 7 (r 0) 8 v2 9 v3 3 v3 10 v3 11 (r 0) 12 v4 13 v3 2 v3) h4
def S106:Prop:=
 o_ G (Builtin.len_ #[99] 3 #[(r 0)]) h fun v0 h0=>
 opH P_ G (xEq .eql 3 (.tmp 0) (.const .nilFunc) v0 (.int .i64 0)) h0 fun v1 h1=>
 (fun q=>cond v1
 (K .ret (upd q 2 (.slice none 0 0)) h1)
 (Zg G K q h1))
 (u4 r 2 (.slice none 0 0) 4 (r 0) 5 v0 6 v1)
theorem av4:Ent 14 106 [.tmp 2] S106:=ent_ (m:=md106) (c:=(Tryz.f106.body.getD .skip)) (fun _ _ _ _=>by kernel_rfl) Tryz.func106 rfl rfl rfl
def md164:Nat->Hint
 |2=>mh false [0,1,3,7,0,31,63,127,0] [m_,n_,n_,m_,m_,n_,m_,m_,n_] (fs 9) false
 |_=>mh false [] [] [] false
def Pw:Prop:=
 o_ G (binOp .lss 3 (r 5) (.int .i64 4611686018427387904)) h fun v12 h12=>
 cond v12
 (opH P_ G (ig (r 0) #[(r 5),(.int .i64 4611686018427387904)]) h12 fun v13 h13=>
 K .normal (u5 r 43 (r 5) 44 v12 45 (r 0) 46 (r 5) 47 v13) h13)
 (K .normal (u2 r 43 (r 5) 44 v12) h12)
def qp:Prop:=
 o_ G (binOp .add 3 (r 20) (.int .i64 1)) h fun v15 h15=>
 K .normal (u2 r 42 v15 20 v15) h15
def tk:Prop:=
 o_ G (Instr.fieldAt 203 (r 7) 1) h fun v34 h34=>o_ G (Instr.loadAt 3 v34) h34 fun v35 h35=>
 qp G K (u3 r 40 v34 41 v35 5 v35) h35
def B5:Prop:=
 o_ G (Instr.fieldAt 203 (r 7) 0) h fun v24 h24=>o_ G (Instr.loadAt 3 v24) h24 fun v25 h25=>o_ G (binOp .gtr 3 v25 (r 5)) h25 fun v26 h26=>g_ v26 true (fun K1=>K1 (r 0) h26) h26 fun v27 h27=>g_ v26 true (fun K1=>K1 (r 5) h27) h27 fun v28 h28=>g_ v26 true (o_ G (Instr.fieldAt 203 (r 7) 0) h28) h28 fun v29 h29=>g_ v26 true (o_ G (Instr.loadAt 3 v29) h29) h29 fun v30 h30=>g_ v26 true (opH P_ G (ig v27 #[v28,v30]) h30) h30 fun v31 h31=>g_ v26 true (o_ G (Op.unary .not v31) h31) h31 fun v32 h32=>
 opH P_ G (bj v26 v32 (.bool false)) h32 fun v33 h33=>
 (fun q=>cond v33
 (K .ret q h33)
 (tk G K q h33))
 (u2 (u10 r 28 v24 29 v25 30 (r 5) 31 v26 32 v26 33 v27 34 v28 35 v29 36 v30 37 v31) 38 v32 39 v33)
def B6:Prop:=
 o_ G (Instr.indexAt 99 (r 18) (r 20)) h fun v16 h16=>o_ G (Instr.loadAt 203 v16) h16 fun v17 h17=>o_ G (Instr.alloc 203 true (.tuple #[])) h17 fun v18 h18=>
 opH P_ G (su (Instr.storeAt 203 v18 v17)) h18 fun v19 h19=>o_ G (Instr.fieldAt 203 v18 2) h19 fun v20 h20=>o_ G (Instr.loadAt 3 v20) h20 fun v21 h21=>o_ G (Instr.loadAt 3 (r 3)) h21 fun v22 h22=>
 opH P_ G (xEq .eql 3 (.tmp 0) (.tmp 0) v21 v22) h22 fun v23 h23=>
 (fun q=>cond v23
 (qp G K q h23)
 (B5 G K q h23))
 (u7 r 22 v16 23 v17 7 v18 24 v20 25 v21 26 v22 27 v23)
def Pv (r:Rg) (h:Hp) (K:EK):Prop:=
 o_ G (binOp .lss 3 (r 20) (r 19)) h fun v14 h14=>
 cond v14
 (B6 G K (upd r 21 v14) h14)
 (K (.exit 0) (upd r 21 v14) h14)
def Px:Prop:=
 w_ G h (Instr.loadAt 34 (r 1)) h fun v4 h4=>
 bk P_ noHp noHp (xNil v4) h4 fun v5 h5=>
 p_ (Instr.fieldAt 124 v5 0) h5 fun v6 h6=>
 w_ G h (Instr.loadAt 98 v6) h6 fun v7 h7=>
 w_ G h (Instr.loadAt 3 (r 2)) h7 fun v8 h8=>
 p_ (Instr.indexAt 98 v7 v8) h8 fun v9 h9=>
 w_ G h (Instr.loadAt 99 v9) h9 fun v10 h10=>
 w_ G h (Builtin.len_ #[99] 3 #[v10]) h10 fun v11 h11=>
 ci (Pv G) (u10 r 5 (.int .i64 0) 12 v4 13 v5 14 v6 15 v7 16 v8 17 v9 18 v10 19 v11 20 (.int .i64 0)) h11 (bn 0 (bv (Pw G K) (qa K)))
def S164:Prop:=
 o_ G (Instr.loadAt 34 (r 1)) h fun v0 h0=>o_ G (Instr.loadAt 3 (r 2)) h0 fun v1 h1=>
 c_ G 103 #[v0,v1] h1 fun v2 h2=>o_ G (Op.unary .not v2) h2 fun v3 h3=>
 cond v3
 (K .ret (u4 r 8 v0 9 v1 10 v2 11 v3) h3)
 (Px G K (u4 r 8 v0 9 v1 10 v2 11 v3) h3)
theorem S6:Ent 48 164 [] S164:=ent_ (m:=md164) (c:=(Tryz.f164.body.getD .skip)) (fun _ _ _ _=>by kernel_rfl) Tryz.func164 rfl rfl rfl
def md77:Nat->Hint
 |_=>mh false [] [] [] false
def az8:Prop:=
 o_ G (Instr.indexAt 110 (r 5) (.int .i64 0)) h fun v9 h9=>o_ G (Instr.loadAt 3 v9) h9 fun v10 h10=>o_ G (Instr.indexAt 110 (r 5) (.int .i64 1)) h10 fun v11 h11=>o_ G (Instr.loadAt 3 v11) h11 fun v12 h12=>o_ G (binOp .add 3 v10 v12) h12 fun v13 h13=>
 K .ret (u6 r 15 v9 16 v10 17 v11 18 v12 19 v13 4 v13) h13
def S77:Prop:=
 c_ G 126 #[(r 0),(r 1)] h fun v0 h0=>o_ G (Instr.alloc 110 true (.tuple #[])) h0 fun v1 h1=>
 opH P_ G (su (Instr.storeAt 110 v1 v0)) h1 fun v2 h2=>o_ G (Instr.indexAt 110 v1 (.int .i64 0)) h2 fun v3 h3=>o_ G (Instr.loadAt 3 v3) h3 fun v4 h4=>o_ G (Instr.indexAt 110 v1 (.int .i64 1)) h4 fun v5 h5=>o_ G (Instr.loadAt 3 v5) h5 fun v6 h6=>o_ G (binOp .sub 3 (.int .i64 4611686018427387904) v6) h6 fun v7 h7=>o_ G (binOp .gtr 3 v4 v7) h7 fun v8 h8=>
 (fun q=>cond v8
 (K .ret (upd q 4 (.int .i64 4611686018427387904)) h8)
 (az8 G K q h8))
 (upd (u10 r 4 (.int .i64 0) 6 (r 0) 7 (r 1) 8 v0 5 v1 9 v3 10 v4 11 v5 12 v6 13 v7) 14 v8)
theorem enter77:Ent 20 77 [.tmp 4] S77:=ent_ (m:=md77) (c:=(Tryz.f77.body.getD .skip)) (fun _ _ _ _=>by kernel_rfl) Tryz.func77 rfl rfl rfl
def md142:Nat->Hint
 |_=>mh false [] [] [] false
def Yn:Prop:=
 o_ G (binOp .lss 3 (r 9) (r 8)) h fun v1 h1=>g_ v1 true (fun K1=>K1 (r 2) h1) h1 fun v2 h2=>g_ v1 true (fun K1=>K1 (r 0) h2) h2 fun v3 h3=>g_ v1 true (fun K1=>K1 (r 9) h3) h3 fun v4 h4=>g_ v1 true (o_ G (Instr.indexAt 99 v3 v4) h4) h4 fun v5 h5=>g_ v1 true (o_ G (Instr.loadAt 203 v5) h5) h5 fun v6 h6=>g_ v1 true (fun K1=>K1 (r 1) h6) h6 fun v7 h7=>g_ v1 true (opH P_ G (ig v2 #[v6,v7]) h7) h7 fun v8 h8=>g_ v1 true (opH P_ G (xEq .eql 3 (.tmp 0) (.const .nilFunc) v8 (.int .i64 0)) h8) h8 fun v9 h9=>
 opH P_ G (bj v1 v9 (.bool false)) h9 fun v10 h10=>
 K .ret (u6 (u10 r 35 (r 9) 36 (r 9) 37 (r 8) 38 v1 39 v1 40 v2 41 v3 42 v4 43 v5 44 v6) 45 v7 46 v8 47 v9 48 v10 6 (r 9) 7 v10) h10
def Jd:Prop:=
 o_ G (binOp .add 3 (r 9) (r 10)) h fun v12 h12=>o_ G (convert 3 272 v12) h12 fun v13 h13=>o_ G (binOp .shr 272 v13 (.int .u64 1)) h13 fun v14 h14=>o_ G (convert 272 3 v14) h14 fun v15 h15=>o_ G (Instr.indexAt 99 (r 0) v15) h15 fun v16 h16=>o_ G (Instr.loadAt 203 v16) h16 fun v17 h17=>
 opH P_ G (ig (r 2) #[v17,(r 1)]) h17 fun v18 h18=>o_ G (binOp .lss 3 v18 (.int .i64 0)) h18 fun v19 h19=>
 cond v19
 (o_ G (binOp .add 3 v15 (.int .i64 1)) h19 fun v20 h20=>
 K .normal (u8 (u10 r 18 (r 9) 19 (r 10) 20 v12 21 v13 22 v14 23 v15 11 v15 24 (r 2) 25 (r 0) 26 v15) 27 v16 28 v17 29 (r 1) 30 v18 31 v19 32 v15 33 v20 9 v20) h20)
 (K .normal (u7 (u10 r 18 (r 9) 19 (r 10) 20 v12 21 v13 22 v14 23 v15 11 v15 24 (r 2) 25 (r 0) 26 v15) 27 v16 28 v17 29 (r 1) 30 v18 31 v19 34 v15 10 v15) h19)
def Ym (r:Rg) (h:Hp) (K:EK):Prop:=
 o_ G (binOp .lss 3 (r 9) (r 10)) h fun v11 h11=>
 cond v11
 (Jd G K (u3 r 15 (r 9) 16 (r 10) 17 v11) h11)
 (K (.exit 0) (u3 r 15 (r 9) 16 (r 10) 17 v11) h11)
def S142:Prop:=
 o_ G (Builtin.len_ #[99] 3 #[(r 0)]) h fun v0 h0=>
 ci (Ym G) (u8 r 6 (.int .i64 0) 7 (.bool false) 12 (r 0) 13 v0 8 v0 14 v0 9 (.int .i64 0) 10 v0) h0 (bn 0 (bv (Yn G K) K))
theorem as8:Ent 49 142 [.tmp 6,.tmp 7] S142:=ent_ (m:=md142) (c:=(Tryz.f142.body.getD .skip)) (fun _ _ _ _=>by kernel_rfl) Tryz.func142 rfl rfl rfl
def md143:Nat->Hint
 |_=>mh false [] [] [] false
def S143:Prop:=
 o_ G (Instr.box 203 (r 0)) h fun v0 h0=>o_ G (Instr.fieldAt 203 v0 0) h0 fun v1 h1=>o_ G (Instr.loadAt 3 v1) h1 fun v2 h2=>o_ G (binOp .sub 3 v2 (r 1)) h2 fun v3 h3=>
 K .ret (u7 r 2 v0 4 (.int .i64 0) 5 v1 6 v2 7 (r 1) 8 v3 4 v3) h3
theorem as7:Ent 9 143 [.tmp 4] S143:=ent_ (m:=md143) (c:=(Tryz.f143.body.getD .skip)) (fun _ _ _ _=>by kernel_rfl) Tryz.func143 rfl rfl rfl
def md144:Nat->Hint
 |11=>mh false [0,0,0,6,15,0,0,96,255] [n_,n_,n_,n_,n_,n_,n_,n_,e_] (fs 9) false
 |15=>mh false [0,0,0,6,15,0,0,96,255] [n_,n_,n_,n_,n_,n_,n_,n_,e_] (fs 9) false
 |_=>mh false [] [] [] false
def S144_k4:Prop:=
 o_ G (Instr.sliceAt 99 (r 0) (some (r 8)) none none) h fun v14 h14=>o_ G (Builtin.copy_ #[99,99] 3 #[v14,(r 2)]) h14 fun v15 h15=>o_ G (Instr.sliceAt 99 (r 0) (some (r 1)) none none) h15 fun v16 h16=>
 c_ G 163 #[v16,(r 7)] h16 fun v17 h17=>
 K .ret (u2 (u10 r 84 (r 0) 85 (r 8) 86 v14 87 (r 2) 88 v15 89 (r 0) 90 (r 1) 91 v16 92 (r 7) 93 v17) 94 (r 0) 6 (r 0)) h17
def Yj:Prop:=
 o_ G (binOp .add 3 (r 8) (r 7)) h fun v8 h8=>o_ G (Instr.sliceAt 99 (r 0) none (some v8) none) h8 fun v9 h9=>o_ G (binOp .add 3 (r 1) (r 7)) h9 fun v10 h10=>o_ G (Instr.sliceAt 99 v9 (some v10) none none) h10 fun v11 h11=>
 opH P_ G (callFunc 162 #[(r 2),v11]) h11 fun v12 h12=>o_ G (Op.unary .not v12) h12 fun v13 h13=>
 cond v13
 (p_ (binOp .add 3 (r 1) (r 7)) h13 fun v18 h18=>
 p_ (Instr.sliceAt 99 v9 (some v18) none none) h18 fun v19 h19=>
 p_ (Instr.sliceAt 99 v9 (some (r 1)) none none) h19 fun v20 h20=>o_ G (Builtin.copy_ #[99,99] 3 #[v19,v20]) h20 fun v21 h21=>o_ G (Instr.sliceAt 99 v9 (some (r 1)) none none) h21 fun v22 h22=>o_ G (Builtin.copy_ #[99,99] 3 #[v22,(r 2)]) h22 fun v23 h23=>
 K .ret (u10 (u10 (u10 r 56 (r 0) 57 (r 8) 58 (r 7) 59 v8 60 v9 0 v9 61 (r 2) 62 v9 63 (r 1) 64 (r 7)) 65 v10 66 v11 67 v12 68 v13 69 v9 70 (r 1) 71 (r 7) 72 v18 73 v19 74 v9) 75 (r 1) 76 v20 77 v21 78 v9 79 (r 1) 80 v22 81 (r 2) 82 v23 83 v9 6 v9) h23)
 (S144_k4 G K (u4 (u10 r 56 (r 0) 57 (r 8) 58 (r 7) 59 v8 60 v9 0 v9 61 (r 2) 62 v9 63 (r 1) 64 (r 7)) 65 v10 66 v11 67 v12 68 v13) h13)
def Yk:Prop:=
 o_ G (binOp .add 3 (r 8) (r 7)) h fun v5 h5=>o_ G (Builtin.cap_ #[99] 3 #[(r 0)]) h5 fun v6 h6=>o_ G (binOp .gtr 3 v5 v6) h6 fun v7 h7=>
 cond v7
 (o_ G (Instr.sliceAt 99 (r 0) none (some (r 1)) none) h7 fun v24 h24=>o_ G (binOp .add 3 (r 8) (r 7)) h24 fun v25 h25=>o_ G (binOp .sub 3 v25 (r 1)) h25 fun v26 h26=>o_ G (Builtin.append_ #[99,3] 99 #[v24,v26]) h26 fun v27 h27=>o_ G (Instr.sliceAt 99 v27 (some (r 1)) none none) h27 fun v28 h28=>o_ G (Builtin.copy_ #[99,99] 3 #[v28,(r 2)]) h28 fun v29 h29=>
 p_ (binOp .add 3 (r 1) (r 7)) h29 fun v30 h30=>
 p_ (Instr.sliceAt 99 v27 (some v30) none none) h30 fun v31 h31=>
 p_ (Instr.sliceAt 99 (r 0) (some (r 1)) none none) h31 fun v32 h32=>o_ G (Builtin.copy_ #[99,99] 3 #[v31,v32]) h32 fun v33 h33=>
 K .ret (u2 (u10 (u10 (u10 r 26 (r 8) 27 (r 7) 28 v5 29 (r 0) 30 v6 31 v7 32 (r 0) 33 (r 1) 34 v24 35 (r 8)) 36 (r 7) 37 v25 38 (r 1) 39 v26 40 v27 9 v27 41 v27 42 (r 1) 43 v28 44 (r 2)) 45 v29 46 v27 47 (r 1) 48 (r 7) 49 v30 50 v31 51 (r 0) 52 (r 1) 53 v32 54 v33) 55 v27 6 v27) h33)
 (Yj G K (u6 r 26 (r 8) 27 (r 7) 28 v5 29 (r 0) 30 v6 31 v7) h7)
def P1:Prop:=
 o_ G (Builtin.len_ #[99] 3 #[(r 0)]) h fun v3 h3=>
 opH P_ G (xEq .eql 3 (.tmp 0) (.tmp 0) (r 1) v3) h3 fun v4 h4=>
 cond v4
 (o_ G (Builtin.append_ #[99,99] 99 #[(r 0),(r 2)]) h4 fun v34 h34=>
 K .ret (u10 r 18 (r 0) 19 v3 8 v3 20 (r 1) 21 v3 22 v4 23 (r 0) 24 (r 2) 25 v34 6 v34) h34)
 (Yk G K (u6 r 18 (r 0) 19 v3 8 v3 20 (r 1) 21 v3 22 v4) h4)
def S144:Prop:=
 o_ G (Instr.sliceAt 99 (r 0) (some (r 1)) none none) h fun v0 h0=>o_ G (Builtin.len_ #[99] 3 #[(r 2)]) h0 fun v1 h1=>
 opH P_ G (xEq .eql 3 (.tmp 0) (.const .nilFunc) v1 (.int .i64 0)) h1 fun v2 h2=>
 (fun q=>cond v2
 (K .ret (u2 q 17 (r 0) 6 (r 0)) h2)
 (P1 G K q h2))
 (u9 r 6 (.slice none 0 0) 10 (r 0) 11 (r 1) 12 v0 13 (r 2) 14 v1 7 v1 15 v1 16 v2)
theorem as6:Ent 95 144 [.tmp 6] S144:=ent_ (m:=md144) (c:=(Tryz.f144.body.getD .skip)) (fun _ _ _ _=>by kernel_rfl) Tryz.func144 rfl rfl rfl
def md126:Nat->Hint
 |_=>mh false [] [] [] false
def S126:Prop:=
 o_ G (Instr.alloc 110 true (.tuple #[])) h fun v0 h0=>
 c_ G 154 #[(r 0)] h0 fun v1 h1=>
 c_ G 154 #[(r 1)] h1 fun v2 h2=>o_ G (Instr.build 110 #[(0,v1),(1,v2)]) h2 fun v3 h3=>
 opH P_ G (su (Instr.storeAt 110 v0 v3)) h3 fun v4 h4=>
 K .ret (u6 r 4 v0 5 (r 0) 6 v1 7 (r 1) 8 v2 9 v3) h4
theorem au0:Ent 10 126 [.cell 4 110] S126:=ent_ (m:=md126) (c:=(Tryz.f126.body.getD .skip)) (fun _ _ _ _=>by kernel_rfl) Tryz.func126 rfl rfl rfl
def md154:Nat->Hint
 |_=>mh false [] [] [] false
def S154:Prop:=
 o_ G (Builtin.min_ #[3,3] 3 #[(r 0),(.int .i64 4611686018427387904)]) h fun v0 h0=>o_ G (Builtin.max_ #[3,3] 3 #[(.int .i64 0),v0]) h0 fun v1 h1=>
 K .ret (u5 r 2 (.int .i64 0) 3 (r 0) 4 v0 5 v1 2 v1) h1
theorem ar8:Ent 6 154 [.tmp 2] S154:=ent_ (m:=md154) (c:=(Tryz.f154.body.getD .skip)) (fun _ _ _ _=>by kernel_rfl) Tryz.func154 rfl rfl rfl
end
end Go.Proofs.YtfflipnhffknnaaGreatDoor
end
section
namespace Go.Proofs.YtfflipnhffknnaaGreatDoor.Rv
open Go Go.HL Go.Proofs.Resv
def Ba:=jq bC (jq (jq (jq @Bool.true_and (jq @List.length_nil.{0} @and_true)) (jq (jq @wh @Xy) (jq @cf106 @S5))) (jq (jq (jq @O8 @ld98) (jq @ld99 @ln98)) (jq (jq @ln99 @ne34s) (jq @ju @true_and))))
def bo:Cod Slot:=⟨3,fun s=>[.int .i64 s.f,.int .i64 s.t,.int .i64 s.r],fun _=>rfl,fun _ v hv=>by simp at hv;rcases hv with rfl|rfl|rfl<;>rfl⟩
abbrev slotV (s:Slot):Value := .agg #[s.f,s.t,s.r]
abbrev oc (s:Slot):Obj := .cells #[s.f,s.t,s.r] 203 (0,0)
theorem eoslot:fg P_ 203 bo.n 24:=eo203
abbrev Sv:=Option Addr × Nat × Nat
def svC:Cod Sv:=⟨1,fun (s:Sv)=>[.slice s.1 s.2.1 s.2.2],fun _=>rfl,fun _ v hv=>by simp at hv;subst hv;rfl⟩
theorem eosv:fg P_ 99 svC.n 24:=⟨by kernel_rfl,by kernel_rfl,by kernel_rfl⟩
def TSee (G h:Hp) (tp:Nat) (T:List (List Slot)):Prop:=∃rb,af G h ⟨tp,0,none⟩=some (.slice (some ⟨rb,0,none⟩) T.length T.length)/\
 ∀c L,T[c]?=some L->∃a cap,af G h ⟨rb,c,none⟩=some (.slice a L.length cap)/\Sees bo G h (.slice a L.length cap) L
theorem TSee.up {G h h':Hp} {tp:Nat} {T:List (List Slot)} (s:TSee G h tp T) (l:h.le h') (d:Dis G h'):TSee G h' tp T:=by
 obtain ⟨rb,e1,e2⟩:=s
 exact ⟨rb,jh l d e1,fun c L hc=>let ⟨a,cap,e3,e4⟩:=e2 c L hc;⟨a,cap,jh l d e3,e4.up l d⟩⟩
def Rows (pb:Hp) (raws:List Sv) (T:List (List Slot)):Prop:=raws.length=T.length/\∀(i:Nat) (s:Sv) (L:List Slot),raws[i]?=some s->T[i]?=some L->s.2.1=L.length/\Slc bo 203 pb (.slice s.1 L.length s.2.2) L
def Tab (ty:TypeId) (a:Hp) (tp:Nat) (T:List (List Slot)):Prop:=∃rb raws pb,Sep [noHp.set tp (.cells #[.slice (some ⟨rb,0,none⟩) T.length T.length] ty (0,0)),noHp.set rb (.cells (svC.rows raws).toArray 99 (0,0)),pb] a/\Rows pb raws T
theorem sv_get {G h:Hp} {rb c:Nat} {raws:List Sv} {e:TypeId} {s:Sv} (hb:h rb=some (.cells (svC.rows raws).toArray e (0,0))) (hs:raws[c]?=some s):af G h ⟨rb,c,none⟩=some (.slice s.1 s.2.1 s.2.2):=by
 rw [aj (ai hb)]
 have:=svC.rows_get (t:=[]) (j:=0) hs (by decide)
 rw [List.append_nil,show svC.n=1 from rfl,Nat.mul_one,Nat.add_zero]at this
 exact this
theorem Tab.see {G a h:Hp} {ty:TypeId} {tp:Nat} {T:List (List Slot)} (t:Tab ty a tp T) (l:a.le h):TSee G h tp T:=by
 obtain ⟨rb,raws,pb,s,hl,hr⟩:=t
 refine ⟨rb,?_,fun c L hc=>?_⟩
 . rw [aj (ai (l _ _ (s.at 0 rfl ag)))]
   rfl
 . have hlt:c<raws.length:=by rw [hl];exact (List.getElem?_eq_some_iff.1 hc).1
   obtain ⟨e1,o⟩:=hr c _ L (List.getElem?_eq_getElem hlt) hc
   refine ⟨raws[c].1,raws[c].2.2,?_,o.sees (by decide) ((s.in 2 rfl).trans l)⟩
   rw [sv_get (l _ _ (s.at 1 rfl ag)) (List.getElem?_eq_getElem hlt),e1]
theorem Sees.slot {G h:Hp} {sa:Option Addr} {cap n:Nat} {L:List Slot} (s:Sees bo G h (.slice sa n cap) L) {i:Nat} {x:Slot} (hx:L[i]?=some x):
 ∃b o,sa=some ⟨b,o,none⟩/\af G h ⟨b,o+i*3,none⟩=some (.int .i64 x.f)/\af G h ⟨b,o+i*3+1,none⟩=some (.int .i64 x.t)/\af G h ⟨b,o+i*3+2,none⟩=some (.int .i64 x.r):=by
 obtain ⟨b,o,c,e1,e2⟩:=s.get hx
 simp only [Value.slice.injEq]at e1
 obtain ⟨rfl,-,-⟩:=e1
 have x0:=e2 0 (by decide)
 have x1:=e2 1 (by decide)
 have x2:=e2 2 (by decide)
 simp only [bo,Nat.add_zero,List.getElem?_cons_zero,List.getElem?_cons_succ]at x0 x1 x2
 exact ⟨b,o,rfl,x0,x1,x2⟩
def hasB (T:List (List Slot)) (c:Int):Bool:=decide (0<=c)&&decide (c<T.length)
theorem Hs {G h:Hp} {tp:Nat} {T:List (List Slot)} {c:Int} (ts:TSee G h tp T):al P_ G 103 #[.pointer (some ⟨tp,0,none⟩),c] h (fun u h'=>u = .bool (hasB T c)/\h'=h):=by
 obtain ⟨rb,e1,_⟩:=ts
 refine av7 (by simp) ?_
 unfold S103 hasB
 try simp only [Ba]
 by_cases h0:0<=c
 . try simp only [Ba,decide_eq_true h0,show decide (c>=0)=true from decide_eq_true h0,e1]
 . try simp only [Ba,decide_eq_false h0,show decide (c>=0)=false from decide_eq_false h0,e1,Bool.false_and]
theorem pi {G h:Hp} {tp:Nat} {T:List (List Slot)} (ts:TSee G h tp T):al P_ G 26 #[.pointer (some ⟨tp,0,none⟩)] h (fun u h'=>u = .int .i64 T.length/\h'=h):=by
 obtain ⟨rb,e1,_⟩:=ts
 refine enter26 (by simp) ?_
 unfold S26
 try simp only [Ba]
 unfold aD6
 try simp (disch:=decide) only [Ba,e1]
theorem Lj {G h:Hp} {v:Value} {L:List Slot} (sv:Sees bo G h v L) (hL:L.length<=100000):al P_ G 106 #[v] h (fun u h'=>∃b,Slc bo 203 b u L/\Sep [b,h] h'/\Dis G h'):=by
 obtain ⟨sa,cap,rfl⟩:=sv.len
 refine al.assume fun d=>av4 (by simp) ?_
 unfold S106
 simp only [Ba]
 by_cases hL0:L=[]
 . subst hL0
   try simp only [Ba,List.length_nil,show (((0:Nat):Int)==0)=true from rfl]
   exact ⟨noHp,Slc.nil,Sep.one.none,d⟩
 . have hpos:=List.length_pos_iff.2 hL0
   have e:((L.length:Int)==0)=false:=by
    have:(L.length:Int)≠0:=by omega
    simpa using this
   try simp only [Ba,e]
   unfold Zg
   try simp (disch:=decide) only [Ba]
   rw [tt bo ⟨0,0,0⟩ (by decide) un99 eoslot (by kernel_rfl) (by omega) (by omega)]
   intro x hx gx
   have d1:=d.set (o := .cells (bo.rows (List.replicate L.length (⟨0,0,0⟩:Slot))).toArray 203 (0,0)) gx
   rw [Te bo (by decide) un99 eoslot (L:=L) ag (by simp) (sv.up (di hx) d1) hL0 rfl,set_set]
   try simp (disch:=first|decide|omega) only [Ba,Nat.reduceAdd,Nat.reduceMul]
   exact ⟨noHp.set x _,⟨some x,_,[],rfl,by rw [ag,List.append_nil],by rw [List.append_nil,bo.rows_length]⟩,Sep.one.new hx,d.set gx⟩
def dc:=jq bC (jq (jq (jq (jq @Ty @and_true) (jq @zj @cf143)) (jq (jq @O8 @Am) (jq @Al @Ak))) (jq (jq (jq @Rs @ld3) (jq @ld98 @ld99)) (jq (jq @ln99 @ju) (jq @jt (jq @Gr @true_and)))))
theorem Lw {L:List Slot} {i:Nat} {s:Slot} {r f t:Int} (hs:L[i]?=some s):mn (L.take (i+1)) r f t=(mn (L.take i) r f t&&(s.r==r || !(decide (s.f<t)&&decide (f<s.t)))):=by
 unfold mn
 rw [List.take_add_one,hs,List.all_append]
 simp
theorem Sd {L:List Slot} {i:Nat} {s:Slot} {r f t:Int} (hs:L[i]?=some s) (h:(s.r==r || !(decide (s.f<t)&&decide (f<s.t)))=false):mn L r f t=false:=by
 unfold mn
 rw [List.all_eq_false]
 exact ⟨s,List.mem_of_getElem? hs,by rw [h];simp⟩
theorem Af {G h:Hp} {tp:Nat} {T:List (List Slot)} {L:List Slot} {c r f t:Int} (ts:TSee G h tp T) (h0:0<=c) (hL:T[c.toNat]?=some L) (hlen:L.length<=100000):
 al P_ G 104 #[.pointer (some ⟨tp,0,none⟩),r,c,f,t] h (fun u h'=>u = .bool (mn L r f t)/\h'=h):=by
 have h1:c<T.length:=by have:=(List.getElem?_eq_some_iff.1 hL).1;omega
 obtain ⟨rb,e1,e2⟩:=ts
 obtain ⟨a,cap,e3,e4⟩:=e2 _ _ hL
 refine al.assume fun d=>quietly (av6 (by simp) ?_)
 unfold S104
 simp only [dc,e1,ix98 h0 h1,Nat.mul_one,e3]
 refine b8 (fun m q h3=>∃i:Nat,m=L.length-i/\i<=L.length/\q 1 = .int .i64 r/\q 3 = .int .i64 f/\q 4 = .int .i64 t/\q 10 = .bool false/\q 19 = .slice a L.length cap/\q 20 = .int .i64 L.length/\q 21 = .int .i64 i/\h.le h3/\Dis G h3/\mn (L.take i) r f t=true) ?_
  (m:=L.length) ⟨0,rfl,Nat.zero_le _,by simp (disch:=decide) only [dc],by simp (disch:=decide) only [dc],by simp (disch:=decide) only [dc],by simp (disch:=decide) only [dc],by simp (disch:=decide) only [dc],by simp (disch:=decide) only [dc],by simp only [dc]<;>rfl,Hp.le.refl h,d,rfl⟩
 rintro m q h3 ⟨i,rfl,hi,q1,q3,q4,q10,q19,q20,q21,l3,d3,hf⟩ X HX
 unfold Zj
 simp only [dc,q20,q21]
 refine bm (fun hlt=>?_) (fun hge=>?_)
 rotate_left
 . obtain rfl:i=L.length:=by omega
   rw [List.take_of_length_le (Nat.le_refl _)]at hf
   try simp (disch:=first|decide|omega) only [dc,Nat.reduceAdd,Nat.reduceMul]
   unfold Qc
   try simp only [dc]
   exact ⟨by rw [hf],l3⟩
 obtain ⟨s,hs⟩:∃s,L[i]?=some s:=⟨_,List.getElem?_eq_getElem (by omega)⟩
 obtain ⟨b,o,rfl,z0,z1,z2⟩:=Sees.slot (e4.up l3 d3) hs
 unfold J8
 simp (disch:=first|decide|exact ao|exact am|omega|rfl) only [dc,q19,q21,ix99 (Int.natCast_nonneg i) hlt,z0,z1,z2]
 intro x hx gx
 simp only [dc,q1]
 generalize eh:Hp.set h3 x _=h4
 obtain ⟨l4,d4,b4⟩:=boxed eh hx d3 gx
 have cx:∀j,af G h4 ⟨x,j,none⟩=_:=fun j=>aj (ai b4)
 have k4:∀q':Rg,q' 1 = .int .i64 r->q' 3 = .int .i64 f->q' 4 = .int .i64 t->q' 10 = .bool false->q' 19=q 19->q' 20=q 20->q' 21=q 21->(s.r==r || !(decide (s.f<t)&&decide (f<s.t)))=true->Cg G (bv X (bn 0 (bv (Qc G (retK P_ G [.tmp 10] fun u h'=>u = .bool (mn L r f t)/\h.le h')) (retK P_ G [.tmp 10] fun u h'=>u = .bool (mn L r f t)/\h.le h')))) q' h4:=by
  intro q' p1 p3 p4 p10 p19 p20 p21 hc
  unfold Cg
  simp (disch:=first|decide|omega) only [dc,p21,q21]
  exact HX (L.length-(i+1)) _ _ (by omega) ⟨i+1,rfl,by omega,by simp (disch:=decide) only [dc,p1],by simp (disch:=decide) only [dc,p3],by simp (disch:=decide) only [dc,p4],by simp (disch:=decide) only [dc,p10],by simp (disch:=decide) only [dc,p19,q19],by simp (disch:=decide) only [dc,p20,q20],by simp only [dc]<;>rfl,l3.trans l4,d4,by rw [Lw hs,hf,hc];rfl⟩
 cases hb:(s.r != r)with
 |false=>
  try simp only [dc,dw,hb]
  exact k4 _ (by simp (disch:=decide) only [dc,q1]) (by simp (disch:=decide) only [dc,q3]) (by simp (disch:=decide) only [dc,q4]) (by simp (disch:=decide) only [dc,q10]) (by simp (disch:=decide) only [dc]) (by simp (disch:=decide) only [dc]) (by simp (disch:=decide) only [dc]) (by simp at hb;simp [hb])
 |true=>
  try simp only [dc,cx,q4]
  by_cases hb2:s.f<t
  . try simp only [dc,decide_eq_true hb2,q3,cx]
    refine bm (fun hb3=>?_) (fun hb3=>?_)
    . try simp (disch:=first|decide|omega) only [dc,Nat.reduceAdd,Nat.reduceMul]
      have:(s.r==r || !(decide (s.f<t)&&decide (f<s.t)))=false:=by simp at hb;simp [hb,hb2,hb3]
      exact ⟨by rw [Sd hs this],l3.trans l4⟩
    . exact k4 _ (by simp (disch:=decide) only [dc,q1]) (by simp (disch:=decide) only [dc,q3]) (by simp (disch:=decide) only [dc,q4]) (by simp (disch:=decide) only [dc,q10]) (by simp (disch:=decide) only [dc]) (by simp (disch:=decide) only [dc]) (by simp (disch:=decide) only [dc]) (by simp [hb3])
  . try simp only [dc,decide_eq_false hb2,dw]
    exact k4 _ (by simp (disch:=decide) only [dc,q1]) (by simp (disch:=decide) only [dc,q3]) (by simp (disch:=decide) only [dc,q4]) (by simp (disch:=decide) only [dc,q10]) (by simp (disch:=decide) only [dc]) (by simp (disch:=decide) only [dc]) (by simp (disch:=decide) only [dc]) (by simp [hb2])
theorem cv_iu {G h:Hp} {x:Int} {K:VK}:wpH P_ G (convert 3 272 (.int .i64 x)) h K=K (.int .u64 (IntKind.u64.wrap x)) h:=by kernel_rfl
theorem cv_ui {G h:Hp} {x:Int} {K:VK}:wpH P_ G (convert 272 3 (.int .u64 x)) h K=K (IntKind.i64.wrap x) h:=by kernel_rfl
theorem shr1 {G h:Hp} {x:Int} {K:VK}:wpH P_ G (binOp .shr 272 (.int .u64 x) (.int .u64 1)) h K=K (.int .u64 (x.fdiv 2)) h:=by kernel_rfl
theorem wrap_u {x:Int} (h1:0<=x) (h2:x<18446744073709551616):IntKind.u64.wrap x=x:=by simp [IntKind.wrap,IntKind.bits,IntKind.signed];omega
theorem half {i j:Nat}:((i:Int)+(j:Int)).fdiv 2=(((i+j) / 2:Nat):Int):=by
 rw [Int.fdiv_eq_ediv_of_nonneg _ (by decide)]
 omega
theorem Dc {G h:Hp} {s:Slot} {n:Int} (h1:0<=s.f) (h2:s.f<=FV) (h3:0<=n) (h4:n<=FV):al P_ G 143 #[slotV s,n] h (fun u h'=>u = .int .i64 (s.f-n)/\h'=h):=by
 refine al.assume fun d=>quietly (as7 (by simp) ?_)
 unfold S143
 simp only [dc]
 intro x hx gx
 have e:IntKind.i64.wrap (s.f-n)=s.f-n:=ky (by unfold FV at *;omega) (by unfold FV at *;omega)
 simp only [dc,e]
 exact di hx
theorem Tl {G h:Hp} {a b:Value} {K:VK}:opH P_ G (ig (.func (.func 143) #[] #[]) #[a,b]) h K=al P_ G 143 #[a,b] h K:=by kernel_rfl
def rank (L:List Slot) (n:Int):Nat:=(L.takeWhile fun s=>decide (s.f<n)).length
theorem rank_at:∀{L:List Slot} {n:Int},L.Pairwise (fun a b=>a.f<=b.f)->∀(i:Nat) (s:Slot),L[i]?=some s->(s.f<n↔i<rank L n):=by
 intro L n hp i s hs
 unfold rank
 have e:=List.takeWhile_append_dropWhile (p:=fun s=>decide (s.f<n)) (l:=L)
 constructor
 . intro h
   refine Nat.lt_of_not_le fun hle=>?_
   rw [<- e,List.getElem?_append_right hle]at hs
   have:=Xu hp s (List.mem_of_getElem? hs)
   omega
 . intro h
   rw [<- e,List.getElem?_append_left h]at hs
   exact Wc s (List.mem_of_getElem? hs)
theorem Wm {L:List Slot} {n:Int}:rank L n<=L.length:=by
 unfold rank
 have:=congrArg List.length (List.takeWhile_append_dropWhile (p:=fun s=>decide (s.f<n)) (l:=L))
 rw [List.length_append]at this
 omega
theorem Qt {G h:Hp} {v:Value} {L:List Slot} {n:Int} (sv:Sees bo G h v L) (hlen:L.length<=100000) (hp:L.Pairwise fun a b=>a.f<=b.f) (hf:∀s∈L,0<=s.f/\s.f<=FV) (h3:0<=n) (h4:n<=FV):
 al P_ G 142 #[v,n,.func (.func 143) #[] #[]] h (fun u h'=>(∃b,u = .tuple #[(rank L n),.bool b])/\h'=h):=by
 obtain ⟨sa,cap,rfl⟩:=sv.len
 refine as8 (by simp) ?_
 unfold S142
 simp only [dc]
 refine b8 (fun m q h3=>∃i j:Nat,m=j-i/\i<=rank L n/\rank L n<=j/\j<=L.length/\q 0 = .slice sa L.length cap/\q 1 = .int .i64 n/\q 2 = .func (.func 143) #[] #[]/\q 8 = .int .i64 L.length/\q 9 = .int .i64 i/\q 10 = .int .i64 j/\h3=h) ?_
  (m:=L.length) ⟨0,L.length,by omega,Nat.zero_le _,Wm,Nat.le_refl _,by simp (disch:=decide) only [dc],by simp (disch:=decide) only [dc],by simp (disch:=decide) only [dc],by simp (disch:=decide) only [dc],by simp (disch:=decide) only [dc]<;>rfl,by simp only [dc],rfl⟩
 rintro m q h3' ⟨i,j,rfl,hi,hj,hjl,q0,q1,q2,q8,q9,q10,rfl⟩ X HX
 unfold Ym
 simp only [dc,q9,q10]
 refine bm (fun hlt=>?_) (fun hge=>?_)
 . have hlt':i<j:=by omega
   have hm:(i+j) / 2<L.length:=by omega
   obtain ⟨s,hs⟩:∃s,L[(i+j) / 2]?=some s:=⟨_,List.getElem?_eq_getElem hm⟩
   obtain ⟨b,o,rfl,z0,z1,z2⟩:=Sees.slot sv hs
   obtain ⟨f0,f1⟩:=hf s (List.mem_of_getElem? hs)
   have w1:IntKind.i64.wrap ((i:Int)+(j:Int))=(i:Int)+(j:Int):=ky (by omega) (by omega)
   have w2:IntKind.u64.wrap ((i:Int)+(j:Int))=(i:Int)+(j:Int):=wrap_u (by omega) (by omega)
   have w3:IntKind.i64.wrap (((i+j) / 2:Nat):Int)=(((i+j) / 2:Nat):Int):=ky (by omega) (by omega)
   have hm':(((i+j) / 2:Nat):Int)<(L.length:Int):=by omega
   unfold Jd
   simp (disch:=first|decide|omega) only [dc,q0,q1,q2,q9,q10,cv_iu,w1,w2,shr1,half,cv_ui,w3,ix99 (Int.natCast_nonneg ((i+j) / 2)) hm',z0,z1,z2,Tl]
   refine (Dc f0 f1 h3 h4).mono ?_
   rintro _ _ ⟨rfl,rfl⟩
   have hr:=rank_at hp _ _ hs (n:=n)
   simp only [dc]
   refine bm (fun hlt2=>?_) (fun hge2=>?_)
   . have:(i+j) / 2<rank L n:=hr.1 (by omega)
     try simp (disch:=first|decide|omega) only [dc,Nat.reduceAdd,Nat.reduceMul]
     refine HX (j-((i+j) / 2+1)) _ _ (by omega) ⟨(i+j) / 2+1,j,rfl,by omega,hj,hjl,by simp (disch:=decide) only [dc,q0],by simp (disch:=decide) only [dc,q1],by simp (disch:=decide) only [dc,q2],by simp (disch:=decide) only [dc,q8],by simp only [dc]<;>rfl,by simp (disch:=decide) only [dc,q10],rfl⟩
   . have:¬(i+j) / 2<rank L n:=fun h=>hge2 (by have:=hr.2 h;omega)
     try simp (disch:=first|decide|omega) only [dc,Nat.reduceAdd,Nat.reduceMul]
     refine HX ((i+j) / 2-i) _ _ (by omega) ⟨i,(i+j) / 2,rfl,hi,by omega,by omega,by simp (disch:=decide) only [dc,q0],by simp (disch:=decide) only [dc,q1],by simp (disch:=decide) only [dc,q2],by simp (disch:=decide) only [dc,q8],by simp (disch:=decide) only [dc,q9],by simp only [dc],rfl⟩
 obtain rfl:i=rank L n:=by omega
 try simp (disch:=first|decide|omega) only [dc,Nat.reduceAdd,Nat.reduceMul]
 unfold Yn
 simp (disch:=decide) only [dc,q8,q9]
 by_cases hlt:rank L n<L.length
 . obtain ⟨s,hs⟩:∃s,L[rank L n]?=some s:=⟨_,List.getElem?_eq_getElem hlt⟩
   obtain ⟨b,o,rfl,z0,z1,z2⟩:=Sees.slot sv hs
   obtain ⟨f0,f1⟩:=hf s (List.mem_of_getElem? hs)
   have hlt':((rank L n:Nat):Int)<(L.length:Int):=by omega
   simp only [dc,decide_eq_true hlt',q0,q1,q2,q9,ix99 (Int.natCast_nonneg (rank L n)) hlt',z0,z1,z2,Tl]
   refine (Dc f0 f1 h3 h4).mono ?_
   rintro _ _ ⟨rfl,rfl⟩
   simp only [dc]
   exact ⟨_,rfl⟩
 . have hlt':¬((rank L n:Nat):Int)<(L.length:Int):=by omega
   simp only [dc,decide_eq_false hlt',dw]
   exact ⟨_,rfl⟩
def qy:=jq bC (jq @kv @ln99)
theorem ap9:(Tryz.f162.name == "runtime.NumGoroutine")=false:=by kernel_rfl
theorem aq1:Tryz.f162.body.isNone=true:=by kernel_rfl
theorem ap8:(Extern.findNext Tryz.f162).isNone=true:=by kernel_rfl
theorem aq0:Extern.find Tryz.f162=some (Extern.SlicesOverlaps.overlaps Tryz.f162.params Tryz.f162.resultTypes):=by kernel_rfl
theorem U7:Tryz.f162.params=#[99,99]:=by kernel_rfl
theorem over_eq {G h:Hp} {a b:Value} {K:VK}:opH P_ G (callFunc 162 #[a,b]) h K=wpH P_ G (Extern.SlicesOverlaps.overlaps Tryz.f162.params Tryz.f162.resultTypes #[a,b]) h K:=by
 have hb':∀(α β:Type) (s:Sem α) (g:α->Sem β),(s >>= g)=s.bind g:=fun _ _ _ _=>rfl
 have hn:Extern.findNext Tryz.f162=none:=by simpa using ap8
 have hx:=Tryz.func162
 unfold opH callFunc
 simp only [hb',program,Sem.bind,wpH,hx,ap9,aq1,if_true,Bool.false_eq_true,if_false,mark,hn,aq0,pure]
 rw [bq]
 rfl
theorem over_no {G h:Hp} {x b o la ca lb cb:Nat} {cs cs2:Array Value} {e e2:TypeId} (hx:h x=some (.cells cs e (0,0))) (hb:h b=some (.cells cs2 e2 (0,0))) (hne:x≠b) {K:VK}:
 opH P_ G (callFunc 162 #[.slice (some ⟨x,0,none⟩) la ca,.slice (some ⟨b,o,none⟩) lb cb]) h K=K (.bool false) h:=by
 rw [over_eq]
 have hb':∀(α β:Type) (s:Sem α) (g:α->Sem β),(s >>= g)=s.bind g:=fun _ _ _ _=>rfl
 have lx:HL.look G h x=some (.cells cs e (0,0)):=ai hx
 have lb':HL.look G h b=some (.cells cs2 e2 (0,0)):=ai hb
 obtain ⟨i,z,hi,hsz,_⟩:=eoslot.get
 rw [U7]
 conv=>lhs;arg 3;whnf
 simp only [hb',underlying,program,sizeOf,typeInfo,Sem.bind,pure,wpH,bq,un99,hi,List.getElem?_toArray,List.getElem?_cons_zero]
 rw [show (#[99,99]:Array TypeId)[0]=99 from rfl,un99]
 simp only [wpH,bq,hi]
 split
 . rfl
 . have hxb:(x != b)=true:=by simpa using hne
   have hxb2:(x==b)=false:=by simpa using hne
   simp [frozen,noView,viewAt,mayBeOne,stringish,shape,wpH,bq,lx,lb',pt,Cy,hxb,hxb2,bind,pure,getObj,Sem.bind]
theorem cap32 {G h:Hp} {a:Option Addr} {n c:Nat} {K:VK}:wpH P_ G (Builtin.cap_ #[99] 3 #[.slice a n c]) h K=K c h:=by kernel_rfl
theorem add0 {b n:Nat}:(⟨b,0,none⟩:Addr).add n=⟨b,n,none⟩:=by rw [mz,Nat.zero_add]
theorem Ub {A D:List Slot} {x:Slot} {zs:List Value} {m:Nat}:∃rest,(((bo.rows A++zs).take (A.length*3)++bo.rows [x]++(bo.rows A++zs).drop (A.length*3+[x].length*bo.n)).take ((A.length+1)*3)++bo.rows D++
 ((bo.rows A++zs).take (A.length*3)++bo.rows [x]++(bo.rows A++zs).drop (A.length*3+[x].length*bo.n)).drop m)=bo.rows (A++x::D)++rest:=by
 have e1:(bo.rows A++zs).take (A.length*3)=bo.rows A:=List.take_left' (by rw [bo.rows_length];rfl)
 rw [e1,<- bo.rows_append]
 rw [List.take_left' (l₁:=bo.rows (A++[x])) (by rw [bo.rows_length];simp;rfl),<- bo.rows_append]
 rw [show A++[x]++D=A++x::D by simp]
 exact ⟨_,rfl⟩
theorem Zt {L:List Slot} {i:Nat} {x:Slot} {t:List Value} (hi:i<L.length) {m:Nat}:∃rest,(((bo.rows L++t).take ((i+1)*3)++bo.rows (L.drop i)++(bo.rows L++t).drop m).take (i*3)++bo.rows [x]++
 ((bo.rows L++t).take ((i+1)*3)++bo.rows (L.drop i)++(bo.rows L++t).drop m).drop (i*3+[x].length*bo.n))=bo.rows (L.take i++x::L.drop i)++rest:=by
 refine ⟨(bo.rows L++t).drop m,?_⟩
 have e1:(bo.rows L++t).take ((i+1)*3)=bo.rows (L.take (i+1)):=bo.rows_take (by omega)
 rw [e1,<- bo.rows_append]
 have hlen:(L.take (i+1)++L.drop i).length=L.length+1:=by simp;omega
 have e2:=bo.rows_take (L:=L.take (i+1)++L.drop i) (t:=(bo.rows L++t).drop m) (k:=i) (by omega)
 have e3:=bo.rows_drop (L:=L.take (i+1)++L.drop i) (t:=(bo.rows L++t).drop m) (k:=i+1) (by omega)
 rw [show bo.n=3 from rfl]at e2 e3 ⊢
 rw [e2,show i*3+[x].length*3=(i+1)*3 by simp;omega,e3]
 have t1:(L.take (i+1)++L.drop i).take i=L.take i:=by
  rw [List.take_append_of_le_length (by simp;omega),List.take_take]
  congr 1;omega
 have t2:(L.take (i+1)++L.drop i).drop (i+1)=L.drop i:=List.drop_left' (by simp;omega)
 rw [t1,t2,<- bo.rows_append,<- List.append_assoc,<- bo.rows_append]
 simp
theorem R5 {G h a:Hp} {R:List Hp} {v:Value} {L:List Slot} {i xb:Nat} {x:Slot} (s:Sep (a::R) h) (d:Dis G h) (o:Slc bo 203 a v L) (hx:h xb=some (oc x)) (hxa:a xb=none) (hi:i<=L.length) (hlen:L.length<=100000):
 al P_ G 144 #[v,i,.slice (some ⟨xb,0,none⟩) 1 1] h (fun u h'=>∃a',Slc bo 203 a' u (L.take i++x::L.drop i)/\Sep (a'::R) h'/\Dis G h'):=by
 refine as6 (by simp) ?_
 unfold S144
 have sx:Sees bo G h (.slice (some ⟨xb,0,none⟩) 1 1) [x]:=Sees.row (c:=bo) (L:=[x]) hx rfl (Nat.le_refl _)
 obtain ⟨ob,o⟩:=o
 cases ob with
 |none=>
  obtain ⟨rfl,rfl⟩:=o
  obtain rfl:i=0:=by simpa using hi
  simp only [qy,show ((0:Nat):Int)=0 from rfl,Ex un99 qh,show (((1:Nat):Int)==0)=false from rfl]
  unfold P1
  simp (disch:=decide) only [qy,show ((0:Nat):Int)=0 from rfl,show ((0:Int)==0)=true from rfl]
  refine dm bo (by decide) un99 eoslot (by decide) (by decide) (M:=[x]) s d Slc.nil sx (by simp) fun v' a' h' o' s' d'=>?_
  try simp (disch:=first|decide|omega) only [qy,Nat.reduceAdd,Nat.reduceMul]
  exact ⟨a',o',s',d'⟩
 |some b=>
  obtain ⟨cap,t,rfl,hb,hl⟩:=o
  have hc:L.length<=cap:=by
   have:=congrArg (fun n=>n) hl
   rw [List.length_append,bo.rows_length]at hl
   have:bo.n=3:=rfl
   rw [this]at hl
   omega
  have ow:Slc bo 203 a (.slice (some ⟨b,0,none⟩) L.length cap) L:=⟨some b,cap,t,rfl,hb,hl⟩
  have sv:=ow.sees (G:=G) (by decide) s.hd
  have hbh:=s.hd _ _ hb
  have hne:xb≠b:=fun e=>by rw [e,hb]at hxa;cases hxa
  simp only [qy,nk un99 qh (Int.natCast_nonneg i) (show (i:Int)<=(L.length:Nat)by omega) hc,show (((1:Nat):Int)==0)=false from rfl]
  unfold P1
  simp (disch:=decide) only [qy]
  by_cases hin:i=L.length
  . subst hin
    simp only [qy,show ((L.length:Int)==(L.length:Int))=true by simp]
    refine dm bo (by decide) un99 eoslot (by decide) (by decide) (M:=[x]) s d ow sx (by simp;omega) fun v' a' h' o' s' d'=>?_
    try simp (disch:=first|decide|omega) only [qy,Nat.reduceAdd,Nat.reduceMul]
    refine ⟨a',?_,s',d'⟩
    rw [List.take_of_length_le (Nat.le_refl _),List.drop_of_length_le (Nat.le_refl _)]
    exact o'
  have hin':i<L.length:=by omega
  simp only [qy,show ((i:Int)==(L.length:Int))=false by simp;omega]
  unfold Yk
  have w1:IntKind.i64.wrap ((L.length:Int)+((1:Nat):Int))=((L.length+1:Nat):Int):=by rw [ky (by omega) (by omega)];omega
  simp (disch:=first|decide|omega) only [qy,w1,cap32]
  refine bm (fun hgt=>?_) (fun hle=>?_)
  . -- a new row
    have hcap:cap=L.length:=by omega
    have lt1:(L.take i).length=i:=by rw [List.length_take];omega
    have s0:Src G h bo.n (.slice (some ⟨b,0,none⟩) i cap) i (bo.rows (L.take i)):=by
     refine ⟨by rw [bo.rows_length,lt1],.inr ⟨b,0,cap,rfl,fun j hj=>?_⟩⟩
     rw [aj (ai hbh),Nat.zero_add,bo.rows_split L i,List.append_assoc,List.getElem?_append_left hj]
    have w2:((L.length+1:Nat):Int)-(i:Int)=((L.length+1-i:Nat):Int):=by omega
    simp only [qy,ye un99 qh (Int.natCast_nonneg i) (show (i:Int)<=(cap:Nat)by omega),w1,w2]
    refine Tw un99 (show P_.underlying 3=some (.int .i64)by kernel_rfl) eoslot (by decide) s0 (by omega) (by omega) (by omega) fun q cap' zs hq gq hcap' hzl=>?_
    have ei:i+(L.length+1-i)=L.length+1:=by omega
    rw [ei]at hcap' ⊢
    have hzl':zs.length=cap'*3-i*3:=by
     rw [List.length_append,bo.rows_length,lt1]at hzl
     have:bo.n=3:=rfl
     rw [this]at hzl
     omega
    generalize e2:Hp.set h q _=h2
    obtain ⟨l2,d2,b2⟩:=boxed e2 hq d gq
    have hw:(i:Int)+((1:Nat):Int)=((i+1:Nat):Int):=by omega
    simp only [qy,nk un99 qh (Int.natCast_nonneg i) (show (i:Int)<=(L.length+1:Nat)by omega) hcap',if_neg (show ¬cap'=i by omega),add0]
    rw [Xx bo (by decide) un99 eoslot (M:=[x]) b2 ((sx.up l2 d2).src (by decide) (by simp)) (by simp;omega) (by rw [hzl,show bo.n=3 from rfl,List.length_singleton];omega)]
    generalize e3:Hp.set h2 q _=h3
    have b3:=Ud e3
    have hqb:q≠b:=fun e=>by rw [e,hbh]at hq;cases hq
    have hb3:h3 b=some (.cells (bo.rows L++t).toArray 203 (0,0)):=by rw [D0 e3 (Ne.symm hqb)];exact l2 _ _ hbh
    simp only [qy,hw,tn un99 qh (Int.natCast_nonneg (i+1)) (show ((i+1:Nat):Int)<=(L.length+1:Nat)by omega) hcap',if_neg (show ¬cap'=i+1 by omega),add0,tn un99 qh (Int.natCast_nonneg i) (show (i:Int)<=(L.length:Nat)by omega) hc,if_neg (show ¬cap=i by omega)]
    have hdl:(L.drop i).length=L.length-i:=List.length_drop
    rw [Ma bo (by decide) un99 eoslot (M:=L.drop i) b3 (by rw [hdl];exact Nat.min_eq_left (by omega)) (fun j hj=>by
     rw [aj (ai hb3),bo.rows_split L i,List.append_assoc,List.getElem?_append_right (by rw [bo.rows_length,lt1];exact Nat.le_add_right _ _),bo.rows_length,lt1,show i*3+j-i*bo.n=j by rw [show bo.n=3 from rfl];omega,List.getElem?_append_left hj]) (by
     rw [hdl,show bo.n=3 from rfl]
     simp only [List.length_append,List.length_take,List.length_drop,bo.rows_length,lt1,show bo.n=3 from rfl,List.length_singleton,hzl']
     omega)]
    rw [show i*3=(L.take i).length*3 by rw [lt1],show (i+1)*3=((L.take i).length+1)*3 by rw [lt1]]
    obtain ⟨rest,er⟩:=Ub (A:=L.take i) (D:=L.drop i) (x:=x) (zs:=zs) (m:=((L.take i).length+1)*3+(L.drop i).length*bo.n)
    have hlr:=congrArg List.length er
    rw [er]
    have sq:HL.Sep (noHp.set q (.cells (bo.rows (L.take i++x::L.drop i)++rest).toArray 203 (0,0))::a::R) (h3.set q (.cells (bo.rows (L.take i++x::L.drop i)++rest).toArray 203 (0,0))):=by
     have s1:=s.new (o := .cells (bo.rows (L.take i)++zs).toArray 203 (0,0)) hq
     rw [e2]at s1
     have s2:=s1.put (o:=Obj.cells (bo.rows (L.take i++x::L.drop i)++rest).toArray 203 (0,0)) ag
     rw [set_set]at s2
     rw [<- e3,set_set]
     exact s2
    try simp (disch:=first|decide|omega) only [qy,Nat.reduceAdd,Nat.reduceMul]
    refine ⟨_,⟨some q,cap',rest,?_,ag,?_⟩,sq.swap.drop,?_⟩
    . rw [List.length_append,List.length_cons,lt1,hdl,show i+(L.length-i+1)=L.length+1 by omega]
    . rw [<- hlr]
      simp only [List.length_append,List.length_take,List.length_drop,bo.rows_length,lt1,show bo.n=3 from rfl,List.length_singleton,hzl',hdl]
      omega
    . have d3:Dis G h3:=by rw [<- e3];exact d2.set gq
      exact d3.set gq
  . -- room in the row
    have hcap:L.length+1<=cap:=by omega
    have hl3:(bo.rows L++t).length=cap*3:=hl
    unfold Yj
    have hw:(i:Int)+((1:Nat):Int)=((i+1:Nat):Int):=by omega
    simp (disch:=first|decide|omega) only [qy,w1,ye un99 qh (Int.natCast_nonneg (L.length+1)) (show ((L.length+1:Nat):Int)<=(cap:Nat)by omega),hw,nk un99 qh (Int.natCast_nonneg (i+1)) (show ((i+1:Nat):Int)<=(L.length+1:Nat)by omega) hcap,if_neg (show ¬cap=i+1 by omega),add0]
    rw [over_no hx hbh hne]
    simp only [qy,hw,tn un99 qh (Int.natCast_nonneg (i+1)) (show ((i+1:Nat):Int)<=(L.length+1:Nat)by omega) hcap,if_neg (show ¬cap=i+1 by omega),add0,tn un99 qh (Int.natCast_nonneg i) (show ((i:Nat):Int)<=(L.length+1:Nat)by omega) hcap,if_neg (show ¬cap=i by omega)]
    have hdl:(L.drop i).length=L.length-i:=List.length_drop
    have lt1:(L.take i).length=i:=by rw [List.length_take];omega
    rw [Ma bo (by decide) un99 eoslot (M:=L.drop i) hbh (by rw [hdl];show min (L.length+1-i) (L.length+1-(i+1))=L.length-i;omega) (fun j hj=>by
     rw [aj (ai hbh),bo.rows_split L i,List.append_assoc,List.getElem?_append_right (by rw [bo.rows_length,lt1];exact Nat.le_add_right _ _),bo.rows_length,lt1,show i*3+j-i*bo.n=j by rw [show bo.n=3 from rfl];omega,List.getElem?_append_left hj]) (by
     rw [hdl,show bo.n=3 from rfl,hl3]
     omega)]
    generalize e3:Hp.set h b _=h3
    have b3:=Ud e3
    have d3:Dis G h3:=by rw [<- e3];exact d.set (d _ _ hbh)
    have hx3:h3 xb=some (oc x):=by rw [D0 e3 hne];exact hx
    have sx3:Sees bo G h3 (.slice (some ⟨xb,0,none⟩) 1 1) [x]:=Sees.row (c:=bo) (L:=[x]) hx3 rfl (Nat.le_refl _)
    simp only [qy,nk un99 qh (Int.natCast_nonneg i) (show ((i:Nat):Int)<=(L.length+1:Nat)by omega) hcap,if_neg (show ¬cap=i by omega),add0]
    rw [Xx bo (by decide) un99 eoslot (M:=[x]) b3 (sx3.src (by decide) (by simp)) (by simp;omega) (by
     simp only [List.length_append,List.length_take,List.length_drop,bo.rows_length,lt1,show bo.n=3 from rfl,List.length_singleton,hdl]
     rw [List.length_append,bo.rows_length,show bo.n=3 from rfl]at hl3
     omega)]
    obtain ⟨rest,er⟩:=Zt (L:=L) (i:=i) (x:=x) (t:=t) hin' (m:=(i+1)*3+(L.drop i).length*bo.n)
    have hlr:=congrArg List.length er
    rw [er]
    try simp (disch:=first|decide|omega) only [qy,Nat.reduceAdd,Nat.reduceMul]
    have sq:=s.put (o:=Obj.cells (bo.rows (L.take i++x::L.drop i)++rest).toArray 203 (0,0)) hb
    rw [<- e3,set_set]
    refine ⟨_,⟨some b,cap,rest,?_,ag,?_⟩,sq,d.set (d _ _ hbh)⟩
    . rw [List.length_append,List.length_cons,lt1,hdl,show i+(L.length-i+1)=L.length+1 by omega]
    . rw [<- hlr]
      simp only [List.length_append,List.length_take,List.length_drop,bo.rows_length,lt1,show bo.n=3 from rfl,List.length_singleton,hdl]
      rw [List.length_append,bo.rows_length,show bo.n=3 from rfl]at hl3
      omega
def fe:=jq bC (jq (jq (jq (jq @Ty (jq @Pe @ud)) (jq (jq @Tm @cf142) (jq @cf144 @O8))) (jq (jq @Ib (jq @Am @Sr)) (jq (jq @Al @ao2) (jq @Ak @ix98p)))) (jq (jq (jq @Rs (jq @ld3 @ld3p)) (jq (jq @ld98 @ld98p) (jq @ld99 @ln99))) (jq (jq @ju (jq @ik @l8)) (jq (jq @jj @pm) (jq @Gr @true_and)))))
theorem sv_set {raws:List Sv} {c:Nat} {s:Sv} (hc:c<raws.length):(svC.rows raws).set c (.slice s.1 s.2.1 s.2.2)=svC.rows (raws.set c s):=by
 have:=svC.rows_put (t:=[]) (x:=s) hc
 rw [List.append_nil,List.append_nil,show svC.n=1 from rfl,Nat.mul_one]at this
 exact this
theorem Kt {ty:TypeId} {a io h:Hp} {R:List Hp} {G:Hp} {tp c:Nat} {T:List (List Slot)} {L:List Slot} {v:Value} (t:Tab ty a tp T) (s:HL.Sep (io::a::R) h) (d:Dis G h) (o:Slc bo 203 io v L) (hc:c<T.length):
 ∃(rb:Nat) (l:List Value),af G a ⟨tp,0,none⟩=some (.slice (some ⟨rb,0,none⟩) T.length T.length)/\h rb=some (.cells l.toArray 99 (0,0))/\c<l.length/\
  ∃a',Tab ty a' tp (T.set c L)/\HL.Sep (a'::R) (h.set rb (.cells (l.set c v).toArray 99 (0,0)))/\Dis G (h.set rb (.cells (l.set c v).toArray 99 (0,0))):=by
 obtain ⟨rb,raws,pb,st,hl,hr⟩:=t
 have s1:=s.split st
 simp only [List.cons_append,List.nil_append]at s1
 have hrb:h rb=some (.cells (svC.rows raws).toArray 99 (0,0)):=s1.at 2 rfl ag
 obtain ⟨sa,cap,rfl,_⟩:=o.len (by decide)
 refine ⟨rb,svC.rows raws,?_,hrb,by rw [svC.rows_length,show svC.n=1 from rfl,hl];omega,?_⟩
 . rw [aj (ai (st.at 0 rfl ag))]
   rfl
 have e:=sv_set (raws:=raws) (c:=c) (s:=(sa,L.length,cap)) (by omega)
 simp only at e
 rw [e]
 have s2:=(s1.pick 2 rfl rfl).put (o:=Obj.cells (svC.rows (raws.set c (sa,L.length,cap))).toArray 99 (0,0)) ag
 rw [set_set]at s2
 have s3:=(s2.pick 3 rfl rfl).pick 2 rfl rfl
 obtain ⟨pb',s4,t4⟩:=D1 s3
 have s5:=((s4.pick 1 rfl rfl).pick 2 rfl rfl)
 obtain ⟨a',s6,t6⟩:=rp s5
 refine ⟨a',⟨rb,raws.set c (sa,L.length,cap),pb',?_,by simp [hl],fun i s L' h1 h2=>?_⟩,s6,d.set (d _ _ hrb)⟩
 . rw [List.length_set]
   exact t6
 . by_cases hi:i=c
   . subst hi
     rw [List.getElem?_set_self (by omega)]at h1 h2
     cases h1
     cases h2
     exact ⟨rfl,o.le (t4.in 0 rfl)⟩
   . rw [List.getElem?_set_ne (Ne.symm hi)]at h1 h2
     obtain ⟨e1,e2⟩:=hr i s L' h1 h2
     exact ⟨e1,e2.le (t4.in 1 rfl)⟩
theorem mn_eq {a b:Int}:(if b<a then b else a)=min a b:=by split<;>omega
theorem mx_eq {a b:Int}:(if b>a then b else a)=max a b:=by split<;>omega
theorem ak2 {P:Program} {G h:Hp} {a b:Int} {K:Value->Prop}:pw P G h (Builtin.min_ #[3,3] 3 #[a,b]) K=K (.int .i64 (min a b)):=by rw [<- mn_eq];rfl
theorem al0 {P:Program} {G h:Hp} {a b:Int} {K:Value->Prop}:pw P G h (Builtin.max_ #[3,3] 3 #[a,b]) K=K (.int .i64 (max a b)):=by rw [<- mx_eq];rfl
theorem Wu {P:Program} {G h:Hp} {a b:Int} {K:VK}:wpH P G (Builtin.min_ #[3,3] 3 #[a,b]) h K=K (.int .i64 (min a b)) h:=by rw [<- mn_eq];rfl
theorem Ww {P:Program} {G h:Hp} {a b:Int} {K:VK}:wpH P G (Builtin.max_ #[3,3] 3 #[a,b]) h K=K (.int .i64 (max a b)) h:=by rw [<- mx_eq];rfl
theorem vq {r:Int}:∀{L:List Slot} {i:Nat} {s:Slot} {f t:Int} {out:List Slot},L[i]?=some s->lm r (L.drop i) f t out=if jc r f t s=true then lm r (L.drop (i+1)) (min f s.f) (max t s.t) out else lm r (L.drop (i+1)) f t (out++[s]):=by
 intro L i s f t out hs
 obtain ⟨hlt,rfl⟩:=List.getElem?_eq_some_iff.1 hs
 rw [List.drop_eq_getElem_cons hlt,lm]
theorem R6 {out:List Slot} {x:Slot}:za out x=out.take (rank out x.f)++x::out.drop (rank out x.f):=by
 unfold za rank
 have e:=List.takeWhile_append_dropWhile (p:=fun s=>decide (s.f<x.f)) (l:=out)
 have h1:=List.take_left' (l₁:=out.takeWhile fun s=>decide (s.f<x.f)) (l₂:=out.dropWhile fun s=>decide (s.f<x.f)) rfl
 have h2:=List.drop_left' (l₁:=out.takeWhile fun s=>decide (s.f<x.f)) (l₂:=out.dropWhile fun s=>decide (s.f<x.f)) rfl
 rw [e]at h1 h2
 rw [h1,h2]
theorem ai4 {G h a:Hp} {R:List Hp} {tp:Nat} {T:List (List Slot)} {L:List Slot} {c r f t:Int} (tb:Tab 124 a tp T) (sp:HL.Sep (a::R) h) (h0:0<=c) (hL:T[c.toNat]?=some L) (g:Resv.Good L) (hlen:L.length<=50000) (hf:0<=f) (hft:f<t) (ht:t<=FV):
 al P_ G 105 #[.pointer (some ⟨tp,0,none⟩),r,c,f,t] h (fun u h'=>u = .tuple #[]/\∃a',Tab 124 a' tp (T.set c.toNat (Resv.putL L r f t))/\HL.Sep (a'::R) h'/\Dis G h'):=by
 have h1:c<T.length:=by have:=(List.getElem?_eq_some_iff.1 hL).1;omega
 refine al.assume fun d=>av5 (by simp) ?_
 have da:Dis G a:=fun b o e=>d _ _ (sp.hd _ _ e)
 obtain ⟨rb,e1,e2⟩:=tb.see (G:=G) (Hp.le.refl a)
 obtain ⟨sa,cap,e3,e4⟩:=e2 _ _ hL
 unfold S105
 simp only [fe,jh sp.hd d e1,ix98 h0 h1,Nat.mul_one,jh sp.hd d e3]
 refine b8 (fun m q h3=>∃(i:Nat) (fi ti:Int) (io:Hp) (v:Value) (out:List Slot),m=L.length-i/\i<=L.length/\q 0 = .pointer (some ⟨tp,0,none⟩)/\q 1 = .int .i64 r/\q 2 = .int .i64 c/\q 3 = .int .i64 fi/\q 4 = .int .i64 ti/\q 10=v/\q 21 = .slice sa L.length cap/\q 22 = .int .i64 L.length/\q 23 = .int .i64 i/\
  Slc bo 203 io v out/\out.length<=i/\HL.Sep (io::a::R) h3/\Dis G h3/\lm r (L.drop i) fi ti out=lm r L f t []) ?_
  (m:=L.length) ⟨0,f,t,noHp,_,[],rfl,Nat.zero_le _,by simp (disch:=decide) only [fe],by simp (disch:=decide) only [fe],by simp (disch:=decide) only [fe],by simp (disch:=decide) only [fe],by simp (disch:=decide) only [fe],rfl,by simp (disch:=decide) only [fe],by simp (disch:=decide) only [fe],by simp only [fe]<;>rfl,by simp (disch:=decide) only [fe];exact Slc.nil,Nat.zero_le _,sp.none,d,rfl⟩
 rintro m q h3 ⟨i,fi,ti,io,v,out,rfl,hi,q0,q1,q2,q3,q4,q10,q21,q22,q23,o,ho,s3,d3,hm⟩ X HX
 have l3:=s3.in 1 rfl
 unfold Zh
 simp only [fe,q22,q23]
 refine bm (fun hlt=>?_) (fun hge=>?_)
 . obtain ⟨s,hs⟩:∃s,L[i]?=some s:=⟨_,List.getElem?_eq_getElem (by omega)⟩
   obtain ⟨b,of,rfl,z0,z1,z2⟩:=Sees.slot (e4.up l3 d3) hs
   unfold J7
   simp (disch:=first|decide|exact ao|exact am|omega|rfl) only [fe,q21,q23,ix99 (Int.natCast_nonneg i) hlt,z0,z1,z2]
   intro x hx gx
   simp only [fe,q1]
   generalize eh:Hp.set h3 x _=h4
   obtain ⟨l4,d4,b4⟩:=boxed eh hx d3 gx
   have s4:HL.Sep (io::a::R) h4:=by rw [<- eh];exact s3.past hx
   have cx:∀j,af G h4 ⟨x,j,none⟩=_:=fun j=>aj (ai b4)
   have k5:∀(K0:Exit->Rg->Hp->Prop) (q':Rg),(∀k,k<=11->q' k=q k)->q' 21=q 21->q' 22=q 22->q' 23=q 23->q' 12 = .pointer (some ⟨x,0,none⟩)->jc r fi ti s=false->Cf G (bv X K0) q' h4:=by
    intro K0 q' hq q'21 q'22 q'23 q'12 htb
    unfold Cf
    simp only [fe,q'12,cx]
    intro y hy gy
    generalize ey:Hp.set h4 y _=h5
    obtain ⟨l5,d5,b5⟩:=boxed ey hy d4 gy
    have s5:HL.Sep (io::a::R) h5:=by rw [<- ey];exact s4.past hy
    rw [hq 10 (by decide),q10]
    refine dm bo (by decide) un99 eoslot (by decide) (by decide) (M:=[s]) s5 d5 o (Sees.row (c:=bo) (L:=[s]) b5 rfl (Nat.le_refl _)) (by simp;omega) fun v' a' h' o' s' d'=>?_
    unfold wt
    simp (disch:=first|decide|omega) only [fe,q'23,q23]
    refine HX (L.length-(i+1)) _ _ (by omega) ⟨i+1,fi,ti,a',v',out++[s],rfl,by omega,by simp (disch:=decide) only [fe,hq 0 (by decide),q0],by simp (disch:=decide) only [fe,hq 1 (by decide),q1],by simp (disch:=decide) only [fe,hq 2 (by decide),q2],by simp (disch:=decide) only [fe,hq 3 (by decide),q3],by simp (disch:=decide) only [fe,hq 4 (by decide),q4],by simp (disch:=decide) only [fe],by simp (disch:=decide) only [fe,q'21,q21],by simp (disch:=decide) only [fe,q'22,q22],by simp only [fe]<;>rfl,o',by simp;omega,s',d',?_⟩
    rw [<- hm,vq hs,if_neg (by rw [htb];decide)]
   cases hb:(s.r==r)with
   |false=>
    simp only [fe,hb,dw]
    exact k5 _ _ (fun k hk=>by simp (disch:=omega) only [au]) (by simp (disch:=decide) only [fe]) (by simp (disch:=decide) only [fe]) (by simp (disch:=decide) only [fe]) (by simp (disch:=decide) only [fe]) (by unfold jc;rw [hb];rfl)
   |true=>
   simp only [fe,cx,q4]
   by_cases hb2:s.f<=ti
   rotate_left
   . simp only [fe,decide_eq_false hb2,dw]
     exact k5 _ _ (fun k hk=>by simp (disch:=omega) only [au]) (by simp (disch:=decide) only [fe]) (by simp (disch:=decide) only [fe]) (by simp (disch:=decide) only [fe]) (by simp (disch:=decide) only [fe]) (by unfold jc;rw [decide_eq_false hb2];simp)
   simp only [fe,decide_eq_true hb2,q3,cx]
   refine bm (fun hb3=>?_) (fun hb3=>?_)
   rotate_left
   . exact k5 _ _ (fun k hk=>by simp (disch:=omega) only [au]) (by simp (disch:=decide) only [fe]) (by simp (disch:=decide) only [fe]) (by simp (disch:=decide) only [fe]) (by simp (disch:=decide) only [fe]) (by unfold jc;rw [decide_eq_false hb3];simp)
   simp only [fe,cx,q3,q4,ak2,al0]
   unfold wt
   simp (disch:=first|decide|omega) only [fe,q23]
   refine HX (L.length-(i+1)) _ _ (by omega) ⟨i+1,min fi s.f,max ti s.t,io,v,out,rfl,by omega,by simp (disch:=decide) only [fe,q0],by simp (disch:=decide) only [fe,q1],by simp (disch:=decide) only [fe,q2],by simp (disch:=decide) only [fe],by simp (disch:=decide) only [fe],by simp (disch:=decide) only [fe,q10],by simp (disch:=decide) only [fe,q21],by simp (disch:=decide) only [fe,q22],by simp only [fe]<;>rfl,o,by omega,s4,d4,?_⟩
   rw [<- hm,vq hs,if_pos (by unfold jc;rw [hb,decide_eq_true hb2,decide_eq_true hb3];rfl)]
 obtain rfl:i=L.length:=by omega
 rw [List.drop_of_length_le (Nat.le_refl _),lm]at hm
 obtain ⟨f',t',em,m1,m2,m3,m4,m5⟩:=Bq (r:=r) (f:=f) (t:=t) (out:=[]) g.apart (fun s hs=>(g.ok s hs).2.1) hft
 rw [<- hm]at em
 simp only [Prod.mk.injEq,List.nil_append]at em
 obtain ⟨rfl,rfl,eo⟩:=em
 have ep:Resv.putL L r f t=za out ⟨fi,ti,r⟩:=by unfold Resv.putL;rw [<- hm]
 have hmem:∀s∈out,s∈L:=fun s hs=>by rw [eo]at hs;exact (List.mem_filter.1 hs).1
 have hsort:out.Pairwise fun a b=>a.f<=b.f:=by
  rw [eo]
  exact (Kx g.apart fun s hs=>(g.ok s hs).2.1).filter _
 have hfi:0<=fi:=by
  rcases m3 with rfl|⟨s,hs,_,rfl⟩
  . exact hf
  . exact (g.ok s hs).1
 try simp (disch:=first|decide|omega) only [fe,Nat.reduceAdd,Nat.reduceMul]
 unfold Zi
 simp (disch:=decide) only [fe,q10,q3]
 refine (Qt (n:=fi) (o.sees (by decide) (s3.in 0 rfl)) (by omega) hsort (fun s hs=>have k:=g.ok s (hmem s hs);⟨k.1,Int.le_trans (Int.le_of_lt k.2.1) k.2.2.1⟩) hfi (by omega)).mono ?_
 rintro _ _ ⟨⟨bb,rfl⟩,rfl⟩
 simp only [fe]
 refine ⟨a,l3,?_⟩
 simp (disch:=first|decide|omega) only [fe,q0,q1,q2,q3,q4,q10,e1]
 intro x hx gx
 generalize ex:Hp.set _ x _=h5
 obtain ⟨l5,d5,b5⟩:=boxed ex hx d3 gx
 have s5:HL.Sep (io::a::R) h5:=by rw [<- ex];exact s3.past hx
 refine (R5 (x:=⟨fi,ti,r⟩) s5 d5 o b5 ((s3.in 0 rfl).none hx) Wm (by omega)).mono ?_
 rintro v6 h6 ⟨io6,o6,s6,d6⟩
 rw [show out.take (rank out fi)++⟨fi,ti,r⟩::out.drop (rank out fi)=Resv.putL L r f t by rw [ep,R6]]at o6
 refine ⟨s6.in 1 rfl,?_⟩
 obtain ⟨rb',l,e1',hrb,hcl,a',t',s7,d7⟩:=Kt (c:=c.toNat) tb s6 d6 o6 (by omega)
 rw [e1]at e1'
 obtain rfl:rb=rb':=by simpa using e1'
 obtain ⟨sa6,cap6,rfl,_⟩:=o6.len (by decide)
 rw [Nat.mul_one,bz sz99 rfl hrb hcl]
 exact ⟨a',t',s7,d7⟩
def dg:=jq bC (jq (jq (jq (jq @al75 @bd124_0) (jq @wh @kv)) (jq (jq @Xy @cf104) (jq @cf105 @S5))) (jq (jq (jq @fa75_0 @fa75_1) (jq @fa75_2 @ld3)) (jq (jq @ld75 @ln71) (jq @jt (jq @st75w @true_and)))))
def xy:Cod Want:=⟨3,fun s=>[.int .i64 s.c,.int .i64 s.f,.int .i64 s.t],fun _=>rfl,fun _ v hv=>by simp at hv;rcases hv with rfl|rfl|rfl<;>rfl⟩
theorem Sees.want {G h:Hp} {sa:Option Addr} {cap n:Nat} {L:List Want} (s:Sees xy G h (.slice sa n cap) L) {i:Nat} {x:Want} (hx:L[i]?=some x):
 ∃b o,sa=some ⟨b,o,none⟩/\af G h ⟨b,o+i*3,none⟩=some (.int .i64 x.c)/\af G h ⟨b,o+i*3+1,none⟩=some (.int .i64 x.f)/\af G h ⟨b,o+i*3+2,none⟩=some (.int .i64 x.t):=by
 obtain ⟨b,o,c,e1,e2⟩:=s.get hx
 simp only [Value.slice.injEq]at e1
 obtain ⟨rfl,-,-⟩:=e1
 have x0:=e2 0 (by decide)
 have x1:=e2 1 (by decide)
 have x2:=e2 2 (by decide)
 simp only [xy,Nat.add_zero,List.getElem?_cons_zero,List.getElem?_cons_succ]at x0 x1 x2
 exact ⟨b,o,rfl,x0,x1,x2⟩
theorem Ot {T:Tb} {c:Int}:hasB T c=inT T.length c:=rfl
theorem si {G h:Hp} {n:Nat} (h1:1<=n) (h2:n<=256):al P_ G 24 #[n] h (fun u h'=>∃a tp,u = .tuple #[.pointer (some ⟨tp,0,none⟩),(0:Int)]/\Tab 124 a tp (List.replicate n [])/\HL.Sep [a,h] h'/\Dis G h'):=by
 refine al.assume fun d=>enter24 (by simp) ?_
 unfold S24
 simp (disch:=decide) only [dg,decide_eq_false (show ¬(n:Int)<1 by omega),show decide ((n:Int)>256)=false from decide_eq_false (by omega)]
 unfold aD7
 simp (disch:=decide) only [dg]
 rw [tt svC (none,0,0) (by decide) un98 eosv (by kernel_rfl) (by omega) (by omega)]
 intro rb hrb grb
 simp only [dg]
 intro tp htp gtp
 have s1:=(Sep.one (h:=h)).new (o := .cells (svC.rows (List.replicate n (none,0,0))).toArray 99 (0,0)) hrb
 have d1:=d.set (o := .cells (svC.rows (List.replicate n (none,0,0))).toArray 99 (0,0)) grb
 have s2:=s1.new (o := .cells #[.slice (some ⟨rb,0,none⟩) n n] 124 (0,0)) htp
 have s3:=(s2.none.pick 2 rfl rfl).pick 2 rfl rfl
 obtain ⟨a,s4,t4⟩:=rp s3
 refine ⟨a,tp,rfl,⟨rb,List.replicate n (none,0,0),noHp,?_,by simp,fun i s L h1 h2=>?_⟩,s4,d1.set gtp⟩
 . rw [List.length_replicate]
   exact t4
 . rw [List.getElem?_replicate]at h1 h2
   split at h1
   . rename_i hi
     rw [if_pos hi]at h2
     cases h1
     cases h2
     exact ⟨rfl,Slc.nil⟩
   . cases h1
theorem Di {α:Type} {L:List α} {i:Nat} {x:α} {p:α->Bool} (hx:L[i]?=some x):(L.take (i+1)).all p=((L.take i).all p&&p x):=by
 rw [List.take_add_one,hx,List.all_append]
 simp
theorem F8 {α:Type} {L:List α} {i:Nat} {x:α} {p:α->Bool} (hx:L[i]?=some x) (h:p x=false):L.all p=false:=by
 rw [List.all_eq_false]
 exact ⟨x,List.mem_of_getElem? hx,by rw [h];simp⟩
theorem K3 {r:Int} {T:Tb} {L:List Want} {i:Nat} {x:Want} (hx:L[i]?=some x):tr r T (L.take (i+1))=putW r (tr r T (L.take i)) x:=by
 unfold tr
 rw [List.take_add_one,hx,List.foldl_append]
 rfl
theorem Vb {G h a w:Hp} {R:List Hp} {tp b:Nat} {T:Tb} {r:Int} {v:Value} {l:List Want} (tb:Tab 124 a tp T) (sp:HL.Sep (a::w::R) h) (sv:Sees xy G w v l) (g:iu T) (fw:Few T b) (hb:b+l.length<=50000):
 al P_ G 50 #[.pointer (some ⟨tp,0,none⟩),r,v] h (fun u h'=>u = .int .i64 (jn T r l).1/\∃a',Tab 124 a' tp (jn T r l).2/\HL.Sep (a'::w::R) h'/\Dis G h'):=by
 obtain ⟨sa,cap,rfl⟩:=sv.len
 refine al.assume fun d=>enter50 (by simp) ?_
 unfold S50
 simp only [dg]
 refine bm (fun hr=>?_) (fun hr=>?_)
 . try simp (disch:=first|decide|omega) only [dg,Nat.reduceAdd,Nat.reduceMul]
   have e:jn T r l=(1,T):=by unfold jn;rw [if_pos hr]
   rw [e]
   exact ⟨rfl,a,tb,sp,d⟩
 unfold aB4
 simp (disch:=decide) only [dg]
 generalize hKK:retK P_ G _ _=KK
 refine b8 (fun m q h3=>∃i:Nat,m=l.length-i/\i<=l.length/\q 0 = .pointer (some ⟨tp,0,none⟩)/\q 1 = .int .i64 r/\q 2 = .slice sa l.length cap/\q 19 = .slice sa l.length cap/\q 20 = .int .i64 l.length/\q 21 = .int .i64 i/\HL.Sep (a::w::R) h3/\Dis G h3/\(l.take i).all (mo T.length)=true) ?_
  (m:=l.length) ⟨0,rfl,Nat.zero_le _,by simp (disch:=decide) only [dg],by simp (disch:=decide) only [dg],by simp (disch:=decide) only [dg],by simp (disch:=decide) only [dg],by simp (disch:=decide) only [dg],by simp only [dg]<;>rfl,sp,d,rfl⟩
 rintro m q h3 ⟨i,rfl,hi,q0,q1,q2,q19,q20,q21,s3,d3,hv⟩ X HX
 unfold X4
 simp only [dg,q20,q21]
 refine bm (fun hlt=>?_) (fun hge=>?_)
 . obtain ⟨x,hx⟩:∃x,l[i]?=some x:=⟨_,List.getElem?_eq_getElem (by omega)⟩
   obtain ⟨bb,of,rfl,z0,z1,z2⟩:=Sees.want (sv.up (s3.in 1 rfl) d3) hx
   unfold Fo
   simp (disch:=first|decide|exact ao|exact am|omega|rfl) only [dg,q19,q21,ix71 (Int.natCast_nonneg i) hlt,z0,z1,z2]
   intro y hy gy
   simp only [dg,q0]
   generalize eh:Hp.set h3 y _=h4
   obtain ⟨l4,d4,b4⟩:=boxed eh hy d3 gy
   have s4:HL.Sep (a::w::R) h4:=by rw [<- eh];exact s3.past hy
   have cy:∀j,af G h4 ⟨y,j,none⟩=_:=fun j=>aj (ai b4)
   refine (Hs (c:=x.c) (tb.see (s4.in 0 rfl))).mono ?_
   rintro _ h4 ⟨rfl,rfl⟩
   rw [Ot]
   have bad:∀r1:Rg,r1 6 = .int .i64 1->mo T.length x=false->KK .ret r1 h4:=fun r1 h6 hf=>by
    rw [<- hKK]
    have e:jn T r l=(1,T):=by unfold jn;rw [if_neg hr,if_neg (by rw [F8 hx hf];decide)]
    simp only [dg,h6,e]
    exact ⟨a,tb,s4,d4⟩
   have go:∀(K0:Exit->Rg->Hp->Prop) (r1:Rg),(∀k,k<=2->r1 k=q k)->r1 19=q 19->r1 20=q 20->r1 21=q 21->mo T.length x=true->zp G (bv X K0) r1 h4:=fun K0 r1 hk p19 p20 p21 ht=>by
    unfold zp
    simp (disch:=first|decide|omega) only [dg,p21,q21]
    exact HX (l.length-(i+1)) _ _ (by omega) ⟨i+1,rfl,by omega,by simp (disch:=decide) only [dg,hk 0 (by decide),q0],by simp (disch:=decide) only [dg,hk 1 (by decide),q1],by simp (disch:=decide) only [dg,hk 2 (by decide),q2],by simp (disch:=decide) only [dg,p19,q19],by simp (disch:=decide) only [dg,p20,q20],by simp only [dg]<;>rfl,s4,d4,by rw [Di hx,hv,ht];rfl⟩
   cases e1:inT T.length x.c with
   |false=>
    try simp only [dg,dw]
    exact bad _ (by simp only [dg]) (by unfold mo;rw [e1];rfl)
   |true=>
   try simp only [dg,cy]
   by_cases e2:x.f<0
   . try simp only [dg,decide_eq_true e2,dw]
     exact bad _ (by simp only [dg]) (by unfold mo;rw [decide_eq_false (show ¬0<=x.f by omega)];simp)
   try simp only [dg,decide_eq_false e2,cy]
   by_cases e3:x.f>=x.t
   . try simp only [dg,decide_eq_true e3,dw]
     exact bad _ (by simp only [dg]) (by unfold mo;rw [decide_eq_false (show ¬x.f<x.t by omega)];simp)
   try simp only [dg,decide_eq_false e3,cy]
   refine bm (fun e4=>?_) (fun e4=>?_)
   . exact bad _ (by simp only [dg]) (by unfold mo;rw [decide_eq_false (show ¬x.t<=FV by simp only [FV];omega)];simp)
   . exact go _ _ (fun k hk=>by simp (disch:=omega) only [au]) (by simp (disch:=decide) only [dg]) (by simp (disch:=decide) only [dg]) (by simp (disch:=decide) only [dg]) (qm.2 ⟨Ae.1 e1,by omega,by omega,by simp only [FV];omega⟩)
 obtain rfl:i=l.length:=by omega
 rw [List.take_of_length_le (Nat.le_refl _)]at hv
 clear HX
 try simp (disch:=first|decide|omega) only [dg,Nat.reduceAdd,Nat.reduceMul]
 unfold aB3
 simp (disch:=decide) only [dg,q2]
 refine b8 (fun m q' h3=>∃i:Nat,m=l.length-i/\i<=l.length/\q' 0 = .pointer (some ⟨tp,0,none⟩)/\q' 1 = .int .i64 r/\q' 2 = .slice sa l.length cap/\q' 48 = .slice sa l.length cap/\q' 49 = .int .i64 l.length/\q' 50 = .int .i64 i/\HL.Sep (a::w::R) h3/\Dis G h3/\(l.take i).all (rg T r)=true) ?_
  (m:=l.length) ⟨0,rfl,Nat.zero_le _,by simp (disch:=decide) only [dg,q0],by simp (disch:=decide) only [dg,q1],by simp (disch:=decide) only [dg,q2],by simp (disch:=decide) only [dg],by simp (disch:=decide) only [dg],by simp only [dg]<;>rfl,s3,d3,rfl⟩
 clear q0 q1 q2 q19 q20 q21 s3 d3
 clear q h3
 rintro m q h3 ⟨i,rfl,hi,q0,q1,q2,q19,q20,q21,s3,d3,hf⟩ X HX
 unfold aA9
 simp only [dg,q20,q21]
 refine bm (fun hlt=>?_) (fun hge=>?_)
 . obtain ⟨x,hx⟩:∃x,l[i]?=some x:=⟨_,List.getElem?_eq_getElem (by omega)⟩
   obtain ⟨bb,of,rfl,z0,z1,z2⟩:=Sees.want (sv.up (s3.in 1 rfl) d3) hx
   obtain ⟨⟨c0,c1⟩,f0,f1,f2⟩:=qm.1 (List.all_eq_true.1 hv x (List.mem_of_getElem? hx))
   unfold M3
   simp (disch:=first|decide|exact ao|exact am|omega|rfl) only [dg,q19,q21,ix71 (Int.natCast_nonneg i) hlt,z0,z1,z2]
   intro y hy gy
   simp only [dg,q0,q1]
   generalize eh:Hp.set h3 y _=h4
   obtain ⟨l4,d4,b4⟩:=boxed eh hy d3 gy
   have s4:HL.Sep (a::w::R) h4:=by rw [<- eh];exact s3.past hy
   have cy:∀j,af G h4 ⟨y,j,none⟩=_:=fun j=>aj (ai b4)
   refine (Af (r:=r) (f:=x.f) (t:=x.t) (tb.see (s4.in 0 rfl)) c0 (od c0 c1) (by have:=um fw x.c;omega)).mono ?_
   rintro _ h4 ⟨rfl,rfl⟩
   cases e1:mn (rowT T x.c) r x.f x.t with
   |false=>
    try simp only [dg]
    rw [<- hKK]
    have e:jn T r l=(18,T):=by unfold jn;rw [if_neg hr,if_pos hv,if_neg (by rw [F8 hx (by unfold rg;exact e1)];decide)]
    simp only [dg,e]
    exact ⟨a,tb,s4,d4⟩
   |true=>
    try simp only [dg]
    unfold Ix
    simp (disch:=first|decide|omega) only [dg,q21]
    exact HX (l.length-(i+1)) _ _ (by omega) ⟨i+1,rfl,by omega,by simp (disch:=decide) only [dg,q0],by simp (disch:=decide) only [dg,q1],by simp (disch:=decide) only [dg,q2],by simp (disch:=decide) only [dg,q19],by simp (disch:=decide) only [dg,q20],by simp only [dg]<;>rfl,s4,d4,by rw [Di hx,hf];unfold rg;rw [e1];rfl⟩
 obtain rfl:i=l.length:=by omega
 rw [List.take_of_length_le (Nat.le_refl _)]at hf
 clear HX
 try simp (disch:=first|decide|omega) only [dg,Nat.reduceAdd,Nat.reduceMul]
 unfold aB2
 simp (disch:=decide) only [dg,q2]
 refine b8 (fun m q' h3=>∃(i:Nat) (a':Hp),m=l.length-i/\i<=l.length/\q' 0 = .pointer (some ⟨tp,0,none⟩)/\q' 1 = .int .i64 r/\q' 65 = .slice sa l.length cap/\q' 66 = .int .i64 l.length/\q' 67 = .int .i64 i/\Tab 124 a' tp (tr r T (l.take i))/\HL.Sep (a'::w::R) h3/\Dis G h3) ?_
  (m:=l.length) ⟨0,a,rfl,Nat.zero_le _,by simp (disch:=decide) only [dg,q0],by simp (disch:=decide) only [dg,q1],by simp (disch:=decide) only [dg],by simp (disch:=decide) only [dg],by simp only [dg]<;>rfl,tb,s3,d3⟩
 clear q0 q1 q2 q19 q20 q21 s3 d3
 clear q h3
 rintro m q h3 ⟨i,a3,rfl,hi,q0,q1,q19,q20,q21,t3,s3,d3⟩ X HX
 unfold aB0
 simp only [dg,q20,q21]
 refine bm (fun hlt=>?_) (fun hge=>?_)
 . obtain ⟨x,hx⟩:∃x,l[i]?=some x:=⟨_,List.getElem?_eq_getElem (by omega)⟩
   obtain ⟨bb,of,rfl,z0,z1,z2⟩:=Sees.want (sv.up (s3.in 1 rfl) d3) hx
   obtain ⟨⟨c0,c1⟩,f0,f1,f2⟩:=qm.1 (List.all_eq_true.1 hv x (List.mem_of_getElem? hx))
   have sub:∀u∈l.take i,u∈l:=fun u hu=>List.mem_of_mem_take hu
   obtain ⟨g3,fw3,l3,k3⟩:=G7 (by omega:0<=r) (l:=l.take i) g fw (List.all_eq_true.2 fun u hu=>List.all_eq_true.1 hv u (sub u hu)) (List.all_eq_true.2 fun u hu=>List.all_eq_true.1 hf u (sub u hu))
   unfold M5
   simp (disch:=first|decide|exact ao|exact am|omega|rfl) only [dg,q19,q21,ix71 (Int.natCast_nonneg i) hlt,z0,z1,z2]
   intro y hy gy
   simp only [dg,q0,q1]
   generalize eh:Hp.set h3 y _=h4
   obtain ⟨l4,d4,b4⟩:=boxed eh hy d3 gy
   have s4:HL.Sep (a3::w::R) h4:=by rw [<- eh];exact s3.past hy
   have hlen:(rowT (tr r T (l.take i)) x.c).length<=50000:=by
    have h5:=um fw3 x.c
    rw [List.length_take]at h5
    omega
   refine (ai4 (r:=r) t3 s4 c0 (od c0 (by rw [l3];exact c1)) (rq g3 x.c) hlen f0 f1 f2).mono ?_
   rintro _ h5 ⟨rfl,a5,t5,s5,d5⟩
   unfold M4
   simp (disch:=first|decide|omega) only [dg,q21]
   refine HX (l.length-(i+1)) _ _ (by omega) ⟨i+1,a5,rfl,by omega,by simp (disch:=decide) only [dg,q0],by simp (disch:=decide) only [dg,q1],by simp (disch:=decide) only [dg,q19],by simp (disch:=decide) only [dg,q20],by simp only [dg]<;>rfl,?_,s5,d5⟩
   rw [K3 hx]
   exact t5
 obtain rfl:i=l.length:=by omega
 rw [List.take_of_length_le (Nat.le_refl _)]at t3
 try simp (disch:=first|decide|omega) only [dg,Nat.reduceAdd,Nat.reduceMul]
 unfold aB1
 have e:jn T r l=(0,tr r T l):=by unfold jn;rw [if_neg hr,if_pos hv,if_pos hf]
 rw [<- hKK]
 simp only [dg,e]
 exact ⟨a3,t3,s3,d3⟩
def Fg:=jq bC (jq (jq (jq @al110 @and_true) (jq @Ek (jq @kv @cf126))) (jq (jq @cf154 (jq @ld3 @Cr)) (jq @zy (jq @st110w @true_and))))
theorem un58:P_.underlying 110=some (.array 2 3):=by kernel_rfl
theorem sz3':(P_.info? 3).map (·.size)=some 1:=sz3
theorem ix58a {G h:Hp} {b o:Nat} {K:VK}:wpH P_ G (Instr.indexAt 110 (.pointer (some ⟨b,o,none⟩)) (.int .i64 0)) h K=K (.pointer (some ⟨b,o,none⟩)) h:=by
 rw [Eb un58 sz3' (by decide) (by decide),mz]
 rfl
theorem ix58b {G h:Hp} {b o:Nat} {K:VK}:wpH P_ G (Instr.indexAt 110 (.pointer (some ⟨b,o,none⟩)) (.int .i64 1)) h K=K (.pointer (some ⟨b,o+1,none⟩)) h:=by
 rw [Eb un58 sz3' (by decide) (by decide),mz]
 rfl
theorem L9 {G h:Hp} {a:Int}:al P_ G 154 #[a] h (fun u h'=>u = .int .i64 (cutI a)/\h'=h):=by
 refine ar8 (by simp) ?_
 unfold S154
 simp only [Fg,Wu,Ww]
 simp [cutI,FV]
theorem ldP2 {G h:Hp} {a:Addr} {K:VK}:wpH P_ G (Instr.loadAt 110 (.pointer (some a))) h K=(∃x0,af G h (a.add 0)=some x0/\∃x1,af G h (a.add 1)=some x1/\K (.agg #[x0,x1]) h):=by kernel_rfl
theorem Ej {G h:Hp} {a b:Int}:al P_ G 126 #[a,b] h (fun u h'=>u = .agg #[(cutI a),(cutI b)]/\h'=h):=by
 refine al.assume fun d=>quietly (au0 (by simp) ?_)
 unfold S126
 simp (disch:=decide) only [Fg,al110]
 intro x hx gx
 refine (L9 (a:=a)).mono ?_
 rintro _ _ ⟨rfl,rfl⟩
 refine (L9 (a:=b)).mono ?_
 rintro _ _ ⟨rfl,rfl⟩
 simp (disch:=first|decide|exact ao|exact am|omega|rfl) only [Fg,ldP2]
 exact di hx
theorem Xw {a:Int}:0<=cutI a/\cutI a<=FV:=by unfold cutI;simp only [FV];omega
theorem Qi {G h:Hp} {a b:Int}:al P_ G 77 #[a,b] h (fun u h'=>u = .int .i64 (sumI a b)/\h'=h):=by
 refine al.assume fun d=>quietly (enter77 (by simp) ?_)
 unfold S77
 simp only [Fg]
 refine (Ej (a:=a) (b:=b)).mono ?_
 rintro _ _ ⟨rfl,rfl⟩
 obtain ⟨a0,a1⟩:=Xw (a:=a)
 obtain ⟨b0,b1⟩:=Xw (a:=b)
 simp only [FV]at a1 b1
 simp (disch:=first|decide|exact ao|exact am|omega|rfl) only [Fg,al110]
 intro x hx gx
 simp (disch:=first|decide|omega) only [Fg,ix58a,ix58b]
 refine bm (fun h1=>?_) (fun h1=>?_)
 . try simp (disch:=first|decide|omega) only [Fg,Nat.reduceAdd,Nat.reduceMul]
   exact ⟨by unfold sumI;rw [if_pos h1],di hx⟩
 . unfold az8
   simp (disch:=first|decide|omega) only [Fg,ix58a,ix58b]
   exact ⟨by unfold sumI;rw [if_neg h1],di hx⟩
end Go.Proofs.YtfflipnhffknnaaGreatDoor.Rv
end
section
namespace Go.Proofs.YtfflipnhffknnaaGreatDoor
open Go Go.HL
section
variable (G:Hp) (K:EK) (r:Rg) (h:Hp)
def md53:Nat->Hint
 |_=>mh false [] [] [] false
def aA8:Prop:=
 opH P_ G (ig (r 0) #[(.func (.func 107) #[] #[(r 5),(r 3)])]) h fun v6 h6=>o_ G (Instr.loadAt 103 (r 5)) h6 fun v7 h7=>
 K .ret (u5 r 12 (r 0) 13 (.func (.func 107) #[] #[(r 5),(r 3)]) 14 v6 15 v7 4 v7) h7
def S53:Prop:=
 o_ G (Instr.box 3 (r 1)) h fun v0 h0=>o_ G (Instr.alloc 103 true (.tuple #[])) h0 fun v1 h1=>
 opH P_ G (xEq .eql 106 (.tmp 0) (.const .nilFunc) (r 0) .nilFunc) h1 fun v2 h2=>g_ v2 false (o_ G (Instr.loadAt 3 v0) h2) h2 fun v3 h3=>g_ v2 false (o_ G (binOp .lss 3 v3 (.int .i64 1)) h3) h3 fun v4 h4=>
 opH P_ G (bj v2 (.bool true) v4) h4 fun v5 h5=>
 (fun q=>cond v5
 (K .ret (upd q 4 (.slice none 0 0)) h5)
 (aA8 G K q h5))
 (u9 r 3 v0 4 (.slice none 0 0) 5 v1 6 (r 0) 7 v2 8 v2 9 v3 10 v4 11 v5)
theorem enter53:Ent 16 53 [.tmp 4] S53:=ent_ (m:=md53) (c:=(Tryz.f53.body.getD .skip)) (fun _ _ _ _=>by kernel_rfl) Tryz.func53 rfl rfl rfl
def md107:Nat->Hint
 |_=>mh false [] [] [] false
def S107:Prop:=
 o_ G (Instr.loadAt 103 (r 2)) h fun v0 h0=>o_ G (Instr.build 110 #[(0,(r 0)),(1,(r 1))]) h0 fun v1 h1=>o_ G (Instr.buildSlice 103 1 #[(0,v1)]) h1 fun v2 h2=>o_ G (Builtin.append_ #[103,103] 103 #[v0,v2]) h2 fun v3 h3=>
 opH P_ G (su (Instr.storeAt 103 (r 2) v3)) h3 fun v4 h4=>o_ G (Instr.loadAt 103 (r 2)) h4 fun v5 h5=>o_ G (Builtin.len_ #[103] 3 #[v5]) h5 fun v6 h6=>o_ G (Instr.loadAt 3 (r 3)) h6 fun v7 h7=>o_ G (binOp .lss 3 v6 v7) h7 fun v8 h8=>
 K .ret (u2 (u10 r 6 (.bool false) 7 v0 8 (r 0) 9 (r 1) 10 v1 11 v2 12 v3 13 v5 14 v6 15 v7) 16 v8 6 v8) h8
theorem av3:Ent 17 107 [.tmp 6] S107:=ent_ (m:=md107) (c:=(Tryz.f107.body.getD .skip)) (fun _ _ _ _=>by kernel_rfl) Tryz.func107 rfl rfl rfl
end
end Go.Proofs.YtfflipnhffknnaaGreatDoor
end
section
namespace Go.Proofs.YtfflipnhffknnaaGreatDoor.Rv
open Go Go.HL Go.Proofs.Resv
def ff:=jq bC (jq (jq (jq (jq @Ty @kv) (jq @px (jq @Xy @Ib))) (jq (jq @Am (jq @Al @Ak)) (jq @Rs (jq @ld3 @ld34)))) (jq (jq (jq @Wz @ld3p) (jq @ld98p (jq @ld99p @ln99p))) (jq (jq @ik (jq @l8 @jj)) (jq @pm (jq @ry @Gr)))))
abbrev gapA (g:Int × Int):Array Value:=#[g.1,g.2]
theorem am2 {r:Int} {L:List Slot} {i:Nat} {s:Slot} {at_:Int} (hs:L[i]?=some s):fm r (L.drop i) at_=if s.r=r then fm r (L.drop (i+1)) at_ else if s.f>at_ then (at_,s.f)::fm r (L.drop (i+1)) s.t else fm r (L.drop (i+1)) s.t:=by
 obtain ⟨hlt,rfl⟩:=List.getElem?_eq_some_iff.1 hs
 rw [List.drop_eq_getElem_cons hlt,fm]
theorem Sa {G h:Hp} {tp:Nat} {c r:Int}:al P_ G 145 #[.pointer (some ⟨tp,0,none⟩),c,r] h (fun u h'=>∃b1 b2 b3,u = .func (.func 164) #[] #[.pointer (some ⟨b1,0,none⟩),.pointer (some ⟨b2,0,none⟩),.pointer (some ⟨b3,0,none⟩)]/\h.le h'/\Dis G h'/\h' b1=some (.cells #[.pointer (some ⟨tp,0,none⟩)] 34 (0,0))/\h' b2=some (.cells #[c] 3 (0,0))/\h' b3=some (.cells #[r] 3 (0,0))/\∀R,HL.Sep R h->HL.Sep R h'):=by
 refine al.assume fun d=>as5 (by simp) ?_
 unfold S145
 simp only [ff]
 intro x hx gx y hy gy z hz gz
 have nxy:=jd hy
 have nxz:x≠z:=fun e=>by subst e;rw [av nxy,ag]at hz;cases hz
 have nyz:=jd hz
 refine ⟨x,y,z,rfl,((di hx).trans (di hy)).trans (di hz),((d.set gx).set gy).set gz,by rw [av nxz,av nxy,ag],by rw [av nyz,ag],ag,fun R s=>((s.past hx).past hy).past hz⟩
theorem Uy {G h a q:Hp} {y:Value} {Y Z:List (Int × Int)->Hp->Prop} {cc:List (Int × Int)->Bool} {Lt:List (Int × Int)} {b1 b2 b3 tp:Nat} {T:Tb} {c r:Int}
 (yl:HL.Yl P_ gapA G y Y Z cc) (ya:Y Lt a) (s:HL.Sep [a,q] h) (h1:q b1=some (.cells #[.pointer (some ⟨tp,0,none⟩)] 34 (0,0))) (h2:q b2=some (.cells #[c] 3 (0,0))) (h3:q b3=some (.cells #[r] 3 (0,0))) (ts:TSee G q tp T)
 (fw:∀L∈T,L.length<=50000):
 al P_ G 164 #[y,.pointer (some ⟨b1,0,none⟩),.pointer (some ⟨b2,0,none⟩),.pointer (some ⟨b3,0,none⟩)] h (fun _ h'=>Bb G q Y Z (HL.feed cc Lt (if inT T.length c=true then Fa (rowT T c) r else [])) h'):=by
 refine al.assume fun d=>S6 (by simp) ?_
 unfold S164
 generalize hTT:HL.feed cc Lt _=TT
 have c1:∀{h':Hp},q.le h'->∀j,af G h' ⟨b1,j,none⟩=_:=fun l j=>aj (ai (l _ _ h1))
 have c2:∀{h':Hp},q.le h'->∀j,af G h' ⟨b2,j,none⟩=_:=fun l j=>aj (ai (l _ _ h2))
 have c3:∀{h':Hp},q.le h'->∀j,af G h' ⟨b3,j,none⟩=_:=fun l j=>aj (ai (l _ _ h3))
 have lq:=s.in 1 rfl
 simp only [ff,c1 lq,c2 lq]
 refine (Hs (c:=c) (ts.up lq d)).mono ?_
 rintro _ h ⟨rfl,rfl⟩
 rw [Ot]
 cases hc:inT T.length c with
 |false=>
  rw [hc,if_neg (by decide)]at hTT
  try simp only [ff]
  exact Bb.go s d ya hTT
 |true=>
 obtain ⟨k0,k1⟩:=Ae.1 hc
 have hL:=od k0 k1
 rw [hc,if_pos rfl]at hTT
 generalize hLL:rowT T c=L at*
 obtain ⟨rb,e1,e2⟩:=ts
 obtain ⟨sa,cap,e3,e4⟩:=e2 _ _ hL
 have fL:=fw L (List.mem_of_getElem? hL)
 try simp only [ff]
 unfold Px
 simp (disch:=decide) only [ff,c1 lq,c2 lq,c3 lq,jh lq d e1,ix98p k0 k1,Nat.mul_one,jh lq d e3]
 generalize hKK:retK P_ G _ _=KK
 refine b8 (fun m p h3=>∃(i:Nat) (a:Hp) (Lt:List (Int × Int)) (at_:Int),m=L.length-i/\i<=L.length/\p 0=y/\p 1 = .pointer (some ⟨b1,0,none⟩)/\p 2 = .pointer (some ⟨b2,0,none⟩)/\p 3 = .pointer (some ⟨b3,0,none⟩)/\p 5 = .int .i64 at_/\p 18 = .slice sa L.length cap/\p 19 = .int .i64 L.length/\p 20 = .int .i64 i/\
  Y Lt a/\HL.Sep [a,q] h3/\Dis G h3/\HL.feed cc Lt (fm r (L.drop i) at_)=TT) ?_
  (m:=L.length) ⟨0,a,Lt,0,rfl,Nat.zero_le _,by simp (disch:=decide) only [ff],by simp (disch:=decide) only [ff],by simp (disch:=decide) only [ff],by simp (disch:=decide) only [ff],by simp (disch:=decide) only [ff],by simp (disch:=decide) only [ff],by simp (disch:=decide) only [ff],by simp only [ff]<;>rfl,ya,s,d,hTT⟩
 clear ya s d lq
 clear hTT
 clear Lt a h
 rintro m p h ⟨i,a,Lt,at_,rfl,hi,p0,p1,p2,p3,p5,p18,p19,p20,ya,s,d,hTT⟩ X HX
 have lq:=s.in 1 rfl
 unfold Pv
 simp only [ff,p19,p20]
 refine bm (fun hlt=>?_) (fun hge=>?_)
 rotate_left
 . -- the last one
   obtain rfl:i=L.length:=by omega
   rw [List.drop_of_length_le (Nat.le_refl _),fm]at hTT
   try simp (disch:=first|decide|omega) only [ff,Nat.reduceAdd,Nat.reduceMul]
   unfold Pw
   simp (disch:=decide) only [ff,p5]
   refine bm (fun hl=>?_) (fun hl=>?_)
   . rw [if_pos hl]at hTT
     simp only [ff,p0]
     refine jk ?_ (yl Lt (at_,FV) a q h ya s d)
     rintro v h' ⟨a',rfl,s',d',hy⟩
     rw [<- hKK]
     try simp only [ff]
     cases hc2:cc (Lt++[(at_,FV)])with
     |true=>
      rw [hc2,if_pos rfl]at hy
      rw [HL.H3 hc2]at hTT
      exact Bb.go s' d' hy hTT
     |false=>
      rw [hc2,if_neg (by decide)]at hy
      exact Bb.no s' d' hy hc2 hTT
   . rw [if_neg hl]at hTT
     rw [<- hKK]
     try simp only [ff]
     exact Bb.go s d ya hTT
 obtain ⟨sl,hs⟩:∃sl,L[i]?=some sl:=⟨_,List.getElem?_eq_getElem (by omega)⟩
 obtain ⟨b',of,rfl,z0,z1,z2⟩:=Sees.slot (e4.up lq d) hs
 rw [am2 hs]at hTT
 unfold B6
 simp (disch:=first|decide|exact ao|exact am|omega|rfl) only [ff,p18,p20,ix99 (Int.natCast_nonneg i) hlt,z0,z1,z2]
 intro x hx gx
 generalize eh:Hp.set h x _=h4
 obtain ⟨l4,d4,b4⟩:=boxed eh hx d gx
 have s4:HL.Sep [a,q] h4:=by rw [<- eh];exact s.past hx
 have lq4:=s4.in 1 rfl
 have cx:∀j,af G h4 ⟨x,j,none⟩=_:=fun j=>aj (ai b4)
 have next:∀(K0:Exit->Rg->Hp->Prop) (p':Rg) (h5 a':Hp) (Lt':List (Int × Int)) (at':Int),(∀k,k<=3->p' k=p k)->p' 18=p 18->p' 19=p 19->p' 20=p 20->p' 5 = .int .i64 at'->Y Lt' a'->HL.Sep [a',q] h5->Dis G h5->HL.feed cc Lt' (fm r (L.drop (i+1)) at')=TT->
  qp G (bv X K0) p' h5:=by
  intro K0 p' h5 a' Lt' at' hk w18 w19 w20 w5 ya' s' d' hT'
  unfold qp
  simp (disch:=first|decide|omega) only [ff,w20,p20]
  exact HX (L.length-(i+1)) _ _ (by omega) ⟨i+1,a',Lt',at',rfl,by omega,by simp (disch:=decide) only [ff,hk 0 (by decide),p0],by simp (disch:=decide) only [ff,hk 1 (by decide),p1],by simp (disch:=decide) only [ff,hk 2 (by decide),p2],by simp (disch:=decide) only [ff,hk 3 (by decide),p3],by simp (disch:=decide) only [ff,w5],by simp (disch:=decide) only [ff,w18,p18],by simp (disch:=decide) only [ff,w19,p19],by simp only [ff]<;>rfl,ya',s',d',hT'⟩
 simp only [ff,cx,p3,c3 lq4]
 refine pv (fun hb=>?_) (fun hb=>?_)
 . rw [if_pos (by simpa using hb)]at hTT
   exact next _ _ _ a Lt at_ (fun k hk=>by simp (disch:=omega) only [au]) (by simp (disch:=decide) only [ff]) (by simp (disch:=decide) only [ff]) (by simp (disch:=decide) only [ff]) (by simp (disch:=decide) only [ff,p5]) ya s4 d4 hTT
 rw [if_neg (by simpa using hb)]at hTT
 unfold B5
 have k7:∀(K0:Exit->Rg->Hp->Prop) (p':Rg) (h5 a':Hp) (Lt':List (Int × Int)),(∀k,k<=3->p' k=p k)->p' 18=p 18->p' 19=p 19->p' 20=p 20->p' 7 = .pointer (some ⟨x,0,none⟩)->h5 x=some (oc sl)->Y Lt' a'->HL.Sep [a',q] h5->Dis G h5->HL.feed cc Lt' (fm r (L.drop (i+1)) sl.t)=TT->
  tk G (bv X K0) p' h5:=by
  intro K0 p' h5 a' Lt' hk w18 w19 w20 w7 b5 ya' s' d' hT'
  have c5:∀j,af G h5 ⟨x,j,none⟩=_:=fun j=>aj (ai b5)
  unfold tk
  simp only [ff,w7,c5]
  exact next _ _ _ a' Lt' sl.t (fun k hk'=>by simp (disch:=omega) only [au];exact hk k hk') (by simp (disch:=decide) only [ff,w18]) (by simp (disch:=decide) only [ff,w19]) (by simp (disch:=decide) only [ff,w20]) (by simp only [ff]) ya' s' d' hT'
 simp (disch:=decide) only [ff,cx,p5]
 by_cases hg:sl.f>at_
 rotate_left
 . rw [if_neg hg]at hTT
   simp only [ff,show decide (sl.f>at_)=false from decide_eq_false hg,dw]
   exact k7 _ _ _ a Lt (fun k hk=>by simp (disch:=omega) only [au]) (by simp (disch:=decide) only [ff]) (by simp (disch:=decide) only [ff]) (by simp (disch:=decide) only [ff]) (by simp (disch:=decide) only [ff]) b4 ya s4 d4 hTT
 rw [if_pos hg]at hTT
 simp only [ff,show decide (sl.f>at_)=true from decide_eq_true hg,p0,p5,cx]
 have s5:HL.Sep [a,q.set x (oc sl)] h4:=by
  rw [<- eh]
  have:=(s.swap.grow (o:=oc sl) hx).swap
  exact this
 refine jk ?_ (yl Lt (at_,sl.f) a (q.set x (oc sl)) h4 ya s5 d4)
 rintro v h6 ⟨a',rfl,s',d',hy⟩
 have b6:h6 x=some (oc sl):=s'.at 1 rfl ag
 have s6:HL.Sep [a',q] h6:=(s'.swap.cut (di (s.drop.hd.none hx))).swap
 simp only [ff]
 cases hc2:cc (Lt++[(at_,sl.f)])with
 |true=>
  rw [hc2,if_pos rfl]at hy
  rw [HL.H3 hc2]at hTT
  simp only [ff]
  exact k7 _ _ _ a' _ (fun k hk=>by simp (disch:=omega) only [au]) (by simp (disch:=decide) only [ff]) (by simp (disch:=decide) only [ff]) (by simp (disch:=decide) only [ff]) (by simp (disch:=decide) only [ff]) b6 hy s6 d' hTT
 |false=>
  rw [hc2,if_neg (by decide)]at hy
  simp only [ff]
  rw [<- hKK]
  try simp only [ff]
  exact Bb.no s6 d' hy hc2 hTT
def bRtM:=jq bC (jq (jq (jq (jq @Ty @kv) (jq @Xy (jq @Ib @Am))) (jq (jq @Al @Ak) (jq @Rs (jq @ld3 @ld34)))) (jq (jq (jq @Wz @ld3p) (jq @ld98p (jq @ld99p @ln99p))) (jq (jq @ik (jq @l8 @jj)) (jq @pm (jq @ry @Gr)))))
theorem Ux {G h a q:Hp} {y:Value} {Y:List (Int × Int)->Hp->Prop} {N:Nat} {b1 b2 b3 tp:Nat} {T:Tb} {c r:Int}
 (yl:YlN P_ gapA (fun _=>True) N G y Y) (ya:Y [] a) (s:HL.Sep [a,q] h) (h1:q b1=some (.cells #[.pointer (some ⟨tp,0,none⟩)] 34 (0,0))) (h2:q b2=some (.cells #[c] 3 (0,0))) (h3:q b3=some (.cells #[r] 3 (0,0))) (ts:TSee G q tp T)
 (fw:∀L∈T,L.length<=50000) (hN:(if inT T.length c=true then Fa (rowT T c) r else []).length<=N+1):
 al P_ G 164 #[y,.pointer (some ⟨b1,0,none⟩),.pointer (some ⟨b2,0,none⟩),.pointer (some ⟨b3,0,none⟩)] h (fun _ h'=>xu G q Y (if inT T.length c=true then Fa (rowT T c) r else []) h'):=by
 refine al.assume fun d=>S6 (by simp) ?_
 unfold S164
 generalize hTT:(if inT T.length c=true then Fa (rowT T c) r else [])=TT at hN ⊢
 have c1:∀{h':Hp},q.le h'->∀j,af G h' ⟨b1,j,none⟩=_:=fun l j=>aj (ai (l _ _ h1))
 have c2:∀{h':Hp},q.le h'->∀j,af G h' ⟨b2,j,none⟩=_:=fun l j=>aj (ai (l _ _ h2))
 have c3:∀{h':Hp},q.le h'->∀j,af G h' ⟨b3,j,none⟩=_:=fun l j=>aj (ai (l _ _ h3))
 have lq:=s.in 1 rfl
 simp only [bRtM,c1 lq,c2 lq]
 refine (Hs (c:=c) (ts.up lq d)).mono ?_
 rintro _ h ⟨rfl,rfl⟩
 rw [Ot]
 cases hc:inT T.length c with
 |false=>
  rw [hc,if_neg (by decide)]at hTT
  try simp only [bRtM]
  exact xu.go s d ya hTT
 |true=>
 obtain ⟨k0,k1⟩:=Ae.1 hc
 have hL:=od k0 k1
 rw [hc,if_pos rfl]at hTT
 generalize hLL:rowT T c=L at*
 obtain ⟨rb,e1,e2⟩:=ts
 obtain ⟨sa,cap,e3,e4⟩:=e2 _ _ hL
 have fL:=fw L (List.mem_of_getElem? hL)
 try simp only [bRtM]
 unfold Px
 simp (disch:=decide) only [bRtM,c1 lq,c2 lq,c3 lq,jh lq d e1,ix98p k0 k1,Nat.mul_one,jh lq d e3]
 generalize hKK:retK P_ G _ _=KK
 refine b8 (fun m p h3=>∃(i:Nat) (a:Hp) (Lt:List (Int × Int)) (at_:Int),m=L.length-i/\i<=L.length/\p 0=y/\p 1 = .pointer (some ⟨b1,0,none⟩)/\p 2 = .pointer (some ⟨b2,0,none⟩)/\p 3 = .pointer (some ⟨b3,0,none⟩)/\p 5 = .int .i64 at_/\p 18 = .slice sa L.length cap/\p 19 = .int .i64 L.length/\p 20 = .int .i64 i/\
  Y Lt a/\HL.Sep [a,q] h3/\Dis G h3/\Lt++fm r (L.drop i) at_=TT) ?_
  (m:=L.length) ⟨0,a,[],0,rfl,Nat.zero_le _,by simp (disch:=decide) only [bRtM],by simp (disch:=decide) only [bRtM],by simp (disch:=decide) only [bRtM],by simp (disch:=decide) only [bRtM],by simp (disch:=decide) only [bRtM],by simp (disch:=decide) only [bRtM],by simp (disch:=decide) only [bRtM],by simp only [bRtM]<;>rfl,ya,s,d,hTT⟩
 clear ya s d lq
 clear hTT
 clear a h
 rintro m p h ⟨i,a,Lt,at_,rfl,hi,p0,p1,p2,p3,p5,p18,p19,p20,ya,s,d,hTT⟩ X HX
 have lq:=s.in 1 rfl
 unfold Pv
 simp only [bRtM,p19,p20]
 refine bm (fun hlt=>?_) (fun hge=>?_)
 rotate_left
 . -- the last one
   obtain rfl:i=L.length:=by omega
   rw [List.drop_of_length_le (Nat.le_refl _),fm]at hTT
   try simp (disch:=first|decide|omega) only [bRtM,Nat.reduceAdd,Nat.reduceMul]
   unfold Pw
   simp (disch:=decide) only [bRtM,p5]
   refine bm (fun hl=>?_) (fun hl=>?_)
   . rw [if_pos hl]at hTT
     simp only [bRtM,p0]
     refine jk ?_ (yl Lt (at_,FV) a q h (by rw [<- hTT]at hN;simp only [List.length_append,List.length_cons,List.length_nil]at hN;omega) trivial ya s d)
     rintro v h' ⟨a',rfl,s',d',hy⟩
     rw [<- hKK]
     try simp only [bRtM]
     exact xu.go s' d' hy hTT
   . rw [if_neg hl,List.append_nil]at hTT
     rw [<- hKK]
     try simp only [bRtM]
     exact xu.go s d ya hTT
 obtain ⟨sl,hs⟩:∃sl,L[i]?=some sl:=⟨_,List.getElem?_eq_getElem (by omega)⟩
 obtain ⟨b',of,rfl,z0,z1,z2⟩:=Sees.slot (e4.up lq d) hs
 rw [am2 hs]at hTT
 unfold B6
 simp (disch:=first|decide|exact ao|exact am|omega|rfl) only [bRtM,p18,p20,ix99 (Int.natCast_nonneg i) hlt,z0,z1,z2]
 intro x hx gx
 generalize eh:Hp.set h x _=h4
 obtain ⟨l4,d4,b4⟩:=boxed eh hx d gx
 have s4:HL.Sep [a,q] h4:=by rw [<- eh];exact s.past hx
 have lq4:=s4.in 1 rfl
 have cx:∀j,af G h4 ⟨x,j,none⟩=_:=fun j=>aj (ai b4)
 have next:∀(K0:Exit->Rg->Hp->Prop) (p':Rg) (h5 a':Hp) (Lt':List (Int × Int)) (at':Int),(∀k,k<=3->p' k=p k)->p' 18=p 18->p' 19=p 19->p' 20=p 20->p' 5 = .int .i64 at'->Y Lt' a'->HL.Sep [a',q] h5->Dis G h5->Lt'++fm r (L.drop (i+1)) at'=TT->
  qp G (bv X K0) p' h5:=by
  intro K0 p' h5 a' Lt' at' hk w18 w19 w20 w5 ya' s' d' hT'
  unfold qp
  simp (disch:=first|decide|omega) only [bRtM,w20,p20]
  exact HX (L.length-(i+1)) _ _ (by omega) ⟨i+1,a',Lt',at',rfl,by omega,by simp (disch:=decide) only [bRtM,hk 0 (by decide),p0],by simp (disch:=decide) only [bRtM,hk 1 (by decide),p1],by simp (disch:=decide) only [bRtM,hk 2 (by decide),p2],by simp (disch:=decide) only [bRtM,hk 3 (by decide),p3],by simp (disch:=decide) only [bRtM,w5],by simp (disch:=decide) only [bRtM,w18,p18],by simp (disch:=decide) only [bRtM,w19,p19],by simp only [bRtM]<;>rfl,ya',s',d',hT'⟩
 simp only [bRtM,cx,p3,c3 lq4]
 refine pv (fun hb=>?_) (fun hb=>?_)
 . rw [if_pos (by simpa using hb)]at hTT
   exact next _ _ _ a Lt at_ (fun k hk=>by simp (disch:=omega) only [au]) (by simp (disch:=decide) only [bRtM]) (by simp (disch:=decide) only [bRtM]) (by simp (disch:=decide) only [bRtM]) (by simp (disch:=decide) only [bRtM,p5]) ya s4 d4 hTT
 rw [if_neg (by simpa using hb)]at hTT
 unfold B5
 have k7:∀(K0:Exit->Rg->Hp->Prop) (p':Rg) (h5 a':Hp) (Lt':List (Int × Int)),(∀k,k<=3->p' k=p k)->p' 18=p 18->p' 19=p 19->p' 20=p 20->p' 7 = .pointer (some ⟨x,0,none⟩)->h5 x=some (oc sl)->Y Lt' a'->HL.Sep [a',q] h5->Dis G h5->Lt'++fm r (L.drop (i+1)) sl.t=TT->
  tk G (bv X K0) p' h5:=by
  intro K0 p' h5 a' Lt' hk w18 w19 w20 w7 b5 ya' s' d' hT'
  have c5:∀j,af G h5 ⟨x,j,none⟩=_:=fun j=>aj (ai b5)
  unfold tk
  simp only [bRtM,w7,c5]
  exact next _ _ _ a' Lt' sl.t (fun k hk'=>by simp (disch:=omega) only [au];exact hk k hk') (by simp (disch:=decide) only [bRtM,w18]) (by simp (disch:=decide) only [bRtM,w19]) (by simp (disch:=decide) only [bRtM,w20]) (by simp only [bRtM]) ya' s' d' hT'
 simp (disch:=decide) only [bRtM,cx,p5]
 by_cases hg:sl.f>at_
 rotate_left
 . rw [if_neg hg]at hTT
   simp only [bRtM,show decide (sl.f>at_)=false from decide_eq_false hg,dw]
   exact k7 _ _ _ a Lt (fun k hk=>by simp (disch:=omega) only [au]) (by simp (disch:=decide) only [bRtM]) (by simp (disch:=decide) only [bRtM]) (by simp (disch:=decide) only [bRtM]) (by simp (disch:=decide) only [bRtM]) b4 ya s4 d4 hTT
 rw [if_pos hg]at hTT
 simp only [bRtM,show decide (sl.f>at_)=true from decide_eq_true hg,p0,p5,cx]
 have s5:HL.Sep [a,q.set x (oc sl)] h4:=by
  rw [<- eh]
  have:=(s.swap.grow (o:=oc sl) hx).swap
  exact this
 refine jk ?_ (yl Lt (at_,sl.f) a (q.set x (oc sl)) h4 (by rw [<- hTT]at hN;simp only [List.length_append,List.length_cons]at hN;omega) trivial ya s5 d4)
 rintro v h6 ⟨a',rfl,s',d',hy⟩
 have b6:h6 x=some (oc sl):=s'.at 1 rfl ag
 have s6:HL.Sep [a',q] h6:=(s'.swap.cut (di (s.drop.hd.none hx))).swap
 simp only [bRtM]
 exact k7 _ _ _ a' _ (fun k hk=>by simp (disch:=omega) only [au]) (by simp (disch:=decide) only [bRtM]) (by simp (disch:=decide) only [bRtM]) (by simp (disch:=decide) only [bRtM]) (by simp (disch:=decide) only [bRtM]) b6 hy s6 d' (by rw [<- hTT];simp)
end Go.Proofs.YtfflipnhffknnaaGreatDoor.Rv
end
section
namespace Go.Proofs.YtfflipnhffknnaaGreatDoor
open Go Go.HL Go.Proofs.Resv Go.Proofs.Srch
def bRtN:=jq bC (jq (jq (jq @al142 (jq @al28 @af3)) (jq @gc (jq @Mf @cf145))) (jq (jq @cf146 (jq @cf88 @ld142)) (jq (jq @ld28 @ln22) (jq @Qm @true_and))))
theorem setR2 {n d e:Nat} {v u:Value} {r:Rg} (hd:d<n) (he:e<n):setR n #[d,e] #[v,u] r=upd (upd r d v) e u:=by
 show putR n (putR n r (some d) v) (some e) u=_
 simp only [putR,if_pos hd,if_pos he]
theorem aj5 {G:Hp} {a b c y:Value} {h:Hp} {K:VK}:opE P_ G (ig (.func (.func 164) #[] #[a,b,c]) #[y]) h K=al P_ G 164 #[y,a,b,c] h K:=by kernel_rfl
def SpY (xb l:Nat) (ob:Obj) (L:List Sp) (b:Hp):Prop:=∃ip v,Slc mj 151 ip v L/\Sep [ip,noHp.set xb (.cells #[v] 142 (0,0)),noHp.set l ob] b
theorem Uz {G:Hp} {y:Value} {xb l:Nat} {oo:Option Exit->Obj} {r:Rg} (gl:G l=none) (ho:∀e,gm (oo e)=false) (g13:r 13 = .pointer (some ⟨xb,0,none⟩))
 (hy:∀(args:Array Value) (h1:Hp) (K1:Value->Hp->Prop),args.size=2->h1 l=some (oo none)->
  Ce G (setR 46 #[33,34] args r) h1 (fun e r2 h2=>e = .normal/\h2 l=some (oo none)/\∀ob,gm ob=false->Cd G r2 (h2.set l ob) (fun e _ h3=>h3 l=some ob/\match e with
   | .normal=>K1 (.bool true) (h3.set l (oo none))
   | .panic _=>False
   | .outgrown=>False
   |e=>K1 (.bool false) (h3.set l (oo (some e)))))->
  opH P_ G (ig y args) h1 K1):YlN P_ Rv.gapA (fun _=>True) 60000 G y (SpY xb l (oo none)):=by
 rintro L p b q h hL _ ⟨ip,v,sl,sb⟩ s d
 have s1:Sep [ip,noHp.set xb (.cells #[v] 142 (0,0)),noHp.set l (oo none),q] h:=s.open sb
 refine hy (Rv.gapA p) h _ rfl (s1.at 2 rfl ag) ?_
 rw [setR2 (by decide) (by decide)]
 unfold Ce
 refine ⟨rfl,s1.at 2 rfl ag,fun ob hob=>?_⟩
 have s2:=(s1.pick 2 rfl rfl).put (o:=ob) ag
 rw [set_set]at s2
 have d2:Dis G (h.set l ob):=d.set gl
 generalize Hp.set h l ob=h2 at s2 d2 ⊢
 have cb:af G h2 ⟨xb,0,none⟩=some v:=by rw [aj (ai (s2.at 2 rfl ag))];rfl
 unfold Cd
 simp (disch:=decide) only [bRtN,g13,cb]
 intro x hx gx
 have s4:=s2.past (o := .cells #[p.1,p.2] 151 (0,0)) hx
 have d4:=d2.set (o := .cells #[p.1,p.2] 151 (0,0)) gx
 have hxs:(h2.set x (.cells #[p.1,p.2] 151 (0,0))) x=some (.cells #[p.1,p.2] 151 (0,0)):=ag
 generalize Hp.set h2 x _=h4 at s4 d4 hxs ⊢
 refine dm mj (by decide) (L:=L) (M:=[p]) V9 eospan (by decide) (by decide) (s4.pick 1 rfl rfl) d4 sl (Sees.row hxs (by simp [mj,Cod.rows]) (by simp)) (by simp;omega) ?_
 intro v' ip' h5 sl' s5 d5
 obtain ⟨sa,cap,rfl,hcap⟩:=sl.len (by decide)
 obtain ⟨sa',cap',rfl,hcap'⟩:=sl'.len (by decide)
 have hk5:h5 xb=some (.cells [Value.slice sa L.length cap].toArray 142 (0,0)):=s5.at 2 rfl ag
 try simp (disch:=first|decide|omega) only [bRtN,Nat.reduceAdd,Nat.reduceMul]
 rw [bz sz142 rfl hk5 (by simp)]
 try simp only [bRtN,List.set_cons_zero]
 have s7:=(s5.pick 2 rfl rfl).put (o := .cells #[.slice sa' (L++[p]).length cap'] 142 (0,0)) ag
 rw [set_set]at s7
 have d7:=d5.set (o := .cells #[.slice sa' (L++[p]).length cap'] 142 (0,0)) (d5 _ _ hk5)
 generalize Hp.set h5 xb _=h7 at s7 d7 ⊢
 try simp (disch:=first|decide|omega) only [bRtN,Nat.reduceAdd,Nat.reduceMul]
 refine ⟨s7.at 2 rfl ag,?_⟩
 have s8:=(s7.pick 2 rfl rfl).put (o:=oo none) ag
 rw [set_set]at s8
 obtain ⟨b',t1,t2⟩:=Sep.pack [_,_,_] (s8.sel (L':=[ip',noHp.set xb (.cells #[.slice sa' (L++[p]).length cap'] 142 (0,0)),noHp.set l (oo none),q]) [2,1,0,3] (by decide) rfl)
 exact ⟨b',t1,d7.set gl,ip',_,sl',t2⟩
theorem ac4 {T:Tb} {r:Int} {N:List Int} {n:Int}:lr T r (N++[n])=qw (lr T r N) (n9 T r n):=by
 unfold lr
 rw [List.foldl_append]
 rfl
theorem Af {G h:Hp} {g cv:Value} {w k tp bb:Nat} {f:Nat->Nat->Int} {T:Tb} {r:Int} {cells:List Cell} (gs:GS G h g w k f) (ts:Rv.TSee G h tp T) (gt:iu T) (fw:Few T bb) (hbb:bb<=50000) (sc:Sees dl G h cv cells) (hc:cells.length<=300):
 al P_ G 108 #[g,.pointer (some ⟨tp,0,none⟩),r,cv] h (fun u h'=>∃ip,Slc mj 151 ip u (lr T r (cells.map (numI w k)))/\Sep [ip,h] h'/\Dis G h'):=by
 obtain ⟨ca,cc,rfl,_⟩:=id sc
 refine al.assume fun d=>av2 (by simp) ?_
 unfold S108
 simp only [bRtN]
 intro x0 hx0 gx0
 have s0:=(Sep.one (h:=h)).new (o := .cells #[(0:Int),(4611686018427387904:Int)] 151 (0,0)) hx0
 have d0:=d.set (o := .cells #[(0:Int),(4611686018427387904:Int)] 151 (0,0)) gx0
 generalize Hp.set h x0 _=h0 at s0 d0 ⊢
 generalize hKK:retK P_ G _ _=KK
 refine b8 (fun m p h'=>∃(i:Nat) (ip:Hp) (v:Value),m=cells.length-i/\i<=cells.length/\p 0=g/\p 1 = .pointer (some ⟨tp,0,none⟩)/\p 2 = .int .i64 r/\p 9=v/\p 18 = .slice ca cells.length cc/\p 19 = .int .i64 cells.length/\p 20 = .int .i64 i/\
  Slc mj 151 ip v (lr T r ((cells.take i).map (numI w k)))/\Sep [ip,h] h'/\Dis G h') ?_ (m:=cells.length)
  ⟨0,noHp.set x0 (.cells #[(0:Int),(4611686018427387904:Int)] 151 (0,0)),.slice (some ⟨x0,0,none⟩) 1 1,rfl,by omega,by simp (disch:=decide) only [bRtN],by simp (disch:=decide) only [bRtN],by simp (disch:=decide) only [bRtN],by simp (disch:=decide) only [bRtN],by simp (disch:=decide) only [bRtN],by simp (disch:=decide) only [bRtN],by simp only [bRtN];rfl,⟨some x0,1,[],rfl,by rw [ag];rfl,rfl⟩,s0,d0⟩
 rintro m p h1 ⟨i,ip,v,rfl,hi,g0,g1,g2,g9,g18,g19,g20,sl,s,d1⟩ X hX
 unfold Ze
 simp only [bRtN,g19,g20]
 refine bm (fun hlt=>?_) (fun hge=>?_)
 rotate_left
 . obtain rfl:i=cells.length:=by omega
   try simp (disch:=first|decide|omega) only [bRtN,Nat.reduceAdd,Nat.reduceMul]
   unfold Zf
   rw [<- hKK]
   try simp (disch:=decide) only [bRtN,g9]
   rw [List.take_length]at sl
   exact ⟨ip,sl,s,d1⟩
 obtain ⟨c,hcx⟩:∃c,cells[i]?=some c:=⟨_,List.getElem?_eq_getElem (by omega)⟩
 obtain ⟨b,o,rfl,e1,e2⟩:=Sees.cell (sc.up (s.in 1 rfl) d1) hcx
 have htk:cells.take (i+1)=cells.take i++[c]:=by rw [List.take_add_one,hcx];rfl
 unfold J6
 simp (disch:=first|decide|exact ao|exact am|omega|rfl) only [bRtN,g18,g20,g0,ix22 (Int.natCast_nonneg i) hlt,e1,e2]
 intro y hy gy
 have s2:=s.past (o := .cells #[c.1,c.2] 28 (0,0)) hy
 have d2:=d1.set (o := .cells #[c.1,c.2] 28 (0,0)) gy
 have hys:(h1.set y (.cells #[c.1,c.2] 28 (0,0))) y=some (.cells #[c.1,c.2] 28 (0,0)):=ag
 try simp (disch:=first|decide|omega) only [bRtN,Nat.reduceAdd,Nat.reduceMul]
 generalize Hp.set h1 y _=h2 at s2 d2 hys ⊢
 have cy:∀k,af G h2 ⟨y,k,none⟩=_:=fun k=>aj (ai hys)
 try simp (disch:=first|decide|omega) only [bRtN,Nat.reduceAdd,Nat.reduceMul,cy]
 refine (og (c:=c) (gs.up (s2.in 1 rfl) d2)).mono ?_
 rintro _ h2 ⟨rfl,rfl⟩
 try simp only [bRtN]
 refine bm (fun hneg=>?_) (fun hpos=>?_)
 . rw [<- hKK]
   try simp only [bRtN]
   have hin:inT T.length (numI w k c)=false:=by
    cases e:inT T.length (numI w k c)with
    |false=>rfl
    |true=>have:=(Ae.1 e).1;omega
   rw [am6 (List.mem_map.2 ⟨c,List.mem_of_getElem? hcx,rfl⟩) hin]
   exact ⟨noHp,Slc.nil,s2.drop.none,d2⟩
 unfold J5
 simp (disch:=decide) only [bRtN,g1,g2]
 intro xb hxb gxb
 have s3:=s2.new (o := .cells #[.slice none 0 0] 142 (0,0)) hxb
 have d3:=d2.set (o := .cells #[.slice none 0 0] 142 (0,0)) gxb
 try simp (disch:=first|decide|omega) only [bRtN,Nat.reduceAdd,Nat.reduceMul]
 generalize Hp.set h2 xb _=h3 at s3 d3 ⊢
 refine (Rv.Sa).mono ?_
 rintro _ h4 ⟨b1,b2,b3,rfl,l4,d4,q1,q2,q3,hR⟩
 have s4:=hR _ s3
 have hx4:h4 xb=some (.cells #[.slice none 0 0] 142 (0,0)):=s4.at 0 rfl ag
 have ne1:b1≠xb:=fun e=>by rw [e,hx4]at q1;simp at q1
 have ne2:b2≠xb:=fun e=>by rw [e,hx4]at q2;simp at q2
 have ne3:b3≠xb:=fun e=>by rw [e,hx4]at q3;simp at q3
 obtain ⟨s5,sQ⟩:=s4.but
 generalize hQ:but h4 xb=Q at s5 sQ
 have dQ:Dis G Q:=fun b o e=>d4 b o (s5.in 1 rfl _ _ e)
 intro y2 l oo hl gl hoo hy2
 rw [aj5]
 have yl:=Uz (xb:=xb) gl hoo (by simp (disch:=decide) only [bRtN]) hy2
 have s6:Sep [noHp,noHp.set xb (.cells #[.slice none 0 0] 142 (0,0)),noHp.set l (oo none),Q] (h4.set l (oo none)):=((s5.new (o:=oo none) hl).none).sel [0,2,1,3] (by decide) rfl
 obtain ⟨a,s7,sa⟩:=Sep.pack [_,_,_] s6
 refine (Rv.Ux (T:=T) yl ⟨noHp,.slice none 0 0,Slc.nil,sa⟩ s7 (by rw [<- hQ,Pb ne1];exact q1) (by rw [<- hQ,Pb ne2];exact q2) (by rw [<- hQ,Pb ne3];exact q3) (ts.up (sQ.in 1 rfl) dQ) (fun L hL=>by have:=fw L hL;omega)
  (by have:=Ec fw r (numI w k c);unfold n9 at this;omega)).mono ?_
 rintro _ h8 ⟨a',s8,d8,ip2,v2,sl2,sa2⟩
 obtain ⟨h9,s9,t9⟩:=Sep.pack [_,_,_,_] ((((s8.open sa2).pick 3 rfl rfl).open sQ).sel (L':=[ip2,noHp.set xb (.cells #[v2] 142 (0,0)),ip,h,noHp.set l (oo none)]) [2,3,0,1,4] (by decide) rfl)
 have d9:Dis G h9:=fun b o e=>d8 b o (s9.in 0 rfl _ _ e)
 refine ⟨h9,s9.in 0 rfl,?_,.inl ⟨s9.at 1 rfl ag,?_⟩⟩
 . rcases s9.apart (b:=noHp.set l (oo none)) (by simp) l with e|e
   . exact e
   . rw [ag]at e;cases e
 try simp only [bRtN]
 unfold J4
 have cb:af G h9 ⟨xb,0,none⟩=some v2:=by rw [aj (ai (t9.at 1 rfl ag))];rfl
 simp (disch:=decide) only [bRtN,cb,g9]
 have hlA:=C7 gt fw r ((cells.take i).map (numI w k))
 have hlB:=Ec fw r (numI w k c)
 have hmul:((cells.take i).map (numI w k)).length*(bb+1)<=300*50001:=Nat.mul_le_mul (by rw [List.length_map,List.length_take];omega) (by omega)
 refine (Ej (A:=lr T r ((cells.take i).map (numI w k))) (B:=n9 T r (numI w k c)) (sl.see (by decide) (t9.in 2 rfl)) (sl2.see (by decide) (t9.in 0 rfl)) (by omega)).mono ?_
 rintro v3 h10 ⟨ip3,sl3,s10,d10⟩
 have s11:Sep [ip3,h] h10:=(s10.swap.cut (t9.in 3 rfl)).swap
 unfold Cc
 simp (disch:=first|decide|omega) only [bRtN,g20]
 refine hX (cells.length-(i+1)) _ _ (by omega) ⟨i+1,ip3,v3,rfl,by omega,by simp (disch:=decide) only [bRtN,g0],by simp (disch:=decide) only [bRtN,g1],by simp (disch:=decide) only [bRtN,g2],by simp (disch:=decide) only [bRtN],by simp (disch:=decide) only [bRtN,g18],by simp (disch:=decide) only [bRtN,g19],by simp only [bRtN];rfl,?_,s11,d10⟩
 rw [htk,List.map_append,List.map_cons,List.map_nil,ac4,<- Ap _ _ _ (Nat.le_refl _) (yh gt r _) (Cq gt r _)]
 exact sl3
end Go.Proofs.YtfflipnhffknnaaGreatDoor
end
section
namespace Go.Proofs.YtfflipnhffknnaaGreatDoor
open Go Go.HL
section
variable (G:Hp) (K:EK) (r:Rg) (h:Hp)
def md90:Nat->Hint
 |_=>mh false [] [] [] false
def ay7:Prop:=
 opH P_ G (callFunc 134 #[(r 5),(.func (.func 135) #[] #[(r 2)])]) h fun v8 h8=>
 c_ G 136 #[(r 5)] h8 fun v9 h9=>
 K .ret (u6 r 15 (r 5) 16 (.func (.func 135) #[] #[(r 2)]) 17 v8 18 (r 5) 19 v9 4 v9) h9
def S90:Prop:=
 o_ G (Instr.box 68 (r 0)) h fun v0 h0=>o_ G (Instr.box 48 (r 1)) h0 fun v1 h1=>o_ G (Instr.loadAt 68 v0) h1 fun v2 h2=>o_ G (Instr.loadAt 48 v1) h2 fun v3 h3=>
 c_ G 127 #[v2,v3] h3 fun v4 h4=>o_ G (Instr.extract v4 0) h4 fun v5 h5=>o_ G (Instr.extract v4 1) h5 fun v6 h6=>o_ G (Op.unary .not v6) h6 fun v7 h7=>
 (fun q=>cond v7
 (K .ret (upd q 4 (.slice none 0 0)) h7)
 (ay7 G K q h7))
 (u3 (u10 r 2 v0 3 v1 4 (.slice none 0 0) 8 v2 9 v3 10 v4 7 v4 11 v5 12 v6 5 v5) 6 v6 13 v6 14 v7)
theorem enter90:Ent 20 90 [.tmp 4] S90:=ent_ (m:=md90) (c:=(Tryz.f90.body.getD .skip)) (fun _ _ _ _=>by kernel_rfl) Tryz.func90 rfl rfl rfl
def md135:Nat->Hint
 |1=>mh false [0,0,3,0,0,31,63,127] [m_,m_,e_,m_,m_,e_,n_,n_] [false,false,true,false,false,false,false,false] false
 |_=>mh false [] [] [] false
def S135:Prop:=
 o_ G (Instr.box 28 (r 0)) h fun v0 h0=>o_ G (Instr.box 28 (r 1)) h0 fun v1 h1=>
 w_ G h1 (Instr.loadAt 68 (r 2)) h1 fun v2 h2=>
 w_ G h1 (Instr.loadAt 28 v0) h2 fun v3 h3=>
 c_ G 88 #[v2,v3] h3 fun v4 h4=>h1.le h4/\
 w_ G h1 (Instr.loadAt 68 (r 2)) h4 fun v5 h5=>
 w_ G h1 (Instr.loadAt 28 v1) h5 fun v6 h6=>
 c_ G 88 #[v5,v6] h6 fun v7 h7=>
 p_ (binOp .sub 3 v4 v7) h7 fun v8 h8=>
 K .ret (upd (u10 r 3 v0 4 v1 5 (.int .i64 0) 6 v2 7 v3 8 v4 9 v5 10 v6 11 v7 12 v8) 5 v8) h8
theorem at3:Ent 13 135 [.tmp 5] S135:=ent_ (m:=md135) (c:=(Tryz.f135.body.getD .skip)) (fun _ _ _ _=>by kernel_rfl) Tryz.func135 rfl rfl rfl
def md136:Nat->Hint
 |6=>mh false [0,0,3,7,0,0,32,112,240,511] [n_,n_,n_,m_,n_,n_,n_,n_,m_,m_] (fs 10) false
 |11=>mh false [0,0,3,7,0,0,32,112,240,511] [n_,n_,n_,m_,n_,n_,n_,n_,m_,m_] (fs 10) false
 |_=>mh false [] [] [] false
def Yu (G:Hp) (K:EK) (r:Rg) (h:Hp):Prop:=
 K .ret (u2 r 60 (r 0) 2 (r 0)) h
def B9:Prop:=
 o_ G (binOp .add 3 (r 3) (.int .i64 1)) h fun v4 h4=>
 K .normal (u3 r 14 (r 3) 15 v4 3 v4) h4
def Ji:Prop:=
 o_ G (Instr.sliceAt 22 (r 0) (some (r 3)) none none) h fun v12 h12=>o_ G (Builtin.clear_ #[22] 0 #[v12]) h12 fun v13 h13=>o_ G (Instr.sliceAt 22 (r 0) none (some (r 3)) none) h13 fun v14 h14=>
 K .ret (u7 r 54 (r 0) 55 (r 3) 56 v12 57 (r 0) 58 (r 3) 59 v14 2 v14) h14
def qs:Prop:=
 o_ G (binOp .add 3 (r 5) (.int .i64 1)) h fun v17 h17=>
 K .normal (u3 r 33 (r 5) 34 v17 5 v17) h17
def Bh:Prop:=
 p_ (Instr.indexAt 22 (r 4) (r 5)) h fun v18 h18=>
 w_ G h (Instr.loadAt 28 v18) h18 fun v19 h19=>
 p_ (binOp .sub 3 (r 5) (.int .i64 1)) h19 fun v20 h20=>
 p_ (Instr.indexAt 22 (r 4) v20) h20 fun v21 h21=>
 w_ G h (Instr.loadAt 28 v21) h21 fun v22 h22=>
 bk P_ G h (xEq .neq 28 (.tmp 0) (.tmp 0) v19 v22) h22 fun v23 h23=>
 cond v23
 (o_ G (Instr.indexAt 22 (r 4) (r 5)) h23 fun v24 h24=>o_ G (Instr.loadAt 28 v24) h24 fun v25 h25=>o_ G (Instr.indexAt 22 (r 0) (r 3)) h25 fun v26 h26=>
 opH P_ G (su (Instr.storeAt 28 v26 v25)) h26 fun v27 h27=>o_ G (binOp .add 3 (r 3) (.int .i64 1)) h27 fun v28 h28=>
 qs G K (u10 (u10 r 35 (r 4) 36 (r 5) 37 v18 38 v19 39 (r 4) 40 (r 5) 41 v20 42 v21 43 v22 44 v23) 45 (r 0) 46 (r 3) 47 (r 4) 48 (r 5) 49 v24 50 v25 51 v26 52 (r 3) 53 v28 3 v28) h28)
 (qs G K (u10 r 35 (r 4) 36 (r 5) 37 v18 38 v19 39 (r 4) 40 (r 5) 41 v20 42 v21 43 v22 44 v23) h23)
def Jh (r:Rg) (h:Hp) (K:EK):Prop:=
 o_ G (Builtin.len_ #[22] 3 #[(r 4)]) h fun v15 h15=>o_ G (binOp .lss 3 (r 5) v15) h15 fun v16 h16=>
 cond v16
 (Bh G K (u4 r 29 (r 5) 30 (r 4) 31 v15 32 v16) h16)
 (K (.exit 2) (u4 r 29 (r 5) 30 (r 4) 31 v15 32 v16) h16)
def Jj:Prop:=
 p_ (Instr.indexAt 22 (r 0) (r 3)) h fun v5 h5=>
 w_ G h (Instr.loadAt 28 v5) h5 fun v6 h6=>
 p_ (binOp .sub 3 (r 3) (.int .i64 1)) h6 fun v7 h7=>
 p_ (Instr.indexAt 22 (r 0) v7) h7 fun v8 h8=>
 w_ G h (Instr.loadAt 28 v8) h8 fun v9 h9=>
 bk P_ G h (xEq .eql 28 (.tmp 0) (.tmp 0) v6 v9) h9 fun v10 h10=>
 cond v10
 (o_ G (Instr.sliceAt 22 (r 0) (some (r 3)) none none) h10 fun v11 h11=>
 ci (Jh G) (u5 (u10 r 16 (r 0) 17 (r 3) 18 v5 19 v6 20 (r 0) 21 (r 3) 22 v7 23 v8 24 v9 25 v10) 26 (r 0) 27 (r 3) 28 v11 4 v11 5 (.int .i64 1)) h11 (bn 2 (bv (Ji G K) (bn 1 (bv (B9 G K) K)))))
 (B9 G K (u10 r 16 (r 0) 17 (r 3) 18 v5 19 v6 20 (r 0) 21 (r 3) 22 v7 23 v8 24 v9 25 v10) h10)
def Yt (r:Rg) (h:Hp) (K:EK):Prop:=
 o_ G (Builtin.len_ #[22] 3 #[(r 0)]) h fun v2 h2=>o_ G (binOp .lss 3 (r 3) v2) h2 fun v3 h3=>
 cond v3
 (Jj G K (u4 r 10 (r 3) 11 (r 0) 12 v2 13 v3) h3)
 (K (.exit 0) (u4 r 10 (r 3) 11 (r 0) 12 v2 13 v3) h3)
def Yv:Prop:=
 ci (Yt G) (upd r 3 (.int .i64 1)) h (bn 0 (bv (Yu G K) K))
def S136:Prop:=
 o_ G (Builtin.len_ #[22] 3 #[(r 0)]) h fun v0 h0=>o_ G (binOp .lss 3 v0 (.int .i64 2)) h0 fun v1 h1=>
 (fun q=>cond v1
 (K .ret (u2 q 9 (r 0) 2 (r 0)) h1)
 (Yv G K q h1))
 (u4 r 2 (.slice none 0 0) 6 (r 0) 7 v0 8 v1)
theorem at2:Ent 61 136 [.tmp 2] S136:=ent_ (m:=md136) (c:=(Tryz.f136.body.getD .skip)) (fun _ _ _ _=>by kernel_rfl) Tryz.func136 rfl rfl rfl
end
section
variable (G:Hp) (K:EK) (r:Rg) (h:Hp)
def md21:Nat->Hint
 |_=>mh false [] [] [] false
def S21:Prop:=
 o_ G (Instr.box 26 (r 0)) h fun v0 h0=>o_ G (Instr.fieldAt 26 v0 0) h0 fun v1 h1=>o_ G (Instr.loadAt 3 v1) h1 fun v2 h2=>o_ G (binOp .leq 3 v2 (.int .i64 6)) h2 fun v3 h3=>g_ v3 true (o_ G (Instr.fieldAt 26 v0 1) h3) h3 fun v4 h4=>g_ v3 true (o_ G (Instr.loadAt 3 v4) h4) h4 fun v5 h5=>g_ v3 true (o_ G (binOp .leq 3 v5 (.int .i64 6)) h5) h5 fun v6 h6=>
 opH P_ G (bj v3 v6 (.bool false)) h6 fun v7 h7=>g_ v7 true (o_ G (Instr.fieldAt 26 v0 14) h7) h7 fun v8 h8=>g_ v7 true (o_ G (Instr.loadAt 3 v8) h8) h8 fun v9 h9=>g_ v7 true (o_ G (binOp .leq 3 v9 (.int .i64 4000)) h9) h9 fun v10 h10=>
 opH P_ G (bj v7 v10 (.bool false)) h10 fun v11 h11=>g_ v11 true (o_ G (Instr.fieldAt 26 v0 7) h11) h11 fun v12 h12=>g_ v11 true (o_ G (Instr.loadAt 3 v12) h12) h12 fun v13 h13=>g_ v11 true (o_ G (binOp .leq 3 v13 (.int .i64 100)) h13) h13 fun v14 h14=>
 opH P_ G (bj v11 v14 (.bool false)) h14 fun v15 h15=>g_ v15 true (o_ G (Instr.fieldAt 26 v0 10) h15) h15 fun v16 h16=>g_ v15 true (o_ G (Instr.loadAt 3 v16) h16) h16 fun v17 h17=>g_ v15 true (o_ G (binOp .leq 3 v17 (.int .i64 200)) h17) h17 fun v18 h18=>
 opH P_ G (bj v15 v18 (.bool false)) h18 fun v19 h19=>g_ v19 true (o_ G (Instr.fieldAt 26 v0 11) h19) h19 fun v20 h20=>g_ v19 true (o_ G (Instr.loadAt 3 v20) h20) h20 fun v21 h21=>g_ v19 true (o_ G (binOp .leq 3 v21 (.int .i64 200)) h21) h21 fun v22 h22=>
 opH P_ G (bj v19 v22 (.bool false)) h22 fun v23 h23=>g_ v23 true (o_ G (Instr.fieldAt 26 v0 5) h23) h23 fun v24 h24=>g_ v23 true (o_ G (Instr.loadAt 23 v24) h24) h24 fun v25 h25=>g_ v23 true (o_ G (Builtin.len_ #[23] 3 #[v25]) h25) h25 fun v26 h26=>g_ v23 true (o_ G (binOp .leq 3 v26 (.int .i64 4)) h26) h26 fun v27 h27=>
 opH P_ G (bj v23 v27 (.bool false)) h27 fun v28 h28=>g_ v28 true (o_ G (Instr.loadAt 26 v0) h28) h28 fun v29 h29=>g_ v28 true (c_ G 38 #[v29] h29) h29 fun v30 h30=>
 opH P_ G (bj v28 v30 (.bool false)) h30 fun v31 h31=>
 K .ret (upd (u10 (u10 (u10 (u10 r 1 v0 2 (.bool false) 3 v1 4 v2 5 v3 6 v3 7 v4 8 v5 9 v6 10 v7) 11 v7 12 v8 13 v9 14 v10 15 v11 16 v11 17 v12 18 v13 19 v14 20 v15) 21 v15 22 v16 23 v17 24 v18 25 v19 26 v19 27 v20 28 v21 29 v22 30 v23) 31 v23 32 v24 33 v25 34 v26 35 v27 36 v28 37 v28 38 v29 39 v30 40 v31) 2 v31) h31
theorem enter21:Ent 41 21 [.tmp 2] S21:=ent_ (m:=md21) (c:=(Tryz.f21.body.getD .skip)) (fun _ _ _ _=>by kernel_rfl) Tryz.func21 rfl rfl rfl
end
def ld {α:Type} (p:Nat->Bool) (mk:Nat->α):Nat->Nat->List α
 |_,0=>[]
 |n,k+1=>if p n=true then mk n::ld p mk (n+1) k else ld p mk (n+1) k
section
theorem Ee:∀(n:Nat) (L:List Nat),L.Nodup->(∀x∈L,x<n)->L.length<=n
 |0,L,_,h=>by
  cases L with
  |nil=>simp
  |cons x L=>exact absurd (h x (.head _)) (by omega)
 |n+1,L,hn,h=>by
  by_cases hm:n∈L
  . have h1:=Ee n (L.erase n) (hn.erase n) (fun x hx=>by
     have h2:=h x (List.mem_of_mem_erase hx)
     have h3:x≠n:=(List.Nodup.mem_erase_iff hn).1 hx |>.1
     omega)
    rw [List.length_erase_of_mem hm]at h1
    have:=List.length_pos_of_mem hm
    omega
  . have:=Ee n L hn (fun x hx=>by
     have h2:=h x hx
     have h3:x≠n:=fun e=>hm (e▸hx)
     omega)
    omega
theorem Ai {w k:Nat} {L:List Cell} (hn:L.Nodup) (h:∀c∈L,inW w k c=true):L.length<=w*k:=by
 have h1:=Ee (w*k) (L.map fun c=>c.2.toNat*w+c.1.toNat) ?_ ?_
 . simpa using h1
 . rw [List.nodup_iff_pairwise_ne,List.pairwise_map]
   rw [List.nodup_iff_pairwise_ne]at hn
   refine List.Pairwise.imp_of_mem ?_ hn
   intro a b ha hb hab e
   apply hab
   obtain ⟨a1,a2,a3,a4⟩:=i7.1 (h a ha)
   obtain ⟨b1,b2,b3,b4⟩:=i7.1 (h b hb)
   have hw:0<w:=by omega
   obtain ⟨x1,y1⟩:=(cellN (n:=b.2.toNat*w+b.1.toNat) hw (show a.1.toNat<w by omega)).1 e
   obtain ⟨x2,y2⟩:=(cellN (n:=b.2.toNat*w+b.1.toNat) hw (show b.1.toNat<w by omega)).1 rfl
   have e1:a.1.toNat=b.1.toNat:=by rw [x1,<- x2]
   have e2:a.2.toNat=b.2.toNat:=by rw [y1,<- y2]
   exact Prod.ext (by omega) (by omega)
 . intro x hx
   obtain ⟨c,hc,rfl⟩:=List.mem_map.1 hx
   exact (yw (h c hc)).2.2.2
section
variable {C:Conf}
theorem zv (hw:ax C.w 1 16=true) (hk:ax C.h 1 16=true):C.w=(wC C:Int)/\C.h=(kC C:Int)/\1<=wC C/\wC C<=16/\1<=kC C/\kC C<=16:=by
 unfold ax at hw hk
 simp only [Bool.and_eq_true,decide_eq_true_eq]at hw hk
 unfold wC kC
 omega
theorem qq (hw:ax C.w 1 16=true) (hk:ax C.h 1 16=true) (c:Cell):inW (wC C) (kC C) c=inB C c:=by
 obtain ⟨e1,e2,_⟩:=zv hw hk
 rw [Bool.eq_iff_iff,i7]
 unfold inB
 simp only [Bool.and_eq_true,decide_eq_true_eq]
 rw [e1,e2]
 constructor
 . rintro ⟨a,b,c,d⟩;exact ⟨a,c,b,d⟩
 . rintro ⟨a,b,c,d⟩;exact ⟨a,c,b,d⟩
theorem L5 {c:Cell} (h1:0<=c.1) (h2:0<=c.2):fAt (f0C C) c=if c∈C.bl then -1 else if c∈C.po then (C.po.idxOf c:Int)+1 else 0:=by
 have e:((c.1.toNat:Int),(c.2.toNat:Int))=c:=by rw [Int.toNat_of_nonneg h1,Int.toNat_of_nonneg h2]
 unfold fAt f0C kd
 rw [e]
 by_cases hb:c∈C.bl
 . rw [if_pos (List.mem_append_left _ hb),if_pos hb,List.idxOf_append,if_pos hb,if_pos (List.idxOf_lt_length_of_mem hb)]
 . rw [if_neg hb]
   by_cases hp:c∈C.po
   . rw [if_pos (List.mem_append_right _ hp),if_pos hp,List.idxOf_append,if_neg hb,if_neg (by omega)]
     omega
   . rw [if_neg (by simp [hb,hp]),if_neg hp]
theorem N8 (hw:ax C.w 1 16=true) (hk:ax C.h 1 16=true) (c:Cell):ny (wC C) (kC C) (f0C C) c=pq C c:=by
 unfold ny pq
 rw [qq hw hk]
 cases hc:inB C c with
 |false=>rfl
 |true=>
  have hc':=hc
  rw [<- qq hw hk]at hc'
  obtain ⟨a1,a2,a3,a4⟩:=i7.1 hc'
  rw [L5 a1 a3]
  simp only [Bool.true_and]
  rw [Bool.eq_iff_iff]
  by_cases hb:c∈C.bl
  . simp [hb,List.count_eq_zero]
  . have:List.count c C.bl=0:=List.count_eq_zero.2 hb
    rw [if_neg hb]
    simp only [this,beq_self_eq_true,iff_true]
    split
    . simp;omega
    . simp
theorem Ah (hw:ax C.w 1 16=true) (hk:ax C.h 1 16=true) (p:Pose):cj (wC C) (kC C) (f0C C) p=fq C p:=by
 unfold cj fq
 rw [N8 hw hk,N8 hw hk]
theorem Ol (hw:ax C.w 1 16=true) (hk:ax C.h 1 16=true) {c:Cell} (hc:inB C c=true):uy (wC C) (kC C) (f0C C) c.1.toNat c.2.toNat=(decide (c∈C.bl)||lg C c):=by
 have hc':=hc
 rw [<- qq hw hk]at hc'
 obtain ⟨a1,a2,a3,a4⟩:=i7.1 hc'
 have e1:(c.1.toNat:Int)=c.1:=Int.toNat_of_nonneg a1
 have e2:(c.2.toNat:Int)=c.2:=Int.toNat_of_nonneg a3
 have hf:=L5 (C:=C) a1 a3
 unfold uy
 rw [Ah hw hk,Ah hw hk]
 rw [show f0C C c.1.toNat c.2.toNat=fAt (f0C C) c from rfl,hf]
 unfold fq east lg
 simp only [e1,e2]
 by_cases hb:c∈C.bl
 . simp [hb]
 . have ho:pq C (c.1,c.2)=true:=by
    unfold pq
    rw [show ((c.1,c.2):Cell)=c from rfl,hc]
    simp [List.count_eq_zero.2 hb]
   rw [if_neg hb,ho]
   have hne:((if c∈C.po then (C.po.idxOf c:Int)+1 else 0) == -1)=false:=by
    split
    . simp;omega
    . rfl
   rw [hne]
   simp [hb]
theorem C5 {c:Cell}:rf C c=true↔c∈C.ro.flatMap bw:=by
 unfold rf
 rw [List.any_eq_true,List.mem_flatMap]
 refine exists_congr fun p=>and_congr_right fun _=>?_
 rw [decide_eq_true_eq,<- List.count_pos_iff]
 omega
theorem ai8 {c:Cell}:Ha C c<0↔c∉C.po:=by
 unfold Ha
 split
 . rename_i h;simp [h]<;>omega
 . rename_i h;simp [h]
theorem f1_at (hw:ax C.w 1 16=true) (hk:ax C.h 1 16=true) {c:Cell} (hc:inB C c=true):fAt (f1 (wC C) (kC C) (f0C C)) c=if c∈C.bl then -1 else if lg C c=true then (if c∈C.po then (C.po.idxOf c:Int)+1 else 0)else -2:=by
 have hc':=hc
 rw [<- qq hw hk]at hc'
 obtain ⟨a1,a2,a3,a4⟩:=i7.1 hc'
 unfold fAt f1
 rw [Ol hw hk hc,show f0C C c.1.toNat c.2.toNat=fAt (f0C C) c from rfl,L5 a1 a3]
 by_cases hb:c∈C.bl
 . simp [hb]
 . by_cases hs:lg C c=true
   . simp [hb,hs]
   . simp [hb,hs]
theorem f3_at (hw:ax C.w 1 16=true) (hk:ax C.h 1 16=true) {c:Cell} (hc:inB C c=true):fAt (f3C C) c=if rf C c=true then -2 else if c∈C.bl then -1 else if lg C c=true then (if c∈C.po then (C.po.idxOf c:Int)+1 else 0)else -2:=by
 have hc':=hc
 rw [<- qq hw hk]at hc'
 obtain ⟨a1,a2,a3,a4⟩:=i7.1 hc'
 have e:((c.1.toNat:Int),(c.2.toNat:Int))=c:=by rw [Int.toNat_of_nonneg a1,Int.toNat_of_nonneg a3]
 have h1:=f1_at hw hk hc
 unfold f3C fAt f2
 rw [e]
 by_cases hh:c∈C.ro.flatMap bw
 . rw [if_pos hh,if_pos (C5.2 hh)]
 . rw [if_neg hh,if_neg (fun q=>hh (C5.1 q))]
   exact h1
theorem Gq (hw:ax C.w 1 16=true) (hk:ax C.h 1 16=true) (c:Cell):(inW (wC C) (kC C) c=true/\fAt (f3C C) c=0)↔ru C c=true:=by
 rw [qq hw hk]
 unfold ru pq
 cases hc:inB C c with
 |false=>simp
 |true=>
  rw [f3_at hw hk hc]
  simp only [Bool.true_and,true_and,Bool.and_eq_true,decide_eq_true_eq,beq_iff_eq,Bool.not_eq_true',ai8,List.count_eq_zero]
  by_cases hh:rf C c=true
  . simp [hh]
  . have hh':rf C c=false:=by simpa using hh
    by_cases hb:c∈C.bl
    . simp [hh',hb]
    . by_cases hs:lg C c=true
      . by_cases hp:c∈C.po
        . simp [hh',hb,hs,hp];omega
        . simp [hh',hb,hs,hp]
      . have hs':lg C c=false:=by simpa using hs
        simp [hh',hb,hs']
theorem Wf:(∀n∈[C.un,C.ac,C.sp,C.tu,C.ho,C.re],ax n 1 1000=true)↔ax C.un 1 1000=true/\ax C.ac 1 1000=true/\ax C.sp 1 1000=true/\ax C.tu 1 1000=true/\ax C.ho 1 1000=true/\ax C.re 1 1000=true:=by
 simp only [List.mem_cons,List.not_mem_nil,or_false,forall_eq_or_imp,forall_eq]
theorem Rp:dh C↔Zk C:=by
 constructor
 . intro M
   have hw:=M.laid.w
   have hk:=M.laid.h
   obtain ⟨e1,e2,w1,w2,k1,k2⟩:=zv hw hk
   have hm:wC C*kC C<=16*16:=Nat.mul_le_mul w2 k2
   obtain ⟨s1,s2,s3,s4,s5,s6⟩:=Wf.1 M.six
   have hnd:=List.nodup_append.1 M.laid.once
   have hall:=M.laid.all
   have hin:∀c∈C.bl++C.po,inB C c=true:=fun c hc=>by rw [<- qq hw hk];exact hall c hc
   have hpb:∀c∈C.po,lg C c=true:=fun c hc=>by
    have hcin:=hin c (List.mem_append_right _ hc)
    have hcw:=hall c (List.mem_append_right _ hc)
    obtain ⟨a1,a2,a3,a4⟩:=i7.1 hcw
    have hnb:c∉C.bl:=fun hb=>hnd.2.2 c hb c hc rfl
    have hkeep:=Ol hw hk hcin
    cases hs:lg C c with
    |true=>rfl
    |false=>
     exfalso
     have:=M.rob.plain c.1.toNat c.2.toNat (by omega) (by omega) (by rw [hkeep,hs];simp [hnb])
     rw [show f0C C c.1.toNat c.2.toNat=fAt (f0C C) c from rfl,L5 a1 a3,if_neg hnb,if_pos hc]at this
     omega
   refine ⟨?_,M.laid.po8,M.rob.r8,?_,fun c hc=>⟨hin c (List.mem_append_left _ hc),List.nodup_iff_count.1 hnd.1 c,List.count_eq_zero.2 fun hp=>hnd.2.2 c hc c hp rfl⟩,
    fun c hc=>⟨hin c (List.mem_append_right _ hc),List.nodup_iff_count.1 hnd.2.1 c,?_,hpb c hc⟩,fun p hp=>by rw [<- Ah hw hk];exact M.rob.fit p hp,fun c _=>List.nodup_iff_count.1 M.rob.once c,?_⟩
   . unfold qc
     simp [hw,hk,M.ht,M.qu,M.bu,s1,s2,s3,s4,s5,s6]
   . have:=Ai (w:=wC C) (k:=kC C) hnd.1 (fun c hc=>hall c (List.mem_append_left _ hc))
     omega
   . cases hh:rf C c with
     |false=>rfl
     |true=>
      exfalso
      have:=M.rob.low c (C5.1 hh)
      rw [f1_at hw hk (hin c (List.mem_append_right _ hc)),if_neg (fun hb=>hnd.2.2 c hb c hc rfl),if_pos (hpb c hc),if_pos hc]at this
      omega
   . refine ⟨?_,fun s hs=>?_,M.sta.apart,M.sta.most,M.sta.nums,M.sta.once⟩
     . have:=Ai (w:=wC C) (k:=kC C) M.sta.apart (fun c hc=>by
        obtain ⟨s,hs,rfl⟩:=List.mem_map.1 hc
        exact (M.sta.each s hs).1)
       rw [List.length_map]at this
       omega
     . obtain ⟨q1,q2,q3⟩:=M.sta.each s hs
       exact ⟨(Gq hw hk s.1).1 ⟨q1,q2⟩,q3⟩
 . intro M
   have hn:=M.nums
   unfold qc at hn
   simp only [Bool.and_eq_true]at hn
   obtain ⟨hw,hk,hht,s1,s2,s3,s4,s5,s6,hqu,hbu⟩:=hn
   obtain ⟨e1,e2,w1,w2,k1,k2⟩:=zv hw hk
   have hin:∀c∈C.bl++C.po,inW (wC C) (kC C) c=true:=fun c hc=>by
    rw [qq hw hk]
    rcases List.mem_append.1 hc with h|h
    . exact (M.blk c h).1
    . exact (M.prt c h).1
   have hnb:C.bl.Nodup:=List.nodup_iff_count.2 fun c=>by
    by_cases hc:c∈C.bl
    . exact (M.blk c hc).2.1
    . rw [List.count_eq_zero.2 hc];omega
   have hnp:C.po.Nodup:=List.nodup_iff_count.2 fun c=>by
    by_cases hc:c∈C.po
    . exact (M.prt c hc).2.1
    . rw [List.count_eq_zero.2 hc];omega
   have hdis:∀a∈C.bl,∀b∈C.po,a≠b:=fun a ha b hb e=>by
    have:=(M.blk a ha).2.2
    rw [List.count_eq_zero]at this
    exact this (e▸hb)
   have hnd:(C.bl++C.po).Nodup:=List.nodup_append.2 ⟨hnb,hnp,hdis⟩
   have hlaid:Qe C:=⟨hw,hk,M.po8,by
    have:=Ai (w:=wC C) (k:=kC C) hnb (fun c hc=>hin c (List.mem_append_left _ hc))
    rw [e1,e2,<- Int.natCast_mul];omega,hin,hnd⟩
   have hro:∀c∈C.ro.flatMap bw,inB C c=true/\c∉C.bl:=fun c hc=>by
    obtain ⟨p,hp,hcp⟩:=List.mem_flatMap.1 hc
    have hf:=M.fit p hp
    rw [<- Ah hw hk]at hf
    obtain ⟨q1,q2⟩:=pd hf c hcp
    obtain ⟨a1,a2,a3,a4⟩:=i7.1 q1
    refine ⟨by rw [<- qq hw hk];exact q1,fun hb=>q2 ?_⟩
    rw [L5 a1 a3,if_pos hb]
   refine ⟨Wf.2 ⟨s1,s2,s3,s4,s5,s6⟩,hht,hqu,hbu,hlaid,⟨M.ro8,fun x y hx hy hkp=>?_,fun p hp=>by rw [Ah hw hk];exact M.fit p hp,fun c hc=>?_,?_⟩,⟨fun s hs=>?_,M.bins.apart,M.bins.nums,M.bins.once,M.bins.most⟩⟩
   . have hcw:inW (wC C) (kC C) ((x:Int),(y:Int))=true:=i7.2 ⟨by simp,by simpa using hx,by simp,by simpa using hy⟩
     have hcb:=hcw
     rw [qq hw hk]at hcb
     have hkeep:=Ol hw hk hcb
     simp only [Int.toNat_natCast]at hkeep
     rw [hkp]at hkeep
     have h0:=L5 (C:=C) (c:=((x:Int),(y:Int))) (by simp) (by simp)
     unfold fAt at h0
     simp only [Int.toNat_natCast]at h0
     rw [h0]
     by_cases hp:((x:Int),(y:Int))∈C.po
     . have:=(M.prt _ hp).2.2.2
       rw [this]at hkeep
       simp at hkeep
     . rw [if_neg hp]
       split<;>omega
   . obtain ⟨q1,q2⟩:=hro c hc
     rw [f1_at hw hk q1,if_neg q2]
     split
     . have hnp':c∉C.po:=fun hp=>by
        have:=(M.prt c hp).2.2.1
        rw [C5.2 hc]at this
        cases this
       rw [if_neg hnp']
       exact Int.le_refl _
     . omega
   . exact List.nodup_iff_count.2 fun c=>by
      by_cases hc:c∈C.ro.flatMap bw
      . exact M.once c hc
      . rw [List.count_eq_zero.2 hc];omega
   . obtain ⟨q1,q2⟩:=M.bins.each s hs
     obtain ⟨q3,q4⟩:=(Gq hw hk s.1).2 q1
     exact ⟨q3,q4,q2⟩
end
end
section
variable {C:Conf}
theorem Xl (m:dh C) (x y:Nat):f3C C x y = -1↔f0C C x y = -1:=by
 unfold f3C
 refine Xm (fun c hc=>?_) x y
 obtain ⟨p,hp,hcp⟩:=List.mem_flatMap.1 hc
 exact (pd (m.rob.fit p hp) c hcp).2
theorem aj2 (m:dh C) (c:Cell):ny (wC C) (kC C) (f3C C) c=pq C c:=by
 rw [<- N8 m.laid.w m.laid.h]
 exact yq (fun x y _ _=>Xl m x y) c
theorem vd (m:dh C) (p:Pose):cj (wC C) (kC C) (f3C C) p=fq C p:=by
 rw [<- Ah m.laid.w m.laid.h]
 exact zd (fun x y _ _=>Xl m x y) p
end
def Bp (C:Conf) (m:Move) (i:Nat):Bool:=fq C (dy m.f m.d ((i:Int)+1))
def fc (C:Conf) (m:Move):Bool:=fq C m.f&&
 (if m.k=1 then ax m.n 1 16&&(ax m.d 0 3&&(decide (m.t=dy m.f m.d m.n)&&(List.range m.n.toNat).all (Bp C m)))
  else if m.k=2 then (gj (m.f.x,m.f.y)).all (pq C)&&(decide (m.n=0)&&(decide (m.d=0)&&decide (m.t=Av m.f)))
  else decide (m.k=3\/m.k=4)&&(decide (m.n=0)&&(decide (m.d=0)&&decide (m.t=m.f))))
section
variable {C:Conf}
theorem Qs {p:Pose} (hp:PB p) {d:Int}:gh p d 0=p:=by
 obtain ⟨h1,h2⟩:=hp
 unfold gh
 rw [Int.zero_mul,Int.zero_mul,Int.add_zero,Int.add_zero,Ko h1,Ko h2]
theorem Iu {s:Nat->Bool} {n:Nat}:(List.range (n+1)).all s=(s 0&&(List.range n).all fun i=>s (i+1)):=by
 rw [List.range_succ_eq_map,List.all_cons,List.all_map]
 rfl
theorem Hh (m:dh C) {v:Move} (hp:PB v.f):wayB (wC C) (kC C) (f3C C) v=fc C v:=by
 have ho:=aj2 m
 have hf:=vd m
 unfold wayB fc
 rw [hf]
 cases hfp:fq C v.f with
 |false=>rfl
 |true=>
 rw [Bool.true_and,Bool.true_and]
 by_cases hk1:v.k=1
 . rw [if_pos hk1,if_pos hk1,Iu]
   have e0:qj (wC C) (kC C) (f3C C) v 0=ax v.d 0 3:=by
    unfold qj okS
    rw [hf,show ((0:Nat):Int)=0 from rfl,Qs hp,hfp,show ax 0 0 16=true from rfl]
    simp
   rw [e0]
   cases hd:ax v.d 0 3 with
   |false=>simp
   |true=>
   have hd2:=dp.1 hd
   by_cases hn:1<=v.n
   . by_cases hn2:v.n<=16
     . rw [decide_eq_true hn,show ax v.n 1 16=true from dp.2 ⟨hn,hn2⟩,uk hp hd2]
       have:((List.range v.n.toNat).all fun i=>qj (wC C) (kC C) (f3C C) v (i+1))=(List.range v.n.toNat).all (Bp C v):=by
        rw [Bool.eq_iff_iff,List.all_eq_true,List.all_eq_true]
        have e:∀i∈List.range v.n.toNat,qj (wC C) (kC C) (f3C C) v (i+1)=Bp C v i:=by
         intro i hi
         have hi:=List.mem_range.1 hi
         unfold qj Bp okS
         rw [hd,show ax ((i+1:Nat):Int) 0 16=true from dp.2 (by omega),hf,uk hp hd2]
         rfl
        exact ⟨fun h i hi=>by rw [<- e i hi];exact h i hi,fun h i hi=>by rw [e i hi];exact h i hi⟩
       rw [this]
       simp only [Bool.true_and]
       rw [Bool.and_comm]
     . have h1:((List.range v.n.toNat).all fun i=>qj (wC C) (kC C) (f3C C) v (i+1))=false:=by
        rw [List.all_eq_false]
        refine ⟨16,List.mem_range.2 (by omega),?_⟩
        unfold qj okS
        rw [show ax ((16+1:Nat):Int) 0 16=false from rfl]
        simp
       have h2:ax v.n 1 16=false:=by
        cases h:ax v.n 1 16 with
        |false=>rfl
        |true=>exact absurd (dp.1 h).2 hn2
       rw [h1,h2]
       simp
   . have h2:ax v.n 1 16=false:=by
      cases h:ax v.n 1 16 with
      |false=>rfl
      |true=>exact absurd (dp.1 h).1 hn
     rw [decide_eq_false hn,h2]
     simp
 . rw [if_neg hk1,if_neg hk1]
   have e1:decide (v.d=0/\v.n=0)=(decide (v.n=0)&&decide (v.d=0)):=by
    rw [Bool.eq_iff_iff];simp [and_comm]
   rw [e1]
   by_cases hk2:v.k=2
   . rw [if_pos hk2,if_pos hk2]
     have e2:(gj (v.f.x,v.f.y)).all (ny (wC C) (kC C) (f3C C))=(gj (v.f.x,v.f.y)).all (pq C):=by
      congr 1
      funext c
      exact ho c
     rw [e2]
     cases decide (v.n=0)<;>cases decide (v.d=0)<;>simp
   . rw [if_neg hk2,if_neg hk2]
     cases decide (v.n=0)<;>cases decide (v.d=0)<;>simp
def mkR (p:Pose) (d n:Nat):Move:=⟨1,d,n,p,dy p d n,0,0⟩
def rrunD (C:Conf) (p:Pose) (d:Nat):List Move:=kq (fun n=>fc C (mkR p d n)) (mkR p d) 1 16
def Cp (C:Conf) (p:Pose):List Move:=if fq C p=true then na (rrunD C p) 0 4++(if fc C (m8 p)=true then [m8 p]else [])else []
theorem Fc {α:Type} {D E:Nat->List α}:∀{k i:Nat},(∀j,i<=j->j<i+k->D j=E j)->na D i k=na E i k
 |0,i,_=>rfl
 |k+1,i,h=>by
  unfold na
  rw [h i (Nat.le_refl _) (by omega),Fc fun j h1 h2=>h j (by omega) (by omega)]
theorem ah5 (m:dh C) {p:Pose} (hp:PB p) (hf:fq C p=true) {d:Nat} (hd:d<4):∀(k n:Nat),1<=n->n+k<=17->(∀j,1<=j->j<n->fq C (dy p d j)=true)->
 kq (Cx (wC C) (kC C) (f3C C) p d) (uv p d) n k=kq (fun n=>fc C (mkR p d n)) (mkR p d) n k
 |0,n,_,_,_=>rfl
 |k+1,n,h1,h2,h3=>by
  have hd2:(0:Int)<=(d:Int)/\(d:Int)<=3:=by omega
  have e1:Cx (wC C) (kC C) (f3C C) p d n=fq C (dy p d n):=by
   unfold Cx
   rw [vd m,uk hp hd2]
  have e2:uv p d n=mkR p d n:=by
   unfold uv mkR
   rw [uk hp hd2]
  have e3:fc C (mkR p d n)=fq C (dy p d n):=by
   unfold fc
   rw [show (mkR p d n).f=p from rfl,hf,Bool.true_and,if_pos (show (mkR p d n).k=1 from rfl),show ax (mkR p d n).n 1 16=true from dp.2 (show (1:Int)<=(n:Int)/\(n:Int)<=16 by omega),show ax (mkR p d n).d 0 3=true from dp.2 hd2,show decide ((mkR p d n).t=dy p (mkR p d n).d (mkR p d n).n)=true from decide_eq_true rfl,show (mkR p d n).n.toNat=(n-1)+1 from (by show (n:Int).toNat=_;omega),List.range_succ,List.all_append]
   have e4:(List.range (n-1)).all (Bp C (mkR p d n))=true:=by
    rw [List.all_eq_true]
    intro i hi
    have hi:=List.mem_range.1 hi
    exact h3 (i+1) (by omega) (by omega)
   rw [e4]
   show (true&&(true&&(true&&(true&&(fq C (dy p d (((n-1:Nat):Int)+1))&&true)))))=_
   rw [show ((n-1:Nat):Int)+1=(n:Int)by omega]
   simp
  unfold kq
  rw [e1,e2,e3]
  cases hb:fq C (dy p d n)with
  |false=>rfl
  |true=>
   rw [if_pos rfl,if_pos rfl,ah5 m hp hf hd k (n+1) (by omega) (by omega) fun j a b=>by
    by_cases hj:j<n
    . exact h3 j a hj
    . obtain rfl:j=n:=by omega
      exact hb]
theorem ak0 (m:dh C) {p:Pose} (hp:PB p):lk (wC C) (kC C) (f3C C) p=Cp C p:=by
 unfold lk Cp
 rw [vd m,Hh m (v:=m8 p) hp]
 cases hf:fq C p with
 |false=>rfl
 |true=>
  rw [if_pos rfl,if_pos rfl]
  congr 1
  unfold Ey
  exact Fc fun j _ hj=>ah5 m hp hf (by omega) 16 1 (Nat.le_refl _) (by decide) fun j a b=>absurd b (by omega)
theorem K5 {α:Type} {p:Nat->Bool} {mk:Nat->α} {n k:Nat}:ld p mk n (k+1)=if p n=true then mk n::ld p mk (n+1) k else ld p mk (n+1) k:=rfl
end
def dr:List Cell->List Cell
 |[]=>[]
 |a::L=>match L with
  |[]=>[a]
  |b::_=>if a=b then dr L else a::dr L
theorem nu {a b:Cell} {L:List Cell}:dr (a::b::L)=if a=b then dr (b::L)else a::dr (b::L):=rfl
theorem Fe {x:Cell}:∀{L:List Cell},x∈dr L↔x∈L:=by
 intro L
 induction L with
 |nil=>exact Iff.rfl
 |cons a L ih=>
  cases L with
  |nil=>exact Iff.rfl
  |cons b L=>
   rw [nu]
   by_cases h:a=b
   . rw [if_pos h,ih]
     subst h
     simp
   . rw [if_neg h,List.mem_cons,ih,List.mem_cons (a:=x) (b:=a)]
theorem Ie {n:Cell->Int} (inj:∀{L:List Cell},True):∀{L:List Cell},(∀a∈L,∀b∈L,n a=n b->a=b)->L.Pairwise (fun a b=>n a<=n b)->(dr L).Pairwise (fun a b=>n a<n b):=by
 intro L
 induction L with
 |nil=>intro _ _;exact .nil
 |cons a L ih=>
  intro hi hp
  obtain ⟨h1,h2⟩:=List.pairwise_cons.1 hp
  cases L with
  |nil=>exact List.pairwise_singleton _ _
  |cons b L=>
   have rest:=ih (fun x hx y hy=>hi x (.tail _ hx) y (.tail _ hy)) h2
   rw [nu]
   by_cases h:a=b
   . rw [if_pos h];exact rest
   . rw [if_neg h]
     refine List.pairwise_cons.2 ⟨fun x hx=>?_,rest⟩
     rw [Fe]at hx
     have hab:n a<n b:=by
      have:=h1 b (.head _)
      have:n a≠n b:=fun e=>h (hi a (.head _) b (.tail _ (.head _)) e)
      omega
     rcases List.mem_cons.1 hx with rfl|hx'
     . exact hab
     . have:=(List.pairwise_cons.1 h2).1 x hx';omega
theorem Gz {n:Cell->Int}:∀{L M:List Cell},L.Pairwise (fun a b=>n a<n b)->M.Pairwise (fun a b=>n a<n b)->(∀x,x∈L↔x∈M)->L=M:=by
 intro L
 induction L with
 |nil=>
  intro M _ _ h
  cases M with
  |nil=>rfl
  |cons a M=>exact absurd ((h a).2 (.head _)) (by simp)
 |cons a L ih=>
  intro M hL hM h
  cases M with
  |nil=>exact absurd ((h a).1 (.head _)) (by simp)
  |cons b M=>
   obtain ⟨l1,l2⟩:=List.pairwise_cons.1 hL
   obtain ⟨m1,m2⟩:=List.pairwise_cons.1 hM
   have e:a=b:=by
    rcases List.mem_cons.1 ((h a).1 (.head _))with e|e
    . exact e
    . rcases List.mem_cons.1 ((h b).2 (.head _))with e'|e'
      . exact e'.symm
      . have:=m1 a e;have:=l1 b e';omega
   subst e
   rw [ih l2 m2 fun x=>?_]
   constructor
   . intro hx
     rcases List.mem_cons.1 ((h x).1 (.tail _ hx))with rfl|h2
     . have:=l1 _ hx;omega
     . exact h2
   . intro hx
     rcases List.mem_cons.1 ((h x).2 (.tail _ hx))with rfl|h2
     . have:=m1 _ hx;omega
     . exact h2
def nh (w k:Nat) (W:List Cell):List Cell:=na (fun y=>ld (fun x=>decide ((((x:Nat):Int),((y:Nat):Int))∈W)) (fun x=>(((x:Nat):Int),((y:Nat):Int))) 0 w) 0 k
def numW (w:Nat) (c:Cell):Int:=c.2*w+c.1
theorem Cw {α:Type} {p:Nat->Bool} {mk:Nat->α} {x:α}:∀{k n:Nat},x∈ld p mk n k↔∃j,n<=j/\j<n+k/\p j=true/\x=mk j:=by
 intro k
 induction k with
 |zero=>intro n;simp [ld];intro j h1 h2;omega
 |succ k ih=>
  intro n
  rw [K5]
  constructor
  . intro h
    split at h
    . rename_i hp
      rcases List.mem_cons.1 h with rfl|h'
      . exact ⟨n,Nat.le_refl _,by omega,hp,rfl⟩
      . obtain ⟨j,a,b,c,e⟩:=ih.1 h'
        exact ⟨j,by omega,by omega,c,e⟩
    . obtain ⟨j,a,b,c,e⟩:=ih.1 h
      exact ⟨j,by omega,by omega,c,e⟩
  . rintro ⟨j,a,b,c,rfl⟩
    by_cases hj:j=n
    . subst hj
      rw [if_pos c]
      exact .head _
    . have:=(ih (n:=n+1)).2 ⟨j,by omega,by omega,c,rfl⟩
      split
      . exact .tail _ this
      . exact this
theorem pick_pw {α:Type} {p:Nat->Bool} {mk:Nat->α} {R:α->α->Prop} (h:∀i j,i<j->R (mk i) (mk j)):∀{k n:Nat},(ld p mk n k).Pairwise R:=by
 intro k
 induction k with
 |zero=>intro n;exact .nil
 |succ k ih=>
  intro n
  rw [K5]
  split
  . refine List.pairwise_cons.2 ⟨fun x hx=>?_,ih⟩
    obtain ⟨j,a,_,_,rfl⟩:=Cw.1 hx
    exact h n j (by omega)
  . exact ih
theorem pk {w k:Nat} {W:List Cell} {x:Cell}:x∈nh w k W↔(0<=x.1/\x.1<w/\0<=x.2/\x.2<k)/\x∈W:=by
 unfold nh
 suffices H:∀(n i:Nat),x∈na (fun y=>ld (fun x=>decide ((((x:Nat):Int),((y:Nat):Int))∈W)) (fun x=>(((x:Nat):Int),((y:Nat):Int))) 0 w) i n↔∃y,i<=y/\y<i+n/\x∈ld (fun x=>decide ((((x:Nat):Int),((y:Nat):Int))∈W)) (fun x=>(((x:Nat):Int),((y:Nat):Int))) 0 w by
  rw [H]
  constructor
  . rintro ⟨y,_,h2,h3⟩
    obtain ⟨j,_,j2,j3,rfl⟩:=Cw.1 h3
    exact ⟨⟨by simp,by simp;omega,by simp,by simp;omega⟩,by simpa using j3⟩
  . rintro ⟨⟨a,b,c,d⟩,h⟩
    obtain ⟨x1,x2⟩:=x
    refine ⟨x2.toNat,by omega,by simp at d c;omega,Cw.2 ⟨x1.toNat,by omega,by simp at a b;omega,?_,?_⟩⟩
    . simp only at a c
      rw [show ((x1.toNat:Nat):Int)=x1 by omega,show ((x2.toNat:Nat):Int)=x2 by omega]
      simpa using h
    . simp only at a c
      rw [show ((x1.toNat:Nat):Int)=x1 by omega,show ((x2.toNat:Nat):Int)=x2 by omega]
 intro n
 induction n with
 |zero=>intro i;simp [na];intro y h1 h2;omega
 |succ n ih=>
  intro i
  rw [na,List.mem_append,ih]
  constructor
  . rintro (h|⟨y,a,b,c⟩)
    . exact ⟨i,Nat.le_refl _,by omega,h⟩
    . exact ⟨y,by omega,by omega,c⟩
  . rintro ⟨y,a,b,c⟩
    by_cases e:y=i
    . subst e;exact .inl c
    . exact .inr ⟨y,by omega,by omega,c⟩
theorem ri {w k:Nat} {W:List Cell}:(nh w k W).Pairwise (fun a b=>numW w a<numW w b):=by
 unfold nh
 suffices H:∀(n i:Nat),(na (fun y=>ld (fun x=>decide ((((x:Nat):Int),((y:Nat):Int))∈W)) (fun x=>(((x:Nat):Int),((y:Nat):Int))) 0 w) i n).Pairwise (fun a b=>numW w a<numW w b)/\
  ∀x∈na (fun y=>ld (fun x=>decide ((((x:Nat):Int),((y:Nat):Int))∈W)) (fun x=>(((x:Nat):Int),((y:Nat):Int))) 0 w) i n,((i*w:Nat):Int)<=numW w x from (H k 0).1
 intro n
 induction n with
 |zero=>intro i;exact ⟨.nil,fun _ h=>by cases h⟩
 |succ n ih=>
  intro i
  rw [na]
  obtain ⟨h1,h2⟩:=ih (i+1)
  have hrow:∀x∈ld (fun x=>decide ((((x:Nat):Int),((i:Nat):Int))∈W)) (fun x=>(((x:Nat):Int),((i:Nat):Int))) 0 w,((i*w:Nat):Int)<=numW w x/\numW w x<(((i+1)*w:Nat):Int):=by
   intro x hx
   obtain ⟨j,_,j2,_,rfl⟩:=Cw.1 hx
   unfold numW
   simp only
   have e1:(((i+1)*w:Nat):Int)=((i*w:Nat):Int)+(w:Int):=by rw [Nat.succ_mul];push_cast;rfl
   have e2:((i:Nat):Int)*(w:Int)=((i*w:Nat):Int):=by push_cast;rfl
   rw [e1,e2]
   omega
  refine ⟨List.pairwise_append.2 ⟨pick_pw fun a b hab=>?_,h1,fun a ha b hb=>?_⟩,fun x hx=>?_⟩
  . unfold numW
    simp only
    omega
  . have:=(hrow a ha).2
    have:=h2 b hb
    omega
  . rcases List.mem_append.1 hx with h|h
    . exact (hrow x h).1
    . have:=h2 x h
      have e1:(((i+1)*w:Nat):Int)=((i*w:Nat):Int)+(w:Int):=by rw [Nat.succ_mul];push_cast;rfl
      omega
theorem Km {w k:Nat} {W S:List Cell} (hw:0<w) (hin:∀c∈W,0<=c.1/\c.1<w/\0<=c.2/\c.2<k) (hp:S.Perm W) (hs:S.Pairwise fun a b=>numW w a<=numW w b):dr S=nh w k W:=by
 refine Gz (n:=numW w) (Ie (fun {_}=>trivial) (fun a ha b hb e=>?_) hs) ri fun x=>?_
 . obtain ⟨a1,a2,a3,a4⟩:=hin a (hp.mem_iff.1 ha)
   obtain ⟨b1,b2,b3,b4⟩:=hin b (hp.mem_iff.1 hb)
   obtain ⟨x,y⟩:=a
   obtain ⟨x',y'⟩:=b
   unfold numW at e
   simp only at*
   have ey:y=y':=by
    rcases Int.lt_trichotomy y y' with h|h|h
    . have:(y+1)*(w:Int)<=y'*w:=Int.mul_le_mul_of_nonneg_right (by omega) (by omega)
      rw [Int.add_mul,Int.one_mul]at this
      omega
    . exact h
    . have:(y'+1)*(w:Int)<=y*w:=Int.mul_le_mul_of_nonneg_right (by omega) (by omega)
      rw [Int.add_mul,Int.one_mul]at this
      omega
   subst ey
   rw [show x=x' by omega]
 . rw [Fe,pk,hp.mem_iff]
   exact ⟨fun h=>⟨hin x h,h⟩,fun h=>h.2⟩
def i9:=jq bC (jq (jq @Bool.and_true (jq @Xq @ix22)) (jq (jq @ld28 @xj) (jq @ln22 @ne28p)))
theorem ad6 {P:Program} {G h:Hp} {α:Type} (c:Cod α) (d0:α) {T e:TypeId} (hu:P.underlying T=some (.slice e)) (hn:0<c.n) (hz:((P.info? e).bind (·.zero)).map (·.cells.toList)=some (c.enc d0)) {ty:TypeId} {b off n cap:Nat} {l:List Value} {e':TypeId}
 (hb:h b=some (.cells l.toArray e' (0,0))) (h0:0<n) (hfit:off+n*c.n<=l.length) {K:VK}
 (H:∀l':List Value,l'.length=l.length->l'.take off=l.take off->K (.tuple #[]) (h.set b (.cells l'.toArray e' (0,0)))):
 wpH P G (Builtin.clear_ #[T] ty #[.slice (some ⟨b,off,none⟩) n cap]) h K:=by
 cases hi:P.info? e with
 |none=>rw [hi]at hz;cases hz
 |some inf=>
 rw [hi]at hz
 simp only [Option.bind_some]at hz
 cases hzz:inf.zero with
 |none=>rw [hzz]at hz;cases hz
 |some z=>
 rw [hzz]at hz
 simp only [Option.map_some,Option.some.injEq]at hz
 obtain ⟨n',rfl⟩:∃n',n=n'+1:=⟨n-1,by omega⟩
 have hrow:=yg c d0 (n'+1) z.cells hz.symm hn
 have hsz:z.cells.size=c.n:=by rw [<- Array.length_toList,hz,c.len]
 have hcells:(Builtin.zeroCells z.cells (n'+1)).toList=c.rows (List.replicate (n'+1) d0):=by
  refine Eq.trans ?_ ((congrArg Array.toList hrow).trans (by simp))
  rw [<- hsz]
  rfl
 have key:wpH P G (storeCells ⟨b,off,none⟩ (c.rows (List.replicate (n'+1) d0))) h (fun _ h'=>K (.tuple #[]) h'):=by
  rw [li _ (k:=0) hb (by rw [c.rows_length,List.length_replicate];omega) (c.rows_one _)]
  exact H _ (ym _ _ _) (by
   rw [rk _ _ _ (by rw [c.rows_length,List.length_replicate];omega),List.append_assoc,List.take_append_of_le_length (by rw [List.length_take];omega),Nat.add_zero,List.take_take,Nat.min_self])
 unfold Builtin.clear_ underlying
 simp only [List.getElem?_toArray,List.getElem?_cons_zero,bind,bq,program,wpH,hu,pure]
 simp only [zeroValue,typeInfo,program,bind,bq,wpH,hi,hzz,pure]
 rw [hcells]
 exact key
theorem Mc {y x:Cell}:∀{T:List Cell},dr (T++[y,x])=if y=x then dr (T++[y])else dr (T++[y])++[x]
 |[]=>by
  show dr (y::[x])=if y=x then dr [y]else dr [y]++[x]
  rw [nu]
  by_cases h:y=x<;>simp [h,dr]
 |[a]=>by
  show dr (a::y::[x])=if y=x then dr (a::y::[])else dr (a::y::[])++[x]
  simp only [nu]
  by_cases h1:a=y<;>by_cases h2:y=x<;>simp [h1,h2,dr]
 |a::b::T=>by
  show dr (a::b::(T++[y,x]))=if y=x then dr (a::b::(T++[y]))else dr (a::b::(T++[y]))++[x]
  rw [nu,nu]
  have ih:=Mc (y:=y) (x:=x) (T:=b::T)
  simp only [List.cons_append]at ih
  rw [ih]
  by_cases h1:a=b<;>by_cases h2:y=x<;>simp [h1,h2]
theorem Ao {L:List Cell} {k:Nat} {y x:Cell} (hk:1<=k) (hy:L[k-1]?=some y) (hx:L[k]?=some x):dr (L.take (k+1))=if y=x then dr (L.take k)else dr (L.take k)++[x]:=by
 obtain ⟨j,rfl⟩:∃j,k=j+1:=⟨k-1,by omega⟩
 rw [Nat.add_sub_cancel]at hy
 rw [List.take_add_one,List.take_add_one,hx,hy]
 simp only [Option.toList,List.append_assoc,List.cons_append,List.nil_append]
 exact Mc
theorem Ig {L:List Cell} (h:L.length<2):dr L=L:=by
 match L,h with
 |[],_=>rfl
 |[a],_=>rfl
theorem st_elem {G h:Hp} {b i:Nat} {M:List Cell} {t:List Value} {x:Cell} {K:Unit->Hp->Prop} (hb:h b=some (.cells (dl.rows M++t).toArray 28 (0,0))) (hi:i<M.length):
 wpH P_ G (Instr.storeAt 28 (.pointer (some ⟨b,i*2,none⟩)) (.agg #[x.1,x.2])) h K=K () (h.set b (.cells (dl.rows (M.set i x)++t).toArray 28 (0,0))):=by
 rw [rt (n:=2) sz28 hb rfl (by rw [List.length_append,dl.rows_length,show dl.n=2 from rfl];omega) (by intro v hv;simp [Value.cells]at hv;rcases hv with rfl|rfl<;>rfl)]
 have:=dl.rows_put (t:=t) (x:=x) hi
 rw [<- this]
 rfl
theorem Qw {G h:Hp} {b:Nat} {M:List Cell} {t:List Value} (hb:HL.look G h b=some (.cells (dl.rows M++t).toArray 28 (0,0))) {i:Nat} {x:Cell} (hx:M[i]?=some x):af G h ⟨b,i*2,none⟩=some (.int .i64 x.1)/\af G h ⟨b,i*2+1,none⟩=some (.int .i64 x.2):=by
 have g0:=dl.rows_get (t:=t) hx (j:=0) (by decide)
 have g1:=dl.rows_get (t:=t) hx (j:=1) (by decide)
 rw [show dl.n=2 from rfl]at g0 g1
 exact ⟨(aj hb).trans g0,(aj hb).trans g1⟩
theorem O9 {G h a:Hp} {R:List Hp} {v:Value} {L:List Cell} (s:HL.Sep (a::R) h) (o:Slc dl 28 a v L) (hL:L.length<=100000):al P_ G 136 #[v] h (fun u h'=>∃a',Slc dl 28 a' u (dr L)/\HL.Sep (a'::R) h'/\Dis G h'):=by
 refine al.assume fun d=>at2 (by simp) ?_
 unfold S136
 obtain ⟨sa,cap,rfl,hcap⟩:=o.len (by decide)
 simp only [i9]
 refine bm (fun hlt=>?_) (fun hge=>?_)
 . try simp (disch:=first|decide|omega) only [i9,Nat.reduceAdd,Nat.reduceMul]
   exact ⟨a,by rw [Ig (by omega)];exact o,s,d⟩
 unfold Yv
 obtain ⟨ob,o'⟩:=id o
 cases ob with
 |none=>exact absurd o'.2 (fun e=>by rw [e]at hge;simp at hge)
 |some b=>
 obtain ⟨cap',t,e9,hb,hbl⟩:=o'
 simp only [Value.slice.injEq,true_and]at e9
 obtain ⟨rfl,rfl⟩:=e9
 have hbh:=s.at 0 rfl hb
 have rd:=fun {i:Nat} {x:Cell} (hx:L[i]?=some x)=>Qw (G:=G) (ai hbh) hx
 try simp (disch:=first|decide|omega) only [i9,Nat.reduceAdd,Nat.reduceMul]
 generalize hKK:retK P_ G _ _=KK
 refine b8 (fun m q h3=>∃k:Nat,m=L.length-k/\1<=k/\k<=L.length/\q 0 = .slice (some ⟨b,0,none⟩) L.length cap/\q 3 = .int .i64 k/\h3=h/\dr (L.take k)=L.take k) ?_
  (m:=L.length-1) ⟨1,rfl,Nat.le_refl _,by omega,by simp (disch:=decide) only [i9],by simp only [i9]<;>rfl,rfl,Ig (by rw [List.length_take];omega)⟩
 rintro m q h3 ⟨k,rfl,h1,hk,q0,q3,rfl,hc⟩ X HX
 unfold Yt
 simp only [i9,q0,q3]
 refine bm (fun hlt=>?_) (fun hge2=>?_)
 rotate_left
 . obtain rfl:k=L.length:=by omega
   rw [List.take_of_length_le (Nat.le_refl _)]at hc
   try simp (disch:=first|decide|omega) only [i9,Nat.reduceAdd,Nat.reduceMul]
   unfold Yu
   rw [<- hKK]
   try simp (disch:=decide) only [i9,q0]
   exact ⟨a,by rw [hc];exact o,s,d⟩
 obtain ⟨x,hx⟩:∃x,L[k]?=some x:=⟨_,List.getElem?_eq_getElem (by omega)⟩
 obtain ⟨y,hy⟩:∃y,L[k-1]?=some y:=⟨_,List.getElem?_eq_getElem (by omega)⟩
 obtain ⟨x0,x1⟩:=rd hx
 obtain ⟨y0,y1⟩:=rd hy
 have ek:(k:Int)-1=((k-1:Nat):Int):=by omega
 unfold Jj
 try simp (disch:=first|decide|omega) only [i9,q0,q3,ek,sn (Int.natCast_nonneg k) hlt,sn (Int.natCast_nonneg (k-1)) (show ((k-1:Nat):Int)<(L.length:Nat)by omega),Int.toNat_natCast,x0,x1,y0,y1,zi]
 refine pv (fun hb2=>?_) (fun hb2=>?_)
 rotate_left
 . unfold B9
   try simp (disch:=first|decide|omega) only [i9,q3]
   refine HX (L.length-(k+1)) _ _ (by omega) ⟨k+1,rfl,by omega,by omega,by simp (disch:=decide) only [i9,q0],by simp only [i9]<;>rfl,rfl,?_⟩
   rw [Ao h1 hy hx,if_neg (fun e=>by rw [e,beq_self_eq_true]at hb2;cases hb2),hc,List.take_add_one,hx]
   rfl
 have exy:y=x:=(eq_of_beq hb2).symm
 try simp (disch:=first|decide|omega) only [i9,Nat.reduceAdd,Nat.reduceMul,q0,q3]
 rw [nk un22 sz28 (by omega) (by omega) hcap]
 rw [Int.toNat_natCast,if_neg (show ¬cap=k by omega),mz,Nat.zero_add]
 have hmax:(dl.rows L++t).length=cap*2:=hbl
 try simp (disch:=first|decide|omega) only [i9,Nat.reduceAdd,Nat.reduceMul]
 refine b8 (fun m q h4=>∃(w j:Nat) (M:List Cell) (a:Hp),m=L.length-j/\k<=w/\w<j/\k+1<=j/\j<=L.length/\M.length=L.length/\q 0 = .slice (some ⟨b,0,none⟩) L.length cap/\q 3 = .int .i64 w/\q 4 = .slice (some ⟨b,k*2,none⟩) (L.length-k) (cap-k)/\q 5 = .int .i64 (((j-k:Nat):Nat):Int)/\
  a b=some (.cells (dl.rows M++t).toArray 28 (0,0))/\HL.Sep (a::R) h4/\Dis G h4/\M.take w=dr (L.take j)/\∀p,j-1<=p->M[p]?=L[p]?) ?_
  (m:=L.length-(k+1)) ⟨k,k+1,L,a,rfl,Nat.le_refl _,by omega,Nat.le_refl _,by omega,rfl,by simp (disch:=decide) only [i9,q0],by simp (disch:=decide) only [i9,q3],by simp (disch:=decide) only [i9],by simp only [i9]<;>(rw [show k+1-k=1 by omega];rfl),hb,s,d,by rw [Ao h1 hy hx,if_pos exy,hc],fun p _=>rfl⟩
 clear HX q0 q3 x0 x1 y0 y1 hc hx hy exy hb2 ek rd hbh hb o s d
 rintro m q h4 ⟨w,j,M,a,rfl,hkw,hwj,hkj,hj,hM,q0,q3,q4,q5,hb,s,d,htk,hsame⟩ X HX
 have hbh:=s.at 0 rfl hb
 have rd:=fun {i:Nat} {x:Cell} (hx:M[i]?=some x)=>Qw (G:=G) (ai hbh) hx
 unfold Jh
 simp only [i9,q4,q5]
 refine bm (fun hlt2=>?_) (fun hge3=>?_)
 . obtain ⟨x,hx⟩:∃x,L[j]?=some x:=⟨_,List.getElem?_eq_getElem (by omega)⟩
   obtain ⟨y,hy⟩:∃y,L[j-1]?=some y:=⟨_,List.getElem?_eq_getElem (by omega)⟩
   obtain ⟨x0,x1⟩:=rd ((hsame j (by omega)).trans hx)
   obtain ⟨y0,y1⟩:=rd ((hsame (j-1) (Nat.le_refl _)).trans hy)
   have ej:j*2=k*2+(j-k)*2:=by omega
   have ej1:(j-1)*2=k*2+(j-k-1)*2:=by omega
   rw [ej]at x0 x1
   rw [ej1]at y0 y1
   have e5:(((j-k:Nat):Nat):Int)-1=((j-k-1:Nat):Int):=by omega
   unfold Bh
   try simp (disch:=first|decide|omega) only [i9,q4,q5,e5,sn (Int.natCast_nonneg (j-k)) hlt2,sn (Int.natCast_nonneg (j-k-1)) (show ((j-k-1:Nat):Int)<((L.length-k:Nat):Int)by omega),Int.toNat_natCast,x0,x1,y0,y1,zi]
   have nxt:(((j-k:Nat):Nat):Int)+1=((j+1-k:Nat):Int):=by omega
   cases hxy:(x==y)with
   |true=>
    try simp only [i9]
    unfold qs
    try simp (disch:=first|decide|omega) only [i9,q5]
    refine HX (L.length-(j+1)) _ _ (by omega) ⟨w,j+1,M,a,rfl,hkw,by omega,by omega,by omega,hM,by simp (disch:=decide) only [i9,q0],by simp (disch:=decide) only [i9,q3],by simp (disch:=decide) only [i9,q4],by simp only [i9]<;>rw [nxt],hb,s,d,?_,fun p hp=>hsame p (by omega)⟩
    rw [htk,Ao (by omega) hy hx,if_pos (eq_of_beq hxy).symm]
   |false=>
    have hwl:(w:Int)<(L.length:Nat):=by omega
    try simp (disch:=first|decide|omega) only [i9,q0,q3,q4,q5,ix22 (Int.natCast_nonneg (j-k)) hlt2,ix22 (Int.natCast_nonneg w) hwl,Int.toNat_natCast,x0,x1]
    rw [st_elem (x:=x) hbh (by omega)]
    have s5:=s.put (o := .cells (dl.rows (M.set w x)++t).toArray 28 (0,0)) hb
    have d5:=d.set (o := .cells (dl.rows (M.set w x)++t).toArray 28 (0,0)) (d _ _ hbh)
    generalize Hp.set h4 b _=h5 at s5 d5 ⊢
    try simp (disch:=first|decide|omega) only [i9,Nat.reduceAdd,Nat.reduceMul,q3]
    unfold qs
    try simp (disch:=first|decide|omega) only [i9,q5]
    refine HX (L.length-(j+1)) _ _ (by omega) ⟨w+1,j+1,M.set w x,_,rfl,by omega,by omega,by omega,by omega,by rw [List.length_set,hM],by simp (disch:=decide) only [i9,q0],by simp (disch:=decide) only [i9]<;>rfl,by simp (disch:=decide) only [i9,q4],by simp only [i9]<;>rw [nxt],ag,s5,d5,?_,fun p hp=>?_⟩
    . rw [Ao (by omega) hy hx,if_neg (fun e=>by rw [e,beq_self_eq_true]at hxy;cases hxy),<- htk,List.take_add_one,List.getElem?_set_self (by omega),List.take_set_of_le (Nat.le_refl _)]
      rfl
    . rw [List.getElem?_set_ne (by omega)]
      exact hsame p (by omega)
 . obtain rfl:j=L.length:=by omega
   rw [List.take_of_length_le (Nat.le_refl _)]at htk
   clear HX
   have hwl:w<L.length:=hwj
   try simp (disch:=first|decide|omega) only [i9,Nat.reduceAdd,Nat.reduceMul]
   unfold Ji
   try simp (disch:=decide) only [i9,q0,q3]
   rw [nk un22 sz28 (by omega) (by omega) hcap]
   rw [Int.toNat_natCast,if_neg (show ¬cap=w by omega),mz,Nat.zero_add]
   try simp (disch:=first|decide|omega) only [i9,Nat.reduceAdd,Nat.reduceMul]
   have hlen:(dl.rows M++t).length=cap*2:=by
    rw [List.length_append,dl.rows_length,hM,<- dl.rows_length,<- List.length_append,hmax]
   refine ad6 dl ((0,0):Cell) un22 (by decide) (by kernel_rfl) hbh (by omega) (by rw [hlen,show dl.n=2 from rfl];omega) fun l' hl1 hl2=>?_
   have s5:=s.put (o := .cells l'.toArray 28 (0,0)) hb
   have d5:=d.set (o := .cells l'.toArray 28 (0,0)) (d _ _ hbh)
   generalize Hp.set h4 b _=h5 at s5 d5 ⊢
   try simp (disch:=first|decide|omega) only [i9,Nat.reduceAdd,Nat.reduceMul,q0,q3]
   rw [ye un22 sz28 (by omega) (by omega)]
   rw [Int.toNat_natCast]
   rw [<- hKK]
   try simp only [i9]
   have hcl:dr L=M.take w:=htk.symm
   have hml:(M.take w).length=w:=by rw [List.length_take];omega
   have hl3:l'=dl.rows (dr L)++l'.drop (w*2):=by
    rw [hcl]
    have:=dl.rows_take (L:=M) (t:=t) (k:=w) (by omega)
    rw [show dl.n=2 from rfl]at this
    rw [<- this,<- hl2,List.take_append_drop]
   refine ⟨_,⟨some b,cap,l'.drop (w*2),by rw [hcl,hml],?_,?_⟩,s5,d5⟩
   . rw [<- hl3];exact ag
   . rw [<- hl3,hl1,hlen];rfl
end Go.Proofs.YtfflipnhffknnaaGreatDoor
end
section
namespace Go.Proofs.YtfflipnhffknnaaGreatDoor
open Go Go.HL Go.Proofs
def Aw:Go.Shelf.Ren:=⟨fun|6=>134|15=>161|14=>160|28=>179|29=>180|20=>171|21=>172|22=>173|23=>174|24=>175|25=>176|26=>177|27=>178|46=>188|47=>189|48=>190|49=>191|50=>192|57=>198|n=>n,fun|22=>22|24=>28|25=>247|3=>3|39=>272|0=>0|53=>159|55=>284|4=>4|46=>277|45=>276|50=>251|5=>5|9=>9|66=>289|70=>293|76=>299|77=>300|n=>n,fun|n=>n⟩
theorem Zv:Go.Proofs.SlLaysF0.n6 P_ Aw where
 mixed:=by kernel_rfl
 f6:=⟨ "slices.SortFunc[[]skep/api.Cell,skep/api.Cell]",by decide,Tryz.func134.trans (congrArg some (by kernel_rfl))⟩
 f14:=⟨ "slices.pdqsortCmpFunc[skep/api.Cell]",by decide,Tryz.func160.trans (congrArg some (by kernel_rfl))⟩
 f15:=Tryz.func161.trans (congrArg some (by kernel_rfl))
 f20:=⟨ "slices.insertionSortCmpFunc[skep/api.Cell]",by decide,Tryz.func171.trans (congrArg some (by kernel_rfl))⟩
 f21:=⟨ "slices.heapSortCmpFunc[skep/api.Cell]",by decide,Tryz.func172.trans (congrArg some (by kernel_rfl))⟩
 f22:=⟨ "slices.breakPatternsCmpFunc[skep/api.Cell]",by decide,Tryz.func173.trans (congrArg some (by kernel_rfl))⟩
 f23:=⟨ "slices.choosePivotCmpFunc[skep/api.Cell]",by decide,Tryz.func174.trans (congrArg some (by kernel_rfl))⟩
 f24:=⟨ "slices.reverseRangeCmpFunc[skep/api.Cell]",by decide,Tryz.func175.trans (congrArg some (by kernel_rfl))⟩
 f25:=⟨ "slices.partialInsertionSortCmpFunc[skep/api.Cell]",by decide,Tryz.func176.trans (congrArg some (by kernel_rfl))⟩
 f26:=⟨ "slices.partitionEqualCmpFunc[skep/api.Cell]",by decide,Tryz.func177.trans (congrArg some (by kernel_rfl))⟩
 f27:=⟨ "slices.partitionCmpFunc[skep/api.Cell]",by decide,Tryz.func178.trans (congrArg some (by kernel_rfl))⟩
 f28:=Tryz.func179.trans (congrArg some (by kernel_rfl))
 f29:=Tryz.func180.trans (congrArg some (by kernel_rfl))
 f46:=⟨ "slices.siftDownCmpFunc[skep/api.Cell]",by decide,Tryz.func188.trans (congrArg some (by kernel_rfl))⟩
 f47:=Tryz.func189.trans (congrArg some (by kernel_rfl))
 f48:=Tryz.func190.trans (congrArg some (by kernel_rfl))
 f49:=⟨ "slices.medianAdjacentCmpFunc[skep/api.Cell]",by decide,Tryz.func191.trans (congrArg some (by kernel_rfl))⟩
 f50:=⟨ "slices.medianCmpFunc[skep/api.Cell]",by decide,Tryz.func192.trans (congrArg some (by kernel_rfl))⟩
 f57:=⟨ "slices.order2CmpFunc[skep/api.Cell]",by decide,Tryz.func198.trans (congrArg some (by kernel_rfl))⟩
 t0:=Tryz.underlying0
 a0:=Tryz.isAgg0
 z0:=Tryz.sizeOf0
 v0:=Tryz.zeroValue0
 t3:=Tryz.underlying3
 a3:=Tryz.isAgg3
 z3:=Tryz.sizeOf3
 v3:=Tryz.zeroValue3
 t4:=Tryz.underlying4
 a4:=Tryz.isAgg4
 z4:=Tryz.sizeOf4
 v4:=Tryz.zeroValue4
 t5:=Tryz.underlying5
 a5:=Tryz.isAgg5
 z5:=Tryz.sizeOf5
 v5:=Tryz.zeroValue5
 t9:=Tryz.underlying9
 a9:=Tryz.isAgg9
 z9:=Tryz.sizeOf9
 v9:=Tryz.zeroValue9
 t22:=Tryz.underlying22
 a22:=Tryz.isAgg22
 z22:=Tryz.sizeOf22
 v22:=Tryz.zeroValue22
 t25:=Tryz.underlying247
 a25:=Tryz.isAgg247
 z25:=Tryz.sizeOf247
 v25:=Tryz.zeroValue247
 t39:=Tryz.underlying272
 a39:=Tryz.isAgg272
 z39:=Tryz.sizeOf272
 v39:=Tryz.zeroValue272
 t45:=Tryz.underlying276
 a45:=Tryz.isAgg276
 z45:=Tryz.sizeOf276
 v45:=Tryz.zeroValue276
 t46:=Tryz.underlying277
 a46:=Tryz.isAgg277
 z46:=Tryz.sizeOf277
 v46:=Tryz.zeroValue277
 t50:=Tryz.underlying251
 a50:=Tryz.isAgg251
 z50:=Tryz.sizeOf251
 v50:=Tryz.zeroValue251
 t53:=Tryz.underlying159
 a53:=Tryz.isAgg159
 z53:=Tryz.sizeOf159
 v53:=Tryz.zeroValue159
 t55:=Tryz.underlying284
 a55:=Tryz.isAgg284
 z55:=Tryz.sizeOf284
 v55:=Tryz.zeroValue284
 t66:=Tryz.underlying289
 a66:=Tryz.isAgg289
 z66:=Tryz.sizeOf289
 v66:=Tryz.zeroValue289
 t70:=Tryz.underlying293
 a70:=Tryz.isAgg293
 z70:=Tryz.sizeOf293
 v70:=Tryz.zeroValue293
 t76:=Tryz.underlying299
 a76:=Tryz.isAgg299
 z76:=Tryz.sizeOf299
 v76:=Tryz.zeroValue299
 t77:=Tryz.underlying300
 a77:=Tryz.isAgg300
 z77:=Tryz.sizeOf300
 v77:=Tryz.zeroValue300
end Go.Proofs.YtfflipnhffknnaaGreatDoor
end
section
namespace Go.Proofs.YtfflipnhffknnaaGreatDoor
open Go Go.HL
def xq:=jq bC (jq (jq (jq @px @cf127) (jq @cf134 (jq @cf136 @cf88))) (jq (jq @xj @ld48) (jq @ld68 (jq @Rr @true_and))))
theorem Wr {w k:Nat} {f:Nat->Nat->Int} {c:Cell} (h:ny w k f c=true):inW w k c=true:=by
 unfold ny at h
 rw [Bool.and_eq_true]at h
 exact h.1
theorem way_in {w k:Nat} {f:Nat->Nat->Int} {m:Move} (h:wayB w k f m=true):∀c∈wayL m,inW w k c=true:=by
 intro c hc
 unfold wayB at h
 unfold wayL at hc
 rw [Bool.and_eq_true]at h
 obtain ⟨hf,h⟩:=h
 by_cases h1:m.k=1
 . rw [if_pos h1]at h hc
   simp only [Bool.and_eq_true,List.all_eq_true,List.mem_flatMap]at h hc
   obtain ⟨i,hi,hc⟩:=hc
   have:=h.2.1 i hi
   unfold qj at this
   rw [Bool.and_eq_true]at this
   exact (pd this.2 c hc).1
 . rw [if_neg h1]at h hc
   by_cases h2:m.k=2
   . rw [if_pos h2]at h hc
     simp only [Bool.and_eq_true,List.all_eq_true]at h
     exact Wr (h.2.1 c hc)
   . rw [if_neg h2]at hc
     exact (pd hf c hc).1
theorem Si {D:Nat->List Cell} (h:∀i,(D i).length=2):∀n,((List.range n).flatMap D).length=2*n
 |0=>rfl
 |n+1=>by
  rw [List.range_succ,List.flatMap_append,List.length_append,Si h n]
  simp [h]
  omega
theorem way_len {w k:Nat} {f:Nat->Nat->Int} {m:Move} (h:wayB w k f m=true):(wayL m).length<=34/\wayL m≠[]:=by
 unfold wayB at h
 rw [Bool.and_eq_true]at h
 obtain ⟨hf,h⟩:=h
 unfold wayL
 by_cases h1:m.k=1
 . rw [if_pos h1]at h ⊢
   simp only [Bool.and_eq_true,List.all_eq_true,List.mem_range,decide_eq_true_eq]at h
   have:=h.2.1 m.n.toNat (by omega)
   unfold qj okS at this
   simp only [Bool.and_eq_true]at this
   have hn:=dp.1 this.1.1
   have e:=Si (D:=fun (i:Nat)=>bw (gh m.f m.d i)) (fun i=>rfl) (m.n.toNat+1)
   refine ⟨by rw [e];omega,fun hn=>?_⟩
   rw [hn]at e
   simp at e
 . rw [if_neg h1]
   split
   . exact ⟨by simp [gj],by simp [gj]⟩
   . exact ⟨by simp [bw],by simp [bw]⟩
theorem Ws {w k:Nat} {c:Cell} (h:inW w k c=true):numI w k c=numW w c:=by
 unfold numI numW
 rw [if_pos h]
theorem in_bd {w k:Nat} {c:Cell} (h:inW w k c=true):0<=c.1/\c.1<w/\0<=c.2/\c.2<k:=by
 unfold inW at h
 rw [Bool.and_eq_true]at h
 have h1:=dp.1 h.1
 have h2:=dp.1 h.2
 omega
theorem Ob {w k:Nat} {c:Cell} (hw:w<=16) (hk:k<=16) : -1<=numI w k c/\numI w k c<=1000:=by
 unfold numI
 split
 . rename_i h
   obtain ⟨a,b,c1,d⟩:=in_bd h
   have h1:0<=c.2*(w:Int):=Int.mul_nonneg c1 (by omega)
   have h2:c.2*(w:Int)<=16*16:=Int.mul_le_mul (by omega) (by omega) (by omega) (by omega)
   omega
 . omega
theorem Dc {G h:Hp} {v0 w k:Nat} {f:Nat->Nat->Int} {g:Value} {a b:Cell} (hv:∀j,af G h ⟨v0,j,none⟩=[g][j]?) (gs:GS G h g w k f):al P_ G 135 #[vf a,vf b,.pointer (some ⟨v0,0,none⟩)] h (fun u h'=>u = .int .i64 (numI w k a-numI w k b)/\h'=h):=by
 obtain ⟨gp,kb,hgp,_⟩:=gs.ex
 refine al.assume fun d=>quietly (at3 (by simp) ?_)
 unfold S135
 simp only [xq]
 intro x hx gx
 generalize e1:Hp.set h x _=h1
 obtain ⟨l1,d1,b1⟩:=boxed e1 hx d gx
 intro y hy gy
 generalize e2:Hp.set h1 y _=h2
 obtain ⟨l2,d2,b2⟩:=boxed e2 hy d1 gy
 have cx:∀j,af G h2 ⟨x,j,none⟩=_:=fun j=>aj (ai (l2 _ _ b1))
 have cy:∀j,af G h2 ⟨y,j,none⟩=_:=fun j=>aj (ai b2)
 have l02:=l1.trans l2
 have cv:af G h2 ⟨v0,0,none⟩=some g:=jh l02 d2 (hv 0)
 have gs2:=gs.up l02 d2
 subst hgp
 try simp only [xq,cx,cy,cv]
 refine (og (c:=a) gs2).mono ?_
 rintro _ h3 ⟨rfl,rfl⟩
 refine ⟨Hp.le.refl _,?_⟩
 try simp (disch:=first|decide|omega) only [xq,Nat.reduceAdd,Nat.reduceMul,cx,cy,cv]
 refine (og (c:=b) gs2).mono ?_
 rintro _ h3 ⟨rfl,rfl⟩
 have ba:=Ob (c:=a) gs.w2 gs.k2
 have bb:=Ob (c:=b) gs.w2 gs.k2
 try simp (disch:=first|decide|omega) only [xq]
 first|exact l02|exact ⟨rfl,l02⟩
instance:Inhabited Cell:=⟨(0,0)⟩
theorem swo_num (n:Cell->Int):Go.Sort.SWO (Go.Proofs.ltOf fun a b=>n a-n b):=by
 refine ⟨fun x=>?_,fun x y z h1 h2=>?_,fun x y z h1 h2=>?_⟩<;>simp only [Go.Proofs.ltOf,decide_eq_true_eq,decide_eq_false_iff_not]at * <;> omega
def ka (w k:Nat) (f:Nat->Nat->Int) (m:Move):List Cell:=if wayB w k f m=true then nh w k (wayL m)else []
theorem T3 {G h:Hp} {g:Value} {w k:Nat} {f:Nat->Nat->Int} {m:Move} (gs:GS G h g w k f) (st:jb G) (mb:MB m):al P_ G 90 #[g,Lg m] h (fun u h'=>∃ip,Slc dl 28 ip u (ka w k f m)/\HL.Sep [ip,h] h'/\Dis G h'):=by
 obtain ⟨gp,kb,hgp,_⟩:=gs.ex
 subst hgp
 refine al.assume fun d=>enter90 (by simp) ?_
 unfold S90
 simp only [xq]
 intro x hx gx
 generalize e1:Hp.set h x _=h1
 obtain ⟨l1,d1,b1⟩:=boxed e1 hx d gx
 intro y hy gy
 generalize e2:Hp.set h1 y _=h2
 obtain ⟨l2,d2,b2⟩:=boxed e2 hy d1 gy
 have cx:∀j,af G h2 ⟨x,j,none⟩=_:=fun j=>aj (ai (l2 _ _ b1))
 have cy:∀j,af G h2 ⟨y,j,none⟩=_:=fun j=>aj (ai b2)
 have l02:=l1.trans l2
 have gs2:=gs.up l02 d2
 try simp only [xq,cx,cy]
 refine (Qg (m:=m) gs2 st mb).mono ?_
 rintro _ h3 ⟨ip,v,L,rfl,o,s3,d3,hL⟩
 try simp only [xq]
 cases hw:wayB w k f m with
 |false=>
  try simp only [xq]
  refine ⟨noHp,?_,(s3.drop.cut l02).none,d3⟩
  unfold ka
  rw [hw]
  exact Slc.nil
 |true=>
  obtain rfl:=hL hw
  obtain ⟨wl,wn⟩:=way_len hw
  try simp only [xq]
  unfold ay7
  obtain ⟨ob,o'⟩:=o
  cases ob with
  |none=>exact absurd o'.2 wn
  |some b=>
  obtain ⟨cap,t,rfl,hb,hbl⟩:=o'
  try simp (disch:=decide) only [xq]
  have hx3:h2 x=some _:=l2 _ _ b1
  refine al.mono (f:=134) (Zu (ρ:=Aw) Zv dl (by decide) Tryz.isAgg28 Tryz.sizeOf28 (swo_num (numI w k)) (g:=135) (cb:=#[.pointer (some ⟨x,0,none⟩)])
   (enters_of Tryz.func135 (by kernel_rfl) rfl) s3 d3 hb (fun p q h' s' d'=>Dc (a:=p) (b:=q) (fun j=>by rw [aj (ai (s'.in 0 rfl _ _ hx3))]) (gs2.up (s'.in 0 rfl) d')) (by omega)) ?_
  rintro _ h4 ⟨rfl,S,hp,hs,rfl⟩
  have s4:=s3.put (o := .cells (dl.rows S++t).toArray 28 (0,0)) hb
  have d4:=d3.set (o := .cells (dl.rows S++t).toArray 28 (0,0)) (d3 _ _ (s3.at 0 rfl hb))
  have hlS:S.length=(wayL m).length:=hp.length_eq
  have o4:Slc dl 28 (ip.set b (.cells (dl.rows S++t).toArray 28 (0,0))) (.slice (some ⟨b,0,none⟩) (wayL m).length cap) S:=⟨some b,cap,t,by rw [hlS],ag,by rw [<- hbl,List.length_append,List.length_append,dl.rows_length,dl.rows_length,hlS]⟩
  generalize Hp.set h3 b _=h4 at s4 d4 ⊢
  generalize Hp.set ip b _=ip4 at s4 o4
  try simp (disch:=first|decide|omega) only [xq,Nat.reduceAdd,Nat.reduceMul]
  refine (O9 s4 o4 (by omega)).mono ?_
  rintro u5 h5 ⟨a5,o5,s5,d5⟩
  try simp (disch:=first|decide|omega) only [xq,Nat.reduceAdd,Nat.reduceMul]
  refine ⟨a5,?_,((s5.pick 1 rfl rfl).cut l02).pick 1 rfl rfl,d5⟩
  have hin:=way_in hw
  have e:=Km (w:=w) (k:=k) (W:=wayL m) (S:=S) (by have:=gs.w1;omega) (fun c hc=>in_bd (hin c hc)) hp (hs.imp_of_mem fun {a b} ha hb h=>by
   rw [Ws (hin a (hp.mem_iff.1 ha)),Ws (hin b (hp.mem_iff.1 hb))]at h
   omega)
  unfold ka
  rw [hw,if_pos rfl,<- e]
  exact o5
end Go.Proofs.YtfflipnhffknnaaGreatDoor
end

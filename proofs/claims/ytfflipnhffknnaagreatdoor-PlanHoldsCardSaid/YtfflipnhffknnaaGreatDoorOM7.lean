/- Texts of the proof, one behind the other. -/
import Derived.Test.YtfflipnhffknnaaGreatDoorOM1
import Derived.Test.YtfflipnhffknnaaGreatDoorOM6
import Derived.Test.YtfflipnhffknnaaGreatDoorOM2
import Derived.Test.YtfflipnhffknnaaGreatDoorOM3
import Derived.Test.YtfflipnhffknnaaGreatDoorOM4
import Derived.Test.YtfflipnhffknnaaGreatDoorOH2
import Derived.Test.YtfflipnhffknnaaGreatDoorOH3
import Derived.Test.YtfflipnhffknnaaGreatDoorRows
import Derived.Test.YtfflipnhffknnaaGreatDoorTie
import Derived.JoinedOf
import Derived.Handed
import Derived.LaidMore
import Derived.LaidHandle
import Derived.LaidLaws
import Derived.MakeChecks
set_option linter.unusedVariables false
set_option maxRecDepth 100000
set_option linter.unusedSimpArgs false
set_option maxHeartbeats 8000000
set_option linter.defProp false
section
namespace Go.Proofs.YtfflipnhffknnaaGreatDoor
open Go Go.HL
section
variable (G:Hp) (K:EK) (r:Rg) (h:Hp)
def md20:Nat->Hint
 |8=>mh false [0,1,0,0,0,0,0,127,255,511,511,1023,4095] [m_,e_,n_,m_,n_,n_,m_,e_,n_,n_,n_,n_,n_] ([false]++[true]++fs 11) false
 |11=>mh false [0,0,0,4,15,31] [n_,m_,n_,e_,e_,n_] (fs 3++[true]++fs 2) false
 |19=>mh false [0,0,3,7,15,0,0,96,224,480,1023] [n_,n_,n_,n_,m_,n_,n_,n_,n_,m_,n_] (fs 11) false
 |_=>mh false [] [] [] false
def aN3:Prop:=
 c_ G 50 #[(r 15),(.int .i64 0),(r 23)] h fun g h=>
 opH P_ G (xEq .eql 35 (.tmp 0) (.const .nilFunc) g (.int .i64 0)) h fun j h=>g_ j true (c_ G 32 #[] h) h fun s h=>
 opH P_ G (dc j s (.bool false)) h fun u h=>
 K .ret (u8 r 125 (r 15) 126 (r 23) 127 g 128 j 129 j 130 s 131 u 12 u) h
def Bv:Prop:=
 o_ G (z1_ (r 24) (1:Int)) h fun g h=>
 K .normal (u3 r 94 (r 24) 95 g 24 g) h
def Pm:Prop:=
 o_ G (i_ 71 (r 22) (r 24)) h fun g h=>o_ G (f_ 75 g 1) h fun j h=>o_ G (l_ 3 j) h fun s h=>o_ G (Builtin.max_ #[3,3] 3 #[s,(r 3)]) h fun u h=>o_ G (i_ 71 (r 22) (r 24)) h fun w h=>o_ G (f_ 75 w 1) h fun z h=>
 opH P_ G (su (Instr.storeAt 3 z u)) h fun C h=>
 p_ (i_ 71 (r 22) (r 24)) h fun C h'=>
 p_ (f_ 75 C 1) h' fun D h'=>
 w_ G h (l_ 3 D) h' fun E h'=>
 p_ (i_ 71 (r 22) (r 24)) h' fun F h'=>
 p_ (f_ 75 F 2) h' fun I h'=>
 w_ G h (l_ 3 I) h' fun J h=>
 p_ (z2_ E J) h fun L h=>
 cond L
 (o_ G (i_ 71 (r 22) (r 24)) h fun M h'=>o_ G (l_ 75 M) h' fun N h'=>o_ G (Instr.buildSlice 71 1 #[(0,N)]) h' fun O h'=>o_ G (Builtin.append_ #[71,71] 71 #[(r 23),O]) h' fun P h'=>
 Bv G K (u10 (u10 (u10 r 96 (r 22) 97 (r 24) 98 (r 22) 99 (r 24) 100 g 101 j 102 s 103 (r 3) 104 u 105 w) 106 z 107 (r 22) 108 (r 24) 109 C 110 D 111 E 112 (r 22) 113 (r 24) 114 F 115 I) 116 J 117 L 118 (r 23) 119 (r 22) 120 (r 24) 121 M 122 N 123 O 124 P 23 P) h')
 (Bv G K (u2 (u10 (u10 r 96 (r 22) 97 (r 24) 98 (r 22) 99 (r 24) 100 g 101 j 102 s 103 (r 3) 104 u 105 w) 106 z 107 (r 22) 108 (r 24) 109 C 110 D 111 E 112 (r 22) 113 (r 24) 114 F 115 I) 116 J 117 L) h)
def X6 (r:Rg) (h:Hp) (K:EK):Prop:=
 o_ G (k_ 71 (r 22)) h fun g h=>o_ G (z2_ (r 24) g) h fun j h=>
 cond j
 (Pm G K (u4 r 90 (r 24) 91 (r 22) 92 g 93 j) h)
 (K (.exit 0) (u4 r 90 (r 24) 91 (r 22) 92 g 93 j) h)
def aN4:Prop:=
 dt (X6 G) (u2 r 23 (.slice none 0 0) 24 (.int .i64 0)) h (df 0 (dj (aN3 G K) K))
def aN5:Prop:=
 w_ G h (l_ 30 (r 8)) h fun g h'=>o_ G (Builtin.append_ #[40,40] 40 #[(.slice none 0 0),(r 20)]) h' fun j h'=>h.le h'/\
 c_ G 39 #[(r 13),g,j] h' fun s h=>o_ G (l_ 26 (r 6)) h fun u h=>o_ G (l_ 30 (r 8)) h fun w h=>
 c_ G 59 #[u,w,(r 20)] h fun z h=>
 c_ G 58 #[s,z] h fun C h=>o_ G (Op.unary .not C) h fun D h=>
 (fun q=>cond D
 (K .ret (upd q 12 (.bool false)) h)
 (aN4 G K q h))
 (u3 (u10 r 78 (r 13) 79 g 80 (r 20) 81 j 82 s 22 s 83 s 84 u 85 w 86 (r 20)) 87 z 88 C 89 D)
def aN6:Prop:=
 c_ G 33 #[(r 4)] h fun g h=>o_ G (Instr.extract g 0) h fun j h=>o_ G (Instr.extract g 1) h fun s h=>
 w_ G h (l_ 26 (r 6)) h fun u h'=>
 c_ G 28 #[u] h' fun w h'=>h.le h'/\
 w_ G h (l_ 30 (r 8)) h' fun z h'=>
 w_ G h (l_ 30 (r 11)) h' fun C h=>
 c_ G 34 #[w,(r 15),(.int .i64 0),z,(r 3),j,C] h fun D h=>
 p_ (Instr.extract D 0) h fun E h=>
 p_ (Instr.extract D 1) h fun F h=>
 opH P_ G (xEq .neq 35 (.tmp 0) (.const .nilFunc) F (.int .i64 0)) h fun I h=>
 cond I
 (c_ G 32 #[] h fun J h'=>
 K .ret (u4 (u10 (u10 r 60 (r 4) 61 g 59 g 62 j 63 s 18 j 19 s 65 u 66 w 67 (r 15)) 68 z 69 (r 3) 70 j 71 C 72 D 64 D 73 E 74 F 20 E 21 F) 75 F 76 I 77 J 12 J) h')
 (aN5 G K (u2 (u10 (u10 r 60 (r 4) 61 g 59 g 62 j 63 s 18 j 19 s 65 u 66 w 67 (r 15)) 68 z 69 (r 3) 70 j 71 C 72 D 64 D 73 E 74 F 20 E 21 F) 75 F 76 I) h)
def aN7:Prop:=
 o_ G (l_ 26 (r 6)) h fun g h=>
 c_ G 56 #[g,(r 1)] h fun j h=>o_ G (Instr.extract j 0) h fun s h=>o_ G (Instr.extract j 1) h fun u h=>o_ G (Instr.extract j 2) h fun w h=>o_ G (Op.unary .not w) h fun z h=>
 (fun q=>cond z
 (K .ret (upd q 12 (.bool false)) h)
 (aN6 G K q h))
 (u2 (u10 r 51 g 52 (r 1) 53 j 50 j 54 s 55 u 56 w 15 s 16 u 17 w) 57 w 58 z)
def S20:Prop:=
 o_ G (Instr.box 26 (r 0)) h fun g h=>o_ G (Instr.box 30 (r 2)) h fun j h=>o_ G (Instr.box 30 (r 5)) h fun s h=>o_ G (l_ 26 g) h fun u h=>
 c_ G 28 #[u] h fun w h=>
 c_ G 37 #[w] h fun z h=>o_ G (Instr.extract z 0) h fun C h=>o_ G (Instr.extract z 1) h fun D h=>o_ G (l_ 26 g) h fun E h=>
 c_ G 21 #[E] h fun F h=>o_ G (Op.unary .not F) h fun I h=>g_ I false (fun K1=>K1 D h) h fun J h=>g_ I false (opH P_ G (xEq .neq 35 (.tmp 0) (.const .nilFunc) J (.int .i64 0)) h) h fun L h=>
 opH P_ G (dc I (.bool true) L) h fun M h=>g_ M false (fun K1=>K1 C h) h fun N h=>g_ M false (opH P_ G (xEq .eql 68 (.tmp 0) (.const .nilFunc) N (.pointer none)) h) h fun O h=>
 opH P_ G (dc M (.bool true) O) h fun P h=>
 cond P
 (opH P_ G (xEq .eql 35 (.tmp 0) (.const .nilFunc) D (.int .i64 0)) h fun Q h'=>o_ G (l_ 26 g) h' fun U h'=>
 c_ G 38 #[U] h' fun V h'=>
 opH P_ G (xEq .eql 4 (.tmp 0) (.tmp 0) Q V) h' fun W h'=>g_ W true (c_ G 32 #[] h') h' fun Y h'=>
 opH P_ G (dc W Y (.bool false)) h' fun Z h'=>
 K .ret (u2 (u10 (u10 (u10 r 6 g 8 j 11 s 12 (.bool false) 26 u 27 w 28 z 25 z 29 C 30 D) 13 C 14 D 31 E 32 F 33 I 34 I 35 J 36 L 37 M 38 M) 39 N 40 O 41 P 42 D 43 Q 44 U 45 V 46 W 47 W 48 Y) 49 Z 12 Z) h')
 (aN7 G K (u3 (u10 (u10 r 6 g 8 j 11 s 12 (.bool false) 26 u 27 w 28 z 25 z 29 C 30 D) 13 C 14 D 31 E 32 F 33 I 34 I 35 J 36 L 37 M 38 M) 39 N 40 O 41 P) h)
theorem enter20:Ent 132 20 [.tmp 12] S20:=ent_ (m:=md20) (c:=(Tryz.f20.body.getD .skip)) (fun _ _ _ _=>by kernel_rfl) Tryz.func20 rfl rfl rfl
def md32:Nat->Hint
 |_=>mh false [] [] [] false
def aM5:Prop:=
 o_ G (l_ 26 (r 1)) h fun g h=>o_ G (Instr.build 30 #[]) h fun j h=>o_ G (Instr.build 119 #[(1,(.int .i64 3))]) h fun s h=>o_ G (Instr.buildSlice 59 1 #[(0,s)]) h fun u h=>o_ G (Instr.build 28 #[(0,(.int .i64 1))]) h fun w h=>o_ G (Instr.build 30 #[(0,w)]) h fun z h=>
 c_ G 34 #[g,(r 2),(.int .i64 0),j,(.int .i64 3),u,z] h fun C h=>o_ G (Instr.extract C 0) h fun D h=>o_ G (Instr.extract C 1) h fun E h=>
 opH P_ G (xEq .eql 35 (.tmp 0) (.const .nilFunc) E (.int .i64 0)) h fun F h=>g_ F true (fun K1=>K1 D h) h fun I h=>g_ F true (o_ G (k_ 40 I) h) h fun J h=>g_ F true (opH P_ G (xEq .eql 3 (.tmp 0) (.const .nilFunc) J (.int .i64 2)) h) h fun L h=>
 opH P_ G (dc F L (.bool false)) h fun M h=>g_ M true (fun K1=>K1 D h) h fun N h=>g_ M true (o_ G (i_ 40 N (.int .i64 0)) h) h fun O h=>g_ M true (o_ G (f_ 48 O 0) h) h fun P h=>g_ M true (o_ G (l_ 3 P) h) h fun Q h=>g_ M true (opH P_ G (xEq .eql 3 (.tmp 0) (.const .nilFunc) Q (.int .i64 3)) h) h fun U h=>
 opH P_ G (dc M U (.bool false)) h fun V h=>g_ V true (fun K1=>K1 D h) h fun W h=>g_ V true (o_ G (i_ 40 W (.int .i64 0)) h) h fun Y h=>g_ V true (o_ G (f_ 48 Y 5) h) h fun Z h=>g_ V true (o_ G (l_ 3 Z) h) h fun aa h=>g_ V true (opH P_ G (xEq .eql 3 (.tmp 0) (.const .nilFunc) aa (.int .i64 3)) h) h fun ab h=>
 opH P_ G (dc V ab (.bool false)) h fun ac h=>g_ ac true (fun K1=>K1 D h) h fun ae h=>g_ ac true (o_ G (i_ 40 ae (.int .i64 0)) h) h fun af h=>g_ ac true (o_ G (f_ 48 af 6) h) h fun ag h=>g_ ac true (o_ G (l_ 3 ag) h) h fun ah h=>g_ ac true (opH P_ G (xEq .eql 3 (.tmp 0) (.const .nilFunc) ah (.int .i64 9)) h) h fun ai h=>
 opH P_ G (dc ac ai (.bool false)) h fun aj h=>g_ aj true (fun K1=>K1 D h) h fun ak h=>g_ aj true (o_ G (i_ 40 ak (.int .i64 1)) h) h fun al h=>g_ aj true (o_ G (f_ 48 al 0) h) h fun am h=>g_ aj true (o_ G (l_ 3 am) h) h fun an h=>g_ aj true (opH P_ G (xEq .eql 3 (.tmp 0) (.const .nilFunc) an (.int .i64 1)) h) h fun ao h=>
 opH P_ G (dc aj ao (.bool false)) h fun ap h=>g_ ap true (fun K1=>K1 D h) h fun aq h=>g_ ap true (o_ G (i_ 40 aq (.int .i64 1)) h) h fun ar h=>g_ ap true (o_ G (f_ 48 ar 6) h) h fun au h=>g_ ap true (o_ G (l_ 3 au) h) h fun av h=>g_ ap true (opH P_ G (xEq .eql 3 (.tmp 0) (.const .nilFunc) av (.int .i64 13)) h) h fun aw h=>
 opH P_ G (dc ap aw (.bool false)) h fun ax h=>
 K .ret (u6 (u10 (u10 (u10 (u10 (u10 r 18 g 19 (r 2) 20 j 21 s 22 u 23 w 24 z 25 C 17 C 26 D) 27 E 4 D 5 E 28 E 29 F 30 F 31 I 32 J 33 L 34 M) 35 M 36 N 37 O 38 P 39 Q 40 U 41 V 42 V 43 W 44 Y) 45 Z 46 aa 47 ab 48 ac 49 ac 50 ae 51 af 52 ag 53 ah 54 ai) 55 aj 56 aj 57 ak 58 al 59 am 60 an 61 ao 62 ap 63 ap 64 aq) 65 ar 66 au 67 av 68 aw 69 ax 0 ax) h
def S32:Prop:=
 o_ G (Instr.build 26 #[(0,(.int .i64 3)),(1,(.int .i64 1)),(2,(.int .i64 1)),(7,(.int .i64 10)),(8,(.int .i64 2)),(9,(.int .i64 4)),(10,(.int .i64 1)),(11,(.int .i64 6)),(12,(.int .i64 1)),(13,(.int .i64 1)),(14,(.int .i64 100))]) h fun g h=>o_ G (Instr.alloc 26 true (.tuple #[])) h fun j h=>
 opH P_ G (su (Instr.storeAt 26 j g)) h fun s h=>
 c_ G 24 #[(.int .i64 3)] h fun s h=>o_ G (Instr.extract s 0) h fun u h=>o_ G (Instr.extract s 1) h fun w h=>
 opH P_ G (xEq .neq 35 (.tmp 0) (.const .nilFunc) w (.int .i64 0)) h fun z h=>g_ z false (fun K1=>K1 u h) h fun C h=>g_ z false (opH P_ G (xEq .eql 34 (.tmp 0) (.const .nilFunc) C (.pointer none)) h) h fun D h=>
 opH P_ G (dc z (.bool true) D) h fun E h=>
 (fun q=>cond E
 (K .ret (upd q 0 (.bool false)) h)
 (aM5 G K q h))
 (u5 (u10 r 0 (.bool false) 6 g 1 j 8 s 7 s 9 u 10 w 2 u 3 w 11 w) 12 z 13 z 14 C 15 D 16 E)
theorem enter32:Ent 70 32 [.tmp 0] S32:=ent_ (m:=md32) (c:=(Tryz.f32.body.getD .skip)) (fun _ _ _ _=>by kernel_rfl) Tryz.func32 rfl rfl rfl
def md33:Nat->Hint
 |7=>mh false [0,0,0,6,14,30,0,0,192,448,960,2046,4094,8191,16383] [n_,n_,n_,n_,n_,m_,n_,n_,n_,n_,m_,n_,.alloc,e_,n_] (fs 15) false
 |_=>mh false [] [] [] false
def X3 (G:Hp) (K:EK) (r:Rg) (h:Hp):Prop:=
 K .ret (u4 r 38 (r 4) 39 (r 5) 2 (r 4) 3 (r 5)) h
def Ph:Prop:=
 o_ G (z1_ (r 6) (1:Int)) h fun g h=>
 K .normal (u3 r 15 (r 6) 16 g 6 g) h
def Pi:Prop:=
 o_ G (i_ 59 (r 0) (r 6)) h fun g h=>o_ G (l_ 119 g) h fun j h=>o_ G (Instr.buildSlice 59 1 #[(0,j)]) h fun s h=>o_ G (Builtin.append_ #[59,59] 59 #[(r 4),s]) h fun u h=>
 p_ (i_ 59 (r 0) (r 6)) h fun w h'=>
 p_ (f_ 119 w 0) h' fun z h'=>
 w_ G h (l_ 28 z) h' fun C h'=>
 p_ (i_ 59 (r 0) (r 6)) h' fun D h'=>
 p_ (f_ 119 D 1) h' fun E h'=>
 w_ G h (l_ 3 E) h' fun F h=>
 p_ (Instr.build 175 #[(0,C),(1,F)]) h fun I h=>o_ G (Instr.buildSlice 60 1 #[(0,I)]) h fun J h=>o_ G (Builtin.append_ #[60,60] 60 #[(r 5),J]) h fun L h=>
 Ph G K (u3 (u10 (u10 r 17 (r 4) 18 (r 0) 19 (r 6) 20 g 21 j 22 s 23 u 4 u 24 (r 5) 25 (r 0)) 26 (r 6) 27 w 28 z 29 C 30 (r 0) 31 (r 6) 32 D 33 E 34 F 35 I) 36 J 37 L 5 L) h
def aM4 (r:Rg) (h:Hp) (K:EK):Prop:=
 o_ G (k_ 59 (r 0)) h fun g h=>o_ G (z2_ (r 6) g) h fun j h=>g_ j true (fun K1=>K1 (r 6) h) h fun s h=>g_ j true (o_ G (z2_ s (4:Int)) h) h fun u h=>
 opH P_ G (dc j u (.bool false)) h fun w h=>
 (fun q=>cond w
 (Pi G K q h)
 (K (.exit 0) q h))
 (u8 r 7 (r 6) 8 (r 0) 9 g 10 j 11 j 12 s 13 u 14 w)
def S33:Prop:=
 dt (aM4 G) (u5 r 2 (.slice none 0 0) 3 (.slice none 0 0) 4 (.slice none 0 0) 5 (.slice none 0 0) 6 (.int .i64 0)) h (df 0 (dj (X3 G K) K))
theorem enter33:Ent 40 33 [.tmp 2,.tmp 3] S33:=ent_ (m:=md33) (c:=(Tryz.f33.body.getD .skip)) (fun _ _ _ _=>by kernel_rfl) Tryz.func33 rfl rfl rfl
def md56:Nat->Hint
 |10=>⟨false,[0,0,2,6,0,16,0,64,0,256,1008,2032,4095,0,0,16384,49152,0,131072,524287,1048575],[.pureN,.pureN,.pureN,.pureN,.pureN,.pureM,.pureN,.pureM,.pureN,.pureM,.pureN,.alloc,.eff,.pureN,.pureN,.pureN,.pureN,.pureM,.alloc,.eff,.pureM],[.pureN,.pureN,.pureN,.pureN,.pureN,.pureM,.pureN,.pureM,.pureN,.pureM,.pureN,.alloc,.eff,.pureN,.pureN,.pureN,.pureN,.pureM,.alloc,.eff,.late],(fs 12++[true]++fs 8),true⟩
 |_=>mh false [] [] [] false
def Xv (G:Hp) (K:EK) (r:Rg) (h:Hp):Prop:=
 K .ret (u5 r 77 (r 7) 78 (r 9) 4 (r 7) 5 (r 9) 6 (.bool true)) h
def O0:Prop:=
 o_ G (z1_ (r 10) (1:Int)) h fun g h=>
 K .normal (u3 r 41 (r 10) 42 g 10 g) h
def O1:Prop:=
 o_ G (i_ 114 (r 1) (r 10)) h fun g h=>o_ G (l_ 186 g) h fun j h=>o_ G (Instr.alloc 186 true (.tuple #[])) h fun s h=>
 opH P_ G (su (Instr.storeAt 186 s j)) h fun u h=>o_ G (f_ 186 s 0) h fun u h=>o_ G (l_ 3 u) h fun w h=>o_ G (f_ 26 (r 2) 0) h fun z h=>o_ G (l_ 3 z) h fun C h=>o_ G (f_ 26 (r 2) 1) h fun D h=>o_ G (l_ 3 D) h fun E h=>o_ G (z4_ C E) h fun F h=>
 c_ G 25 #[w,F] h fun I h=>o_ G (f_ 186 s 0) h fun J h=>
 opH P_ G (su (Instr.storeAt 3 J I)) h fun L h=>
 ∃h':Hp,h'.le h/\
 p_ (binOp .rem 3 (r 10) (.int .i64 3)) h fun L h=>
 p_ (z1_ (1:Int) L) h fun M h=>
 p_ (f_ 186 s 0) h fun N h=>
 w_ G h' (l_ 3 N) h fun O h=>
 p_ (f_ 186 s 1) h fun P h=>
 w_ G h' (l_ 3 P) h fun Q h=>
 p_ (f_ 186 s 2) h fun U h=>
 w_ G h' (l_ 3 U) h fun V h=>
 p_ (Instr.build 75 #[(0,O),(1,Q),(2,V)]) h fun W h=>o_ G (Instr.buildSlice 71 1 #[(0,W)]) h fun Y h=>
 c_ G 50 #[(r 7),M,Y] h fun Z h=>h'.le h/\
 p_ (binOp .rem 3 (r 10) (.int .i64 3)) h fun aa h=>
 p_ (z1_ (1:Int) aa) h fun ab h=>
 w_ G h' (l_ 186 s) h fun ac h=>o_ G (Instr.buildSlice 114 1 #[(0,ac)]) h fun ae h=>
 c_ G 92 #[(r 9),ab,ae] h fun af h=>
 dg P_ G h (xEq .neq 35 (.tmp 0) (.tmp 0) Z af) h fun ag h=>
 (fun q=>cond ag
 (K .ret (u3 q 4 (.pointer none) 5 (.pointer none) 6 (.bool false)) h)
 (O0 G K q h))
 (u5 (u10 (u10 (u10 r 43 (r 1) 44 (r 10) 45 g 46 j 11 s 47 u 48 w 49 z 50 C 51 D) 52 E 53 F 54 I 55 J 56 (r 7) 57 (r 10) 58 L 59 M 60 N 61 O) 62 P 63 Q 64 U 65 V 66 W 67 Y 68 Z 69 (r 9) 70 (r 10) 71 aa) 72 ab 73 ac 74 ae 75 af 76 ag)
def aJ3 (r:Rg) (h:Hp) (K:EK):Prop:=
 o_ G (k_ 114 (r 1)) h fun g h=>o_ G (z2_ (r 10) g) h fun j h=>g_ j true (fun K1=>K1 (r 10) h) h fun s h=>g_ j true (o_ G (z2_ s (30:Int)) h) h fun u h=>
 opH P_ G (dc j u (.bool false)) h fun w h=>
 (fun q=>cond w
 (O1 G K q h)
 (K (.exit 0) q h))
 (u8 r 33 (r 10) 34 (r 1) 35 g 36 j 37 j 38 s 39 u 40 w)
def aJ4:Prop:=
 dt (aJ3 G) (upd r 10 (.int .i64 0)) h (df 0 (dj (Xv G K) K))
def S56:Prop:=
 o_ G (Instr.box 26 (r 0)) h fun g h=>o_ G (f_ 26 g 0) h fun j h=>o_ G (l_ 3 j) h fun s h=>o_ G (f_ 26 g 1) h fun u h=>o_ G (l_ 3 u) h fun w h=>o_ G (z4_ s w) h fun z h=>
 c_ G 24 #[z] h fun C h=>o_ G (Instr.extract C 0) h fun D h=>o_ G (Instr.extract C 1) h fun E h=>o_ G (f_ 26 g 0) h fun F h=>o_ G (l_ 3 F) h fun I h=>o_ G (f_ 26 g 1) h fun J h=>o_ G (l_ 3 J) h fun L h=>o_ G (z4_ I L) h fun M h=>
 c_ G 91 #[M] h fun N h=>
 opH P_ G (xEq .neq 35 (.tmp 0) (.const .nilFunc) E (.int .i64 0)) h fun O h=>g_ O false (fun K1=>K1 D h) h fun P h=>g_ O false (opH P_ G (xEq .eql 34 (.tmp 0) (.const .nilFunc) P (.pointer none)) h) h fun Q h=>
 opH P_ G (dc O (.bool true) Q) h fun U h=>
 (fun q=>cond U
 (K .ret (u3 q 4 (.pointer none) 5 (.pointer none) 6 (.bool false)) h)
 (aJ4 G K q h))
 (u8 (u10 (u10 r 2 g 4 (.pointer none) 5 (.pointer none) 6 (.bool false) 13 j 14 s 15 u 16 w 17 z 18 C) 12 C 19 D 20 E 7 D 8 E 21 F 22 I 23 J 24 L 25 M) 26 N 9 N 27 E 28 O 29 O 30 P 31 Q 32 U)
theorem enter56:Ent 79 56 [.tmp 4,.tmp 5,.tmp 6] S56:=ent_ (m:=md56) (c:=(Tryz.f56.body.getD .skip)) (fun _ _ _ _=>by kernel_rfl) Tryz.func56 rfl rfl rfl
def md58:Nat->Hint
 |6=>mh false [0,0,3,7,15,0,0,96,224,480,1023,2047,4095,4095,16383,32767,65535,4095,4095,397311,921599,1970175,4194303,8388607,16777215,33554431,33554431,134217727,268435455,536870911,33554431,33554431,3254779903,7549747199,16139681791,34359738367,68719476735] [n_,n_,n_,n_,m_,n_,n_,n_,n_,m_,m_,n_,n_,n_,n_,n_,m_,n_,n_,n_,n_,m_,m_,n_,n_,n_,n_,n_,n_,m_,n_,n_,n_,n_,m_,m_,n_] (fs 37) false
 |_=>mh false [] [] [] false
def aJ1 (G:Hp) (K:EK) (r:Rg) (h:Hp):Prop:=
 K .ret (upd r 4 (.bool true)) h
def Oy:Prop:=
 o_ G (z1_ (r 5) (1:Int)) h fun g h=>
 K .normal (u3 r 15 (r 5) 16 g 5 g) h
def Oz:Prop:=
 p_ (i_ 71 (r 0) (r 5)) h fun g h'=>
 p_ (f_ 75 g 0) h' fun j h'=>
 w_ G h (l_ 3 j) h' fun s h'=>
 p_ (i_ 114 (r 1) (r 5)) h' fun u h'=>
 p_ (f_ 186 u 0) h' fun w h'=>
 w_ G h (l_ 3 w) h' fun z h'=>
 dg P_ G h (xEq .neq 3 (.tmp 0) (.tmp 0) s z) h' fun C h'=>g_ C false (fun K1=>K1 (r 0) h') h' fun D h'=>g_ C false (fun K1=>K1 (r 5) h') h' fun E h'=>g_ C false (p_ (i_ 71 D E) h') h' fun F h'=>g_ C false (p_ (f_ 75 F 1) h') h' fun I h'=>g_ C false (w_ G h (l_ 3 I) h') h' fun J h'=>g_ C false (fun K1=>K1 (r 1) h') h' fun L h'=>g_ C false (fun K1=>K1 (r 5) h') h' fun M h'=>g_ C false (p_ (i_ 114 L M) h') h' fun N h'=>g_ C false (p_ (f_ 186 N 1) h') h' fun O h'=>g_ C false (w_ G h (l_ 3 O) h') h' fun P h'=>g_ C false (dg P_ G h (xEq .neq 3 (.tmp 0) (.tmp 0) J P) h') h' fun Q h'=>
 dg P_ noHp noHp (dc C (.bool true) Q) h' fun U h'=>g_ U false (fun K1=>K1 (r 0) h') h' fun V h'=>g_ U false (fun K1=>K1 (r 5) h') h' fun W h'=>g_ U false (p_ (i_ 71 V W) h') h' fun Y h'=>g_ U false (p_ (f_ 75 Y 2) h') h' fun Z h'=>g_ U false (w_ G h (l_ 3 Z) h') h' fun aa h'=>g_ U false (fun K1=>K1 (r 1) h') h' fun ab h'=>g_ U false (fun K1=>K1 (r 5) h') h' fun ac h'=>g_ U false (p_ (i_ 114 ab ac) h') h' fun ae h'=>g_ U false (p_ (f_ 186 ae 2) h') h' fun af h'=>g_ U false (w_ G h (l_ 3 af) h') h' fun ag h'=>g_ U false (dg P_ G h (xEq .neq 3 (.tmp 0) (.tmp 0) aa ag) h') h' fun ah h=>
 dg P_ noHp noHp (dc U (.bool true) ah) h fun ai h=>
 (fun q=>cond ai
 (K .ret (upd q 4 (.bool false)) h)
 (Oy G K q h))
 (u7 (u10 (u10 (u10 r 17 (r 0) 18 (r 5) 19 g 20 j 21 s 22 (r 1) 23 (r 5) 24 u 25 w 26 z) 27 C 28 C 29 D 30 E 31 F 32 I 33 J 34 L 35 M 36 N) 37 O 38 P 39 Q 40 U 41 U 42 V 43 W 44 Y 45 Z 46 aa) 47 ab 48 ac 49 ae 50 af 51 ag 52 ah 53 ai)
def aJ0 (r:Rg) (h:Hp) (K:EK):Prop:=
 o_ G (k_ 71 (r 0)) h fun g h=>o_ G (z2_ (r 5) g) h fun j h=>
 cond j
 (Oz G K (u4 r 11 (r 5) 12 (r 0) 13 g 14 j) h)
 (K (.exit 0) (u4 r 11 (r 5) 12 (r 0) 13 g 14 j) h)
def aJ2:Prop:=
 dt (aJ0 G) (upd r 5 (.int .i64 0)) h (df 0 (dj (aJ1 G K) K))
def S58:Prop:=
 o_ G (k_ 71 (r 0)) h fun g h=>o_ G (k_ 114 (r 1)) h fun j h=>
 opH P_ G (xEq .neq 3 (.tmp 0) (.tmp 0) g j) h fun s h=>
 (fun q=>cond s
 (K .ret (upd q 4 (.bool false)) h)
 (aJ2 G K q h))
 (u6 r 4 (.bool false) 6 (r 0) 7 g 8 (r 1) 9 j 10 s)
theorem enter58:Ent 54 58 [.tmp 4] S58:=ent_ (m:=md58) (c:=(Tryz.f58.body.getD .skip)) (fun _ _ _ _=>by kernel_rfl) Tryz.func58 rfl rfl rfl
end
end Go.Proofs.YtfflipnhffknnaaGreatDoor
end
section
namespace Go.Proofs.YtfflipnhffknnaaGreatDoor
open Go Go.HL Go.Proofs.Resv Go.Proofs.Srch
def gf:=jq bC (jq (jq (jq (jq (jq @al48 @Rf) (jq @tr @N7)) (jq (jq @cf112 @cf40) (jq @cf41 @cf48))) (jq (jq (jq @Jt @Js) (jq @Jr @W0)) (jq (jq @Y7 @Qt) (jq @Qs @fa75_0p)))) (jq (jq (jq (jq @Y6 @Y5) (jq @Gj @vg)) (jq (jq @ld3 @ld30) (jq @th @ld3p))) (jq (jq (jq @ld48 @Tx) (jq @ln114 @ln22)) (jq (jq @ln40 @ln71) (jq @Ih @true_and)))))
theorem eow3:gi P_ 186 Rv.j5.n 24:=eo186
theorem Fd {G h ip B:Hp} {v lv cv:Value} {C:Conf} {cells:List Cell} {a b:Int} {l:List Want} (mk:dv C) (hv:CV G B v C) (sc:Sees du G B cv cells) (sl:Slc Rv.j5 186 ip lv l) (s:HL.Sep [ip,B] h) (hl:l.length+cells.length<=1000000000):
 bn P_ G 112 #[v,lv,cv,a,b] h (fun u h'=>∃ip',Slc Rv.j5 186 ip' u (l++qd (wC C) (kC C) cells a b)/\HL.Sep [ip',B] h'/\Dis G h'):=by
 obtain ⟨ab,cb,ap,cp,ar,cr,az,cs,rfl,ca⟩:=hv;obtain ⟨sa,scap,rfl,_⟩:=id sc;obtain ⟨la0,lc0,rfl,_⟩:=id (sl.len (by decide));obtain ⟨ew,ek,w1,w16,k1,k16⟩:=wk_of mk;refine bn.assume fun d=>aD1 (by simp) ?_;unfold S112;simp only [gf];intro xc hxc gxc;have s1:=s.swap.grow (o:=rj C ab cb ap cp ar cr az cs) hxc;have lQ:B.le (B.set xc (rj C ab cb ap cp ar cr az cs)):=dl ((s.in 1 rfl).none hxc);have bQ:(B.set xc (rj C ab cb ap cp ar cr az cs)) xc=some (rj C ab cb ap cp ar cr az cs):=bj;have d1:=d.set (o:=rj C ab cb ap cp ar cr az cs) gxc;generalize Hp.set h xc _=h1 at*;generalize B.set xc (rj C ab cb ap cp ar cr az cs)=Q at*;have dQ:Dis G Q:=fun y o hy=>d1 y o (s1.hd _ _ hy);have caQ:=ca.up lQ dQ;refine ci (fun hge=>?_) (fun hlt=>?_)
 . try simp (disch:=first|decide|omega) only [gf,Nat.reduceAdd,Nat.reduceMul]
   unfold qd;rw [if_pos hge,List.append_nil];exact ⟨ip,sl,(s1.cut lQ).swap,d1⟩
 unfold ae6;generalize hKK:retK P_ G _ _=KK;have hpw:qd (wC C) (kC C) cells a b=cells.map fun c=>⟨numI (wC C) (kC C) c,a,b⟩:=by unfold qd;exact if_neg hlt
 refine dp (fun m r h'=>∃(i:Nat) (vl:Value) (ip':Hp),m=cells.length-i/\i<=cells.length/\r 1=vl/\r 2 = .slice sa cells.length scap/\r 3 = .int .i64 a/\r 4 = .int .i64 b/\r 5 = .pointer (some ⟨xc,0,none⟩)/\r 11 = .int .i64 i/\Slc Rv.j5 186 ip' vl (l++(cells.take i).map fun c=>⟨numI (wC C) (kC C) c,a,b⟩)/\HL.Sep [ip',Q] h'/\Dis G h') ?_ (m:=cells.length)
  ⟨0,.slice la0 l.length lc0,ip,rfl,Nat.zero_le _,by simp (disch:=decide) only [gf],by simp (disch:=decide) only [gf],by simp (disch:=decide) only [gf],by simp (disch:=decide) only [gf],by simp (disch:=decide) only [gf],by simp only [gf]<;>rfl,by simpa using sl,s1.swap,d1⟩
 clear s1 d1 sl s;rintro m r h2 ⟨i,vl,ip,rfl,hi,r1,r2,r3,r4,r5,r11,sl,s,d⟩ X hX;unfold ae2;simp only [gf,r2,r11];refine ci (fun hlt=>?_) (fun hge=>?_);rotate_left
 . obtain rfl:i=cells.length:=by omega
   rw [List.take_length]at sl;try simp (disch:=first|decide|omega) only [gf,Nat.reduceAdd,Nat.reduceMul]
   unfold ae5;rw [<- hKK];try simp (disch:=decide) only [gf,r1]
   rw [hpw];exact ⟨ip,sl,(s.swap.cut lQ).swap,d⟩
 obtain ⟨c,hc⟩:∃c,cells[i]?=some c:=⟨_,List.getElem?_eq_getElem (by omega)⟩;obtain ⟨b1,o1,rfl,e1,e2⟩:=Sees.cell (sc.up (lQ.trans (s.in 1 rfl)) d) hc;obtain ⟨la,lc,rfl,_⟩:=id (sl.len (by decide));have cc:∀j,bf G h2 ⟨xc,j,none⟩=_:=fun j=>bm (bk (s.at 1 rfl bQ));unfold Ls;try simp (disch:=decide) only [gf,r1,r2,r3,r4,r5,r11,cc,sk (Int.natCast_nonneg i) hlt,e1,e2]
 refine (Pw (c:=c) (caQ.up (s.in 1 rfl) d).cv (by omega) (by omega)).mono ?_;rintro _ h2 ⟨rfl,rfl⟩;rw [<- num_eq mk];try simp only [gf,r3,r4]
 intro y hy gy;have s2:=s.new (o := .cells #[(numI (wC C) (kC C) c),a,b] 186 (0,0)) hy;have d2:=d.set (o := .cells #[(numI (wC C) (kC C) c),a,b] 186 (0,0)) gy;try simp (disch:=first|decide|omega) only [gf,Nat.reduceAdd,Nat.reduceMul]
 generalize Hp.set h2 y _=h3 at*;have hlen:(l++(cells.take i).map fun c=>(⟨numI (wC C) (kC C) c,a,b⟩:Want)).length=l.length+i:=by rw [List.length_append,List.length_map,List.length_take,Nat.min_eq_left hi]
 try simp (disch:=first|decide|omega) only [gf,Nat.reduceAdd,Nat.reduceMul,r1]
 refine pi Rv.j5 (by decide) (M:=[(⟨numI (wC C) (kC C) c,a,b⟩:Want)]) Sm eow3 (by decide) (s2.sel (L':=[ip,noHp.set y _,Q]) [1,0,2] (by decide) rfl) d2 sl (Sees.row (c:=Rv.j5) (L:=[(⟨numI (wC C) (kC C) c,a,b⟩:Want)]) (s2.at 0 rfl bj) rfl (Nat.le_refl _)) (by rw [hlen,List.length_singleton];omega) fun v4 i4 h4 o4 s4 d4=>?_;try simp (disch:=first|decide|omega) only [gf,Nat.reduceAdd,Nat.reduceMul]
 unfold Lr;try simp (disch:=first|decide|omega) only [gf,r11]
 have et:l++(cells.take (i+1)).map (fun c=>(⟨numI (wC C) (kC C) c,a,b⟩:Want))=l++(cells.take i).map (fun c=>(⟨numI (wC C) (kC C) c,a,b⟩:Want))++[(⟨numI (wC C) (kC C) c,a,b⟩:Want)]:=by rw [List.take_add_one,hc,List.map_append,List.append_assoc];rfl
 exact hX (cells.length-(i+1)) _ _ (by omega) ⟨i+1,v4,i4,rfl,by omega,by simp (disch:=decide) only [gf],by simp (disch:=decide) only [gf,r2],by simp (disch:=decide) only [gf,r3],by simp (disch:=decide) only [gf,r4],by simp (disch:=decide) only [gf,r5],by simp only [gf]<;>rfl,by rw [et];exact o4,s4.sel [0,2] (by decide) rfl,d4⟩
theorem Tc {G h:Hp} {v mv:Value} {C:Conf} {p:Pose} {M:List Move} (mk:dv C) (hv:CV G h v C) (hbl:C.bl.length<=100000000000000) (sm:Sees j9 G h mv M) (hM:∀m∈M,PB m.f) (hml:M.length<=1000000):
 bn P_ G 59 #[v,ld p,mv] h (fun u h'=>∃ip,Slc Rv.j5 186 ip u (m7 (wC C) (kC C) (f3C C) p 0 M)/\HL.Sep [ip,h] h'/\Dis G h'):=by
 obtain ⟨ab,cb,ap,cp,ar,cr,az,cs,rfl,ca⟩:=hv;obtain ⟨sa,sc,rfl,_⟩:=id sm;obtain ⟨ew,ek,w1,w16,k1,k16⟩:=wk_of mk;refine bn.assume fun d=>enter59 (by simp) ?_;unfold S59;simp only [gf];intro xc hxc gxc;have s1:=(HL.Sep.one (h:=h)).grow (o:=rj C ab cb ap cp ar cr az cs) hxc;have lB:h.le (h.set xc (rj C ab cb ap cp ar cr az cs)):=dl hxc;have bc:(h.set xc (rj C ab cb ap cp ar cr az cs)) xc=some (rj C ab cb ap cp ar cr az cs):=bj;have dB:Dis G (h.set xc (rj C ab cb ap cp ar cr az cs)):=d.set gxc;generalize h.set xc (rj C ab cb ap cp ar cr az cs)=B at*;intro xp hxp gxp;have s2:=s1.new (o:=ij p) hxp;have d2:=dB.set (o:=ij p) gxp;generalize Hp.set B xp _=h2 at*;have caB:=ca.up lB dB;generalize hKK:retK P_ G _ _=KK
 refine dp (fun m r h'=>∃(i:Nat) (pz:Pose) (tz:Int) (l:List Want) (vl:Value) (ip:Hp),m=M.length-i/\i<=M.length/\r 2 = .slice sa M.length sc/\r 3 = .pointer (some ⟨xc,0,none⟩)/\r 4 = .pointer (some ⟨xp,0,none⟩)/\r 7=vl/\r 8 = .int .i64 tz/\r 9 = .int .i64 i/\
  Slc Rv.j5 186 ip vl l/\l.length<=i*258/\HL.Sep [ip,noHp.set xp (ij pz),B] h'/\Dis G h'/\l++m7 (wC C) (kC C) (f3C C) pz tz (M.drop i)=m7 (wC C) (kC C) (f3C C) p 0 M) ?_ (m:=M.length)
  ⟨0,p,0,[],.slice none 0 0,noHp,rfl,Nat.zero_le _,by simp (disch:=decide) only [gf],by simp (disch:=decide) only [gf],by simp (disch:=decide) only [gf],by simp (disch:=decide) only [gf],by simp (disch:=decide) only [gf]<;>rfl,by simp only [gf]<;>rfl,Slc.nil,by simp,s2.none,d2,by simp⟩
 clear s2 s1;rintro m r h4 ⟨i,pz,tz,l,vl,ip,rfl,hi,r2,r3,r4,r7,r8,r9,sl,hll,s,d4,hgo⟩ X hX;have hi2:i*258<=1000000*258:=Nat.mul_le_mul_right _ (by omega);obtain ⟨la,lc,rfl,_⟩:=id (sl.len (by decide));have cc:∀{h':Hp},B.le h'->∀j,bf G h' ⟨xc,j,none⟩=_:=fun l j=>bm (bk (l _ _ bc));have cp4:∀j,bf G h4 ⟨xp,j,none⟩=_:=fun j=>bm (bk (s.at 1 rfl bj));unfold aI8;simp only [gf,r2,r9];refine ci (fun hlt=>?_) (fun hge=>?_);rotate_left
 . obtain rfl:i=M.length:=by omega
   rw [List.drop_length]at hgo;try simp (disch:=first|decide|omega) only [gf,Nat.reduceAdd,Nat.reduceMul]
   unfold aI9;try simp (disch:=decide) only [gf,r3,r4,r7,r8,cc (s.in 2 rfl),cp4]
   refine (o8 (p:=pz)).mono ?_;rintro _ h5 ⟨b,rfl,hb,gb,rfl⟩;refine ⟨dl hb,?_⟩;have s5:=(s.sel (L':=[B,ip]) [2,0] (by decide) rfl).grow (o := .cells #[pz.x,pz.y,(east pz).1,(east pz).2] 28 (0,0)) hb;have d5:=d4.set (o := .cells #[pz.x,pz.y,(east pz).1,(east pz).2] 28 (0,0)) gb;have lQ:B.le (B.set b (pcB pz)):=dl ((s.in 2 rfl).none hb);have bQ:(B.set b (pcB pz)) b=some (pcB pz):=bj;try simp (disch:=first|decide|omega) only [gf,Nat.reduceAdd,Nat.reduceMul,r7,r8]
   generalize Hp.set h4 b _=h5 at*;generalize B.set b (pcB pz)=Q at*;have dQ:Dis G Q:=fun y o hy=>d5 y o (s5.hd _ _ hy);refine (Fd (l:=l) (a:=tz) (b:=4611686018427387904) (cells:=cj pz) mk (caB.up lQ dQ).cv (uz bQ) sl s5.swap (by show l.length+2<=_;omega)).mono ?_;rintro u6 h6 ⟨ip6,sl6,s6,d6⟩;rw [<- hKK];obtain ⟨la6,lc6,rfl,_⟩:=id (sl6.len (by decide));try simp only [gf]
   have hgo':l++qd (wC C) (kC C) (cj pz) tz 4611686018427387904=m7 (wC C) (kC C) (f3C C) p 0 M:=hgo;rw [hgo']at sl6;exact ⟨ip6,by rw [hgo'];exact sl6,(s6.swap.cut (lB.trans lQ)).swap,d6⟩
 obtain ⟨z,hz⟩:∃z,M[i]?=some z:=⟨_,List.getElem?_eq_getElem (by omega)⟩;have zf:=hM z (List.mem_of_getElem? hz);have hdrop:M.drop i=z::M.drop (i+1):=by rw [List.drop_eq_getElem_cons (by omega)];congr 1;exact Option.some.inj ((List.getElem?_eq_getElem (by omega)).symm.trans hz)
 rw [hdrop]at hgo;obtain ⟨b,o,rfl,y0,y1,y2,y3,y4,y5,y6,y7,y8,y9,y10⟩:=Sees.mvx (sm.up (lB.trans (s.in 2 rfl)) d4) hz;unfold Ox;try simp (disch:=first|decide|exact bv|exact bo|omega|rfl) only [gf,Nat.reduceAdd,r2,r9,ix40 (Int.natCast_nonneg i) hlt,y0,y1,y2,y3,y4,y5,y6,y7,y8,y9,y10]
 intro x hx gx;have s5:=(s.sel [2,0,1] (by decide) rfl).grow (o := .cells #[z.k,z.d,z.n,z.f.x,z.f.y,.bool z.f.d,z.t.x,z.t.y,.bool z.t.d,z.a,z.e] 48 (0,0)) hx;have d5:=d4.set (o := .cells #[z.k,z.d,z.n,z.f.x,z.f.y,.bool z.f.d,z.t.x,z.t.y,.bool z.t.d,z.a,z.e] 48 (0,0)) gx;have lQ:B.le (B.set x (Ae z)):=dl ((s.in 2 rfl).none hx);have bQ:(B.set x (Ae z)) x=some (Ae z):=bj;try simp (disch:=first|decide|omega) only [gf,Nat.reduceAdd,Nat.reduceMul]
 generalize Hp.set h4 x _=h5 at*;generalize B.set x (Ae z)=Q at*;have cxQ:∀{h':Hp},Q.le h'->∀j,bf G h' ⟨x,j,none⟩=_:=fun l j=>bm (bk (l _ _ bQ));have cp5:∀j,bf G h5 ⟨xp,j,none⟩=_:=fun j=>bm (bk (s5.at 2 rfl bj));try simp only [gf,r3,r4,cc (lQ.trans (s5.in 0 rfl)),cp5]
 refine (o8 (p:=pz)).mono ?_;rintro _ h6 ⟨b6,rfl,hb6,gb6,rfl⟩;refine ⟨dl hb6,?_⟩;have s6:=s5.grow (o := .cells #[pz.x,pz.y,(east pz).1,(east pz).2] 28 (0,0)) hb6;have d6:=d5.set (o := .cells #[pz.x,pz.y,(east pz).1,(east pz).2] 28 (0,0)) gb6;have lU:Q.le (Q.set b6 (pcB pz)):=dl ((s5.in 0 rfl).none hb6);have bU:(Q.set b6 (pcB pz)) b6=some (pcB pz):=bj;try simp only [gf,r7,r8,cxQ (s5.in 0 rfl)]
 generalize Hp.set h5 b6 _=h6 at*;generalize Q.set b6 (pcB pz)=U at*;obtain ⟨V,sV,tV⟩:=HL.Sep.pack [U,noHp.set xp (ij pz)] (R:=[ip]) (s6.sel [0,2,1] (by decide) rfl);have dV:Dis G V:=fun y o hy=>d6 y o (sV.hd _ _ hy);have lBV:B.le V:=lQ.trans (lU.trans (tV.in 0 rfl));have lQV:Q.le V:=lU.trans (tV.in 0 rfl);refine (Fd (l:=l) (a:=tz) (b:=z.a) (cells:=cj pz) mk (caB.up lBV dV).cv (uz (tV.at 0 rfl bU)) sl sV.swap (by show l.length+2<=_;omega)).mono ?_;rintro u7 h7 ⟨ip7,sl7,s7,d7⟩;have p1:=si (w:=wC C) (k:=kC C) (L:=cj pz) (a:=tz) (b:=z.a);have e2:(cj pz).length=2:=rfl;try simp only [gf,r3,cc (lBV.trans (s7.in 1 rfl)),cxQ (lQV.trans (s7.in 1 rfl))]
 refine (S2 (m:=z) (caB.up (lBV.trans (s7.in 1 rfl)) d7).cv hbl ew ek w16 k16).mono ?_;rintro v8 h8 ⟨ip8,sl8,s8,d8⟩;refine ⟨s8.in 1 rfl,?_⟩;rw [<- Ia mk zf]at sl8;obtain ⟨a8,c8,rfl,_⟩:=id (sl8.len (by decide));have s9:=s8.swap.open s7
 try simp (disch:=first|decide|omega) only [gf,Nat.reduceAdd,Nat.reduceMul,cxQ (lQV.trans (s7.in 1 rfl))]
 obtain ⟨Y,sY,tY⟩:=HL.Sep.pack [V,ip8] (R:=[ip7]) (s9.sel [1,2,0] (by decide) rfl);have dY:Dis G Y:=fun y o hy=>d8 y o (sY.hd _ _ hy)
 have hsw:(i7 (wC C) (kC C) (f3C C) z).length<=256:=by
  unfold i7;split
  . exact Cm w16 k16
  . simp
 refine (Fd (l:=l++qd (wC C) (kC C) (cj pz) tz z.a) (a:=z.a) (b:=z.e) (cells:=i7 (wC C) (kC C) (f3C C) z) mk (caB.up (lBV.trans (tY.in 0 rfl)) dY).cv (sl8.see (by decide) (tY.in 1 rfl)) sl7 sY.swap (by rw [List.length_append];omega)).mono ?_;rintro u10 h10 ⟨ip10,sl10,s10,d10⟩;have p2:=si (w:=wC C) (k:=kC C) (L:=i7 (wC C) (kC C) (f3C C) z) (a:=z.a) (b:=z.e);have s13:=HL.Sep.open (L:=[U,noHp.set xp (ij pz)]) (s10.swap.cut (tY.in 0 rfl)) tV
 have bp:=s13.at 1 rfl bj;try simp only [gf,r4,cxQ (lU.trans (s13.in 0 rfl))]
 rw [Cn (p:=z.t) bp];have s14:=(s13.sel (L':=[noHp.set xp (ij pz),U,ip10]) [1,0,2] (by decide) rfl).put (o:=ij z.t) bj;rw [set_set]at s14;have d14:=d10.set (o:=ij z.t) (d10 _ _ bp);try simp only [gf,cxQ (lU.trans (s14.in 1 rfl))]
 unfold Ow;try simp (disch:=first|decide|omega) only [gf,r9]
 refine hX (M.length-(i+1)) _ _ (by omega) ⟨i+1,z.t,z.e,_,u10,ip10,rfl,by omega,by simp (disch:=decide) only [gf,r2],by simp (disch:=decide) only [gf,r3],by simp (disch:=decide) only [gf,r4],by simp (disch:=decide) only [gf],by simp (disch:=decide) only [gf],by simp only [gf]<;>rfl,sl10,?_,((s14.sel (L':=[U,ip10,noHp.set xp (ij z.t)]) [1,2,0] (by decide) rfl).cut (lQ.trans lU)).sel [1,2,0] (by decide) rfl,d14,?_⟩
 . rw [List.length_append,List.length_append,Nat.add_mul];omega
 . rw [<- hgo];show l++_++_++_=l++(_++_++_);rw [List.append_assoc,List.append_assoc,List.append_assoc]
theorem V5 {G h:Hp} {va vb:Value} {L:List Want} (sA:Sees Rv.j5 G h va L) (sB:Sees Rv.j5 G h vb L) (hl:L.length<=1000000000):
 bn P_ G 58 #[va,vb] h (fun u h'=>u = .bool true/\h'=h):=by
 obtain ⟨a1,c1,rfl,_⟩:=id sA;obtain ⟨a2,c2,rfl,_⟩:=id sB;refine bn.assume fun d=>quietly (enter58 (by simp) ?_);unfold S58;try simp (disch:=first|decide|omega) only [gf,show (((L.length:Nat):Int) != ((L.length:Nat):Int))=false from bne_self_eq_false _]
 unfold aJ2;generalize hKK:retK P_ G _ _=KK
 refine dp (fun m r h'=>∃i:Nat,m=L.length-i/\i<=L.length/\r 0 = .slice a1 L.length c1/\r 1 = .slice a2 L.length c2/\r 5 = .int .i64 i/\h'=h) ?_ (m:=L.length)
  ⟨0,rfl,Nat.zero_le _,by simp (disch:=first|decide|exact bv|exact bo|omega|rfl) only [gf],by simp (disch:=first|decide|exact bv|exact bo|omega|rfl) only [gf],by simp (disch:=first|decide|omega) only [gf]<;>rfl,rfl⟩
 rintro m r h' ⟨i,rfl,hi,r0,r1,r5,rfl⟩ X hX;unfold aJ0;simp (disch:=first|decide|omega) only [gf,r0,r5];refine ci (fun hlt=>?_) (fun hge=>?_);rotate_left
 . try simp -implicitDefEqProofs (maxSteps:=2000000) (disch:=first|decide|with_reducible exact Nat.ne_of_beq_eq_false rfl|exact bv|exact bo|omega|rfl|(simp;done)|fail) only [gf,Nat.reduceAdd,Nat.reduceMul]
   unfold aJ1;rw [<- hKK];try simp (disch:=first|decide|exact bv|exact bo|omega|rfl) only [gf]
   exact Hp.le.refl _
 obtain ⟨x,hx⟩:∃x,L[i]?=some x:=⟨_,List.getElem?_eq_getElem (by omega)⟩;obtain ⟨b1,o1,rfl,x0,x1,x2⟩:=Rv.Sees.want sA hx;obtain ⟨b2,o2,rfl,y0,y1,y2⟩:=Rv.Sees.want sB hx;unfold Oz;try simp -implicitDefEqProofs (maxSteps:=2000000) (disch:=first|decide|with_reducible exact Nat.ne_of_beq_eq_false rfl|exact bv|exact bo|omega|rfl|(simp;done)|fail) only [gf,r0,r1,r5,ix71p (Int.natCast_nonneg i) hlt,at5 (Int.natCast_nonneg i) hlt,x0,x1,x2,y0,y1,y2,show (x.c != x.c)=false from bne_self_eq_false _,show (x.f != x.f)=false from bne_self_eq_false _,show (x.t != x.t)=false from bne_self_eq_false _]
 unfold Oy;try simp -implicitDefEqProofs (maxSteps:=2000000) (disch:=first|decide|with_reducible exact Nat.ne_of_beq_eq_false rfl|exact bv|exact bo|omega|rfl|(simp;done)|fail) only [gf,r5]
 exact hX (L.length-(i+1)) _ _ (by omega) ⟨i+1,rfl,by omega,by simp -implicitDefEqProofs (maxSteps:=2000000) (disch:=first|decide|with_reducible exact Nat.ne_of_beq_eq_false rfl|exact bv|exact bo|omega|rfl|(simp;done)|fail) only [gf,r0],by simp -implicitDefEqProofs (maxSteps:=2000000) (disch:=first|decide|with_reducible exact Nat.ne_of_beq_eq_false rfl|exact bv|exact bo|omega|rfl|(simp;done)|fail) only [gf,r1],by simp -implicitDefEqProofs (maxSteps:=2000000) (disch:=first|decide|with_reducible exact Nat.ne_of_beq_eq_false rfl|exact bv|exact bo|omega|rfl|(simp;done)|fail) only [gf]<;>rfl,rfl⟩
section
variable {C:Conf}
def Uh (C:Conf) (T:Tb) (rb:Int):Pose->Int->List Move->Prop
 |p,t,[]=>A9 C T rb (cj p) t FV
 |p,t,m::M=>A9 C T rb (cj p) t m.a/\A9 C T rb (gm C m) m.a m.e/\Uh C T rb m.t m.e M
theorem Fo {T:Tb} {rb:Int} {M:List Move}:∀{w:List Move} {p:Pose} {t:Int},(∀j m,w[j]?=some m->A9 C T rb (cj (yy p w j)) (nh t w j) m.a/\A9 C T rb (gm C m) m.a m.e)->Uh C T rb (endP p w) (endT t w) M->Uh C T rb p t (w++M)
 |[],_,_,_,h=>h
 |x::w,p,t,hw,h=>by
  obtain ⟨h1,h2⟩:=hw 0 x rfl;rw [xk,Ny]at h;refine ⟨h1,h2,Fo (fun j m hm=>?_) h⟩;have:=hw (j+1) m hm;cases j with
  |zero=>exact this
  |succ j=>exact this
theorem Sk (mk:dv C) {T:Tb} (gt:jf T) {rb t:Int} {p gp:Pose} {any:Bool} {w:List Move} (h:lg C (some T) rb p t gp any = .ok w):
 (∀j m,w[j]?=some m->A9 C T rb (cj (yy p w j)) (nh t w j) m.a/\A9 C T rb (gm C m) m.a m.e)/\∀a b,endT t w<=a->b<=FV->A9 C T rb (cj (endP p w)) a b:=by
 obtain ⟨_,h2,s,h3,h4,h5,h6,h7,h8⟩:=Fq mk gt h;refine ⟨fun j m hm=>⟨?_,(h2 j m hm).go⟩,fun a b ha hb c hc=>?_⟩
 . have o:=h2 j m hm;exact o.stand
 . have hs2:s.2=FV:=by unfold nk at h6;simp only [Bool.and_eq_true]at h6;simpa using h6.2
   have h4':s.1<=endT t w:=h4;exact Cv gt h3 (by omega) (by omega) _ (List.mem_map.2 ⟨c,hc,rfl⟩)
theorem Vu (mk:dv C) {k:Int} {p:Pose} {t:Int} (hk:k=3\/k=4):∀c∈gm C (wb C k p t),c∈cj p:=fun c hc=>by
 unfold gm at hc;split at hc
 . rw [pl]at hc;have:=hc.2;unfold qa at this;rw [if_neg (by show ¬k=1;omega),if_neg (by show ¬k=2;omega)]at this;exact this
 . cases hc
theorem Uc (mk:dv C) {T:Tb} (gt:jf T) {rb:Int} {hm:Pose}:∀{S:List Stp} {p:Pose} {t:Int} {l L:List Move},(∀s∈S,Ab s=true)->goR C T rb hm S p t l = .ok L->∃M,L=l++M/\Uh C T rb p t M
 |[],p,t,l,L,_,h=>by
  rw [Qo]at h;cases hw:lg C (some T) rb p t hm false with
  |no e=>rw [hw]at h;cases h
  |ok w=>rw [hw]at h;cases h;obtain ⟨f1,f2⟩:=Sk mk gt hw;have:=Fo (M:=[]) f1 (f2 _ _ (Int.le_refl _) (Int.le_refl _));rw [List.append_nil]at this;exact ⟨w,rfl,this⟩
 |s::S,p,t,l,L,hS,h=>by
  have h0:=h;rw [Ji]at h;cases hw:lg C (some T) rb p t ⟨s.x,s.y,false⟩ true with
  |no e=>rw [hw]at h;cases h
  |ok w=>
   rw [hw]at h;simp only at h;obtain ⟨f1,f2⟩:=Sk mk gt hw;obtain ⟨M,rfl,hM⟩:=Uc mk gt (fun x hx=>hS x (.tail _ hx)) h;obtain ⟨M',e',r1,r2,r3,r4,r5⟩:=D9 mk gt (fun x hx=>hS x (.tail _ hx)) h;have hk:s.k=3\/s.k=4:=by have:=hS s (.head _);unfold Ab at this;simpa using this
   refine ⟨w++(wb C s.k (endP p w) (endT t w)::M),by simp,Fo f1 ⟨?_,fun c hc=>?_,hM⟩⟩
   . exact f2 _ _ (Int.le_refl _) (by have:=(E6 mk gt hw).2.2.2.2.2.1;show endT t w<=FV;omega)
   . exact f2 (endT t w) (sumI (endT t w) C.ho) (Int.le_refl _) (by omega) c (Vu mk hk c hc)
def pd (t:Int) (w:Want):Want:=⟨w.c,max w.f t,w.t⟩
def xq (t:Int) (l:List Want):List Want:=(l.map (pd t)).filter fun w=>decide (w.f<w.t)
theorem Wq (mk:dv C) {T:Tb} {rb t:Int} (h0:0<=t):∀{M:List Move} {p:Pose} {N t0:Int},max t0 t=N->Uh C T rb p N M->rc C p N M=true->
 ∀w∈m7 (wC C) (kC C) (f3C C) p t0 M,max w.f t<w.t->ml T.length (pd t w)=true/\ri T rb (pd t w)=true:=by
 have one:∀{cells:List Cell} {a b a':Int},max a t=a'->b<=FV->A9 C T rb cells a' b->∀w∈qd (wC C) (kC C) cells a b,max w.f t<w.t->ml T.length (pd t w)=true/\ri T rb (pd t w)=true:=by
  intro cells a b a' ha hb hf w hw hlt;unfold qd at hw;split at hw
  . cases hw
  . obtain ⟨c,hc,rfl⟩:=List.mem_map.1 hw;obtain ⟨f1,f2⟩:=hf c hc;have hlt':max a t<b:=hlt;refine ⟨qq.2 ⟨ym.1 f1,?_,hlt',hb⟩,?_⟩
    . show 0<=max a t;omega
    . show nl (rowT T (numI (wC C) (kC C) c)) rb (max a t) b=true;rw [ha];exact f2
 intro M;induction M with
 |nil=>exact fun {p N t0} hN hf hr w hw=>one hN (Int.le_refl _) hf w hw
 |cons m M ih=>
  intro p N t0 hN hf hr w hw;obtain ⟨f1,f2,f3⟩:=hf;rw [vd,Bool.and_eq_true,Dy]at hr;obtain ⟨⟨g1,g2,g3,g4,g5,g6⟩,hr⟩:=hr;unfold m7 at hw;rcases List.mem_append.1 hw with hw|hw
  . rcases List.mem_append.1 hw with hw|hw
    . exact one hN (by omega) f1 w hw
    . refine one (a':=m.a) (by omega) (by omega) ?_ w hw;rw [Ia mk (I7 mk g5).1.f];exact f2
  . exact ih (by omega) f3 hr w hw
theorem Xa (mk:dv C) {T:Tb} (gt:jf T) {t:Int} {p hm:Pose} {S:List Stp} {M:List Move} (h:vq C T 0 p t S hm = .ok M):(jw T 0 (xq t (m7 (wC C) (kC C) (f3C C) p 0 M))).1=0:=by
 obtain ⟨hS,hg,_⟩:=Mw h;obtain ⟨M1,e1,r1,r2,r3,r4,r5⟩:=D9 mk gt hS hg;obtain ⟨M2,e2,hf⟩:=Uc mk gt hS hg;rw [List.nil_append]at e1 e2;subst e1;subst e2;have key:=Wq mk r3 (t0:=0) (by omega) hf r1;have hall:∀w∈xq t (m7 (wC C) (kC C) (f3C C) p 0 M),ml T.length w=true/\ri T 0 w=true:=fun w hw=>by unfold xq at hw;rw [List.mem_filter]at hw;obtain ⟨hw1,hw2⟩:=hw;obtain ⟨x,hx,rfl⟩:=List.mem_map.1 hw1;exact key x hx (of_decide_eq_true hw2)
 unfold jw;rw [if_neg (by decide),if_pos (List.all_eq_true.2 fun w hw=>(hall w hw).1),if_pos (List.all_eq_true.2 fun w hw=>(hall w hw).2)]
theorem ao5 {w k:Nat} {W:List Cell}:(lm w k W).length<=w*k:=by have:=Ft (D:=fun y=>i9 (fun x=>decide ((((x:Nat):Int),((y:Nat):Int))∈W)) (fun x=>(((x:Nat):Int),((y:Nat):Int))) 0 w) (b:=w) (fun i=>yd) (k:=k) (i:=0);unfold lm;rw [Nat.mul_comm w k];exact this
theorem Np {w k:Nat} {f:Nat->Nat->Int} (hwk:w*k<=36):∀{M:List Move} {p:Pose} {t:Int},(m7 w k f p t M).length<=M.length*38+2
 |[],p,t=>by have:=si (w:=w) (k:=k) (L:=cj p) (a:=t) (b:=FV);have e2:(cj p).length=2:=rfl;unfold m7;omega
 |m::M,p,t=>by
  have h1:=si (w:=w) (k:=k) (L:=cj p) (a:=t) (b:=m.a);have h2:=si (w:=w) (k:=k) (L:=i7 w k f m) (a:=m.a) (b:=m.e);have h3:=Np (w:=w) (k:=k) (f:=f) hwk (M:=M) (p:=m.t) (t:=m.e);have e2:(cj p).length=2:=rfl
  have h4:(i7 w k f m).length<=w*k:=by
   unfold i7;split
   . exact ao5
   . simp
  unfold m7;rw [List.length_append,List.length_append,List.length_cons,Nat.add_mul];omega
end
end Go.Proofs.YtfflipnhffknnaaGreatDoor
end
section
namespace Go.Proofs.YtfflipnhffknnaaGreatDoor.Rv
open Go Go.HL Go.Proofs.Resv
def xz:=jq bC (jq (jq (jq (jq @Bool.and_true @al103) (jq @Fv @Z2)) (jq (jq @an2 @xu) (jq @cf107 @cf164))) (jq (jq (jq @eq106s @ld103) (jq @ld203p @ld3)) (jq (jq @ln103 @ln99) (jq @ne203p @true_and))))
def B4:Cod (Int × Int):=⟨2,fun g=>[.int .i64 g.1,.int .i64 g.2],fun _=>rfl,fun _ v hv=>by simp at hv;rcases hv with rfl|rfl<;>rfl⟩
theorem eopair:gi P_ 110 B4.n 16:=eo110
abbrev Yt (g:Int × Int):Obj := .cells #[g.1,g.2] 110 (0,0)
theorem store39 {G h:Hp} {lb:Nat} {z:Value} {a:Option Addr} {n c:Nat} {K:Unit->Hp->Prop} (hb:h lb=some (.cells #[z] 103 (0,0))):
 wpH P_ G (Instr.storeAt 103 (.pointer (some ⟨lb,0,none⟩)) (.slice a n c)) h K=K () (h.set lb (.cells #[.slice a n c] 103 (0,0))):=by rw [dr sz103 rfl hb (by simp)];rfl
theorem Vr {G a:Hp} {lb mb:Nat} {most:Int} {L:List (Int × Int)} {m:Int × Int} (y:HL.GYb B4 110 103 most lb mb L a) (hm:most<=100000):
 bn P_ G 107 #[m.1,m.2,.pointer (some ⟨lb,0,none⟩),.pointer (some ⟨mb,0,none⟩)] a (fun v a'=>v = .bool (HL.B6 most (L++[m]))/\HL.GY B4 110 103 most lb mb (L++[m]) a'):=by
 obtain ⟨⟨ip,v,o,s⟩,hlen⟩:=y;refine bn.assume fun d=>aD3 (by simp) ?_;unfold S107;have clb:∀j,bf G a ⟨lb,j,none⟩=_:=fun j=>bm (bk (s.at 1 rfl bj));simp only [xz,clb];intro b hb gb;have s2:=s.past (o:=Yt m) hb;have d2:=d.set (o:=Yt m) gb;have hb2:(a.set b (Yt m)) b=some (Yt m):=bj;generalize Hp.set a b _=h2 at s2 d2 hb2 ⊢;refine dw B4 (by decide) un103 eopair (by decide) (by decide) (M:=[m]) s2 d2 o (Sees.row (c:=B4) (L:=[m]) hb2 rfl (Nat.le_refl _)) (by simp;omega) fun v3 a3 h3 o3 s3 d3=>?_;obtain ⟨sa,cap,rfl,hcap⟩:=o3.len (by decide);have hlb3:=s3.at 1 rfl bj;try simp (disch:=first|decide|omega) only [xz,Nat.reduceAdd,Nat.reduceMul]
 rw [store39 hlb3];have s4:=(s3.pick 1 rfl rfl).put (o := .cells #[.slice sa (L++[m]).length cap] 103 (0,0)) bj;rw [set_set]at s4;have clb4:∀j,bf G (h3.set lb (.cells #[.slice sa (L++[m]).length cap] 103 (0,0))) ⟨lb,j,none⟩=_:=fun j=>bm (bk (s4.at 0 rfl bj));have cmb4:∀j,bf G (h3.set lb (.cells #[.slice sa (L++[m]).length cap] 103 (0,0))) ⟨mb,j,none⟩=_:=fun j=>bm (bk (s4.at 2 rfl bj));try simp only [xz,clb4,cmb4]
 refine ⟨?_,a3,_,o3,s4.swap⟩;first|rfl|simp [HL.B6]
theorem al0 {G:Hp} {lb mb:Nat} {most:Int} (hm:most<=100000):HL.Yl P_ gapA G (.func (.func 107) #[] #[.pointer (some ⟨lb,0,none⟩),.pointer (some ⟨mb,0,none⟩)]) (HL.GYb B4 110 103 most lb mb) (HL.GY B4 110 103 most lb mb) (HL.B6 most):=by
 intro L m a q h y s d;simp only [xz];refine (s.on (Vr y hm)).mono ?_;rintro v h' ⟨a',⟨rfl,gy⟩,s',d'⟩;refine ⟨a',rfl,s',d',?_⟩;split
 . rename_i hc;exact ⟨gy,of_decide_eq_true hc⟩
 . exact gy
theorem ng {G h:Hp} {b1 b2 b3 tp:Nat} {T:Tb} {c r most:Int} (h1:h b1=some (.cells #[.pointer (some ⟨tp,0,none⟩)] 34 (0,0))) (h2:h b2=some (.cells #[c] 3 (0,0))) (h3:h b3=some (.cells #[r] 3 (0,0))) (ts:TSee G h tp T)
 (fw:∀L∈T,L.length<=50000) (hm1:1<=most) (hm2:most<=100000):
 bn P_ G 53 #[.func (.func 164) #[] #[.pointer (some ⟨b1,0,none⟩),.pointer (some ⟨b2,0,none⟩),.pointer (some ⟨b3,0,none⟩)],most] h (fun u h'=>∃ip,Slc B4 110 ip u ((if inT T.length c=true then Gq (rowT T c) r else []).take most.toNat)/\HL.Sep [ip,h] h'/\Dis G h'):=by
 refine bn.assume fun d=>enter53 (by simp) ?_;unfold S53;simp only [xz];intro mb hmb gmb lb hlb glb;have s2:=((Sep.one (h:=h)).new (o := .cells #[most] 3 (0,0)) hmb).new (o := .cells #[.slice none 0 0] 103 (0,0)) hlb;have d2:=(d.set (o := .cells #[most] 3 (0,0)) gmb).set (o := .cells #[.slice none 0 0] 103 (0,0)) glb;generalize Hp.set (Hp.set h mb _) lb _=k2 at s2 d2 ⊢;have cmb:∀j,bf G k2 ⟨mb,j,none⟩=_:=fun j=>bm (bk (s2.at 1 rfl bj));have e1:decide (most<1)=false:=decide_eq_false (by omega);try simp only [xz,cmb,e1]
 unfold aJ5;try simp (disch:=decide) only [xz]
 obtain ⟨a,s3,sa⟩:=uc s2.none;have ya:HL.GYb B4 110 103 most lb mb [] a:=⟨⟨noHp,_,Slc.nil,sa⟩,by simp;omega⟩;refine (Wu (r:=r) (al0 hm2) ya s3 h1 h2 h3 ts fw).mono ?_;rintro _ h4 ⟨a4,s4,d4,z4⟩;rw [HL.Bo (by simp;omega)]at z4;generalize (if inT T.length c=true then Gq (rowT T c) r else [])=GL at*
 have gy:HL.GY B4 110 103 most lb mb (GL.take most.toNat) a4:=by
  unfold HL.Fin at z4;simp only [List.nil_append,List.length_nil,Nat.sub_zero]at z4;split at z4
  . exact z4.1
  . exact z4
 obtain ⟨ip,v,o,t4⟩:=gy;have s5:HL.Sep [h,ip,noHp.set lb (.cells #[v] 103 (0,0)),noHp.set mb (.cells #[most] 3 (0,0))] h4:=by have:=s4.swap.split t4;simpa using this
 have clb:∀j,bf G h4 ⟨lb,j,none⟩=_:=fun j=>bm (bk (s5.at 2 rfl bj));try simp only [xz,clb]
 exact ⟨ip,o,(s5.take 2 rfl).swap,d4⟩
def Bd (x:Int):Prop := -9223372036854775808<=x/\x<=9223372036854775807
theorem I2 {G h:Hp} {a n:Int} (ha:Bd a) (hn:0<n) (hn2:n<=1000000):bn P_ G 25 #[a,n] h (fun v h'=>v = .int .i64 (a % n)/\h'=h):=by
 refine quietly (Zw (by simp) ?_);obtain ⟨ha1,ha2⟩:=ha;unfold S25
 have e1:a.tmod n=if 0<=a\/a % n=0 then a % n else a % n-n:=by
  rw [Int.tmod_eq_emod];have:(n.natAbs:Int)=n:=by omega
  by_cases h0:0<=a
  . simp [h0]
  . simp [h0,this,Int.dvd_iff_emod_eq_zero];split<;>omega
 have hb:=Int.emod_nonneg a (show n≠0 by omega);have hb2:=Int.emod_lt_of_pos a hn;simp (disch:=first|decide|omega) only [xz];by_cases hc:0<=a\/a % n=0
 . rw [if_pos hc]at e1;rw [e1,lj (show ¬a % n<0 by omega)];simp only [xz];unfold F5;simp (disch:=decide) only [xz];exact Hp.le.refl h
 . rw [if_neg hc]at e1;have:a % n≠0:=fun e=>hc (.inr e);rw [e1,li (show a % n-n<0 by omega)];simp only [xz];unfold F5;simp only [xz];exact ⟨by congr 1;omega,Hp.le.refl h⟩
end Go.Proofs.YtfflipnhffknnaaGreatDoor.Rv
end
section
namespace Go.Proofs.YtfflipnhffknnaaGreatDoor
open Go Go.HL
section
variable (G:Hp) (K:EK) (r:Rg) (h:Hp)
def md91:Nat->Hint
 |_=>mh false [] [] [] false
def aG6:Prop:=
 o_ G (Instr.makeSlice 98 (r 0) (r 0)) h fun g h=>o_ G (Instr.build 188 #[(0,g)]) h fun j h=>o_ G (Instr.box 188 j) h fun s h=>
 K .ret (u5 r 9 (r 0) 10 g 11 j 12 s 2 s) h
def S91:Prop:=
 o_ G (z2_ (r 0) (1:Int)) h fun g h=>g_ g false (fun K1=>K1 (r 0) h) h fun j h=>g_ g false (o_ G (z6_ j (256:Int)) h) h fun s h=>
 opH P_ G (dc g (.bool true) s) h fun u h=>
 (fun q=>cond u
 (K .ret (upd q 2 (.pointer none)) h)
 (aG6 G K q h))
 (u7 r 2 (.pointer none) 3 (r 0) 4 g 5 g 6 j 7 s 8 u)
theorem enter91:Ent 13 91 [.tmp 2] S91:=ent_ (m:=md91) (c:=(Tryz.f91.body.getD .skip)) (fun _ _ _ _=>by kernel_rfl) Tryz.func91 rfl rfl rfl
def md92:Nat->Hint
 |6=>⟨false,[0,0,0,6,14,30,63,127,255,511,511,2047,4095,8191,16383,32767,65535,131071,131071,524287,1048575,2097151,131071,131071,12713983,29491199,63045631,134217727,268435455,536870911,1073741823,1073741823,4294967295,8589934591,17179869183,34359738367,68719476735],[.pureN,.pureN,.pureN,.pureN,.pureN,.pureM,.eff,.pureN,.pureN,.pureN,.pureN,.pureN,.pureN,.pureM,.pureN,.pureN,.pureN,.pureN,.pureN,.pureN,.pureN,.pureM,.pureN,.pureN,.pureN,.pureN,.pureM,.pureN,.pureN,.pureN,.pureN,.pureN,.pureN,.pureN,.pureM,.pureN,.pureN],[.pureN,.pureN,.pureN,.pureN,.pureN,.pureM,.eff,.pureN,.pureN,.pureN,.pureN,.pureN,.pureN,.late,.pureN,.pureN,.pureN,.pureN,.pureN,.pureN,.pureN,.late,.pureN,.pureN,.pureN,.pureN,.late,.pureN,.pureN,.pureN,.pureN,.pureN,.pureN,.pureN,.late,.pureN,.pureN],(fs 37),false⟩
 |11=>mh false [0,0,0,0,12,28,60,0,0,384,896,1920,0,0,12288,28672,61440,131071] [n_,n_,n_,n_,n_,n_,m_,n_,n_,n_,n_,m_,n_,n_,n_,n_,m_,e_] (fs 18) false
 |16=>mh false [0,0,0,0,12,28,60,0,0,384,896,1920,0,0,12288,28672,61440,131071] [n_,n_,n_,n_,n_,n_,m_,n_,n_,n_,n_,m_,n_,n_,n_,n_,m_,e_] (fs 18) false
 |_=>mh false [] [] [] false
def aG2 (G:Hp) (K:EK) (r:Rg) (h:Hp):Prop:=
 K .ret (upd r 6 (.int .i64 0)) h
def Oc:Prop:=
 o_ G (z1_ (r 9) (1:Int)) h fun g h=>
 K .normal (u3 r 83 (r 9) 84 g 9 g) h
def Od:Prop:=
 p_ (i_ 114 (r 2) (r 9)) h fun g h'=>
 p_ (f_ 186 g 0) h' fun j h'=>
 w_ G h (l_ 3 j) h' fun s h'=>
 p_ (i_ 114 (r 2) (r 9)) h' fun u h'=>
 p_ (f_ 186 u 1) h' fun w h'=>
 w_ G h (l_ 3 w) h' fun z h'=>
 p_ (i_ 114 (r 2) (r 9)) h' fun C h'=>
 p_ (f_ 186 C 2) h' fun D h'=>
 w_ G h (l_ 3 D) h' fun E h=>
 c_ G 139 #[(r 0),(r 1),s,z,E] h fun F h=>
 Oc G K (u8 (u10 r 85 (r 0) 86 (r 1) 87 (r 2) 88 (r 9) 89 g 90 j 91 s 92 (r 2) 93 (r 9) 94 u) 95 w 96 z 97 (r 2) 98 (r 9) 99 C 100 D 101 E 102 F) h
def aG1 (r:Rg) (h:Hp) (K:EK):Prop:=
 o_ G (k_ 114 (r 2)) h fun g h=>o_ G (z2_ (r 9) g) h fun j h=>
 cond j
 (Od G K (u4 r 79 (r 9) 80 (r 2) 81 g 82 j) h)
 (K (.exit 4) (u4 r 79 (r 9) 80 (r 2) 81 g 82 j) h)
def aG3:Prop:=
 dt (aG1 G) (upd r 9 (.int .i64 0)) h (df 4 (dj (aG2 G K) K))
def Kc:Prop:=
 o_ G (z1_ (r 8) (1:Int)) h fun g h=>
 K .normal (u3 r 59 (r 8) 60 g 8 g) h
def Ob:Prop:=
 p_ (i_ 114 (r 2) (r 8)) h fun g h'=>
 p_ (f_ 186 g 0) h' fun j h'=>
 w_ G h (l_ 3 j) h' fun s h'=>
 p_ (i_ 114 (r 2) (r 8)) h' fun u h'=>
 p_ (f_ 186 u 1) h' fun w h'=>
 w_ G h (l_ 3 w) h' fun z h'=>
 p_ (i_ 114 (r 2) (r 8)) h' fun C h'=>
 p_ (f_ 186 C 2) h' fun D h'=>
 w_ G h (l_ 3 D) h' fun E h=>
 c_ G 138 #[(r 0),(r 1),s,z,E] h fun F h=>
 (fun q=>cond F
 (K .ret (upd q 6 (.int .i64 18)) h)
 (Kc G K q h))
 (u8 (u10 r 61 (r 0) 62 (r 1) 63 (r 2) 64 (r 8) 65 g 66 j 67 s 68 (r 2) 69 (r 8) 70 u) 71 w 72 z 73 (r 2) 74 (r 8) 75 C 76 D 77 E 78 F)
def aG0 (r:Rg) (h:Hp) (K:EK):Prop:=
 o_ G (k_ 114 (r 2)) h fun g h=>o_ G (z2_ (r 8) g) h fun j h=>
 cond j
 (Ob G K (u4 r 55 (r 8) 56 (r 2) 57 g 58 j) h)
 (K (.exit 2) (u4 r 55 (r 8) 56 (r 2) 57 g 58 j) h)
def aG4:Prop:=
 dt (aG0 G) (upd r 8 (.int .i64 0)) h (df 2 (dj (aG3 G K) K))
def Av:Prop:=
 o_ G (z1_ (r 7) (1:Int)) h fun g h=>
 K .normal (u3 r 16 (r 7) 17 g 7 g) h
def G2:Prop:=
 p_ (i_ 114 (r 2) (r 7)) h fun g h'=>
 p_ (f_ 186 g 0) h' fun j h'=>
 w_ G h (l_ 3 j) h' fun s h=>
 c_ G 137 #[(r 0),s] h fun u h=>
 p_ (Op.unary .not u) h fun w h=>g_ w false (fun K1=>K1 (r 2) h) h fun z h=>g_ w false (fun K1=>K1 (r 7) h) h fun C h=>g_ w false (p_ (i_ 114 z C) h) h fun D h=>g_ w false (p_ (f_ 186 D 1) h) h fun E h=>g_ w false (w_ G h (l_ 3 E) h) h fun F h=>g_ w false (p_ (z2_ F (0:Int)) h) h fun I h=>
 dg P_ noHp noHp (dc w (.bool true) I) h fun J h=>g_ J false (fun K1=>K1 (r 2) h) h fun L h=>g_ J false (fun K1=>K1 (r 7) h) h fun M h=>g_ J false (p_ (i_ 114 L M) h) h fun N h=>g_ J false (p_ (f_ 186 N 1) h) h fun O h=>g_ J false (w_ G h (l_ 3 O) h) h fun P h=>g_ J false (fun K1=>K1 (r 2) h) h fun Q h=>g_ J false (fun K1=>K1 (r 7) h) h fun U h=>g_ J false (p_ (i_ 114 Q U) h) h fun V h=>g_ J false (p_ (f_ 186 V 2) h) h fun W h=>g_ J false (w_ G h (l_ 3 W) h) h fun Y h=>g_ J false (p_ (z5_ P Y) h) h fun Z h=>
 dg P_ noHp noHp (dc J (.bool true) Z) h fun aa h=>g_ aa false (fun K1=>K1 (r 2) h) h fun ab h=>g_ aa false (fun K1=>K1 (r 7) h) h fun ac h=>g_ aa false (p_ (i_ 114 ab ac) h) h fun ae h=>g_ aa false (p_ (f_ 186 ae 2) h) h fun af h=>g_ aa false (w_ G h (l_ 3 af) h) h fun ag h=>g_ aa false (p_ (z6_ ag (4611686018427387904:Int)) h) h fun ah h=>
 dg P_ noHp noHp (dc aa (.bool true) ah) h fun ai h=>
 (fun q=>cond ai
 (K .ret (upd q 6 (.int .i64 1)) h)
 (Av G K q h))
 (u7 (u10 (u10 (u10 r 18 (r 0) 19 (r 2) 20 (r 7) 21 g 22 j 23 s 24 u 25 w 26 w 27 z) 28 C 29 D 30 E 31 F 32 I 33 J 34 J 35 L 36 M 37 N) 38 O 39 P 40 Q 41 U 42 V 43 W 44 Y 45 Z 46 aa 47 aa) 48 ab 49 ac 50 ae 51 af 52 ag 53 ah 54 ai)
def Z4 (r:Rg) (h:Hp) (K:EK):Prop:=
 o_ G (k_ 114 (r 2)) h fun g h=>o_ G (z2_ (r 7) g) h fun j h=>
 cond j
 (G2 G K (u4 r 12 (r 7) 13 (r 2) 14 g 15 j) h)
 (K (.exit 0) (u4 r 12 (r 7) 13 (r 2) 14 g 15 j) h)
def aG5:Prop:=
 dt (Z4 G) (upd r 7 (.int .i64 0)) h (df 0 (dj (aG4 G K) K))
def S92:Prop:=
 o_ G (z2_ (r 1) (0:Int)) h fun g h=>
 cond g
 (K .ret (u4 r 6 (.int .i64 0) 10 (r 1) 11 g 6 (.int .i64 1)) h)
 (aG5 G K (u3 r 6 (.int .i64 0) 10 (r 1) 11 g) h)
theorem enter92:Ent 103 92 [.tmp 6] S92:=ent_ (m:=md92) (c:=(Tryz.f92.body.getD .skip)) (fun _ _ _ _=>by kernel_rfl) Tryz.func92 rfl rfl rfl
def md137:Nat->Hint
 |_=>mh false [] [] [] false
def S137:Prop:=
 o_ G (z5_ (r 1) (0:Int)) h fun g h=>g_ g true (fun K1=>K1 (r 1) h) h fun j h=>g_ g true (fun K1=>K1 (r 0) h) h fun s h=>g_ g true (opH P_ G (xNil s) h) h fun u h=>g_ g true (o_ G (f_ 188 u 0) h) h fun w h=>g_ g true (o_ G (l_ 98 w) h) h fun z h=>g_ g true (o_ G (k_ 98 z) h) h fun C h=>g_ g true (o_ G (z2_ j C) h) h fun D h=>
 opH P_ G (dc g D (.bool false)) h fun E h=>
 K .ret (u3 (u10 r 4 (.bool false) 5 (r 1) 6 g 7 g 8 j 9 s 10 u 11 w 12 z 13 C) 14 D 15 E 4 E) h
theorem aB0:Ent 16 137 [.tmp 4] S137:=ent_ (m:=md137) (c:=(Tryz.f137.body.getD .skip)) (fun _ _ _ _=>by kernel_rfl) Tryz.func137 rfl rfl rfl
def md138:Nat->Hint
 |_=>mh false [] [] [] false
def ab9 (G:Hp) (K:EK) (r:Rg) (h:Hp):Prop:=
 K .ret (upd r 10 (.bool false)) h
def Da:Prop:=
 o_ G (z1_ (r 12) (1:Int)) h fun g h=>
 K .normal (u3 r 24 (r 12) 25 g 12 g) h
def Kz:Prop:=
 o_ G (i_ 99 (r 11) (r 12)) h fun g h=>o_ G (f_ 203 g 2) h fun j h=>o_ G (l_ 3 j) h fun s h=>
 opH P_ G (xEq .neq 3 (.tmp 0) (.tmp 0) s (r 1)) h fun u h=>g_ u true (fun K1=>K1 (r 11) h) h fun w h=>g_ u true (fun K1=>K1 (r 12) h) h fun z h=>g_ u true (o_ G (i_ 99 w z) h) h fun C h=>g_ u true (o_ G (f_ 203 C 0) h) h fun D h=>g_ u true (o_ G (l_ 3 D) h) h fun E h=>g_ u true (fun K1=>K1 (r 4) h) h fun F h=>g_ u true (o_ G (z2_ E F) h) h fun I h=>
 opH P_ G (dc u I (.bool false)) h fun J h=>g_ J true (fun K1=>K1 (r 3) h) h fun L h=>g_ J true (fun K1=>K1 (r 11) h) h fun M h=>g_ J true (fun K1=>K1 (r 12) h) h fun N h=>g_ J true (o_ G (i_ 99 M N) h) h fun O h=>g_ J true (o_ G (f_ 203 O 1) h) h fun P h=>g_ J true (o_ G (l_ 3 P) h) h fun Q h=>g_ J true (o_ G (z2_ L Q) h) h fun U h=>
 opH P_ G (dc J U (.bool false)) h fun V h=>
 (fun q=>cond V
 (K .ret (upd q 10 (.bool true)) h)
 (Da G K q h))
 (u5 (u10 (u10 r 26 (r 11) 27 (r 12) 28 g 29 j 30 s 31 (r 1) 32 u 33 u 34 w 35 z) 36 C 37 D 38 E 39 F 40 I 41 J 42 J 43 L 44 M 45 N) 46 O 47 P 48 Q 49 U 50 V)
def ab8 (r:Rg) (h:Hp) (K:EK):Prop:=
 o_ G (k_ 99 (r 11)) h fun g h=>o_ G (z2_ (r 12) g) h fun j h=>
 cond j
 (Kz G K (u4 r 20 (r 12) 21 (r 11) 22 g 23 j) h)
 (K (.exit 0) (u4 r 20 (r 12) 21 (r 11) 22 g 23 j) h)
def S138:Prop:=
 opH P_ G (xNil (r 0)) h fun g h=>o_ G (f_ 188 g 0) h fun j h=>o_ G (l_ 98 j) h fun s h=>o_ G (i_ 98 s (r 2)) h fun u h=>o_ G (l_ 99 u) h fun w h=>
 dt (ab8 G) (u10 r 10 (.bool false) 13 (r 0) 14 g 15 j 16 s 17 (r 2) 18 u 19 w 11 w 12 (.int .i64 0)) h (df 0 (dj (ab9 G K) K))
theorem aA9:Ent 51 138 [.tmp 10] S138:=ent_ (m:=md138) (c:=(Tryz.f138.body.getD .skip)) (fun _ _ _ _=>by kernel_rfl) Tryz.func138 rfl rfl rfl
def md139:Nat->Hint
 |11=>mh false [0,0,2,7,15,31,31,127,255,511,31,1055,4095,8191] [n_,n_,m_,n_,n_,n_,n_,n_,n_,m_,n_,m_,n_,n_] (fs 14) false
 |_=>mh false [] [] [] false
def R7:Prop:=
 o_ G (Instr.sliceAt 99 (r 11) none (some (r 14)) none) h fun g h=>o_ G (Builtin.append_ #[99,99] 99 #[(.slice none 0 0),g]) h fun j h=>o_ G (l_ 203 (r 10)) h fun s h=>o_ G (Instr.buildSlice 99 1 #[(0,s)]) h fun u h=>o_ G (Builtin.append_ #[99,99] 99 #[j,u]) h fun w h=>o_ G (Instr.sliceAt 99 (r 11) (some (r 14)) none none) h fun z h=>o_ G (Builtin.append_ #[99,99] 99 #[w,z]) h fun C h=>
 opH P_ G (xNil (r 0)) h fun D h=>o_ G (f_ 188 D 0) h fun E h=>o_ G (l_ 98 E) h fun F h=>o_ G (i_ 98 F (r 2)) h fun I h=>
 opH P_ G (su (Instr.storeAt 99 I C)) h fun J h=>
 K .normal (u5 (u10 (u10 r 15 (.slice none 0 0) 92 (.slice none 0 0) 93 (r 11) 94 (r 14) 95 g 96 j 15 j 97 j 98 s 99 u) 100 w 15 w 101 w 102 (r 11) 103 (r 14) 104 z 105 C 15 C 106 (r 0) 107 D) 108 E 109 F 110 (r 2) 111 C 112 I) h
def Ky:Prop:=
 o_ G (z1_ (r 14) (1:Int)) h fun g h=>
 K .normal (u3 r 90 (r 14) 91 g 14 g) h
def ab6 (r:Rg) (h:Hp) (K:EK):Prop:=
 w_ G h (k_ 99 (r 11)) h fun g h'=>
 p_ (z2_ (r 14) g) h' fun j h'=>g_ j true (fun K1=>K1 (r 11) h') h' fun s h'=>g_ j true (fun K1=>K1 (r 14) h') h' fun u h'=>g_ j true (p_ (i_ 99 s u) h') h' fun w h'=>g_ j true (p_ (f_ 203 w 0) h') h' fun z h'=>g_ j true (w_ G h (l_ 3 z) h') h' fun C h'=>g_ j true (p_ (f_ 203 (r 10) 0) h') h' fun D h'=>g_ j true (w_ G h (l_ 3 D) h') h' fun E h=>g_ j true (p_ (z2_ C E) h) h fun F h=>
 dg P_ noHp noHp (dc j F (.bool false)) h fun I h=>
 (fun q=>cond I
 (Ky G K q h)
 (K (.exit 2) q h))
 (u4 (u10 r 76 (r 14) 77 (r 11) 78 g 79 j 80 j 81 s 82 u 83 w 84 z 85 C) 86 D 87 E 88 F 89 I)
def ab7:Prop:=
 dt (ab6 G) (upd r 14 (.int .i64 0)) h (df 2 (dj (R7 G K) K))
def yr:Prop:=
 o_ G (z1_ (r 12) (1:Int)) h fun g h=>
 K .normal (u3 r 30 (r 12) 31 g 12 g) h
def C9:Prop:=
 o_ G (l_ 203 (r 13)) h fun g h=>o_ G (Instr.buildSlice 99 1 #[(0,g)]) h fun j h=>o_ G (Builtin.append_ #[99,99] 99 #[(r 11),j]) h fun s h=>
 yr G K (u5 r 72 (r 11) 73 g 74 j 75 s 11 s) h
def Kx:Prop:=
 opH P_ G (xNil (r 0)) h fun g h=>o_ G (f_ 188 g 0) h fun j h=>o_ G (l_ 98 j) h fun s h=>o_ G (i_ 98 s (r 2)) h fun u h=>o_ G (l_ 99 u) h fun w h=>o_ G (i_ 99 w (r 12)) h fun z h=>o_ G (l_ 203 z) h fun C h=>o_ G (Instr.alloc 203 true (.tuple #[])) h fun D h=>
 opH P_ G (su (Instr.storeAt 203 D C)) h fun E h=>o_ G (f_ 203 D 2) h fun E h=>o_ G (l_ 3 E) h fun F h=>
 opH P_ G (xEq .eql 3 (.tmp 0) (.tmp 0) F (r 1)) h fun I h=>g_ I true (o_ G (f_ 203 D 0) h) h fun J h=>g_ I true (o_ G (l_ 3 J) h) h fun L h=>g_ I true (o_ G (f_ 203 (r 10) 1) h) h fun M h=>g_ I true (o_ G (l_ 3 M) h) h fun N h=>g_ I true (o_ G (z7_ L N) h) h fun O h=>
 opH P_ G (dc I O (.bool false)) h fun P h=>g_ P true (o_ G (f_ 203 (r 10) 0) h) h fun Q h=>g_ P true (o_ G (l_ 3 Q) h) h fun U h=>g_ P true (o_ G (f_ 203 D 1) h) h fun V h=>g_ P true (o_ G (l_ 3 V) h) h fun W h=>g_ P true (o_ G (z7_ U W) h) h fun Y h=>
 opH P_ G (dc P Y (.bool false)) h fun Z h=>
 cond Z
 (o_ G (f_ 203 (r 10) 0) h fun aa h'=>o_ G (l_ 3 aa) h' fun ab h'=>o_ G (f_ 203 D 0) h' fun ac h'=>o_ G (l_ 3 ac) h' fun ae h'=>o_ G (Builtin.min_ #[3,3] 3 #[ab,ae]) h' fun af h'=>o_ G (f_ 203 (r 10) 0) h' fun ag h'=>
 opH P_ G (su (Instr.storeAt 3 ag af)) h' fun ah h'=>o_ G (f_ 203 (r 10) 1) h' fun ah h'=>o_ G (l_ 3 ah) h' fun ai h'=>o_ G (f_ 203 D 1) h' fun aj h'=>o_ G (l_ 3 aj) h' fun ak h'=>o_ G (Builtin.max_ #[3,3] 3 #[ai,ak]) h' fun al h'=>o_ G (f_ 203 (r 10) 1) h' fun am h'=>
 opH P_ G (su (Instr.storeAt 3 am al)) h' fun an h'=>
 yr G K (upd (u10 (u10 (u10 (u10 r 32 (r 0) 33 g 34 j 35 s 36 (r 2) 37 u 38 w 39 (r 12) 40 z 41 C) 13 D 42 E 43 F 44 (r 1) 45 I 46 I 47 J 48 L 49 M 50 N) 51 O 52 P 53 P 54 Q 55 U 56 V 57 W 58 Y 59 Z 60 aa) 61 ab 62 ac 63 ae 64 af 65 ag 66 ah 67 ai 68 aj 69 ak 70 al) 71 am) h')
 (C9 G K (u9 (u10 (u10 r 32 (r 0) 33 g 34 j 35 s 36 (r 2) 37 u 38 w 39 (r 12) 40 z 41 C) 13 D 42 E 43 F 44 (r 1) 45 I 46 I 47 J 48 L 49 M 50 N) 51 O 52 P 53 P 54 Q 55 U 56 V 57 W 58 Y 59 Z) h)
def ab5 (r:Rg) (h:Hp) (K:EK):Prop:=
 opH P_ G (xNil (r 0)) h fun g h=>o_ G (f_ 188 g 0) h fun j h=>o_ G (l_ 98 j) h fun s h=>o_ G (i_ 98 s (r 2)) h fun u h=>o_ G (l_ 99 u) h fun w h=>o_ G (k_ 99 w) h fun z h=>o_ G (z2_ (r 12) z) h fun C h=>
 (fun q=>cond C
 (Kx G K q h)
 (K (.exit 0) q h))
 (u10 r 20 (r 12) 21 (r 0) 22 g 23 j 24 s 25 (r 2) 26 u 27 w 28 z 29 C)
def S139:Prop:=
 o_ G (Instr.build 203 #[(0,(r 3)),(1,(r 4)),(2,(r 1))]) h fun g h=>o_ G (Instr.alloc 203 true (.tuple #[])) h fun j h=>
 opH P_ G (su (Instr.storeAt 203 j g)) h fun s h=>
 dt (ab5 G) (u7 r 16 (r 3) 17 (r 4) 18 (r 1) 19 g 10 j 11 (.slice none 0 0) 12 (.int .i64 0)) h (df 0 (dj (ab7 G K) K))
theorem aA8:Ent 113 139 [] S139:=ent_ (m:=md139) (c:=(Tryz.f139.body.getD .skip)) (fun _ _ _ _=>by kernel_rfl) Tryz.func139 rfl rfl rfl
end
end Go.Proofs.YtfflipnhffknnaaGreatDoor
end
section
namespace Go.Proofs.YtfflipnhffknnaaGreatDoor.Rv
open Go Go.HL Go.Proofs.Resv
def gj:=jq bC (jq (jq (jq (jq @Bool.true_and @and_true) (jq @bd188_0 @tr)) (jq (jq @lr @cf128) (jq @cf137 (jq @Zj @Br)))) (jq (jq (jq @Bq @Bp) (jq @ld3 @ld98)) (jq (jq @ld99 @ln98) (jq @ln99 (jq @kz @true_and)))))
theorem Vs {G h:Hp} {tp:Nat} {T:Tb} {c:Int} (ts:TSee G h tp T):bn P_ G 137 #[.pointer (some ⟨tp,0,none⟩),c] h (fun u h'=>u = .bool (inT T.length c)/\h'=h):=by
 obtain ⟨rb,e1,_⟩:=ts;refine aB0 (by simp) ?_;unfold S137 inT;try simp only [gj]
 by_cases h0:0<=c
 . try simp only [gj,decide_eq_true h0,show decide (c>=0)=true from decide_eq_true h0,e1]
 . try simp only [gj,decide_eq_false h0,show decide (c>=0)=false from decide_eq_false h0,gk,Bool.false_and]
theorem ai0 {G h:Hp} {n:Nat} (h1:1<=n) (h2:n<=256):bn P_ G 91 #[n] h (fun u h'=>∃a tp,u = .pointer (some ⟨tp,0,none⟩)/\Tab 188 a tp (List.replicate n [])/\HL.Sep [a,h] h'/\Dis G h'):=by
 refine bn.assume fun d=>enter91 (by simp) ?_;unfold S91;simp only [gj,decide_eq_false (show ¬(n:Int)<1 by omega),show decide ((n:Int)>256)=false from decide_eq_false (by omega)];unfold aG6;simp (disch:=decide) only [gj];rw [vf svC (none,0,0) (by decide) un98 eosv (by kernel_rfl) (by omega) (by omega)];intro rb hrb grb;simp only [gj];intro tp htp gtp;have s1:=(Sep.one (h:=h)).new (o := .cells (svC.rows (List.replicate n (none,0,0))).toArray 99 (0,0)) hrb;have d1:=d.set (o := .cells (svC.rows (List.replicate n (none,0,0))).toArray 99 (0,0)) grb;have s2:=s1.new (o := .cells #[.slice (some ⟨rb,0,none⟩) n n] 188 (0,0)) htp;have s3:=(s2.none.pick 2 rfl rfl).pick 2 rfl rfl;obtain ⟨a,s4,t4⟩:=uc s3;refine ⟨a,tp,rfl,⟨rb,List.replicate n (none,0,0),noHp,?_,by simp,fun i s L h1 h2=>?_⟩,s4,d1.set gtp⟩
 . rw [List.length_replicate];exact t4
 . rw [List.getElem?_replicate]at h1 h2;split at h1
   . rename_i hi;rw [if_pos hi]at h2;cases h1;cases h2;exact ⟨rfl,Slc.nil⟩
   . cases h1
theorem as2 {G h:Hp} {tp:Nat} {T:Tb} {L:List Slot} {c r f t:Int} (ts:TSee G h tp T) (h0:0<=c) (hL:T[c.toNat]?=some L) (hlen:L.length<=100000):
 bn P_ G 138 #[.pointer (some ⟨tp,0,none⟩),r,c,f,t] h (fun u h'=>u = .bool (!nl L r f t)/\h'=h):=by
 have h1:c<T.length:=by have:=(List.getElem?_eq_some_iff.1 hL).1;omega
 obtain ⟨rb,e1,e2⟩:=ts;obtain ⟨a,cap,e3,e4⟩:=e2 _ _ hL;refine aA9 (by simp) ?_;unfold S138;simp only [gj,e1,ix98 h0 h1,Nat.mul_one,e3]
 refine dp (fun m q h3=>∃i:Nat,m=L.length-i/\i<=L.length/\q 1 = .int .i64 r/\q 3 = .int .i64 f/\q 4 = .int .i64 t/\q 11 = .slice a L.length cap/\q 12 = .int .i64 i/\h3=h/\nl (L.take i) r f t=true) ?_
  (m:=L.length) ⟨0,rfl,Nat.zero_le _,by simp (disch:=decide) only [gj],by simp (disch:=decide) only [gj],by simp (disch:=decide) only [gj],by simp (disch:=decide) only [gj],by simp only [gj]<;>rfl,rfl,rfl⟩
 rintro m q h ⟨i,rfl,hi,q1,q3,q4,q19,q21,rfl,hf⟩ X HX;unfold ab8;simp only [gj,q19,q21];refine ci (fun hlt=>?_) (fun hge=>?_);rotate_left
 . obtain rfl:i=L.length:=by omega
   rw [List.take_of_length_le (Nat.le_refl _)]at hf;try simp (disch:=first|decide|omega) only [gj,Nat.reduceAdd,Nat.reduceMul]
   unfold ab9;try simp only [gj]
   rw [hf];rfl
 obtain ⟨s,hs⟩:∃s,L[i]?=some s:=⟨_,List.getElem?_eq_getElem (by omega)⟩;obtain ⟨b,o,rfl,z0,z1,z2⟩:=Sees.slot e4 hs;unfold Kz;simp (disch:=decide) only [gj,q19,q21,ix99 (Int.natCast_nonneg i) hlt,z0,z1,z2,q1];have k4:∀(K0:Exit->Rg->Hp->Prop) (q':Rg),q' 1 = .int .i64 r->q' 3 = .int .i64 f->q' 4 = .int .i64 t->q' 11=q 11->q' 12=q 12->(s.r==r || !(decide (s.f<t)&&decide (f<s.t)))=true->Da G (dj X K0) q' h:=by intro K0 q' p1 p3 p4 p19 p21 hc;unfold Da;simp (disch:=first|decide|omega) only [gj,p21,q21];exact HX (L.length-(i+1)) _ _ (by omega) ⟨i+1,rfl,by omega,by simp (disch:=decide) only [gj,p1],by simp (disch:=decide) only [gj,p3],by simp (disch:=decide) only [gj,p4],by simp (disch:=decide) only [gj,p19,q19],by simp only [gj]<;>rfl,rfl,by rw [Nu hs,hf,hc];rfl⟩
 cases hb:(s.r != r)with
 |false=>
  try simp only [gj,gk,hb]
  exact k4 _ _ (by simp (disch:=decide) only [gj,q1]) (by simp (disch:=decide) only [gj,q3]) (by simp (disch:=decide) only [gj,q4]) (by simp (disch:=decide) only [gj]) (by simp (disch:=decide) only [gj]) (by simp at hb;simp [hb])
 |true=>
  try simp only [gj,q4,q19,q21,ix99 (Int.natCast_nonneg i) hlt,z0,z1,z2]
  by_cases hb2:s.f<t
  . try simp only [gj,decide_eq_true hb2,q3,q19,q21,ix99 (Int.natCast_nonneg i) hlt,z0,z1,z2]
    refine ci (fun hb3=>?_) (fun hb3=>?_)
    . try simp (disch:=first|decide|omega) only [gj,Nat.reduceAdd,Nat.reduceMul]
      have:(s.r==r || !(decide (s.f<t)&&decide (f<s.t)))=false:=by simp at hb;simp [hb,hb2,hb3]
      rw [Ug hs this];rfl
    . exact k4 _ _ (by simp (disch:=decide) only [gj,q1]) (by simp (disch:=decide) only [gj,q3]) (by simp (disch:=decide) only [gj,q4]) (by simp (disch:=decide) only [gj]) (by simp (disch:=decide) only [gj]) (by simp [hb3])
  . try simp only [gj,decide_eq_false hb2,gk]
    exact k4 _ _ (by simp (disch:=decide) only [gj,q1]) (by simp (disch:=decide) only [gj,q3]) (by simp (disch:=decide) only [gj,q4]) (by simp (disch:=decide) only [gj]) (by simp (disch:=decide) only [gj]) (by simp [hb2])
def fm:=jq bC (jq (jq (jq (jq @Vq @Vl) (jq @rz (jq @Vg @Zj))) (jq (jq @Br (jq @Ut @Bq)) (jq @Bp (jq @ix99p @Ty)))) (jq (jq (jq @ld3 @ld3p) (jq @ld98 (jq @ld99 @ln99))) (jq (jq @ln99p (jq @kz @mo)) (jq @jt (jq @Ii @true_and)))))
theorem Yq {L:List Slot} {v:Int} {k:Nat} (h:∀s∈L.take k,s.f<v) (hk:k<=L.length) (h2:∀s,L[k]?=some s->¬s.f<v):rank L v=k:=by
 unfold rank;have e:=List.take_append_drop k L;conv=>lhs;rw [<- e]
 rw [List.takeWhile_append_of_pos (fun s hs=>by simpa using h s hs),List.length_append,List.length_take,Nat.min_eq_left hk];cases hd:L.drop k with
 |nil=>simp
 |cons s M=>
  have hs:L[k]?=some s:=by have:=congrArg (fun l=>l[0]?) hd;simpa [List.getElem?_drop]using this
  rw [List.takeWhile_cons,if_neg (by simpa using h2 s hs)];simp
theorem ap3 {G a h:Hp} {v:Value} {L:List Slot} (o:Slc dh 203 a v L) (l:a.le h) {k:Nat} (hk:k<=L.length) {K:VK} (H:∀v',Sees dh G h v' (L.drop k)->K v' h):wpH P_ G (Instr.sliceAt 99 v (some (.int .i64 k)) none none) h K:=by
 by_cases hL:L=[]
 . subst hL;obtain rfl:k=0:=by simpa using hk
   obtain ⟨ob,o'⟩:=id o;cases ob with
   |none=>obtain ⟨rfl,_⟩:=o';rw [show ((0:Nat):Int)=0 from rfl,Ga un99 rn];exact H _ ⟨none,0,rfl,Nat.le_refl _,.inl rfl⟩
   |some b=>obtain ⟨cap,t,rfl,hb,hl⟩:=o';rw [show ([]:List Slot).length=0 from rfl,o0 un99 rn (Int.natCast_nonneg _) (Int.natCast_nonneg _) (Nat.zero_le _)];exact H _ ⟨_,_,rfl,Nat.zero_le _,.inl rfl⟩
 . exact ag9 (c:=dh) (j:=(k:Int)) un99 rn (o.sees (by decide) l) hL (Int.natCast_nonneg _) (by omega) H
theorem ah5 {G h a:Hp} {R:List Hp} {tp:Nat} {T:List (List Slot)} {L:List Slot} {c r f t:Int} (tb:Tab 188 a tp T) (sp:HL.Sep (a::R) h) (h0:0<=c) (hL:T[c.toNat]?=some L) (g:Resv.Good L) (hlen:L.length<=50000) (hf:0<=f) (hft:f<t) (ht:t<=FV):
 bn P_ G 139 #[.pointer (some ⟨tp,0,none⟩),r,c,f,t] h (fun u h'=>u = .tuple #[]/\∃a',Tab 188 a' tp (T.set c.toNat (Resv.putL L r f t))/\HL.Sep (a'::R) h'/\Dis G h'):=by
 have h1:c<T.length:=by have:=(List.getElem?_eq_some_iff.1 hL).1;omega
 refine bn.assume fun d=>aA8 (by simp) ?_;have da:Dis G a:=fun b o e=>d _ _ (sp.hd _ _ e);obtain ⟨rb,e1,e2⟩:=tb.see (G:=G) (Hp.le.refl a);obtain ⟨sa,cap,e3,e4⟩:=e2 _ _ hL;unfold S139;simp (disch:=first|decide|exact bv|exact bo|omega|rfl) only [fm];intro xb hxb gxb;generalize eh:Hp.set h xb _=hb;obtain ⟨lb,db,bb⟩:=boxed eh hxb d gxb;have sb:HL.Sep (noHp::noHp.set xb (p9 ⟨f,t,r⟩)::a::R) hb:=by rw [<- eh];exact (sp.new hxb).none
 clear eh
 refine dp (fun m q h3=>∃(i:Nat) (fi ti:Int) (io:Hp) (v:Value) (out:List Slot),m=L.length-i/\i<=L.length/\q 0 = .pointer (some ⟨tp,0,none⟩)/\q 1 = .int .i64 r/\q 2 = .int .i64 c/\q 10 = .pointer (some ⟨xb,0,none⟩)/\q 11=v/\q 12 = .int .i64 i/\
  Slc dh 203 io v out/\out.length<=i/\HL.Sep (io::noHp.set xb (p9 ⟨fi,ti,r⟩)::a::R) h3/\Dis G h3/\mz r (L.drop i) fi ti out=mz r L f t []) ?_
  (m:=L.length) ⟨0,f,t,noHp,_,[],rfl,Nat.zero_le _,by simp (disch:=decide) only [fm],by simp (disch:=decide) only [fm],by simp (disch:=decide) only [fm],by simp (disch:=decide) only [fm],rfl,by simp only [fm]<;>rfl,by simp (disch:=decide) only [fm];exact Slc.nil,Nat.zero_le _,sb,db,rfl⟩
 clear lb db bb sb hb;rintro m q h3 ⟨i,fi,ti,io,v,out,rfl,hi,q0,q1,q2,q10,q11,q12,o,ho,s3,d3,hm⟩ X HX;have l3:=s3.in 2 rfl;have bx3:h3 xb=some (p9 ⟨fi,ti,r⟩):=s3.at 1 rfl bj;unfold ab5;simp only [fm,q0,q2,q12,kg l3 d3 e1,ix98 h0 h1,Nat.mul_one,kg l3 d3 e3];refine ci (fun hlt=>?_) (fun hge=>?_)
 . obtain ⟨s,hs⟩:∃s,L[i]?=some s:=⟨_,List.getElem?_eq_getElem (by omega)⟩;obtain ⟨b,of,rfl,z0,z1,z2⟩:=Sees.slot (e4.up l3 d3) hs;unfold Kx;simp -implicitDefEqProofs (maxSteps:=2000000) (disch:=first|decide|with_reducible exact Nat.ne_of_beq_eq_false rfl|exact bv|exact bo|omega|rfl|(simp;done)|fail) only [fm,q0,q2,q12,kg l3 d3 e1,ix98 h0 h1,Nat.mul_one,kg l3 d3 e3,ix99 (Int.natCast_nonneg i) hlt,z0,z1,z2];intro y hy gy;simp only [fm,q1];generalize eh:Hp.set h3 y _=h4;obtain ⟨l4,d4,b4⟩:=boxed eh hy d3 gy;have s4:HL.Sep (io::noHp.set xb (p9 ⟨fi,ti,r⟩)::a::R) h4:=by rw [<- eh];exact s3.past hy
   have cy:∀j,bf G h4 ⟨y,j,none⟩=_:=fun j=>bm (bk b4);have bx4:h4 xb=some (p9 ⟨fi,ti,r⟩):=s4.at 1 rfl bj;have cb:∀j,bf G h4 ⟨xb,j,none⟩=_:=fun j=>bm (bk bx4)
   have k8:∀(K0:Exit->Rg->Hp->Prop) (q':Rg),(∀k,k<=12->q' k=q k)->q' 13 = .pointer (some ⟨y,0,none⟩)->jz r fi ti s=false->C9 G (dj X K0) q' h4:=by
    intro K0 q' hq q'13 htb;unfold C9;simp only [fm,q'13,cy];intro z hz gz;generalize ez:Hp.set h4 z _=h5;obtain ⟨l5,d5,b5⟩:=boxed ez hz d4 gz;have s5:HL.Sep (io::noHp.set xb (p9 ⟨fi,ti,r⟩)::a::R) h5:=by rw [<- ez];exact s4.past hz
    rw [hq 11 (by decide),q11];refine dw dh (by decide) un99 eoslot (by decide) (by decide) (M:=[s]) s5 d5 o (Sees.row (c:=dh) (L:=[s]) b5 rfl (Nat.le_refl _)) (by simp;omega) fun v' a' h' o' s' d'=>?_;unfold yr;simp (disch:=first|decide|omega) only [fm,hq 12 (by decide),q12];refine HX (L.length-(i+1)) _ _ (by omega) ⟨i+1,fi,ti,a',v',out++[s],rfl,by omega,by simp (disch:=decide) only [fm,hq 0 (by decide),q0],by simp (disch:=decide) only [fm,hq 1 (by decide),q1],by simp (disch:=decide) only [fm,hq 2 (by decide),q2],by simp (disch:=decide) only [fm,hq 10 (by decide),q10],by simp (disch:=decide) only [fm],by simp only [fm]<;>rfl,o',by simp;omega,s',d',?_⟩;rw [<- hm,yf hs,if_neg (by rw [htb];decide)]
   cases hb:(s.r==r)with
   |false=>simp only [fm,hb,gk];exact k8 _ _ (fun k hk=>by simp (disch:=omega) only [bw]) (by simp (disch:=decide) only [fm]) (by unfold jz;rw [hb];rfl)
   |true=>
   simp only [fm,cy,q10,cb];by_cases hb2:s.f<=ti;rotate_left
   . simp only [fm,decide_eq_false hb2,gk];exact k8 _ _ (fun k hk=>by simp (disch:=omega) only [bw]) (by simp (disch:=decide) only [fm]) (by unfold jz;rw [decide_eq_false hb2];simp)
   simp only [fm,decide_eq_true hb2,q10,cb,cy];refine ci (fun hb3=>?_) (fun hb3=>?_);rotate_left
   . exact k8 _ _ (fun k hk=>by simp (disch:=omega) only [bw]) (by simp (disch:=decide) only [fm]) (by unfold jz;rw [decide_eq_false hb3];simp)
   simp only [fm,cy,cb,q10,Yw];rw [dr sz3 rfl bx4 (by simp)];generalize e5:Hp.set h4 xb _=h5;have b5:=V4 e5;have c5:∀j,bf G h5 ⟨xb,j,none⟩=_:=fun j=>bm (bk b5);have y5:∀j,bf G h5 ⟨y,j,none⟩=_:=fun j=>bm (bk (by rw [Fa e5 (fun e=>by rw [e]at hy;rw [bx3]at hy;cases hy)];exact b4));simp only [fm,c5,y5,q10,Yy];rw [dr sz3 rfl b5 (by simp)];unfold yr;simp (disch:=first|decide|omega) only [fm,q12];have s6:=((s4.pick 1 rfl rfl).put (o:=p9 ⟨min fi s.f,max ti s.t,r⟩) bj);rw [set_set]at s6;refine HX (L.length-(i+1)) _ _ (by omega) ⟨i+1,min fi s.f,max ti s.t,io,v,out,rfl,by omega,by simp (disch:=decide) only [fm,q0],by simp (disch:=decide) only [fm,q1],by simp (disch:=decide) only [fm,q2],by simp (disch:=decide) only [fm,q10],by simp (disch:=decide) only [fm,q11],by simp only [fm]<;>rfl,o,by omega,?_,?_,?_⟩
   . rw [<- e5,set_set];exact s6.pick 1 rfl rfl
   . rw [<- e5,set_set];exact d4.set (d4 _ _ bx4)
   . rw [<- hm,yf hs,if_pos (by unfold jz;rw [hb,decide_eq_true hb2,decide_eq_true hb3];rfl)]
 obtain rfl:i=L.length:=by omega
 rw [List.drop_of_length_le (Nat.le_refl _),mz]at hm;obtain ⟨f',t',em,m1,m2,m3,m4,m5⟩:=Cr (r:=r) (f:=f) (t:=t) (out:=[]) g.apart (fun s hs=>(g.ok s hs).2.1) hft;rw [<- hm]at em;simp only [Prod.mk.injEq,List.nil_append]at em;obtain ⟨rfl,rfl,eo⟩:=em;have ep:Resv.putL L r f t=Aj out ⟨fi,ti,r⟩:=by unfold Resv.putL;rw [<- hm]
 clear HX m1 m2 m3 m4 m5 hm;try simp (disch:=first|decide|omega) only [fm,Nat.reduceAdd,Nat.reduceMul]
 unfold ab7;obtain ⟨oa,ocap,rfl,_⟩:=o.len (by decide);have cb:∀j,bf G h3 ⟨xb,j,none⟩=_:=fun j=>bm (bk bx3)
 refine dp (fun m q' h4=>∃k:Nat,m=out.length-k/\k<=out.length/\(∀j,j<=13->q' j=q j)/\q' 14 = .int .i64 k/\h4=h3/\∀s∈out.take k,s.f<fi) ?_
  (m:=out.length) ⟨0,rfl,Nat.zero_le _,(fun j hj=>by simp (disch:=omega) only [bw]),by simp only [fm]<;>rfl,rfl,(fun s hs=>by simp at hs)⟩
 rintro m q' h4 ⟨k,rfl,hk,hq,q14,rfl,hlow⟩ X HX;unfold ab6
 have fin:∀r1:Rg,(∀j,j<=13->r1 j=q j)->r1 14 = .int .i64 k->rank out fi=k->R7 G (retK P_ G [] fun u h'=>u = .tuple #[]/\∃a',Tab 188 a' tp (T.set c.toNat (Resv.putL L r f t))/\HL.Sep (a'::R) h'/\Dis G h') r1 h4:=by
  intro r1 hr r14 hrk;unfold R7;have so:=o.sees (G:=G) (by decide) (s3.in 0 rfl);simp only [fm,r14,hr 11 (by decide),q11];refine sees_to (c:=dh) (L:=out) (j:=(k:Int)) un99 rn so (Int.natCast_nonneg _) (by omega) fun v3 t3=>?_;rw [Int.toNat_natCast]at t3;refine dw dh (by decide) un99 eoslot (by decide) (by decide) (L:=[]) (M:=out.take k) s3.none d3 Slc.nil t3 (by simp;omega) fun v5 a5 h5 o5 s5 d5=>?_;have bx5:h5 xb=some (p9 ⟨fi,ti,r⟩):=s5.at 2 rfl bj;have c5:∀j,bf G h5 ⟨xb,j,none⟩=_:=fun j=>bm (bk bx5);simp only [fm,hr 10 (by decide),q10,c5];intro z hz gz;generalize ez:Hp.set h5 z _=h6;obtain ⟨l6,d6,b6⟩:=boxed ez hz d5 gz;have s6:=s5.past (o:=p9 ⟨fi,ti,r⟩) hz;rw [ez]at s6;rw [List.nil_append]at o5;refine dw dh (by decide) un99 eoslot (by decide) (by decide) (M:=[⟨fi,ti,r⟩]) s6 d6 o5 (Sees.row (c:=dh) (L:=[⟨fi,ti,r⟩]) b6 rfl (Nat.le_refl _)) (by simp;omega) fun v7 a7 h7 o7 s7 d7=>?_;refine ap3 o (s7.in 1 rfl) hk fun v8 t8=>?_;refine dw dh (by decide) un99 eoslot (by decide) (by decide) (M:=out.drop k) s7 d7 o7 t8 (by simp;omega) fun v9 a9 h9 o9 s9 d9=>?_;rw [show out.take k++[⟨fi,ti,r⟩]++out.drop k=Resv.putL L r f t by rw [ep,T9,hrk,List.append_assoc];rfl]at o9;have s10:=((s9.pick 1 rfl rfl).drop.pick 1 rfl rfl).drop;obtain ⟨rb',l,e1',hrb,hcl,a',t',s11,d11⟩:=Mp (c:=c.toNat) tb s10 d9 o9 (by omega);rw [e1]at e1';obtain rfl:rb=rb':=by simpa using e1'
  simp only [fm,hr 0 (by decide),q0,hr 2 (by decide),q2,kg (s9.in 3 rfl) d9 e1,ix98 h0 h1,Nat.mul_one];obtain ⟨sa6,cap6,rfl,_⟩:=o9.len (by decide);rw [dr sz99 rfl hrb hcl];exact ⟨a',t',s11,d11⟩
 simp only [fm,hq 11 (by decide),q11,q14];by_cases hlt:(k:Int)<out.length
 . obtain ⟨s,hs⟩:∃s,out[k]?=some s:=⟨_,List.getElem?_eq_getElem (by omega)⟩;obtain ⟨b,of,rfl,z0,z1,z2⟩:=Sees.slot (o.sees (G:=G) (by decide) (s3.in 0 rfl)) hs;simp (disch:=first|decide|omega) only [fm,decide_eq_true hlt,ix99 (Int.natCast_nonneg k) hlt,z0,hq 10 (by decide),q10,cb];refine ci (fun h5=>?_) (fun h5=>?_)
   . unfold Ky;simp (disch:=first|decide|omega) only [fm,q14];refine HX (out.length-(k+1)) _ _ (by omega) ⟨k+1,rfl,by omega,(fun j hj=>by simp (disch:=omega) only [bw,hq]),by simp only [fm]<;>rfl,rfl,fun s' hs'=>?_⟩;rw [List.take_add_one,hs]at hs';rcases List.mem_append.1 hs' with h6|h6
     . exact hlow s' h6
     . simp at h6;subst h6;exact h5
   . try simp (disch:=first|decide|omega) only [fm,Nat.reduceAdd,Nat.reduceMul]
     exact fin _ (fun j hj=>by simp (disch:=omega) only [bw,hq]) (by simp (disch:=decide) only [fm,q14]) (Yq hlow hk fun s' hs'=>by rw [hs]at hs';cases hs';exact h5)
 . simp only [fm,decide_eq_false hlt,gk];exact fin _ (fun j hj=>by simp (disch:=omega) only [bw,hq]) (by simp (disch:=decide) only [fm,q14]) (Yq hlow hk fun s' hs'=>by rw [List.getElem?_eq_none (by omega)]at hs';cases hs')
def fg:=jq bC (jq (jq (jq @El (jq @Ek @cf137)) (jq @cf138 (jq @cf139 @Jt))) (jq (jq @Js (jq @Jr @at5)) (jq @ld3p (jq @ln114 @true_and))))
theorem Td {G h a w:Hp} {R:List Hp} {tp b:Nat} {T:Tb} {r:Int} {v:Value} {l:List Want} (tb:Tab 188 a tp T) (sp:HL.Sep (a::w::R) h) (sv:Sees j5 G w v l) (g:jf T) (fw:Few T b) (hb:b+l.length<=50000):
 bn P_ G 92 #[.pointer (some ⟨tp,0,none⟩),r,v] h (fun u h'=>u = .int .i64 (jw T r l).1/\∃a',Tab 188 a' tp (jw T r l).2/\HL.Sep (a'::w::R) h'/\Dis G h'):=by
 obtain ⟨sa,cap,rfl⟩:=sv.len;refine bn.assume fun d=>enter92 (by simp) ?_;unfold S92;simp only [fg];refine ci (fun hr=>?_) (fun hr=>?_)
 . try simp (disch:=first|decide|omega) only [fg,Nat.reduceAdd,Nat.reduceMul]
   have e:jw T r l=(1,T):=by unfold jw;rw [if_pos hr]
   rw [e];exact ⟨rfl,a,tb,sp,d⟩
 unfold aG5;generalize hKK:retK P_ G _ _=KK
 refine dp (fun m q h3=>∃i:Nat,m=l.length-i/\i<=l.length/\q 0 = .pointer (some ⟨tp,0,none⟩)/\q 1 = .int .i64 r/\q 2 = .slice sa l.length cap/\q 7 = .int .i64 i/\HL.Sep (a::w::R) h3/\Dis G h3/\(l.take i).all (ml T.length)=true) ?_
  (m:=l.length) ⟨0,rfl,Nat.zero_le _,by simp (disch:=decide) only [fg],by simp (disch:=decide) only [fg],by simp (disch:=decide) only [fg],by simp only [fg]<;>rfl,sp,d,rfl⟩
 rintro m q h3 ⟨i,rfl,hi,q0,q1,q2,q7,s3,d3,hv⟩ X HX;unfold Z4;simp only [fg,q2,q7];refine ci (fun hlt=>?_) (fun hge=>?_)
 . obtain ⟨x,hx⟩:∃x,l[i]?=some x:=⟨_,List.getElem?_eq_getElem (by omega)⟩;obtain ⟨bb,of,rfl,z0,z1,z2⟩:=Sees.want (sv.up (s3.in 1 rfl) d3) hx;unfold G2;simp (disch:=first|decide|omega) only [fg,q0,q2,q7,Ja (Int.natCast_nonneg i) hlt,z0,z1,z2];refine (Vs (c:=x.c) (tb.see (s3.in 0 rfl))).mono ?_;rintro _ h3 ⟨rfl,rfl⟩
   have bad:∀r1:Rg,r1 6 = .int .i64 1->ml T.length x=false->KK .ret r1 h3:=fun r1 h6 hf=>by
    rw [<- hKK];have e:jw T r l=(1,T):=by unfold jw;rw [if_neg hr,if_neg (by rw [Ht hx hf];decide)]
    simp only [fg,h6,e];exact ⟨a,tb,s3,d3⟩
   have go:∀(K0:Exit->Rg->Hp->Prop) (r1:Rg),(∀k,k<=7->r1 k=q k)->ml T.length x=true->Av G (dj X K0) r1 h3:=fun K0 r1 hk ht=>by unfold Av;simp (disch:=first|decide|omega) only [fg,hk 7 (by decide),q7];exact HX (l.length-(i+1)) _ _ (by omega) ⟨i+1,rfl,by omega,by simp (disch:=decide) only [fg,hk 0 (by decide),q0],by simp (disch:=decide) only [fg,hk 1 (by decide),q1],by simp (disch:=decide) only [fg,hk 2 (by decide),q2],by simp only [fg]<;>rfl,s3,d3,by rw [Ep hx,hv,ht];rfl⟩
   cases e1:inT T.length x.c with
   |false=>
    try simp only [fg,gk]
    exact bad _ (by simp only [fg]) (by unfold ml;rw [e1];rfl)
   |true=>
   try simp (disch:=first|decide|omega) only [fg,q2,q7,Ja (Int.natCast_nonneg i) hlt,z0,z1,z2]
   by_cases e2:x.f<0
   . try simp only [fg,decide_eq_true e2,gk]
     exact bad _ (by simp only [fg]) (by unfold ml;rw [decide_eq_false (show ¬0<=x.f by omega)];simp)
   try simp (disch:=first|decide|omega) only [fg,decide_eq_false e2,q2,q7,Ja (Int.natCast_nonneg i) hlt,z0,z1,z2]
   by_cases e3:x.f>=x.t
   . try simp only [fg,decide_eq_true e3,gk]
     exact bad _ (by simp only [fg]) (by unfold ml;rw [decide_eq_false (show ¬x.f<x.t by omega)];simp)
   try simp (disch:=first|decide|omega) only [fg,decide_eq_false e3,q2,q7,Ja (Int.natCast_nonneg i) hlt,z0,z1,z2]
   refine ci (fun e4=>?_) (fun e4=>?_)
   . exact bad _ (by simp only [fg]) (by unfold ml;rw [decide_eq_false (show ¬x.t<=FV by simp only [FV];omega)];simp)
   . exact go _ _ (fun k hk=>by simp (disch:=omega) only [bw]) (qq.2 ⟨ym.1 e1,by omega,by omega,by simp only [FV];omega⟩)
 obtain rfl:i=l.length:=by omega
 rw [List.take_of_length_le (Nat.le_refl _)]at hv;clear HX;try simp (disch:=first|decide|omega) only [fg,Nat.reduceAdd,Nat.reduceMul]
 unfold aG4
 refine dp (fun m q' h3=>∃i:Nat,m=l.length-i/\i<=l.length/\q' 0 = .pointer (some ⟨tp,0,none⟩)/\q' 1 = .int .i64 r/\q' 2 = .slice sa l.length cap/\q' 8 = .int .i64 i/\HL.Sep (a::w::R) h3/\Dis G h3/\(l.take i).all (ri T r)=true) ?_
  (m:=l.length) ⟨0,rfl,Nat.zero_le _,by simp (disch:=decide) only [fg,q0],by simp (disch:=decide) only [fg,q1],by simp (disch:=decide) only [fg,q2],by simp only [fg]<;>rfl,s3,d3,rfl⟩
 clear q0 q1 q2 q7 s3 d3;clear q h3;rintro m q h3 ⟨i,rfl,hi,q0,q1,q2,q8,s3,d3,hf⟩ X HX;unfold aG0;simp only [fg,q2,q8];refine ci (fun hlt=>?_) (fun hge=>?_)
 . obtain ⟨x,hx⟩:∃x,l[i]?=some x:=⟨_,List.getElem?_eq_getElem (by omega)⟩;obtain ⟨bb,of,rfl,z0,z1,z2⟩:=Sees.want (sv.up (s3.in 1 rfl) d3) hx;obtain ⟨⟨c0,c1⟩,f0,f1,f2⟩:=qq.1 (List.all_eq_true.1 hv x (List.mem_of_getElem? hx));unfold Ob;simp (disch:=first|decide|omega) only [fg,q0,q1,q2,q8,Ja (Int.natCast_nonneg i) hlt,z0,z1,z2];refine (as2 (r:=r) (f:=x.f) (t:=x.t) (tb.see (s3.in 0 rfl)) c0 (qc c0 c1) (by have:=wg fw x.c;omega)).mono ?_;rintro _ h3 ⟨rfl,rfl⟩;cases e1:nl (rowT T x.c) r x.f x.t with
   |false=>
    try simp only [fg]
    rw [<- hKK];have e:jw T r l=(18,T):=by unfold jw;rw [if_neg hr,if_pos hv,if_neg (by rw [Ht hx (by unfold ri;exact e1)];decide)]
    simp only [fg,e];exact ⟨a,tb,s3,d3⟩
   |true=>
    try simp only [fg]
    unfold Kc;simp (disch:=first|decide|omega) only [fg,q8];exact HX (l.length-(i+1)) _ _ (by omega) ⟨i+1,rfl,by omega,by simp (disch:=decide) only [fg,q0],by simp (disch:=decide) only [fg,q1],by simp (disch:=decide) only [fg,q2],by simp only [fg]<;>rfl,s3,d3,by rw [Ep hx,hf];unfold ri;rw [e1];rfl⟩
 obtain rfl:i=l.length:=by omega
 rw [List.take_of_length_le (Nat.le_refl _)]at hf;clear HX;try simp (disch:=first|decide|omega) only [fg,Nat.reduceAdd,Nat.reduceMul]
 unfold aG3
 refine dp (fun m q' h3=>∃(i:Nat) (a':Hp),m=l.length-i/\i<=l.length/\q' 0 = .pointer (some ⟨tp,0,none⟩)/\q' 1 = .int .i64 r/\q' 2 = .slice sa l.length cap/\q' 9 = .int .i64 i/\Tab 188 a' tp (ve r T (l.take i))/\HL.Sep (a'::w::R) h3/\Dis G h3) ?_
  (m:=l.length) ⟨0,a,rfl,Nat.zero_le _,by simp (disch:=decide) only [fg,q0],by simp (disch:=decide) only [fg,q1],by simp (disch:=decide) only [fg,q2],by simp only [fg]<;>rfl,tb,s3,d3⟩
 clear q0 q1 q2 q8 s3 d3;clear q h3;rintro m q h3 ⟨i,a3,rfl,hi,q0,q1,q2,q9,t3,s3,d3⟩ X HX;unfold aG1;simp only [fg,q2,q9];refine ci (fun hlt=>?_) (fun hge=>?_)
 . obtain ⟨x,hx⟩:∃x,l[i]?=some x:=⟨_,List.getElem?_eq_getElem (by omega)⟩;obtain ⟨bb,of,rfl,z0,z1,z2⟩:=Sees.want (sv.up (s3.in 1 rfl) d3) hx;obtain ⟨⟨c0,c1⟩,f0,f1,f2⟩:=qq.1 (List.all_eq_true.1 hv x (List.mem_of_getElem? hx));have sub:∀u∈l.take i,u∈l:=fun u hu=>List.mem_of_mem_take hu;obtain ⟨g3,fw3,l3,k3⟩:=Iy (by omega:0<=r) (l:=l.take i) g fw (List.all_eq_true.2 fun u hu=>List.all_eq_true.1 hv u (sub u hu)) (List.all_eq_true.2 fun u hu=>List.all_eq_true.1 hf u (sub u hu));unfold Od;simp (disch:=first|decide|omega) only [fg,q0,q1,q2,q9,Ja (Int.natCast_nonneg i) hlt,z0,z1,z2];have hlen:(rowT (ve r T (l.take i)) x.c).length<=50000:=by have h5:=wg fw3 x.c;rw [List.length_take]at h5;omega
   refine (ah5 (r:=r) t3 s3 c0 (qc c0 (by rw [l3];exact c1)) (ud g3 x.c) hlen f0 f1 f2).mono ?_;rintro _ h5 ⟨rfl,a5,t5,s5,d5⟩;unfold Oc;simp (disch:=first|decide|omega) only [fg,q9];refine HX (l.length-(i+1)) _ _ (by omega) ⟨i+1,a5,rfl,by omega,by simp (disch:=decide) only [fg,q0],by simp (disch:=decide) only [fg,q1],by simp (disch:=decide) only [fg,q2],by simp only [fg]<;>rfl,?_,s5,d5⟩;rw [Mz hx];exact t5
 obtain rfl:i=l.length:=by omega
 rw [List.take_of_length_le (Nat.le_refl _)]at t3;try simp (disch:=first|decide|omega) only [fg,Nat.reduceAdd,Nat.reduceMul]
 unfold aG2;have e:jw T r l=(0,ve r T l):=by unfold jw;rw [if_neg hr,if_pos hv,if_pos hf]
 rw [<- hKK];simp only [fg,e];exact ⟨a3,t3,s3,d3⟩
end Go.Proofs.YtfflipnhffknnaaGreatDoor.Rv
end
section
namespace Go.Proofs.YtfflipnhffknnaaGreatDoor
open Go Go.HL Go.Proofs.Resv Go.Proofs.Srch
theorem Il {G:Hp} {xb:Nat} {w:Want} {ty:TypeId}:Sees Rv.j5 G (noHp.set xb (.cells #[w.c,w.f,w.t] ty (0,0))) (.slice (some ⟨xb,0,none⟩) 1 1) [w]:=by have o:Slc Rv.j5 ty (noHp.set xb (.cells #[w.c,w.f,w.t] ty (0,0))) (.slice (some ⟨xb,0,none⟩) 1 1) [w]:=⟨some xb,1,[],rfl,by rw [bj];rfl,rfl⟩;exact o.see (by decide) (Hp.le.refl _)
def lu:=jq bC (jq (jq (jq (jq (jq @al119 @al48) (jq @aF8 @bd45_0)) (jq (jq @aF7 @Hh) (jq @lr @Vi))) (jq (jq (jq @xu @cf75) (jq @cf76 @cf77)) (jq (jq @fa119_0 @Uz) (jq @av5 @Qt)))) (jq (jq (jq (jq @ld119 @ld28) (jq @ld3 @ld30)) (jq (jq @th @ld35) (jq @ld35p @ld3p))) (jq (jq (jq @ld40 @ld48) (jq @ln40 @ln59)) (jq (jq @ky @qs) (jq @ap1 @Ih)))))
theorem Sees.stp {G h:Hp} {sa:Option Addr} {cap n:Nat} {L:List Stp} (s:Sees stpC G h (.slice sa n cap) L) {i:Nat} {x:Stp} (hx:L[i]?=some x):
 ∃b o,sa=some ⟨b,o,none⟩/\bf G h ⟨b,o+i*3,none⟩=some (.int .i64 x.x)/\bf G h ⟨b,o+i*3+1,none⟩=some (.int .i64 x.y)/\bf G h ⟨b,o+i*3+2,none⟩=some (.int .i64 x.k):=by
 obtain ⟨s',c',e,_,hc|⟨b,o,rfl,hc⟩⟩:=s
 . rw [hc]at hx;cases hx
 . cases e;exact ⟨b,o,rfl,hc i x hx 0 (by decide),hc i x hx 1 (by decide),hc i x hx 2 (by decide)⟩
def Sg (G h:Hp) (W:Res Move) (u:Value) (h':Hp):Prop:=∃ip vs,u = .tuple #[vs,(outE W)]/\Slc j9 48 ip vs (outL W)/\(outL W).length<=4096/\HL.Sep [ip,h] h'/\Dis G h'
theorem RdW.up {G B Q:Hp} {q:RdQ} (w:RdW G q B) (l:B.le Q) (d:Dis G Q):RdW G q Q:=by obtain ⟨⟨ab,cb,ap,cp',ar,cr,az,cs,ca,bc⟩,bt,br,tv,mk,hro,fit,hbu⟩:=w;exact ⟨⟨ab,cb,ap,cp',ar,cr,az,cs,ca.up l d,l _ _ bc⟩,l _ _ bt,l _ _ br,tv.up l d,mk,hro,fit,hbu⟩
theorem Wy {C:Conf} (mk:dv C) {T:Tb} (gt:jf T) {rb t:Int} {p gp:Pose} {any:Bool} {w:List Move} (h:lg C (some T) rb p t gp any = .ok w):PB (endP p w):=
 Hn mk (Fq mk gt h).2.2.choose_spec.2.2.2.2.1
theorem Iq {G h B h0:Hp} {q:RdQ} {p:Pose} {t e:Int} {l:List Move} (s:RdSt G q B p t e l h) (hl:l.length<=1000000) (le0:h0.le B) {r:Rg} {R:VK} (g18:r 18 = .pointer (some ⟨q.xl,0,none⟩)) (g19:r 19 = .pointer (some ⟨q.xe,0,none⟩))
 (H:∀u h',Sg G h0 (if e≠0 then .no e else if 4096<l.length then .no 2 else .ok l) u h'->R u h'):
 Rq G (retK P_ G [.tmp 14,.tmp 15] R) r h:=by
 obtain ⟨vl,ip,sl,s,d⟩:=s;obtain ⟨la,lc,rfl,_⟩:=id (sl.len (by decide));have ce:∀k,bf G h ⟨q.xe,k,none⟩=_:=fun k=>bm (bk (s.at 2 rfl bj));have cl:∀k,bf G h ⟨q.xl,k,none⟩=_:=fun k=>bm (bk (s.at 3 rfl bj));have sN:HL.Sep [noHp,h0] h:=((s.sel (L':=[B]) [5] (by decide) rfl).cut le0).none;unfold Rq;try simp (disch:=decide) only [lu,g18,g19,ce]
 by_cases he:e=0
 . subst he;try simp only [lu,show ((0:Int) != 0)=false from rfl,cl]
   by_cases hb:(l.length:Int)>4096
   . try simp only [lu,li hb]
     refine H _ _ ?_;rw [if_neg (by simp),if_pos (by omega)];exact ⟨noHp,_,rfl,Slc.nil,by simp [outL],sN,d⟩
   . try simp only [lu,lj hb]
     unfold aM3;try simp (disch:=decide) only [lu,g18,cl]
     refine H _ _ ?_;rw [if_neg (by simp),if_neg (by omega)];exact ⟨ip,_,rfl,sl,by show l.length<=_;omega,((s.sel (L':=[B,ip]) [5,4] (by decide) rfl).cut le0).swap,d⟩
 . try simp only [lu,show (e != 0)=true by simp [he]]
   refine H _ _ ?_;rw [if_pos he];exact ⟨noHp,_,rfl,Slc.nil,by simp [outL],sN,d⟩
theorem ap7 {G h B h0:Hp} {q:RdQ} (st:jy G) (w:RdW G q B) {p hm:Pose} {t:Int} {S:List Stp} {sv:Value} (pp:PB p) (ph:PB hm) (ss:Sees stpC G B sv S) (hS:∀s∈S,StpB s) (hl:S.length<=7)
 {xh:Nat} (bh:B xh=some (ij hm)) (le0:h0.le B) {r:Rg} {R:VK}
 (g5:r 5=sv) (g7:r 7 = .pointer (some ⟨q.xc,0,none⟩)) (g10:r 10 = .pointer (some ⟨q.xf,0,none⟩)) (g11:r 11 = .pointer (some ⟨q.xa,0,none⟩)) (g13:r 13 = .pointer (some ⟨xh,0,none⟩)) (g18:r 18 = .pointer (some ⟨q.xl,0,none⟩)) (g19:r 19 = .pointer (some ⟨q.xe,0,none⟩))
 (g20:r 20 = .func (.func 75) #[] #[.pointer (some ⟨q.xc,0,none⟩),.pointer (some ⟨q.xt,0,none⟩),.pointer (some ⟨q.xr,0,none⟩),.pointer (some ⟨q.xf,0,none⟩),.pointer (some ⟨q.xa,0,none⟩),.pointer (some ⟨q.xe,0,none⟩),.pointer (some ⟨q.xl,0,none⟩)]) (g21:r 21 = .int .i64 0)
 (s:RdSt G q B p t 0 [] h) (H:∀u h',Sg G h0 (match goR q.C q.T q.rb hm S p t []with | .ok l=>if 4096<l.length then .no 2 else .ok l | .no e => .no e) u h'->R u h'):
 dt (Xz G) r h (df 2 (dj (Rq G (retK P_ G [.tmp 14,.tmp 15] R)) (ra (retK P_ G [.tmp 14,.tmp 15] R)))):=by
 obtain ⟨sa,sc,rfl,_⟩:=id ss;generalize hKK:retK P_ G [.tmp 14,.tmp 15] R=KK;have gT:jf q.T:=by obtain ⟨_,_,_,gT,_⟩:=w.tv;exact gT
 refine dp (fun m p' h'=>∃(i:Nat) (pz:Pose) (tz:Int) (l:List Move),m=S.length-i/\i<=S.length/\(∀y,1<=y->y<=20->p' y=r y)/\p' 21 = .int .i64 i/\PB pz/\l.length<=i*110001/\RdSt G q B pz tz 0 l h'/\goR q.C q.T q.rb hm (S.drop i) pz tz l=goR q.C q.T q.rb hm S p t []) ?_ (m:=S.length)
  ⟨0,p,t,[],rfl,Nat.zero_le _,fun _ _ _=>rfl,g21,pp,by simp,s,by simp⟩
 clear s;rintro m p' h1 ⟨i,pz,tz,l,rfl,hi,hp',p21,ppz,hll,s,hgo⟩ X hX;have p5:=(hp' 5 (by decide) (by decide)).trans g5;have p7:=(hp' 7 (by decide) (by decide)).trans g7;have p10:=(hp' 10 (by decide) (by decide)).trans g10;have p11:=(hp' 11 (by decide) (by decide)).trans g11;have p13:=(hp' 13 (by decide) (by decide)).trans g13;have p18:=(hp' 18 (by decide) (by decide)).trans g18;have p19:=(hp' 19 (by decide) (by decide)).trans g19;have p20:=(hp' 20 (by decide) (by decide)).trans g20;have hi2:i*110001<=7*110001:=Nat.mul_le_mul_right _ (by omega);obtain ⟨vl,ip,sl,s0,d⟩:=id s;have lB:=s0.in 5 rfl;unfold Xz;simp only [lu,p5,p21];by_cases hend:i=S.length
 . subst hend;have chh:∀k,bf G h1 ⟨xh,k,none⟩=_:=fun k=>bm (bk (lB _ _ bh));try simp only [lu,show (((S.length:Nat):Int)==((S.length:Nat):Int))=true from beq_self_eq_true _,p13,p20,chh]
   refine (Yb (any:=false) st w ppz ph (by omega) s).mono ?_;rw [List.drop_length,Qo]at hgo;rintro _ h2 (⟨w',hw,ll,rfl,s2⟩|⟨e',hw,rfl,s2⟩)
   . rw [hw]at hgo;try simp (disch:=first|decide|omega) only [lu,Nat.reduceAdd,Nat.reduceMul]
     rw [<- hKK];refine Iq s2 (by rw [List.length_append];omega) le0 (by simp (disch:=decide) only [lu,p18]) (by simp (disch:=decide) only [lu,p19]) fun u h' hR=>H u h' ?_;rw [<- hgo];rw [if_neg (by simp)]at hR;exact hR
   . rw [hw]at hgo;have hne:e'≠0:=by have:=sn w.mk_ gT hw;omega
     try simp (disch:=first|decide|omega) only [lu,Nat.reduceAdd,Nat.reduceMul]
     rw [<- hKK];refine Iq s2 (by omega) le0 (by simp (disch:=decide) only [lu,p18]) (by simp (disch:=decide) only [lu,p19]) fun u h' hR=>H u h' ?_;rw [<- hgo];rw [if_pos hne]at hR;exact hR
 have hlt:(i:Int)<S.length:=by omega
 try simp only [lu,show ((i:Int)==((S.length:Nat):Int))=false by simp;omega]
 obtain ⟨z,hz⟩:∃z,S[i]?=some z:=⟨_,List.getElem?_eq_getElem (by omega)⟩;have hzb:=hS z (List.mem_of_getElem? hz);obtain ⟨b,o,rfl,c0,c1,c2⟩:=Sees.stp (ss.up lB d) hz;unfold Pf;try simp (disch:=first|decide|exact bv|exact bo|omega|rfl) only [lu,p5,p21,ix59 (Int.natCast_nonneg i) hlt,c0,c1,c2]
 intro x hx gx;have sQ:=(s0.sel (L':=[B,noHp.set q.xf (ij pz),noHp.set q.xa (.cells #[tz] 3 (0,0)),noHp.set q.xe (.cells #[(0:Int)] 35 (0,0)),noHp.set q.xl (.cells #[vl] 40 (0,0)),ip]) [5,0,1,2,3,4] (by decide) rfl).grow (o := .cells #[z.x,z.y,z.k] 119 (0,0)) hx;have lQ:B.le (B.set x (.cells #[z.x,z.y,z.k] 119 (0,0))):=dl (lB.none hx);have bQ:(B.set x (.cells #[z.x,z.y,z.k] 119 (0,0))) x=some (.cells #[z.x,z.y,z.k] 119 (0,0)):=bj;try simp (disch:=first|decide|omega) only [lu,Nat.reduceAdd,Nat.reduceMul]
 generalize e2:Hp.set h1 x _=h2 at*;obtain ⟨l2,d2,bx2⟩:=boxed e2 hx d gx;generalize B.set x (.cells #[z.x,z.y,z.k] 119 (0,0))=Q at*;have dQ:Dis G Q:=fun y o hy=>d2 y o (sQ.hd _ _ hy);have wQ:=w.up lQ dQ;have sQ':RdSt G q Q pz tz 0 l h2:=⟨vl,ip,sl,sQ.sel [1,2,3,4,5,0] (by decide) rfl,d2⟩;have cx2:∀k,bf G h2 ⟨x,k,none⟩=_:=fun k=>bm (bk bx2);try simp only [lu,cx2,p20]
 have hdrop:S.drop i=z::S.drop (i+1):=by rw [List.drop_eq_getElem_cons (by omega)];congr 1;exact Option.some.inj ((List.getElem?_eq_getElem (by omega)).symm.trans hz)
 rw [hdrop,Ji]at hgo;refine (Yb (gp:=⟨z.x,z.y,false⟩) (any:=true) st wQ ppz hzb (by omega) sQ').mono ?_;rintro _ h3 (⟨w',hw,ll,rfl,s3⟩|⟨e',hw,rfl,s3⟩);rotate_left
 . rw [hw]at hgo;have hne:e'≠0:=by have:=sn w.mk_ gT hw;omega
   try simp only [lu]
   rw [<- hKK];refine Iq s3 (by omega) (le0.trans lQ) (by simp (disch:=decide) only [lu,p18]) (by simp (disch:=decide) only [lu,p19]) fun u h' hR=>H u h' ?_;rw [<- hgo];rw [if_pos hne]at hR;exact hR
 rw [hw]at hgo;simp only at hgo;try simp only [lu]
 unfold Pe;obtain ⟨vl3,ip3,sl3,s3,d3⟩:=s3;obtain ⟨la3,lc3,rfl,_⟩:=id (sl3.len (by decide));have ppz':=Wy w.mk_ gT hw;generalize endP pz w'=pz' at*;generalize endT tz w'=tz' at*;obtain ⟨ab,cb,ap,cp',ar,cr,az,cs,ca,bc⟩:=wQ.bc;have lQ3:=s3.in 5 rfl;have cx3:∀k,bf G h3 ⟨x,k,none⟩=_:=fun k=>bm (bk (lQ3 _ _ bQ));have cc3:∀k,bf G h3 ⟨q.xc,k,none⟩=_:=fun k=>bm (bk (lQ3 _ _ bc));have cf3:∀k,bf G h3 ⟨q.xf,k,none⟩=_:=fun k=>bm (bk (s3.at 0 rfl bj));have ca3:∀k,bf G h3 ⟨q.xa,k,none⟩=_:=fun k=>bm (bk (s3.at 1 rfl bj));try simp (disch:=decide) only [lu,p7,p10,p11,cx3,cc3,cf3,ca3]
 refine (Rv.Sn (a:=tz') (b:=q.C.ho)).mono ?_;rintro _ h3 ⟨rfl,rfl⟩;refine ⟨Hp.le.refl _,?_⟩;try simp (disch:=first|decide|exact bv|exact bo|omega|rfl) only [lu]
 intro y hy gy;have s4:=s3.new (o := .cells #[z.k,(0:Int),(0:Int),pz'.x,pz'.y,.bool pz'.d,pz'.x,pz'.y,.bool pz'.d,tz',(sumI tz' q.C.ho)] 48 (0,0)) hy;try simp (disch:=first|decide|omega) only [lu,Nat.reduceAdd,Nat.reduceMul]
 generalize e4:Hp.set h3 y _=h4 at*;obtain ⟨l4,d4,by4⟩:=boxed e4 hy d3 gy;have cl4:∀k,bf G h4 ⟨q.xl,k,none⟩=_:=fun k=>bm (bk (s4.at 4 rfl bj));have cy4:∀k,bf G h4 ⟨y,k,none⟩=_:=fun k=>bm (bk by4);try simp only [lu,p18,cl4,cy4]
 intro v hv gv;have s5:=s4.new (o := .cells #[z.k,(0:Int),(0:Int),pz'.x,pz'.y,.bool pz'.d,pz'.x,pz'.y,.bool pz'.d,tz',(sumI tz' q.C.ho)] 48 (0,0)) hv;have d5:=d4.set (o := .cells #[z.k,(0:Int),(0:Int),pz'.x,pz'.y,.bool pz'.d,pz'.x,pz'.y,.bool pz'.d,tz',(sumI tz' q.C.ho)] 48 (0,0)) gv;generalize Hp.set h4 v _=h5 at*;try simp (disch:=first|decide|omega) only [lu,Nat.reduceAdd,Nat.reduceMul]
 refine (Nm (M:=[wb q.C z.k pz' tz']) (s5.sel [6,0,1,2,3,4,5,7] (by decide) rfl) sl3 (fun _=>Sees.row (c:=j9) (L:=[wb q.C z.k pz' tz']) (s5.at 0 rfl bj) rfl (Nat.le_refl _)) (by rw [List.length_append];simp;omega)).mono ?_;rintro v6 h6 ⟨ip6,sl6,s6,d6⟩;obtain ⟨la6,lc6,rfl,_⟩:=id (sl6.len (by decide));try simp (disch:=first|decide|omega) only [lu,Nat.reduceAdd,Nat.reduceMul,p18]
 have bl6:=s6.at 6 rfl bj;rw [dr sz40 rfl bl6 (by simp)];simp only [List.set_cons_zero];have s7:=(s6.sel [6,0,1,2,3,4,5,7] (by decide) rfl).put (o := .cells #[.slice la6 (l++w'++[wb q.C z.k pz' tz']).length lc6] 40 (0,0)) bj;rw [set_set]at s7;have d7:=d6.set (o := .cells #[.slice la6 (l++w'++[wb q.C z.k pz' tz']).length lc6] 40 (0,0)) (d6 _ _ bl6);generalize Hp.set h6 q.xl _=h7 at*;have cy7:∀k,bf G h7 ⟨y,k,none⟩=_:=fun k=>bm (bk (s7.at 3 rfl bj));try simp only [lu,cy7,p11]
 have ba7:=s7.at 5 rfl bj;rw [dr sz3 rfl ba7 (by simp)];simp only [List.set_cons_zero];have s8:=(s7.sel [5,0,1,2,3,4,6,7] (by decide) rfl).put (o := .cells #[(sumI tz' q.C.ho)] 3 (0,0)) bj;rw [set_set]at s8;have d8:=d7.set (o := .cells #[(sumI tz' q.C.ho)] 3 (0,0)) (d7 _ _ ba7);try simp (disch:=first|decide|omega) only [lu,Nat.reduceAdd,Nat.reduceMul]
 unfold Pg;try simp (disch:=first|decide|omega) only [lu,p21]
 refine hX (S.length-(i+1)) _ _ (by omega) ⟨i+1,pz',sumI tz' q.C.ho,_,rfl,by omega,fun y h1 h2=>by simp (disch:=omega) only [bw];exact hp' y h1 h2,by simp only [lu]<;>rfl,ppz',?_,⟨_,ip6,sl6,?_,d8⟩,hgo⟩
 . rw [List.length_append,List.length_append,Nat.add_mul];simp only [List.length_cons,List.length_nil];omega
 . exact ((s8.sel (is:=[7,5,0,6,1,2]) (by decide) rfl).cut lQ).sel [1,2,3,4,5,0] (by decide) rfl
def ig:=jq bC (jq (jq (jq (jq (jq @List.length_cons.{0} @List.length_nil.{0}) (jq @al119 @al26)) (jq (jq @al35 @al40) (jq @bd119_1 @rl))) (jq (jq (jq @bd28_0 @bd30_) (jq @aF8 @beq_self_eq_true.{0})) (jq (jq @bne_self_eq_false.{0} @Vh) (jq @pu (jq @cf24 @cf34))))) (jq (jq (jq (jq @cf74 @U0) (jq @fa119_1 @Cw)) (jq (jq @av1 @Qt) (jq @ld119 (jq @ld26 @ld3)))) (jq (jq (jq @ln40 @ln59) (jq @ky @qs)) (jq (jq @ui @ap1) (jq @st26w (jq @st35s @true_and))))))
theorem ap8 {G h B h0:Hp} {q:RdQ} (st:jy G) (w:RdW G q B) {p hm:Pose} {t:Int} {S:List Stp} {sv:Value} (pp:PB p) (ph:PB hm) (ss:Sees stpC G B sv S) (hS:∀s∈S,StpB s) (hl:S.length<=7)
 {xh:Nat} (bh:B xh=some (ij hm)) (le0:h0.le B) {r:Rg} {R:VK}
 (g5:r 5=sv) (g7:r 7 = .pointer (some ⟨q.xc,0,none⟩)) (g8:r 8 = .pointer (some ⟨q.xt,0,none⟩)) (g9:r 9 = .pointer (some ⟨q.xr,0,none⟩)) (g10:r 10 = .pointer (some ⟨q.xf,0,none⟩)) (g11:r 11 = .pointer (some ⟨q.xa,0,none⟩)) (g13:r 13 = .pointer (some ⟨xh,0,none⟩))
 (s:HL.Sep [noHp.set q.xf (ij p),noHp.set q.xa (.cells #[t] 3 (0,0)),B] h) (d:Dis G h) (H:∀u h',Sg G h0 (vq q.C q.T q.rb p t S hm) u h'->R u h'):
 X1 G (retK P_ G [.tmp 14,.tmp 15] R) r h:=by
 obtain ⟨sa,sc,rfl,_⟩:=id ss;generalize hKK:retK P_ G [.tmp 14,.tmp 15] R=KK;unfold X1;try simp only [ig,g5]
 refine dp (fun m p' h'=>∃i:Nat,m=S.length-i/\i<=S.length/\(∀y,1<=y->y<=13->p' y=r y)/\p' 27 = .slice sa S.length sc/\p' 28 = .int .i64 S.length/\p' 29 = .int .i64 i/\HL.Sep [noHp.set q.xf (ij p),noHp.set q.xa (.cells #[t] 3 (0,0)),B] h'/\Dis G h'/\∀s∈S.take i,Ab s=true) ?_ (m:=S.length)
  ⟨0,rfl,Nat.zero_le _,fun y h1 h2=>by simp (disch:=omega) only [bw],by simp (disch:=decide) only [ig]<;>rfl,by simp (disch:=decide) only [ig]<;>rfl,by simp only [ig]<;>rfl,s,d,by simp⟩
 clear s d;rintro m p' h1 ⟨i,rfl,hi,hp',p27,p28,p29,s,d,hok⟩ X hX;unfold aM2;simp only [ig,p28,p29];refine ci (fun hlt=>?_) (fun hge=>?_);rotate_left
 . obtain rfl:i=S.length:=by omega
   rw [List.take_length]at hok;try simp (disch:=first|decide|omega) only [ig,Nat.reduceAdd,Nat.reduceMul]
   unfold X0;try simp (disch:=first|decide|exact bv|exact bo|omega|rfl) only [ig]
   intro xl hxl gxl;have s1:=s.new (o := .cells #[.slice none 0 0] 40 (0,0)) hxl;generalize e1:Hp.set h1 xl _=h2 at*;obtain ⟨l2,d2,b2⟩:=boxed e1 hxl d gxl;intro xe hxe gxe;have s2:=s1.new (o := .cells #[(0:Int)] 35 (0,0)) hxe;have d3:=d2.set (o := .cells #[(0:Int)] 35 (0,0)) gxe;try simp (disch:=first|decide|omega) only [ig,Nat.reduceAdd,Nat.reduceMul]
   have w2:RdW G { q with xe:=xe,xl:=xl } B:=⟨w.bc,w.bt,w.br,w.tv,w.mk_,w.hro,w.fit,w.hbu⟩;have hz:∀y,1<=y->y<=13->p' y=r y:=hp';rw [<- hKK]
   refine ap7 (q:={ q with xe:=xe,xl:=xl }) st w2 pp ph ss hS hl bh le0 (by simp (disch:=decide) only [ig,(hz 5 (by decide) (by decide)).trans g5]) (by simp (disch:=decide) only [ig,(hz 7 (by decide) (by decide)).trans g7]) (by simp (disch:=decide) only [ig,(hz 10 (by decide) (by decide)).trans g10]) (by simp (disch:=decide) only [ig,(hz 11 (by decide) (by decide)).trans g11]) (by simp (disch:=decide) only [ig,(hz 13 (by decide) (by decide)).trans g13]) (by simp (disch:=decide) only [ig]) (by simp (disch:=decide) only [ig])
    (by simp (disch:=decide) only [ig,(hz 7 (by decide) (by decide)).trans g7,(hz 8 (by decide) (by decide)).trans g8,(hz 9 (by decide) (by decide)).trans g9,(hz 10 (by decide) (by decide)).trans g10,(hz 11 (by decide) (by decide)).trans g11]) (by simp only [ig]<;>rfl)
    ⟨_,noHp,Slc.nil,s2.none.sel [3,4,1,2,0,5] (by decide) rfl,d3⟩ fun u h' hR=>H u h' ?_
   unfold vq;rw [if_pos (List.all_eq_true.2 hok)];exact hR
 obtain ⟨z,hz⟩:∃z,S[i]?=some z:=⟨_,List.getElem?_eq_getElem (by omega)⟩;obtain ⟨b,o,rfl,c0,c1,c2⟩:=Sees.stp (ss.up (s.in 2 rfl) d) hz;unfold Kj;simp (disch:=first|decide|exact bv|exact bo|omega|rfl) only [ig,p27,p29,ix59 (Int.natCast_nonneg i) hlt,c0,c1,c2];intro x hx gx;have s1:=s.past (o := .cells #[z.x,z.y,z.k] 119 (0,0)) hx;try simp (disch:=first|decide|omega) only [ig,Nat.reduceAdd,Nat.reduceMul]
 generalize e1:Hp.set h1 x _=h2 at*;obtain ⟨l2,d2,b2⟩:=boxed e1 hx d gx;have cx:∀k,bf G h2 ⟨x,k,none⟩=_:=fun k=>bm (bk b2)
 have next:Ab z=true->∀r':Rg,(∀y,1<=y->y<=13->r' y=r y)->r' 27 = .slice (some ⟨b,o,none⟩) S.length sc->r' 28 = .int .i64 S.length->r' 29 = .int .i64 i->C4 G (dj X (df 0 (dj (X0 G KK) (ra KK)))) r' h2:=fun hk r' hr e27 e28 e29=>by
  unfold C4;simp (disch:=first|decide|omega) only [ig,e29];refine hX (S.length-(i+1)) _ _ (by omega) ⟨i+1,rfl,by omega,fun y h1 h2=>by simp (disch:=omega) only [bw];exact hr y h1 h2,by simp (disch:=decide) only [ig,e27],by simp (disch:=decide) only [ig,e28],by simp only [ig]<;>rfl,s1,d2,fun s hs=>?_⟩;rw [List.take_add_one,hz]at hs;rcases List.mem_append.1 hs with hs|hs
  . exact hok s hs
  . simp at hs;subst hs;exact hk
 try simp (disch:=first|decide|omega) only [ig,Nat.reduceAdd,Nat.reduceMul,cx]
 by_cases k3:z.k=3
 . try simp only [ig,show (z.k != 3)=false by simp [k3],gk]
   exact next (by unfold Ab;simp [k3]) _ (fun y h1 h2=>by simp (disch:=omega) only [bw];exact hp' y h1 h2) (by simp (disch:=decide) only [ig,p27]) (by simp (disch:=decide) only [ig,p28]) (by simp (disch:=decide) only [ig,p29])
 by_cases k4:z.k=4
 . try simp only [ig,show (z.k != 3)=true by simp [k3],show (z.k != 4)=false by simp [k4],cx]
   exact next (by unfold Ab;simp [k4]) _ (fun y h1 h2=>by simp (disch:=omega) only [bw];exact hp' y h1 h2) (by simp (disch:=decide) only [ig,p27]) (by simp (disch:=decide) only [ig,p28]) (by simp (disch:=decide) only [ig,p29])
 try simp only [ig,show (z.k != 3)=true by simp [k3],show (z.k != 4)=true by simp [k4],cx]
 rw [<- hKK];try simp (disch:=decide) only [ig]
 refine H _ _ ?_;unfold vq
 rw [if_neg (fun ha=>by
  have:=List.all_eq_true.1 ha z (List.mem_of_getElem? hz);unfold Ab at this
  simp [k3,k4]at this)]
 exact ⟨noHp,_,rfl,Slc.nil,by simp [outL],((s1.sel (L':=[B]) [2] (by decide) rfl).cut le0).none,d2⟩
theorem Ip {G h:Hp} {C:Conf} {v vt sv:Value} {T:Tb} {p hm:Pose} {rb t:Int} {S:List Stp} (hv:CV G h v C) (st:jy G) (hro:∀p∈C.ro,PB p) (fit:Fit0 C) (hbu:dv C->C.bu<=4000)
 (tv:TabV G h vt (some T)) (pp:PB p) (ph:PB hm) (ss:Sees stpC G h sv S) (hS:∀s∈S,StpB s) (hl:S.length<=7):
 bn P_ G 34 #[v,vt,rb,ld p,t,sv,ld hm] h (fun u h'=>∃W,Sg G h W u h'/\((¬dv C/\W = .no 5)\/(dv C/\W=vq C T rb p t S hm))):=by
 have hsl:C.st.length<=100000000000000:=by have:=fit.st;unfold Room at this;omega
 obtain ⟨ab,cb,ap,cp',ar,cr,az,cs,rfl,ca⟩:=hv;obtain ⟨tp,rfl,ts,gT,fT⟩:=tv;obtain ⟨sa,sc,rfl,_⟩:=id ss;refine bn.assume fun d=>enter34 (by simp) ?_;unfold S34;simp (disch:=decide) only [ig];intro xc hxc gxc;have s1:=(HL.Sep.one (h:=h)).grow (o:=rj C ab cb ap cp' ar cr az cs) hxc;generalize e1:Hp.set h xc _=h1 at*;obtain ⟨l1,d1,q1⟩:=boxed e1 hxc d gxc;intro xt hxt gxt;have s2:=s1.grow (o := .cells #[.pointer (some ⟨tp,0,none⟩)] 34 (0,0)) hxt;generalize e2:Hp.set h1 xt _=h2 at*;obtain ⟨l2,d2,q2⟩:=boxed e2 hxt d1 gxt;intro xr hxr gxr;have s3:=s2.grow (o := .cells #[rb] 3 (0,0)) hxr;generalize e3:Hp.set h2 xr _=h3 at*;obtain ⟨l3,d3,q3⟩:=boxed e3 hxr d2 gxr;have LB:=l1.trans (l2.trans l3);have q1B:=l3 _ _ (l2 _ _ q1);have q2B:=l3 _ _ q2;intro xf hxf gxf;have s4:=s3.new (o:=ij p) hxf;generalize e4:Hp.set h3 xf _=h4 at*;obtain ⟨l4,d4,q4⟩:=boxed e4 hxf d3 gxf;intro xa hxa gxa;have s5:=s4.new (o := .cells #[t] 3 (0,0)) hxa;generalize e5:Hp.set h4 xa _=h5 at*;obtain ⟨l5,d5,q5⟩:=boxed e5 hxa d4 gxa;intro xh hxh gxh;have s6:=(s5.sel (L':=[h3,noHp.set xf (ij p),noHp.set xa (.cells #[t] 3 (0,0))]) [2,1,0] (by decide) rfl).grow (o:=ij hm) hxh;have lB:h3.le (h3.set xh (ij hm)):=dl (s5.in 2 rfl |>.none hxh);have bh:(h3.set xh (ij hm)) xh=some (ij hm):=bj;generalize e6:Hp.set h5 xh _=h6 at*;obtain ⟨l6,d6,q6⟩:=boxed e6 hxh d5 gxh;generalize h3.set xh (ij hm)=B at*;have dB:Dis G B:=fun y o hy=>d6 y o (s6.hd _ _ hy);have LhB:=LB.trans lB;have cc6:∀k,bf G h6 ⟨xc,k,none⟩=_:=fun k=>bm (bk (s6.hd _ _ (lB _ _ q1B)));have Lh6:h.le h6:=LhB.trans s6.hd;have sN:HL.Sep [noHp,h] h6:=(((s6.sel (L':=[B]) [0] (by decide) rfl).cut LhB).none);try simp only [ig,cc6]
 refine (ak9 (ca.up Lh6 d6).cv st hro hsl).mono ?_;rintro _ h6 ⟨⟨b,rfl,hb⟩,rfl⟩;cases b with
 |false=>
  try simp only [ig]
  exact ⟨.no 5,⟨noHp,_,rfl,Slc.nil,by simp [outL],sN,d6⟩,.inl ⟨fun h=>by simpa using hb.2 h,rfl⟩⟩
 |true=>
 have mk:dv C:=hb.1 rfl;try simp only [ig]
 refine ap8 (q:=⟨C,T,rb,.pointer (some ⟨tp,0,none⟩),xc,xt,xr,xf,xa,0,0⟩) (B:=B) (h0:=h) st ⟨⟨ab,cb,ap,cp',ar,cr,az,cs,ca.up LhB dB,lB _ _ q1B⟩,lB _ _ q2B,lB _ _ q3,TabV.up ⟨tp,rfl,ts,gT,fT⟩ LhB dB,mk,hro,fit,hbu mk⟩ pp ph (ss.up LhB dB) hS hl bh LhB
  (by simp (disch:=decide) only [ig]) (by simp (disch:=decide) only [ig]) (by simp (disch:=decide) only [ig]) (by simp (disch:=decide) only [ig]) (by simp (disch:=decide) only [ig]) (by simp (disch:=decide) only [ig]) (by simp (disch:=decide) only [ig]) (s6.sel [1,2,0] (by decide) rfl) d6 fun u h' hR=>⟨_,hR,.inr ⟨mk,rfl⟩⟩
def C13:Conf:=⟨3,1,1,[],[],[],[],10,2,4,1,6,1,1,100,false⟩
def W13:Res Move:=vq C13 [[],[],[]] 0 ⟨0,0,false⟩ 3 [⟨0,0,3⟩] ⟨1,0,false⟩
theorem w13:outE W13=0/\outL W13=[⟨3,0,0,⟨0,0,false⟩,⟨0,0,false⟩,3,9⟩,⟨1,1,1,⟨0,0,false⟩,⟨1,0,false⟩,9,13⟩]:=by decide +kernel
theorem made13:dv C13:=by rw [Ag,may_nil rfl rfl rfl rfl];rfl
theorem awake13 {G h:Hp} (st:jy G):bn P_ G 32 #[] h (fun u h'=>u = .bool true/\h'=h):=by
 refine bn.assume fun d=>quietly (enter32 (by simp) ?_);unfold S32;simp (disch:=first|decide|exact bv|exact bo|omega|rfl) only [ig];intro xc hxc gxc;generalize e1:Hp.set h xc _=h1 at*;obtain ⟨l1,d1,bc1⟩:=boxed e1 hxc d gxc;try simp (disch:=first|decide|omega) only [ig,Nat.reduceAdd,Nat.reduceMul]
 refine (Rv.ul (G:=G) (h:=h1) (n:=3) (by decide) (by decide)).mono ?_;rintro _ h2 ⟨ta,tp,rfl,tab,s2,d2⟩;try simp only [ig]
 unfold aM5;have cc2:∀k,bf G h2 ⟨xc,k,none⟩=_:=fun k=>bm (bk (s2.at 1 rfl bc1));try simp (disch:=decide) only [ig,cc2]
 intro xs hxs gxs;have s3:=s2.new (o := .cells #[(0:Int),(0:Int),(3:Int)] 119 (0,0)) hxs;have d3:=d2.set (o := .cells #[(0:Int),(0:Int),(3:Int)] 119 (0,0)) gxs;try simp (disch:=first|decide|omega) only [ig,Nat.reduceAdd,Nat.reduceMul]
 generalize Hp.set h2 xs _=h3 at*;have hpb:∀x:Int,0<=x->x<=1->Bd x:=fun x h1 h2=>⟨by omega,by omega⟩
 have hf:=Ip (G:=G) (h:=h3) (C:=C13) (v:=U9 C13 none 0 none 0 none 0 none 0) (vt := .pointer (some ⟨tp,0,none⟩)) (sv := .slice (some ⟨xs,0,none⟩) 1 1) (T:=[[],[],[]]) (p:=⟨0,0,false⟩) (hm:=⟨1,0,false⟩) (rb:=0) (t:=3) (S:=[⟨0,0,3⟩]) (ca_nil rfl rfl rfl rfl).cv st (by intro p hp;cases hp) ⟨by unfold Room C13;decide,by unfold Room C13;decide,by unfold Room C13;decide,by unfold Room C13;decide,by intro s hs;cases hs⟩ (fun _=>by decide)
  ⟨tp,rfl,tab.see (s3.in 1 rfl),Jh (n:=3),au9 (n:=3)⟩ ⟨hpb 0 (by decide) (by decide),hpb 0 (by decide) (by decide)⟩ ⟨hpb 1 (by decide) (by decide),hpb 0 (by decide) (by decide)⟩
  (Sees.row (c:=stpC) (L:=[⟨0,0,3⟩]) (s3.at 0 rfl bj) rfl (Nat.le_refl _)) (fun s hs=>by rw [List.mem_singleton]at hs;subst hs;exact ⟨hpb 0 (by decide) (by decide),hpb 0 (by decide) (by decide)⟩) (by decide)
 simp only [C13,U9,ld,List.length_nil]at hf;refine hf.mono ?_;rintro _ h4 ⟨W,⟨ip,vs,rfl,sl,_,s4,d4⟩,⟨hno,_⟩|⟨_,rfl⟩⟩
 . exact absurd made13 hno
 have w1:outE W13=0:=w13.1;have w2:outL W13=[⟨3,0,0,⟨0,0,false⟩,⟨0,0,false⟩,3,9⟩,⟨1,1,1,⟨0,0,false⟩,⟨1,0,false⟩,9,13⟩]:=w13.2;unfold W13 C13 at w1 w2;rw [w2]at sl;rw [w1];obtain ⟨sa,cap,rfl,_⟩:=sl.len (by decide);have see:=sl.see (G:=G) (by decide) (s4.in 0 rfl);obtain ⟨b,o,rfl,x0,x1,x2,x3,x4,x5,x6,x7,x8,x9,x10⟩:=Sees.mvx see (i:=0) rfl;obtain ⟨b',o',e',y0,y1,y2,y3,y4,y5,y6,y7,y8,y9,y10⟩:=Sees.mvx see (i:=1) rfl;cases e';simp only [Nat.zero_mul,Nat.add_zero,Nat.one_mul]at x0 x1 x2 x3 x4 x5 x6 x7 x8 x9 x10 y0 y1 y2 y3 y4 y5 y6 y7 y8 y9 y10;try simp only [ig,Nat.reduceAdd,ix40 (by decide:(0:Int)<=0) (by decide:(0:Int)<(2:Nat)),ix40 (by decide:(0:Int)<=1) (by decide:(1:Int)<(2:Nat)),Int.toNat_zero,Nat.zero_mul,List.length_cons,List.length_nil,x0,x9,x10,y0,y10]
 have htwo:(((2:Nat):Int)==2)=true:=rfl;try simp only [ig,htwo,show Int.toNat 1=1 from rfl,Nat.one_mul,ix40 (by decide:(0:Int)<=0) (by decide:(0:Int)<(2:Nat)),ix40 (by decide:(0:Int)<=1) (by decide:(1:Int)<(2:Nat)),Int.toNat_zero,Nat.zero_mul,List.length_cons,List.length_nil,x0,x9,x10,y0,y10]
 exact l1.trans ((s3.in 2 rfl).trans (s4.in 1 rfl))
def kw:=jq bC (jq (jq (jq (jq @al186 (jq @Gv @Vk)) (jq @bne_self_eq_false.{0} (jq @N7 @J3))) (jq (jq @cf24 (jq @cf25 @cf50)) (jq @cf91 (jq @cf92 @U0)))) (jq (jq (jq @fa186_0 (jq @Jt @Js)) (jq @Jr (jq @Ap @C0))) (jq (jq @ld186 (jq @ld186p @ld3)) (jq (jq @ld3p @ln114) (jq @ai2 @st186w)))))
def WB (x:Want):Prop:=Bd x.c/\Bd x.f/\Bd x.t
def othN (n:Nat) (l:List Want):Nat->Tb
 |0=>List.replicate n []
 |i+1=>match l[i]? with
  |some x=>(jw (othN n l i) (1+((i % 3:Nat):Int)) [⟨x.c % (n:Int),x.f,x.t⟩]).2
  |none=>othN n l i
def tabO (n:Nat) (l:List Want):Tb:=othN n l (min 30 l.length)
theorem P1 {n:Nat} {l:List Want}:∀i:Nat,jf (othN n l i)/\Few (othN n l i) i/\(othN n l i).length=n
 |0=>⟨Jh,fun L hL=>by rw [List.eq_of_mem_replicate hL];exact Nat.le_refl _,List.length_replicate ..⟩
 |i+1=>by
  obtain ⟨g,f,e⟩:=P1 (n:=n) (l:=l) i;unfold othN;split
  . rename_i x hx;obtain ⟨g1,f1,l1⟩:=am7 (r:=1+((i % 3:Nat):Int)) (l:=[⟨x.c % (n:Int),x.f,x.t⟩]) g f;exact ⟨g1,f1,l1.trans e⟩
  . exact ⟨g,fun L hL=>Nat.le_succ_of_le (f L hL),e⟩
theorem tabO_ok (n:Nat) (l:List Want):jf (tabO n l)/\Few (tabO n l) 100/\(tabO n l).length=n:=by obtain ⟨g,f,e⟩:=P1 (n:=n) (l:=l) (min 30 l.length);exact ⟨g,fun L hL=>by have:=f L hL;omega,e⟩
theorem tmod3 {i:Nat}:((i:Int)).tmod 3=((i % 3:Nat):Int):=by rw [Int.tmod_eq_emod_of_nonneg (by omega)];omega
theorem Tl {G h:Hp} {v lv:Value} {C:Conf} {l:List Want} (hv:CV G h v C) (sm:SmO C) (hl:yc Rv.j5 G lv l) (hb:∀x∈l,WB x):
 bn P_ G 56 #[v,lv] h (fun u h'=>∃a1 a2 t1 t2,u = .tuple #[.pointer (some ⟨t1,0,none⟩),.pointer (some ⟨t2,0,none⟩),.bool true]/\
  Rv.Tab 124 a1 t1 (tabO (C.w*C.h).toNat l)/\Rv.Tab 188 a2 t2 (tabO (C.w*C.h).toNat l)/\HL.Sep [a1,a2,h] h'/\Dis G h'):=by
 obtain ⟨ab,cb,ap,cp,ar,cr,az,cs,rfl,ca⟩:=hv;obtain ⟨n1,n2,n3,n4⟩:=ap2 sm;refine bn.assume fun d=>enter56 (by simp) ?_;unfold S56;simp (disch:=first|decide|omega) only [kw];intro xc hxc gxc;have s0:=(HL.Sep.one (h:=h)).past (o := .cells #[C.w,C.h,C.ht,.slice ab C.bl.length cb,.slice ap C.po.length cp,.slice ar C.ro.length cr,.slice az C.st.length cs,C.un,C.ac,C.sp,C.tu,C.ho,C.qu,C.re,C.bu,.bool C.back] 26 (0,0)) hxc;generalize e1:Hp.set h xc _=h1 at*;obtain ⟨l1,d1,bc1⟩:=boxed e1 hxc d gxc;have cc:∀{h':Hp},h1.le h'->∀k,bf G h' ⟨xc,k,none⟩=_:=fun l k=>bm (bk (l _ _ bc1));try simp (disch:=first|decide|omega) only [kw,Nat.reduceAdd,Nat.reduceMul,cc (Hp.le.refl _)]
 first|rw [n3]|rw [<- n4]
 generalize hn:(C.w*C.h).toNat=n at*;refine (Rv.ul (n:=n) (by omega) (by omega)).mono ?_;rintro _ h2 ⟨a1,t1,rfl,tab1,s2,d2⟩;try simp (disch:=first|decide|omega) only [kw,cc (s2.in 1 rfl)]
 first|rw [n3]|rw [<- n4]
 refine (Rv.ai0 (n:=n) (by omega) (by omega)).mono ?_;rintro _ h3 ⟨a2,t2,rfl,tab2,s3,d3⟩;try simp (disch:=first|decide|omega) only [kw,Nat.reduceAdd,Nat.reduceMul]
 have s4:HL.Sep [a1,a2,h1] h3:=(HL.Sep.open (L:=[a1,h1]) (R:=[a2]) s3.swap s2).sel [0,2,1] (by decide) rfl;unfold aJ4;generalize hKK:retK P_ G _ _=KK;obtain ⟨la,lc,rfl,_⟩:=(hl h d).len
 refine dp (fun m p h'=>∃(i:Nat) (a1 a2:Hp),m=30-i/\i<=30/\i<=l.length/\p 1 = .slice la l.length lc/\p 2 = .pointer (some ⟨xc,0,none⟩)/\p 7 = .pointer (some ⟨t1,0,none⟩)/\p 9 = .pointer (some ⟨t2,0,none⟩)/\p 10 = .int .i64 i/\
  Rv.Tab 124 a1 t1 (othN n l i)/\Rv.Tab 188 a2 t2 (othN n l i)/\HL.Sep [a1,a2,h1] h'/\Dis G h') ?_ (m:=30)
  ⟨0,a1,a2,rfl,by omega,by omega,by simp (disch:=decide) only [kw],by simp (disch:=decide) only [kw],by simp (disch:=decide) only [kw],by simp (disch:=decide) only [kw],by simp only [kw];rfl,tab1,tab2,s4,d3⟩
 clear tab1 tab2 s4 d3 s3 d2 s2;rintro m p h4 ⟨i,a1,a2,rfl,hi,hil,g1,g2,g7,g9,g10,tab1,tab2,s,d4⟩ X hX;obtain ⟨gT,fT,lT⟩:=P1 (n:=n) (l:=l) i;have fin:¬(i<l.length/\i<30)->othN n l i=tabO n l:=fun hh=>by unfold tabO;congr 1;omega
 have hnext:∀x,l[i]?=some x->othN n l (i+1)=(jw (othN n l i) (1+((i % 3:Nat):Int)) [⟨x.c % (n:Int),x.f,x.t⟩]).2:=fun x hx=>by show (match l[i]? with|some x=>_|none=>_)=_;rw [hx]
 generalize hT:othN n l i=T at*;unfold aJ3;simp only [kw,g10,g1]
 have go:¬(i<l.length/\i<30)->∀r':Rg,r' 7 = .pointer (some ⟨t1,0,none⟩)->r' 9 = .pointer (some ⟨t2,0,none⟩)->df 0 (dj (Xv G KK) KK) (.exit 0) r' h4:=fun hh r' e7 e9=>by
  try simp only [kw]
  unfold Xv;rw [<- hKK];try simp (disch:=decide) only [kw,e7,e9]
  have s5:=((s.sel (L':=[h1,a1,a2]) [2,0,1] (by decide) rfl).cut l1).sel (L':=[a1,a2,h]) [1,2,0] (by decide) rfl;refine ⟨a1,a2,t1,t2,rfl,?_,?_,s5,d4⟩
  . rw [<- fin hh];exact tab1
  . rw [<- fin hh];exact tab2
 by_cases q1:(i:Int)<l.length;rotate_left
 . try simp only [kw,lj q1,gk]
   exact go (by omega) _ (by simp (disch:=decide) only [kw,g7]) (by simp (disch:=decide) only [kw,g9])
 by_cases q2:(i:Int)<30;rotate_left
 . try simp only [kw,li q1,lj q2]
   exact go (by omega) _ (by simp (disch:=decide) only [kw,g7]) (by simp (disch:=decide) only [kw,g9])
 try simp only [kw,li q1,li q2]
 obtain ⟨y,hy⟩:∃y,l[i]?=some y:=⟨_,List.getElem?_eq_getElem (by omega)⟩;have hyb:=hb y (List.mem_of_getElem? hy);obtain ⟨b,o,rfl,c0,c1,c2⟩:=Rv.Sees.want (hl h4 d4) hy;have hnx:=hnext y hy;have hi3:i % 3<3:=Nat.mod_lt _ (by decide);generalize hr:i % 3=j at*;have ht3:((i:Int)).tmod 3=(j:Int):=by rw [tmod3,hr]
 unfold O1;simp (disch:=first|decide|exact bv|exact bo|omega|rfl) only [kw,g1,g10,Ja (Int.natCast_nonneg i) q1,c0,c1,c2];intro x hx gx;try simp (disch:=first|decide|omega) only [kw,Nat.reduceAdd,Nat.reduceMul]
 generalize e5:Hp.set h4 x _=h5 at*;obtain ⟨l5,d5,bx5⟩:=boxed e5 hx d4 gx;have s5:=s.past (o := .cells #[y.c,y.f,y.t] 186 (0,0)) hx;rw [e5]at s5;have cx5:∀k,bf G h5 ⟨x,k,none⟩=_:=fun k=>bm (bk bx5);try simp (disch:=first|decide|omega) only [kw,cx5,g2,cc (s5.in 2 rfl)]
 first|rw [n3]|rw [<- n4]
 refine (I2 (a:=y.c) (n:=(n:Int)) hyb.1 (by omega) (by omega)).mono ?_;rintro _ h5 ⟨rfl,rfl⟩;try simp (disch:=first|decide|omega) only [kw,Nat.reduceAdd,Nat.reduceMul]
 rw [dr sz3 rfl bx5 (by simp)];try simp only [kw]
 rw [<- e5,set_set];generalize e7:Hp.set h4 x _=h7;obtain ⟨l7,d7,bx7⟩:=boxed e7 hx d4 gx;have s7:=s.new (o := .cells #[.int .i64 (y.c % (n:Int)),y.f,y.t] 186 (0,0)) hx;rw [show h4.set x (.cells #[.int .i64 (y.c % (n:Int)),y.f,y.t] 186 (0,0))=h7 from e7]at s7;refine ⟨noHp.set x (.cells #[.int .i64 (y.c % (n:Int)),y.f,y.t] 186 (0,0)),s7.in 0 rfl,?_⟩;have cx7:∀k,bf G (noHp.set x (.cells #[.int .i64 (y.c % (n:Int)),y.f,y.t] 186 (0,0))) ⟨x,k,none⟩=_:=fun k=>bm (bk bj);try simp only [kw,g10,cx7,ht3]
 intro w hw gw;have s8:=(s7.new (o := .cells #[.int .i64 (y.c % (n:Int)),y.f,y.t] 75 (0,0)) hw);have d8:=d7.set (o := .cells #[.int .i64 (y.c % (n:Int)),y.f,y.t] 75 (0,0)) gw;try simp (disch:=first|decide|omega) only [kw,Nat.reduceAdd,Nat.reduceMul]
 generalize Hp.set h7 w _=h8 at s8 d8 ⊢;rw [g7];refine (Rv.J0 (r:=1+(j:Int)) (l:=[⟨y.c % (n:Int),y.f,y.t⟩]) tab1 (s8.sel [2,0,1,3,4] (by decide) rfl) (Il (w:=⟨y.c % (n:Int),y.f,y.t⟩)) gT fT (by simp;omega)).mono ?_;rintro _ h9 ⟨rfl,a1',tab1',s9,d9⟩;refine ⟨s9.in 2 rfl,?_⟩;try simp (disch:=first|decide|omega) only [kw,Nat.reduceAdd,Nat.reduceMul,g10,cx7,ht3]
 intro w2 hw2 gw2;have s10:=(s9.new (o := .cells #[.int .i64 (y.c % (n:Int)),y.f,y.t] 186 (0,0)) hw2);have d10:=d9.set (o := .cells #[.int .i64 (y.c % (n:Int)),y.f,y.t] 186 (0,0)) gw2;try simp (disch:=first|decide|omega) only [kw,Nat.reduceAdd,Nat.reduceMul]
 generalize Hp.set h9 w2 _=h10 at s10 d10 ⊢;rw [g9];refine (Rv.Td (r:=1+(j:Int)) (l:=[⟨y.c % (n:Int),y.f,y.t⟩]) tab2 (s10.sel [4,0,1,5] (by decide) rfl) (Il (w:=⟨y.c % (n:Int),y.f,y.t⟩)) gT fT (by simp;omega)).mono ?_;rintro _ h11 ⟨rfl,a2',tab2',s11,d11⟩;try simp only [kw]
 unfold O0;try simp (disch:=first|decide|omega) only [kw,g10]
 refine hX (30-(i+1)) _ _ (by omega) ⟨i+1,a1',a2',rfl,by omega,by omega,by simp (disch:=decide) only [kw,g1],by simp (disch:=decide) only [kw,g2],by simp (disch:=decide) only [kw,g7],by simp (disch:=decide) only [kw,g9],by simp only [kw];rfl,?_,?_,s11.sel [2,0,3] (by decide) rfl,d11⟩
 . rw [hnx];exact tab1'
 . rw [hnx];exact tab2'
def ox:=jq bC (jq (jq (jq (jq (jq @Bool.and_self @Xj) (jq @beq_self_eq_true.{0} @El)) (jq (jq @bne_self_eq_false.{0} @Vh) (jq @aE7 @cf21))) (jq (jq (jq @cf24 @cf25) (jq @cf28 @cf32)) (jq (jq @cf33 @cf34) (jq @U0 (jq @ax8 @Uz))))) (jq (jq (jq (jq @Ap @C0) (jq @Cw @ix40)) (jq (jq @ix59p @ld119) (jq @ld26 (jq @Gj @vg)))) (jq (jq (jq @ld3 @th) (jq @ld3p @Tx)) (jq (jq @ln40 @ln40p) (jq @ln59 (jq @ne48p @ky))))))
theorem Sees.first {α:Type} {c:Cod α} {G h:Hp} {a:Option Addr} {len cap:Nat} {L:List α} (s:Sees c G h (.slice a len cap) L) {k:Nat} (hk:k<=L.length):Sees c G h (.slice a k k) (L.take k):=by
 obtain ⟨a',cap',e,h1,h2⟩:=s;cases e;refine ⟨a,k,by rw [List.length_take,Nat.min_eq_left hk],by rw [List.length_take];omega,?_⟩;rcases h2 with rfl|⟨b,o,rfl,hc⟩
 . exact .inl (by simp)
 . refine .inr ⟨b,o,rfl,fun i x hx j hj=>hc i x ?_ j hj⟩;rw [List.getElem?_take]at hx;split at hx
   . exact hx
   . cases hx
theorem eostp:gi P_ 119 stpC.n 24:=eo119
theorem eostp2:gi P_ 175 stpC.n 24:=eo175
theorem Vw {G h:Hp} {sv:Value} {L:List Stp} (hl:Sees stpC G h sv L):
 bn P_ G 33 #[sv] h (fun u h'=>∃ia va ib vb,u = .tuple #[va,vb]/\Slc stpC 119 ia va (L.take 4)/\Slc stpC 175 ib vb (L.take 4)/\HL.Sep [ia,ib,h] h'/\Dis G h'):=by
 obtain ⟨sa,sc,rfl,_⟩:=id hl;refine bn.assume fun d=>enter33 (by simp) ?_;unfold S33;generalize hKK:retK P_ G _ _=KK
 refine dp (fun m p h'=>∃(i:Nat) (ia va ib vb:_),m=4-i/\i<=4/\i<=L.length/\p 0 = .slice sa L.length sc/\p 4=va/\p 5=vb/\p 6 = .int .i64 i/\Slc stpC 119 ia va (L.take i)/\Slc stpC 175 ib vb (L.take i)/\HL.Sep [ia,ib,h] h'/\Dis G h') ?_ (m:=4)
  ⟨0,noHp,_,noHp,_,rfl,by omega,by omega,by simp (disch:=decide) only [ox],by simp (disch:=decide) only [ox],by simp (disch:=decide) only [ox],by simp only [ox]<;>rfl,Slc.nil,Slc.nil,HL.Sep.one.none.none,d⟩
 rintro m p h1 ⟨i,ia,va,ib,vb,rfl,hi,hil,p0,p4,p5,p6,slA,slB,s,d1⟩ X hX;unfold aM4;simp only [ox,p0,p6]
 have go:¬(i<L.length/\i<4)->∀r':Rg,r' 4=va->r' 5=vb->df 0 (dj (X3 G KK) KK) (.exit 0) r' h1:=fun hh r' e4 e5=>by
  try simp only [ox]
  unfold X3;rw [<- hKK];obtain ⟨a1,c1,rfl,_⟩:=id (slA.len (by decide));obtain ⟨a2,c2,rfl,_⟩:=id (slB.len (by decide))
  have e:L.take i=L.take 4:=by
   by_cases h4:i=4
   . rw [h4]
   . have:i=L.length:=by omega
     rw [this,List.take_length,List.take_of_length_le (by omega)]
  rw [e]at slA slB e4 e5;try simp (disch:=decide) only [ox,e4,e5]
  exact ⟨ia,_,ib,_,rfl,slA,slB,s,d1⟩
 by_cases q1:(i:Int)<L.length;rotate_left
 . try simp only [ox,lj q1,gk]
   exact go (by omega) _ (by simp (disch:=decide) only [ox,p4]) (by simp (disch:=decide) only [ox,p5])
 by_cases q2:(i:Int)<4;rotate_left
 . try simp only [ox,li q1,lj q2]
   exact go (by omega) _ (by simp (disch:=decide) only [ox,p4]) (by simp (disch:=decide) only [ox,p5])
 obtain ⟨z,hz⟩:∃z,L[i]?=some z:=⟨_,List.getElem?_eq_getElem (by omega)⟩;obtain ⟨b,o,rfl,c0,c1,c2⟩:=Sees.stp (hl.up (s.in 2 rfl) d1) hz;try simp only [ox,li q1,li q2]
 unfold Pi;obtain ⟨a1,cp1,rfl,_⟩:=id (slA.len (by decide));obtain ⟨a2,cp2,rfl,_⟩:=id (slB.len (by decide));try simp (disch:=first|decide|omega) only [ox,p0,p6,p4,ix59 (Int.natCast_nonneg i) q1,c0,c1,c2]
 intro x hx gx;try simp (disch:=first|decide|omega) only [ox,Nat.reduceAdd,Nat.reduceMul]
 have s2:=s.new (o := .cells #[z.x,z.y,z.k] 119 (0,0)) hx;have d2:=d1.set (o := .cells #[z.x,z.y,z.k] 119 (0,0)) gx;generalize Hp.set h1 x _=h2 at*;refine dw stpC (by decide) (M:=[z]) un59 eostp (by decide) (by decide) (s2.sel (L':=[ia,noHp.set x _,ib,h]) [1,0,2,3] (by decide) rfl) d2 slA (Sees.row (c:=stpC) (L:=[z]) (s2.at 0 rfl bj) rfl (Nat.le_refl _)) (by simp;omega) fun v3 i3 h3 o3 s3 d3=>?_;obtain ⟨b',o',e',c0',c1',c2'⟩:=Sees.stp (hl.up (s3.in 3 rfl) d3) hz;cases e';obtain ⟨a3,cp3,rfl,_⟩:=id (o3.len (by decide));try simp only [ox,p0,p5,p6,ix59p (Int.natCast_nonneg i) q1,c0',c1',c2']
 intro y hy gy;try simp (disch:=first|decide|omega) only [ox,Nat.reduceAdd,Nat.reduceMul]
 have s4:=s3.new (o := .cells #[z.x,z.y,z.k] 175 (0,0)) hy;have d4:=d3.set (o := .cells #[z.x,z.y,z.k] 175 (0,0)) gy;generalize Hp.set h3 y _=h4 at*;refine dw stpC (by decide) (M:=[z]) un60 eostp2 (by decide) (by decide) (s4.sel (L':=[ib,noHp.set y _,i3,h]) [3,0,1,4] (by decide) rfl) d4 slB (Sees.row (c:=stpC) (L:=[z]) (s4.at 0 rfl bj) rfl (Nat.le_refl _)) (by simp;omega) fun v5 i5 h5 o5 s5 d5=>?_;try simp (disch:=first|decide|omega) only [ox,Nat.reduceAdd,Nat.reduceMul]
 unfold Ph;try simp (disch:=first|decide|omega) only [ox,p6]
 have et:L.take (i+1)=L.take i++[z]:=by rw [List.take_add_one,hz];rfl
 refine hX (4-(i+1)) _ _ (by omega) ⟨i+1,i3,.slice a3 (L.take i++[z]).length cp3,i5,v5,rfl,by omega,by omega,by simp (disch:=decide) only [ox,p0],by simp (disch:=decide) only [ox],by simp (disch:=decide) only [ox],by simp only [ox]<;>rfl,by rw [et];exact o3,by rw [et];exact o5,s5.sel [2,0,3] (by decide) rfl,d5⟩
section
variable {C:Conf}
end
end Go.Proofs.YtfflipnhffknnaaGreatDoor
end
section
namespace Go.Proofs.YtfflipnhffknnaaGreatDoor
open Go Go.HL
section
variable (G:Hp) (K:EK) (r:Rg) (h:Hp)
end
end Go.Proofs.YtfflipnhffknnaaGreatDoor
end
section
namespace Go.Proofs.YtfflipnhffknnaaGreatDoor
open Go Go.HL Go.Proofs.Resv Go.Proofs.Srch
theorem am3 {G h k a q:Hp} {C:Conf} {u:Value} (co:CopyR G h C u k) (s:HL.Sep [a,q] h):∃Q,HL.Sep [a,Q] k/\q.le Q/\Dis G k/\Dis G Q/\CV G Q u C:=by
 obtain ⟨⟨pb,pp_,pr,pz,vb,vp,vr,vz,eu,ob,op,or,oz,sp⟩,dk⟩:=co;have s1:=HL.Sep.open (L:=[a,q]) (R:=[pb,pp_,pr,pz]) (sp.sel [4,0,1,2,3] (by decide) rfl) s
 obtain ⟨Q,sQ,tQ⟩:=HL.Sep.pack [q,pb,pp_,pr,pz] (R:=[a]) (s1.sel [1,2,3,4,5,0] (by decide) rfl);have dQ:Dis G Q:=fun x o hx=>dk x o (sQ.hd _ _ hx);have coB:CO noHp C u Q pb pp_ pr pz vb vp vr vz:=⟨eu,ob,op,or,oz,(tQ.sel (L':=[pb,pp_,pr,pz]) [1,2,3,4] (by decide) rfl).none.sel [1,2,3,4,0] (by decide) rfl⟩;exact ⟨Q,sQ.swap,tQ.in 0 rfl,dk,dQ,coB.cv (Hp.le.refl _)⟩
theorem Mu {α:Type} (c:Cod α) (hn:0<c.n) {L:List α} {t:List Value} {i j:Nat} {x y:α} {v:Value} (hx:L[i]?=some x) (hj:j<c.n) (he:c.enc y=(c.enc x).set j v):(c.rows L++t).set (i*c.n+j) v=c.rows (L.set i y)++t:=by
 have hi:=(List.getElem?_eq_some_iff.1 hx).1;have hle:(i+1)*c.n<=L.length*c.n:=Nat.mul_le_mul_right _ hi;rw [Nat.succ_mul]at hle;apply List.ext_getElem?;intro q;rw [List.getElem?_set];by_cases hq:q<L.length*c.n
 . have hq1:q / c.n<L.length:=Nat.div_lt_of_lt_mul (by rw [Nat.mul_comm];exact hq);have hq2:q % c.n<c.n:=Nat.mod_lt _ hn;have hq3:q=(q / c.n)*c.n+q % c.n:=by rw [Nat.mul_comm];exact (Nat.div_add_mod q c.n).symm
   generalize q / c.n=i' at*;generalize q % c.n=j' at*;subst hq3;obtain ⟨x',hx'⟩:∃x',L[i']?=some x':=⟨_,List.getElem?_eq_getElem hq1⟩;by_cases hii:i=i'
   . subst hii;rw [hx]at hx';cases hx';have h2:(L.set i y)[i]?=some y:=by rw [List.getElem?_set_self hi]
     rw [c.rows_get (t:=t) h2 hq2,c.rows_get (t:=t) hx hq2,he,List.getElem?_set];by_cases hjj:j=j'
     . subst hjj;rw [if_pos rfl,if_pos rfl,if_pos (by rw [List.length_append,c.rows_length];omega),if_pos (by rw [c.len];exact hj)]
     . rw [if_neg (by omega),if_neg hjj]
   . have h2:(L.set i y)[i']?=some x':=by rw [List.getElem?_set_ne hii];exact hx'
     rw [c.rows_get (t:=t) h2 hq2,c.rows_get (t:=t) hx' hq2,if_neg ?_];intro e;rcases Nat.lt_or_gt_of_ne hii with h|h
     . have:=Nat.mul_le_mul_right c.n (show i+1<=i' from h);rw [Nat.succ_mul]at this;omega
     . have:=Nat.mul_le_mul_right c.n (show i'+1<=i from h);rw [Nat.succ_mul]at this;omega
 . rw [if_neg (by omega),List.getElem?_append_right (by rw [c.rows_length];omega),List.getElem?_append_right (by rw [c.rows_length,List.length_set];omega),c.rows_length,c.rows_length,List.length_set]
theorem Ij {α:Type} {c:Cod α} {e:TypeId} {a:Hp} {v:Value} {L:List α} (o:Slc c e a v L) (hL:L≠[]):∃b cap t,v = .slice (some ⟨b,0,none⟩) L.length cap/\a b=some (.cells (c.rows L++t).toArray e (0,0))/\(c.rows L++t).length=cap*c.n:=by
 obtain ⟨ob,o⟩:=o;cases ob with
 |none=>exact absurd o.2 hL
 |some b=>obtain ⟨cap,t,e1,e2,e3⟩:=o;exact ⟨b,cap,t,e1,e2,e3⟩
theorem ao7 {P:Program} {G:Hp} {α:Type} (c:Cod α) (hn:0<c.n) {T e:TypeId} (hi:(P.info? T).map (·.size)=some 1) {h a:Hp} {R:List Hp} {b len cap:Nat} {L:List α} {i j o:Nat} {x y:α} {w:Value} (sl:Slc c e a (.slice (some ⟨b,0,none⟩) len cap) L) (s:HL.Sep (a::R) h) (d:Dis G h) (hx:L[i]?=some x) (hj:j<c.n) (he:c.enc y=(c.enc x).set j w) (h1:kf w=true) (ho:o=i*c.n+j) {K:Unit->Hp->Prop}
 (H:∀a' h',Slc c e a' (.slice (some ⟨b,0,none⟩) len cap) (L.set i y)->HL.Sep (a'::R) h'->Dis G h'->K () h'):wpH P G (Instr.storeAt T (.pointer (some ⟨b,o,none⟩)) w) h K:=by
 have hL:L≠[]:=fun h=>by rw [h]at hx;simp at hx
 have hil:=(List.getElem?_eq_some_iff.1 hx).1;obtain ⟨b',cap',t,e1,e2,e3⟩:=Ij sl hL;simp only [Value.slice.injEq,Option.some.injEq,Addr.mk.injEq]at e1;obtain ⟨⟨rfl,_,_⟩,rfl,rfl⟩:=e1;have hle:(i+1)*c.n<=L.length*c.n:=Nat.mul_le_mul_right _ hil;rw [Nat.succ_mul]at hle;have hlen:i*c.n+j<(c.rows L++t).length:=by rw [List.length_append,c.rows_length];omega
 subst ho;rw [dr hi h1 (s.hd _ _ e2) hlen,Mu c hn hx hj he];refine H _ _ ⟨some b,cap,t,by rw [List.length_set],bj,?_⟩ (s.put e2) (d.set (d _ _ (s.hd _ _ e2)));rw [<- Mu c hn hx hj he,List.length_set];exact e3
theorem copy_le {G h k:Hp} {C:Conf} {u:Value} (co:CopyR G h C u k):h.le k:=by obtain ⟨⟨_,_,_,_,_,_,_,_,co⟩,_⟩:=co;exact co.sep.in 4 rfl
def iy:=jq bC (jq (jq (jq (jq @beq_self_eq_true.{0} (jq @J3 @cf21)) (jq (jq @cf28 @cf32) (jq @cf33 @cf34))) (jq (jq @cf37 (jq @cf38 @cf39)) (jq (jq @cf50 @cf56) (jq @cf58 @cf59)))) (jq (jq (jq @eq4 (jq @eq68s @ex2)) (jq (jq @av0 @Y6) (jq @Y5 @ix71p))) (jq (jq (jq @ld26 @Gj) (jq @ld3 @ld30)) (jq (jq @th @ld3p) (jq @ld75 @ln71)))))
theorem am5 {G h ih:Hp} {R:List Hp} {t:Int} {L:List Want} {v:Value} (bt:Bd t) (hL:∀w∈L,Bd w.f/\Bd w.t) (hl:L.length<=500000) (sl:Slc Rv.j5 75 ih v L) (s:HL.Sep (ih::R) h) (d:Dis G h) {X:Exit->Rg->Hp->Prop} {r:Rg} (g3:r 3 = .int .i64 t) (g22:r 22=v) (g23:r 23 = .slice none 0 0) (g24:r 24 = .int .i64 0)
 (H:∀(r':Rg) (h' ih' il:Hp) (vl:Value),(∀y,1<=y->y<=22->r' y=r y)->r' 23=vl->Slc Rv.j5 75 il vl (xq t L)->HL.Sep (il::ih'::R) h'->Dis G h'->X (.exit 0) r' h'):
 dt (X6 G) r h X:=by
 obtain ⟨va,vc,rfl,_⟩:=id (sl.len (by decide))
 refine dp (fun m p h'=>∃(i:Nat) (ih' il:Hp) (vl:Value) (N:List Want),m=L.length-i/\i<=L.length/\(∀y,1<=y->y<=22->p y=r y)/\p 23=vl/\p 24 = .int .i64 i/\N.length=L.length/\(∀k,i<=k->N[k]?=L[k]?)/\Slc Rv.j5 75 ih' (.slice va L.length vc) N/\Slc Rv.j5 75 il vl (xq t (L.take i))/\HL.Sep (il::ih'::R) h'/\Dis G h') ?_ (m:=L.length)
  ⟨0,ih,noHp,.slice none 0 0,L,rfl,Nat.zero_le _,fun _ _ _=>rfl,g23,g24,rfl,fun _ _=>rfl,sl,Slc.nil,s.none,d⟩
 clear sl s d;rintro m p h1 ⟨i,ih1,il,vl,N,rfl,hi,hp,p23,p24,hN,hNk,sl,sll,s,d⟩ Y hY;have p3:=(hp 3 (by decide) (by decide)).trans g3;have p22:=(hp 22 (by decide) (by decide)).trans g22;unfold X6;simp only [iy,p22,p24];refine ci (fun hlt=>?_) (fun hge=>?_);rotate_left
 . obtain rfl:i=L.length:=by omega
   rw [List.take_length]at sll;try simp (disch:=first|decide|omega) only [iy,Nat.reduceAdd,Nat.reduceMul]
   exact H _ h1 ih1 il vl (fun y h1 h2=>by simp (disch:=omega) only [bw];exact hp y h1 h2) (by simp (disch:=decide) only [iy,p23]) sll s d
 obtain ⟨z,hz⟩:∃z,L[i]?=some z:=⟨_,List.getElem?_eq_getElem (by omega)⟩;obtain ⟨zf,zt⟩:=hL z (List.mem_of_getElem? hz);have hNz:N[i]?=some z:=by rw [hNk i (Nat.le_refl _)];exact hz
 have hNe:N≠[]:=fun h=>by rw [h]at hNz;simp at hNz
 have sl0:=sl;obtain ⟨b,cap,_,e1,_,_⟩:=Ij sl hNe;simp only [Value.slice.injEq]at e1;obtain ⟨rfl,_,rfl⟩:=e1;have see1:Sees Rv.j5 G h1 (.slice (some ⟨b,0,none⟩) L.length vc) N:=sl.see (by decide) (s.in 1 rfl);obtain ⟨b1,o1,e2,y0,y1,y2⟩:=Rv.Sees.want see1 hNz;simp only [Option.some.injEq,Addr.mk.injEq]at e2;obtain ⟨rfl,rfl,_⟩:=e2;simp only [Nat.zero_add]at y0 y1 y2;unfold Pm;try simp (disch:=first|decide|omega) only [iy,p3,p22,p24,ix71 (Int.natCast_nonneg i) hlt,y0,y1,y2,max2w]
 refine ao7 Rv.j5 (by decide) (j:=1) (y:=pd t z) sz3 sl s.swap d hNz (by decide) rfl rfl rfl fun ih2 h2 sl2 s2 d2=>?_;have hN2:(N.set i (pd t z))[i]?=some (pd t z):=by rw [List.getElem?_set_self (by omega)]
 have see2:Sees Rv.j5 G h2 (.slice (some ⟨b,0,none⟩) L.length vc) _:=sl2.see (by decide) (s2.in 0 rfl);obtain ⟨b2,o2,e3,x0,x1,x2⟩:=Rv.Sees.want see2 hN2;simp only [Option.some.injEq,Addr.mk.injEq]at e3;obtain ⟨rfl,rfl,_⟩:=e3;simp only [Nat.zero_add]at x0 x1 x2;try simp only [iy,p22,p24,ix71p (Int.natCast_nonneg i) hlt,x0,x1,x2]
 have hNk2:∀k,i+1<=k->(N.set i (pd t z))[k]?=L[k]?:=fun k hk=>by rw [List.getElem?_set_ne (by omega)];exact hNk k (by omega)
 have htk:xq t (L.take (i+1))=xq t (L.take i)++if (pd t z).f<(pd t z).t then [pd t z]else []:=by
  unfold xq;rw [List.take_add_one,hz,List.map_append,List.filter_append];congr 1;show List.filter _ [pd t z]=_;by_cases hc:(pd t z).f<(pd t z).t
  . rw [if_pos hc,List.filter_cons_of_pos (by simpa using hc)];rfl
  . rw [if_neg hc,List.filter_cons_of_neg (by simpa using hc)];rfl
 refine ci (fun hc=>?_) (fun hc=>?_)
 . try simp (disch:=first|decide|omega) only [iy,Nat.reduceAdd,Nat.reduceMul,p22,p24,ix71 (Int.natCast_nonneg i) hlt,x0,x1,x2]
   intro q hq gq;have s3:=s2.new (o := .cells #[(pd t z).c,(pd t z).f,(pd t z).t] 75 (0,0)) hq;have d3:=d2.set (o := .cells #[(pd t z).c,(pd t z).f,(pd t z).t] 75 (0,0)) gq;try simp (disch:=first|decide|omega) only [iy,Nat.reduceAdd,Nat.reduceMul]
   generalize Hp.set h2 q _=h3 at*;have hll:(xq t (L.take i)).length<=i:=by unfold xq;refine Nat.le_trans (List.length_filter_le _ _) ?_;rw [List.length_map,List.length_take];omega
   obtain ⟨la,lc,rfl,_⟩:=id (sll.len (by decide));try simp only [iy,p23]
   refine dw Rv.j5 (by decide) (M:=[pd t z]) un71 Zt (by decide) (by decide) s3.rot d3 sll (Sees.row (c:=Rv.j5) (L:=[pd t z]) (s3.at 0 rfl bj) rfl (Nat.le_refl _)) (by simp;omega) fun v4 i4 h4 o4 s4 d4=>?_;try simp (disch:=first|decide|omega) only [iy,Nat.reduceAdd,Nat.reduceMul]
   unfold Bv;try simp (disch:=first|decide|omega) only [iy,p24]
   exact hY (L.length-(i+1)) _ _ (by omega) ⟨i+1,ih2,i4,v4,_,rfl,by omega,fun y h1 h2=>by simp (disch:=omega) only [bw];exact hp y h1 h2,by simp (disch:=decide) only [iy],by simp only [iy]<;>rfl,by rw [List.length_set];exact hN,hNk2,sl2,by rw [htk,if_pos hc];exact o4,s4.swap.drop,d4⟩
 . try simp (disch:=first|decide|omega) only [iy,Nat.reduceAdd,Nat.reduceMul]
   unfold Bv;try simp (disch:=first|decide|omega) only [iy,p24]
   exact hY (L.length-(i+1)) _ _ (by omega) ⟨i+1,ih2,il,vl,_,rfl,by omega,fun y h1 h2=>by simp (disch:=omega) only [bw];exact hp y h1 h2,by simp (disch:=decide) only [iy,p23],by simp only [iy]<;>rfl,by rw [List.length_set];exact hN,hNk2,sl2,by rw [htk,if_neg hc,List.append_nil];exact sll,s2.swap,d2⟩
theorem at7 {w k:Nat} {f:Nat->Nat->Int}:∀{M:List Move} {p:Pose} {t:Int},Bd t->(∀m∈M,Bd m.a/\Bd m.e)->∀x∈m7 w k f p t M,Bd x.f/\Bd x.t:=by
 have one:∀{cells:List Cell} {a b:Int},Bd a->Bd b->∀x∈qd w k cells a b,Bd x.f/\Bd x.t:=by
  intro cells a b ha hb x hx;unfold qd at hx;split at hx
  . cases hx
  . obtain ⟨c,_,rfl⟩:=List.mem_map.1 hx;exact ⟨ha,hb⟩
 intro M;induction M with
 |nil=>exact fun ht _ x hx=>one ht (by unfold Bd FV;omega) x hx
 |cons m M ih=>
  intro p t ht hM x hx;obtain ⟨ha,he⟩:=hM m (.head _);unfold m7 at hx;rcases List.mem_append.1 hx with hx|hx
  . rcases List.mem_append.1 hx with hx|hx
    . exact one ht ha x hx
    . exact one ha he x hx
  . exact ih he (fun m hm=>hM m (.tail _ hm)) x hx
theorem Wo {G:Hp} {v lv sv:Value} {C:Conf} {p hm:Pose} {t:Int} {l:List Want} {S:List Stp} (pp:PB p) (ph:PB hm) (bt:Bd t) (hl:yc Rv.j5 G lv l) (hlb:∀x∈l,WB x) (hs:yc stpC G sv S) (hS:∀s∈S,StpB s) (st:jy G) (hv:CV G noHp v C) (fit:Fit0 C) (hro:∀p∈C.ro,PB p):
 bn P_ G 20 #[v,lv,ld p,t,sv,ld hm] noHp (fun u _=>u = .bool true):=by
 have hv0:=hv;obtain ⟨ab,cb,ap,cp,ar,cr,az,cs,rfl,ca⟩:=hv;refine bn.assume fun d=>enter20 (by simp) ?_;unfold S20;simp only [iy];intro xc hxc gxc x1 hx1 gx1 x2 hx2 gx2;generalize e1:Hp.set noHp xc _=h1 at*;obtain ⟨l1,d1,q1⟩:=boxed e1 hxc d gxc;generalize e2:Hp.set h1 x1 _=h2 at*;obtain ⟨l2,d2,q2⟩:=boxed e2 hx1 d1 gx1;generalize e3:Hp.set h2 x2 _=hz at*;obtain ⟨l3,dz,q3⟩:=boxed e3 hx2 d2 gx2;have L:=l1.trans (l2.trans (l3));have bc:=l3 _ _ (l2 _ _ (q1));have b1:=l3 _ _ (q2);have b2:=q3;have cc:∀{h':Hp},hz.le h'->∀k,bf G h' ⟨xc,k,none⟩=_:=fun l k=>bm (bk (l _ _ bc));have c1:∀{h':Hp},hz.le h'->∀k,bf G h' ⟨x1,k,none⟩=_:=fun l k=>bm (bk (l _ _ b1));have c2:∀{h':Hp},hz.le h'->∀k,bf G h' ⟨x2,k,none⟩=_:=fun l k=>bm (bk (l _ _ b2));have ca0:=ca.up L dz;have lz:=Hp.le.refl hz;have aw:∀{h:Hp} {K:VK},(∀h',K (.bool true) h')->bn P_ G 32 #[] h K:=fun hK=>(awake13 st).mono fun u h' e=>by rw [e.1];exact hK h'
 have hbl:C.bl.length<=100000000000000:=by have:=fit.bl;unfold Room at this;omega
 have hsl:C.st.length<=100000000000000:=by have:=fit.st;unfold Room at this;omega
 try simp only [iy,cc lz]
 refine (B7 ca0.cv fit).mono ?_;rintro u4 k4 ⟨⟨_,_,_,_,_,_,_,_,co4⟩,dk4⟩;have lk4:hz.le k4:=co4.sep.in 4 rfl;try simp (disch:=first|decide|omega) only [iy,Nat.reduceAdd,Nat.reduceMul]
 refine (ul (co4.cv (Hp.le.refl _)) st hro hsl).mono ?_;rintro _ h5 ⟨l5,d5,hmk⟩;have lz5:hz.le h5:=lk4.trans l5;obtain ⟨mk,ga,gp,kb',rfl,go,s5⟩|⟨hno,rfl⟩:=hmk
 rotate_left
 . try simp only [iy,cc lz5]
   refine (Yh (ca0.up lz5 d5).cv).mono ?_;rintro _ h5 ⟨⟨b,rfl,hb⟩,rfl⟩;cases b with
   |true=>exact absurd (Ag.2 (hb rfl).may) hno
   |false=>
   try simp only [iy,gk,show ((5:Int)==0)=false from rfl,cc lz5]
   refine (Fe (ca0.up lz5 d5).cv).mono ?_;rintro _ h5 ⟨⟨b,rfl,hb2⟩,rfl⟩;cases b with
   |true=>exact absurd (Ag.2 (hb2.1 rfl)) hno
   |false=>
   try simp only [iy,show (false==false)=true from rfl]
   exact aw fun h'=>by simp only [iy]
 try simp only [iy,cc lz5]
 refine (Yh (ca0.up lz5 d5).cv).mono ?_;rintro _ h5 ⟨⟨b,rfl,hb⟩,rfl⟩;cases b with
 |false=>
  try simp only [iy,gk,show ((0:Int)==0)=true from rfl,cc lz5]
  refine (Fe (ca0.up lz5 d5).cv).mono ?_;rintro _ h5 ⟨⟨b,rfl,hb2⟩,rfl⟩;cases b with
  |false=>exact absurd (hb2.2 (Ag.1 mk)) (by decide)
  |true=>
  try simp only [iy,show (true==true)=true from rfl]
  exact aw fun h'=>by simp only [iy]
 |true=>
 have sm:=hb rfl;try simp only [iy,show ((0:Int) != 0)=false from rfl]
 unfold aN7;try simp (disch:=decide) only [iy,cc lz5]
 refine (Tl (ca0.up lz5 d5).cv sm hl hlb).mono ?_;rintro _ h6 ⟨a1,a2,t1,t2,rfl,tab1,tab2,s6,d6⟩;have l6:hz.le h6:=lz5.trans (s6.in 2 rfl);obtain ⟨gT,fT,lT⟩:=tabO_ok (C.w*C.h).toNat l;generalize tabO (C.w*C.h).toNat l=T at*;have tv6:∀{h':Hp},a1.le h'->Dis G h'->TabV G h' (.pointer (some ⟨t1,0,none⟩)) (some T):=fun l d=>⟨t1,rfl,tab1.see l,gT,fT⟩;try simp only [iy]
 unfold aN6;try simp (disch:=decide) only [iy]
 refine (Vw (hs h6 d6)).mono ?_;rintro _ h7 ⟨ia,va,ib,vb,rfl,slA,slB,s7,d7⟩;obtain ⟨aa,ac,rfl,hac⟩:=id (slA.len (by decide));have hS4:∀s∈S.take 4,StpB s:=fun s h=>hS s (List.mem_of_mem_take h);have hl4:(S.take 4).length<=4:=by rw [List.length_take];omega
 generalize S.take 4=S4 at*;have s8:=HL.Sep.open (L:=[a1,a2,h5]) (R:=[ia,ib]) (s7.sel (L':=[h6,ia,ib]) [2,0,1] (by decide) rfl) s6
 obtain ⟨Q8,sQ8,tQ8⟩:=HL.Sep.pack [h5,ia] (R:=[a1]) (s8.sel [2,3,0] (by decide) rfl);have l8:h5.le Q8:=tQ8.in 0 rfl;have lz8:hz.le h7:=lz5.trans (l8.trans (sQ8.in 0 rfl));try simp only [iy,cc lz8]
 refine (B7 (ca0.up lz8 d7).cv fit).mono ?_;rintro u9 k9 co9;obtain ⟨Q9,sQ9,lQ9,dk9,dQ9,cv9⟩:=am3 co9 sQ8.swap;refine ⟨copy_le co9,?_⟩;try simp only [iy,c1 lz8,c2 lz8]
 refine (Ip (T:=T) (p:=p) (hm:=hm) (rb:=0) (t:=t) (S:=S4) (cv9.up (sQ9.in 1 rfl) dk9) st hro fit (fun _=>sm.bu) (tv6 (sQ9.in 0 rfl) dk9) pp ph (slA.see (by decide) ((tQ8.in 1 rfl).trans (lQ9.trans (sQ9.in 1 rfl)))) hS4 (by omega)).mono ?_;rintro _ m9 ⟨W,⟨ip9,vs9,rfl,sl9,ll9,sm9,dm9⟩,⟨hno,_⟩|⟨_,hW⟩⟩
 . exact absurd mk hno
 try simp only [iy]
 cases W with
 |no e1=>
  have hne:e1≠0:=S7 mk gT hW.symm;try simp only [iy,show outE (Res.no (M:=Move) e1)=e1 from rfl,show (e1 != 0)=true by simp [hne]]
  exact aw fun h'=>by simp only [iy]
 |ok M=>
 replace sl9:Slc j9 48 ip9 vs9 M:=sl9;replace ll9:M.length<=4096:=ll9;obtain ⟨hS5,hgo,_⟩:=Mw hW.symm;obtain ⟨M',e1',r1,r2,r3,r4,r5⟩:=D9 mk gT hS5 hgo;rw [List.nil_append]at e1';subst e1';have hall:=Iu r1;have hMB:∀m∈M,MB m/\PB m.t:=fun m hm=>⟨(I7 mk (hall m hm).2.2.2).1,Hn mk (I7 mk (hall m hm).2.2.2).2⟩;have hBd:∀m∈M,Bd m.a/\Bd m.e:=fun m hm=>by have:=hall m hm;unfold FV at this;unfold Bd;omega
 obtain ⟨wa,wc,rfl,_⟩:=id (sl9.len (by decide));have s10:=HL.Sep.open (L:=[a1,Q9]) (R:=[ip9]) sm9.swap sQ9
 obtain ⟨Q,sQ,tQ⟩:=HL.Sep.pack [Q9,ip9] (R:=[a1]) (s10.sel [1,2,0] (by decide) rfl);have lhzQ:hz.le Q:=lz5.trans (l8.trans (lQ9.trans (tQ.in 0 rfl)));have l5Q:h5.le Q:=l8.trans (lQ9.trans (tQ.in 0 rfl));have dQ:Dis G Q:=fun y o hy=>dm9 y o (sQ.hd _ _ hy);have sMQ:Sees j9 G Q (.slice wa M.length wc) M:=sl9.see (by decide) (tQ.in 1 rfl);try simp only [iy,show outE (Res.ok M)=0 from rfl,show ((0:Int) != 0)=false from rfl]
 unfold aN5;try simp (disch:=decide) only [iy,c1 (lhzQ.trans (sQ.in 0 rfl))]
 refine dw j9 (by decide) (L:=[]) (M:=M) un40 eomove (by decide) (by decide) (HL.Sep.one (h:=m9)).none dm9 Slc.nil (sMQ.up (sQ.in 0 rfl) dm9) (by simp;omega) fun v11 i11 h11 o11 s11 d11=>?_;rw [List.nil_append]at o11;refine ⟨s11.in 1 rfl,?_⟩;have sA:=HL.Sep.open (L:=[Q,a1]) (R:=[i11]) s11.swap sQ
 have l11:Q.le h11:=sA.in 0 rfl;obtain ⟨ew,ek,w1,w16,k1,k16⟩:=wk_of mk;have hwk:wC C*kC C<=36:=by have h1:=sm.w;have h2:=sm.h;exact Nat.mul_le_mul (show wC C<=6 by omega) (show kC C<=6 by omega)
 refine (Wp (p:=p) (M:=M) ((go.gs (G:=G)).up ((s5.in 0 rfl).trans (l5Q.trans l11)) d11) st pp (o11.see (by decide) (s11.in 0 rfl)) hMB (by omega)).mono ?_;rintro u12 h12 ⟨ip12,sl12,_,s12,d12⟩;have l12:Q.le h12:=l11.trans (s12.in 1 rfl);try simp only [iy,cc (lhzQ.trans l12),c1 (lhzQ.trans l12)]
 refine (Tc (p:=p) (M:=M) mk (ca0.up (lhzQ.trans l12) d12).cv hbl (sMQ.up l12 d12) (fun m hm=>(hMB m hm).1.f) (by omega)).mono ?_;rintro u13 h13 ⟨ip13,sl13,s13,d13⟩;have hlen:=Np (w:=wC C) (k:=kC C) (f:=f3C C) hwk (M:=M) (p:=p) (t:=0);have hhb:=at7 (w:=wC C) (k:=kC C) (f:=f3C C) (M:=M) (p:=p) (t:=0) (by unfold Bd;omega) hBd;have hcl:=Xa mk gT hW.symm;obtain ⟨b12,c12,rfl,_⟩:=id (sl12.len (by decide));obtain ⟨b13,c13,rfl,_⟩:=id (sl13.len (by decide));have hlen2:(m7 (wC C) (kC C) (f3C C) p 0 M).length<=155650:=by have:M.length*38<=4096*38:=Nat.mul_le_mul_right _ ll9;omega
 generalize m7 (wC C) (kC C) (f3C C) p 0 M=HW at*;try simp (disch:=first|decide|omega) only [iy,Nat.reduceAdd,Nat.reduceMul]
 refine (V5 (L:=HW) (sl12.see (by decide) ((s12.in 0 rfl).trans (s13.in 1 rfl))) (sl13.see (by decide) (s13.in 0 rfl)) (by omega)).mono ?_;rintro _ h13 ⟨rfl,rfl⟩;try simp only [iy]
 unfold aN4;have sB:=HL.Sep.open (L:=[ip12,h11]) (R:=[ip13]) s13.swap s12
 have sC:=HL.Sep.open (L:=[Q,a1,i11]) (R:=[ip12,ip13]) (sB.sel [1,0,2] (by decide) rfl) sA
 refine am5 (t:=t) (L:=HW) bt hhb (by omega) sl12 (sC.sel (L':=[ip12,a1]) [3,1] (by decide) rfl) d13 (by simp (disch:=decide) only [iy]) (by simp (disch:=decide) only [iy]) (by simp (disch:=decide) only [iy]) (by simp only [iy]) fun r' h' ih' il vl hr' e23 sll s14 d14=>?_;have f15:=hr' 15 (by decide) (by decide);simp (disch:=omega) only [bw,ao2]at f15;try simp only [iy]
 unfold aN3;try simp only [iy,f15,e23]
 have hcll:(xq t HW).length<=155650:=by unfold xq;refine Nat.le_trans (List.length_filter_le _ _) ?_;rw [List.length_map];exact hlen2
 refine (Rv.J0 (r:=0) (l:=xq t HW) tab1 (s14.sel (L':=[a1,il]) [2,0] (by decide) rfl) (sll.see (by decide) (Hp.le.refl _)) gT fT (by omega)).mono ?_;rintro _ h15 ⟨rfl,_⟩;rw [hcl];try simp only [iy,show ((0:Int)==0)=true from rfl]
 exact aw fun h'=>by simp only [iy]
end Go.Proofs.YtfflipnhffknnaaGreatDoor
end
section
namespace Go.Proofs.YtfflipnhffknnaaGreatDoor
open Go Go.HL Go.ChangeShapes Go.WideShapes Go.RowKit
theorem aq9:ownKnob P_.godebug=none:=by kernel_rfl
theorem at2:laidOutB P_=true:=by kernel_rfl
theorem au1:P_.globalNamed "skep/grid.steps" = some 0:=by kernel_rfl
theorem tSteps:(P_.globals[0]?).map (·.type)=some 245:=by kernel_rfl
abbrev Nk:List (String × DataW Unit):=[("skep/grid.steps",Rows.laid_skep_grid_steps)]
theorem aD9 (os:Os) (args:Array Value):laidMetH P_ Nk ((World.doorLaid P_ 400 os).forCall (fun _ _=>0) ⟨#[],args,[]⟩).memory:=
 laidMetH_of_parts3 (fuel:=8) (laidMet_of_run' 8 (by kernel_rfl) (by kernel_rfl)) (by kernel_rfl) (by kernel_rfl)
theorem U6 {H:Type} {enc:TypeId × Value->H} {P:Program} {w:World} {base:Nat} {spare:Nat->Bool} {held:Bool} {e:TypeId} {fuel:Nat} {cs:List Value} {y:DataW H × List MemPlace} {tos:List (TypeId × Nat)} (ht:iu P e=some tos)
 (h:DataW.trod enc P w base spare held fuel e cs=some y):cs.length=P.cellsOf e/\∃(xs:List (DataW H × List MemPlace)) (m:Nat),y=(.agg (xs.map (·.1)),xs.flatMap (·.2))/\xs.length=tos.length/\∀(i:Nat) (t o:Nat),tos[i]?=some (t,o)->DataW.trod enc P w base spare held m t ((cs.drop o).take (P.cellsOf t))=xs[i]?:=by
 unfold iu at ht;split at ht
 . rename_i fs hfs;obtain ⟨xs,n,_,h0,h1,h2,h3⟩:=DataW.trod_struct hfs h;simp only [Option.some.injEq]at ht;subst ht;refine ⟨h1,xs,n,h0,by simp [h2],fun i t o hi=>?_⟩;rw [List.getElem?_map,Array.getElem?_toList]at hi;cases q:fs[i]? with
   |none=>rw [q]at hi;cases hi
   |some f=>rw [q]at hi;simp only [Option.map_some,Option.some.injEq,Prod.mk.injEq]at hi;obtain ⟨rfl,rfl⟩:=hi;exact h3 i f q
 . cases ht
theorem un3i:P_.underlying 3=some (.int .i64):=by kernel_rfl
theorem c3:P_.cellsOf 3=1:=by kernel_rfl
theorem c28:P_.cellsOf 28=2:=by kernel_rfl
theorem c81:P_.cellsOf 245=8:=by kernel_rfl
theorem sf28:iu P_ 28=some [(3,0),(3,1)]:=by kernel_rfl
theorem Dl {H:Type} {enc:TypeId × Value->H} {w:World} {base:Nat} {spare:Nat->Bool} {held:Bool} {m:Nat} {cs:List Value} {x:DataW H × List MemPlace} {a b:Int}
 (h:DataW.trod enc P_ w base spare held m 28 cs=some x) (e:x.1 = .agg [.lit (.int .i64 a),.lit (.int .i64 b)]):cs=[.int .i64 a,.int .i64 b]:=by
 obtain ⟨hl,xs,n,rfl,hxl,d⟩:=U6 sf28 h;rw [c28]at hl;match cs,hl,xs,hxl with
 |[v0,v1],_,[x0,x1],_=>
 have h0:=d 0 3 0 rfl;have h1:=d 1 3 1 rfl;rw [c3]at h0 h1;obtain ⟨k0,e0,f0,_⟩:=DataW.trod_int un3i (show DataW.trod _ _ _ _ _ _ n 3 _=some x0 from h0);obtain ⟨k1,e1,f1,_⟩:=DataW.trod_int un3i (show DataW.trod _ _ _ _ _ _ n 3 _=some x1 from h1);simp at e0 e1;subst e0 e1 f0 f1;simp at e;obtain ⟨rfl,rfl⟩:=e;rfl
theorem len8 {α:Type} {L:List α} (h:L.length=8):∃a b c d e f g i,L=[a,b,c,d,e,f,g,i]:=by
 match L,h with
 |[a,b,c,d,e,f,g,i],_=>exact ⟨a,b,c,d,e,f,g,i,rfl⟩
theorem of_laid {W:World} (h:laidMetH P_ Nk W):jy (ground W):=by
 rw [MakeChecks.laidMetH_plain _ _ _ (by kernel_rfl)]at h;obtain ⟨ps,⟨g0,t0,cs0,f0,p0,q0,hg0,ht0,hv0,hd0,_,_⟩,_,_⟩:=h;obtain rfl:=Option.some.inj (au1.symm.trans hg0);obtain rfl:=Option.some.inj (tSteps.symm.trans ht0);obtain ⟨xs,m,rfl,hx,hl,hxl,hel⟩:=DataW.trod_array un81 hd0;rw [c81]at hl;rw [c28]at hel;simp only [Prod.mk.injEq]at hx;obtain ⟨hx,_⟩:=hx
 have hobj:∃e f,W.heap[0]?=some (.cells cs0 e f):=by
  unfold World.var? at hv0;rw [au1]at hv0;simp only [Option.bind_some]at hv0;split at hv0
  . rename_i c e f hc;cases hv0;exact ⟨e,f,hc⟩
  . cases hv0
 obtain ⟨e,f,hobj⟩:=hobj;refine ⟨e,f,?_⟩;show W.heap[0]?=_;rw [hobj];match xs,hxl with
 |[x0,x1,x2,x3],_=>
 have h0:=hel 0 (by decide);have h1:=hel 1 (by decide);have h2:=hel 2 (by decide);have h3:=hel 3 (by decide);unfold Rows.laid_skep_grid_steps at hx;simp only [List.map_cons,List.map_nil,DataW.agg.injEq,List.cons.injEq]at hx;have k0:=Dl (show DataW.trod _ _ _ _ _ _ m 28 _=some x0 from h0) hx.1.symm;have k1:=Dl (show DataW.trod _ _ _ _ _ _ m 28 _=some x1 from h1) hx.2.1.symm;have k2:=Dl (show DataW.trod _ _ _ _ _ _ m 28 _=some x2 from h2) hx.2.2.1.symm;have k3:=Dl (show DataW.trod _ _ _ _ _ _ m 28 _=some x3 from h3) hx.2.2.2.1.symm;obtain ⟨cs⟩:=cs0;obtain ⟨a0,a1,a2,a3,a4,a5,a6,a7,rfl⟩:=len8 hl;simp at k0 k1 k2 k3;obtain ⟨rfl,rfl⟩:=k0;obtain ⟨rfl,rfl⟩:=k1;obtain ⟨rfl,rfl⟩:=k2;obtain ⟨rfl,rfl⟩:=k3;rfl
section
theorem wv {H:Type} {P:Program} {ts:List TypeId} {ds:List (DataW H)} (h:(DataW.weightsEach P ts ds).all (· <= reachBytes)=true) {j:Nat} {t:TypeId} {d:DataW H} (ht:ts[j]?=some t) (hd:ds[j]?=some d):rq P t d:=fun n hn=>by simpa using List.all_eq_true.1 h n (DataW.weights_mem_each ht hd n hn)
theorem Aa {P:Program} {w:World} {r:Reach} {base:Nat} {t:TypeId} {v:Value} {tos:List (TypeId × Nat)} (ht:iu P t=some tos) (hv:Value.okWide P w r base t v):∃cs:Array Value,v = .agg cs:=by
 unfold iu at ht;split at ht
 . rename_i fs hfs;obtain ⟨cs,rfl,_⟩:=okWide_struct hfs hv;exact ⟨cs,rfl⟩
 . cases ht
theorem sf30:iu P_ 30=some [(28,0),(4,2)]:=by kernel_rfl
theorem sf95:iu P_ 234=some [(28,0),(168,2)]:=by kernel_rfl
theorem sf26:iu P_ 26=some [(3,0),(3,1),(3,2),(22,3),(22,4),(23,5),(24,6),(3,7),(3,8),(3,9),(3,10),(3,11),(3,12),(3,13),(3,14),(4,15)]:=by kernel_rfl
theorem un4b:P_.underlying 4=some .bool:=by kernel_rfl
theorem c4:P_.cellsOf 4=1:=by kernel_rfl
theorem c22:P_.cellsOf 22=1:=by kernel_rfl
theorem c23:P_.cellsOf 23=1:=by kernel_rfl
theorem c24:P_.cellsOf 24=1:=by kernel_rfl
theorem c26:P_.cellsOf 26=16:=by kernel_rfl
theorem c30:P_.cellsOf 30=3:=by kernel_rfl
theorem c57:P_.cellsOf 168=1:=by kernel_rfl
theorem c95:P_.cellsOf 234=3:=by kernel_rfl
section
variable {H:Type} {enc:TypeId × Value->H} {w:World} {base:Nat} {spare:Nat->Bool} {held:Bool}
theorem len2 {α:Type} {L:List α} (h:L.length=2):∃a b,L=[a,b]:=by
 match L,h with
 |[a,b],_=>exact ⟨a,b,rfl⟩
theorem len3 {α:Type} {L:List α} (h:L.length=3):∃a b c,L=[a,b,c]:=by
 match L,h with
 |[a,b,c],_=>exact ⟨a,b,c,rfl⟩
theorem Aq {m:Nat} {cs:List Value} {y:DataW H × List MemPlace} (h:DataW.trod enc P_ w base spare held m 28 cs=some y):∃c:Cell,cs=du.enc c/\Bd c.1/\Bd c.2:=by obtain ⟨hl,d⟩:=yo sf28 h;rw [c28]at hl;obtain ⟨v0,v1,rfl⟩:=len2 hl;obtain ⟨m0,z0,e0⟩:=d 0 _ _ rfl;obtain ⟨m1,z1,e1⟩:=d 1 _ _ rfl;rw [c3]at e0 e1;obtain ⟨x0,f0,b0⟩:=mj un3i e0;obtain ⟨x1,f1,b1⟩:=mj un3i e1;simp at f0 f1;subst f0 f1;exact ⟨(x0,x1),rfl,b0,b1⟩
theorem Ti {m:Nat} {cs:List Value} {y:DataW H × List MemPlace} (h:DataW.trod enc P_ w base spare held m 30 cs=some y):∃p:Pose,cs=zx.enc p/\PB p:=by obtain ⟨hl,d⟩:=yo sf30 h;rw [c30]at hl;obtain ⟨v0,v1,v2,rfl⟩:=len3 hl;obtain ⟨m0,z0,e0⟩:=d 0 _ _ rfl;obtain ⟨m1,z1,e1⟩:=d 1 _ _ rfl;rw [c28]at e0;rw [c4]at e1;obtain ⟨c,f0,b0⟩:=Aq e0;obtain ⟨b,f1⟩:=U7 un4b e1;simp [du]at f0 f1;obtain ⟨rfl,rfl⟩:=f0;subst f1;exact ⟨⟨c.1,c.2,b⟩,rfl,b0⟩
def RawOk (G:Hp) (r:Raw):Prop:=∃L:List Int,r.n=L.length/\Room L.length 8/\∀h,Dis G h->Sees icC G h (.slice r.a r.n r.c) L
theorem Dq {n bytes:Nat} (h:n*bytes<=reachBytes) (hb:bytes<=40):Room n bytes:=by
 unfold Room;rw [show reachBytes=140737488351232 from rfl]at h;rw [Nat.add_mul,Nat.mul_assoc];have:192*bytes<=7680:=by omega
 omega
theorem raw_dec {m:Nat} {cs:List Value} {y:DataW H × List MemPlace} (h:DataW.trod enc P_ w base spare held m 234 cs=some y) (hw:rq P_ 234 y.1):∃r:Raw,cs=rawC.enc r/\RawOk (ground w) r:=by obtain ⟨hl,d⟩:=Gt sf95 h hw;rw [c95]at hl;obtain ⟨v0,v1,v2,rfl⟩:=len3 hl;obtain ⟨m0,z0,e0,_⟩:=d 0 _ _ rfl;obtain ⟨m1,z1,e1,w1⟩:=d 1 _ _ rfl;rw [c28]at e0;rw [c57]at e1;obtain ⟨c,f0,b0⟩:=Aq e0;obtain ⟨a,n,cap,L,f1,hL,hs,hg,_⟩:=us icC (fun _=>True) H4 c3 (by decide) (fun _ _ _ h _=>let ⟨x,e,_⟩:=mj un3i h;⟨x,e,trivial⟩) e1 w1;simp [du]at f0 f1;obtain ⟨rfl,rfl⟩:=f0;subst f1;rw [show P_.bytesOf 3=8 by kernel_rfl]at hs;subst hL;exact ⟨⟨c.1,c.2,a,L.length,cap⟩,rfl,L,rfl,Dq hs (by decide),hg⟩
theorem len16 {α:Type} {L:List α} (h:L.length=16):∃a b c d e f g i j k l m n o p q,L=[a,b,c,d,e,f,g,i,j,k,l,m,n,o,p,q]:=by
 match L,h with
 |[a,b,c,d,e,f,g,i,j,k,l,m,n,o,p,q],_=>exact ⟨a,b,c,d,e,f,g,i,j,k,l,m,n,o,p,q,rfl⟩
theorem aE4 {m:Nat} {cs:List Value} {y:DataW H × List MemPlace} (h:DataW.trod enc P_ w base spare held m 26 cs=some y) (hw:rq P_ 26 y.1):
 ∃C:Conf,(∀h,Dis (ground w) h->CV (ground w) h (.agg cs.toArray) C)/\Fit0 C/\∀p∈C.ro,PB p:=by
 obtain ⟨hl,d⟩:=Gt sf26 h hw;rw [c26]at hl;obtain ⟨v0,v1,v2,v3,v4,v5,v6,v7,v8,v9,v10,v11,v12,v13,v14,v15,rfl⟩:=len16 hl;obtain ⟨_,_,e0,_⟩:=d 0 _ _ rfl;obtain ⟨_,_,e1,_⟩:=d 1 _ _ rfl;obtain ⟨_,_,e2,_⟩:=d 2 _ _ rfl;obtain ⟨_,_,e3,w3⟩:=d 3 _ _ rfl;obtain ⟨_,_,e4,w4⟩:=d 4 _ _ rfl;obtain ⟨_,_,e5,w5⟩:=d 5 _ _ rfl;obtain ⟨_,_,e6,w6⟩:=d 6 _ _ rfl;obtain ⟨_,_,e7,_⟩:=d 7 _ _ rfl;obtain ⟨_,_,e8,_⟩:=d 8 _ _ rfl;obtain ⟨_,_,e9,_⟩:=d 9 _ _ rfl;obtain ⟨_,_,e10,_⟩:=d 10 _ _ rfl;obtain ⟨_,_,e11,_⟩:=d 11 _ _ rfl;obtain ⟨_,_,e12,_⟩:=d 12 _ _ rfl;obtain ⟨_,_,e13,_⟩:=d 13 _ _ rfl;obtain ⟨_,_,e14,_⟩:=d 14 _ _ rfl;obtain ⟨_,_,e15,_⟩:=d 15 _ _ rfl;simp only [c3,c4,c22,c23,c24]at e0 e1 e2 e3 e4 e5 e6 e7 e8 e9 e10 e11 e12 e13 e14 e15;obtain ⟨x0,f0,_⟩:=mj un3i e0;obtain ⟨x1,f1,_⟩:=mj un3i e1;obtain ⟨x2,f2,_⟩:=mj un3i e2;obtain ⟨ab,nb,cb,B,f3,hB,sB,gB,_⟩:=us du (fun _=>True) un22 c28 (by decide) (fun _ _ _ h _=>let ⟨x,e,_⟩:=Aq h;⟨x,e,trivial⟩) e3 w3;obtain ⟨ap,np,cp,PO,f4,hP,sP,gP,_⟩:=us du (fun _=>True) un22 c28 (by decide) (fun _ _ _ h _=>let ⟨x,e,_⟩:=Aq h;⟨x,e,trivial⟩) e4 w4;obtain ⟨ar,nr,cr,R,f5,hR,sR,gR,qR⟩:=us zx PB un23 c30 (by decide) (fun _ _ _ h _=>Ti h) e5 w5;obtain ⟨az,nz,cz,Z,f6,hZ,sZ,gZ,qZ⟩:=us rawC (RawOk (ground w)) un24 c95 (by decide) (fun _ _ _ h hw=>raw_dec h hw) e6 w6;obtain ⟨x7,f7,_⟩:=mj un3i e7;obtain ⟨x8,f8,_⟩:=mj un3i e8;obtain ⟨x9,f9,_⟩:=mj un3i e9;obtain ⟨x10,f10,_⟩:=mj un3i e10;obtain ⟨x11,f11,_⟩:=mj un3i e11;obtain ⟨x12,f12,_⟩:=mj un3i e12;obtain ⟨x13,f13,_⟩:=mj un3i e13;obtain ⟨x14,f14,_⟩:=mj un3i e14;obtain ⟨x15,f15⟩:=U7 un4b e15;simp at f0 f1 f2 f3 f4 f5 f6 f7 f8 f9 f10 f11 f12 f13 f14 f15;subst f0 f1 f2 f3 f4 f5 f6 f7 f8 f9 f10 f11 f12 f13 f14 f15;subst hB hP hR hZ;rw [show P_.bytesOf 28=16 by kernel_rfl]at sB sP;rw [show P_.bytesOf 30=24 by kernel_rfl]at sR;rw [show P_.bytesOf 234=40 by kernel_rfl]at sZ
 obtain ⟨S,hS,qS⟩:=Hl (Q:=fun i (s:Cell × List Int)=>∀r,Z[i]?=some r->(r.x,r.y)=s.1/\r.n=s.2.length/\Room s.2.length 8/\∀h,Dis (ground w) h->Sees icC (ground w) h (.slice r.a s.2.length r.c) s.2) Z.length (fun i hi=>by
  obtain ⟨L,e,rm,se⟩:=qZ _ (List.getElem_mem hi);refine ⟨((Z[i].x,Z[i].y),L),fun r hr=>?_⟩;rw [List.getElem?_eq_getElem hi]at hr;cases hr
  exact ⟨rfl,e,rm,fun h d=>by rw [<- e];exact se h d⟩)
 refine ⟨⟨x0,x1,x2,B,PO,R,S,x7,x8,x9,x10,x11,x12,x13,x14,x15⟩,fun h d=>⟨ab,cb,ap,cp,ar,cr,az,cz,by simp only [U9,hS],gB h d,gP h d,gR h d,Z,by show Sees rawC _ h (.slice az S.length cz) Z;rw [hS];exact gZ h d,fun i r s hr hs=>?_⟩,⟨Dq sB (by decide),Dq sP (by decide),Dq sR (by decide),by show Room S.length 40;rw [hS];exact Dq sZ (by decide),fun s hs=>?_⟩,qR⟩
 . obtain ⟨a,b,c,e⟩:=qS i s hs r hr;exact ⟨a,b,e h d⟩
 . obtain ⟨i,hi⟩:=List.getElem?_of_mem hs;have hi2:i<Z.length:=by rw [<- hS];exact (List.getElem?_eq_some_iff.1 hi).1
   exact (qS i s hi _ (List.getElem?_eq_getElem hi2)).2.2.1
theorem Tj {r:Reach} {b0:Nat} {v:Value} {d:DataW H} {ps:List MemPlace} (k:Value.okWide P_ w r b0 30 v) (h:DataW.Trod enc P_ w base spare held 30 v d ps):∃p:Pose,v=ld p/\PB p:=by obtain ⟨cs,rfl⟩:=Aa sf30 k;obtain ⟨m,h⟩:=h;obtain ⟨c,e,b⟩:=Ti (cs:=cs.toList) h;exact ⟨c,by rw [<- Array.toArray_toList (xs:=cs),e];rfl,b⟩
theorem int_arg {r:Reach} {b0:Nat} {v:Value} {d:DataW H} {ps:List MemPlace} (k:Value.okWide P_ w r b0 3 v) (h:DataW.Trod enc P_ w base spare held 3 v d ps):∃n:Int,v = .int .i64 n/\Bd n:=by obtain ⟨n,rfl,rfl,rfl,wf⟩:=open_int un3i k h;exact ⟨n,rfl,by simpa [Lit.wf,IntKind.min,IntKind.max,IntKind.signed,IntKind.bits,Bd]using wf⟩
theorem aE5 {r:Reach} {b0:Nat} {v:Value} {d:DataW H} {ps:List MemPlace} (k:Value.okWide P_ w r b0 26 v) (h:DataW.Trod enc P_ w base spare held 26 v d ps) (hl:rq P_ 26 d):
 ∃C:Conf,(∀h,Dis (ground w) h->CV (ground w) h v C)/\Fit0 C/\∀p∈C.ro,PB p:=by obtain ⟨cs,rfl⟩:=Aa sf26 k;obtain ⟨m,h⟩:=h;obtain ⟨C,hC,f,hp⟩:=aE4 (cs:=cs.toList) h hl;exact ⟨C,fun h d=>by simpa using hC h d,f,hp⟩
end
end
section
section
variable {H:Type} {enc:TypeId × Value->H} {w:World} {base:Nat} {spare:Nat->Bool} {held:Bool}
end
end
end Go.Proofs.YtfflipnhffknnaaGreatDoor
end
section
namespace Go.Proofs.YtfflipnhffknnaaGreatDoor
open Go Go.HL Go.ChangeShapes Go.WideShapes Go.RowKit Go.Proofs.Resv
section
theorem cw3:P_.cellsOf 186=3:=by kernel_rfl
theorem sfw3:iu P_ 186=some [(3,0),(3,1),(3,2)]:=by kernel_rfl
theorem cstp:P_.cellsOf 119=3:=by kernel_rfl
theorem sfstp:iu P_ 119=some [(28,0),(3,2)]:=by kernel_rfl
section
variable {H:Type} {enc:TypeId × Value->H} {w:World} {base:Nat} {spare:Nat->Bool} {held:Bool}
theorem ao8 {m:Nat} {cs:List Value} {y:DataW H × List MemPlace} (h:DataW.trod enc P_ w base spare held m 119 cs=some y):∃x:Stp,cs=stpC.enc x/\StpB x:=by obtain ⟨hl,d⟩:=yo sfstp h;rw [cstp]at hl;obtain ⟨v0,v1,v2,rfl⟩:=len3 hl;obtain ⟨m0,z0,e0⟩:=d 0 _ _ rfl;obtain ⟨m1,z1,e1⟩:=d 1 _ _ rfl;rw [c28]at e0;rw [c3]at e1;obtain ⟨c,f0,b0⟩:=Aq e0;obtain ⟨x1,f1,b1⟩:=mj un3i e1;simp [du]at f0 f1;obtain ⟨rfl,rfl⟩:=f0;subst f1;exact ⟨⟨c.1,c.2,x1⟩,rfl,b0⟩
theorem ag2 {r:Reach} {b0:Nat} {v:Value} {d:DataW H} {ps:List MemPlace} (k:Value.okWide P_ w r b0 59 v) (h:DataW.Trod enc P_ w base spare held 59 v d ps):∃l:List Stp,yc stpC (ground w) v l/\∀x∈l,StpB x:=by obtain ⟨a,len,cap,rfl⟩:=okWide_slice un59 k;obtain ⟨m,h⟩:=h;obtain ⟨a',len',cap',L,e,hl,_,hg,hq⟩:=Nz stpC StpB un59 cstp (by decide) (fun _ _ _ h=>ao8 h) h;simp [Value.cells]at e;obtain ⟨rfl,rfl,rfl⟩:=e;exact ⟨L,hg,hq⟩
theorem oth_dec {m:Nat} {cs:List Value} {y:DataW H × List MemPlace} (h:DataW.trod enc P_ w base spare held m 186 cs=some y):∃x:Want,cs=Rv.j5.enc x/\WB x:=by obtain ⟨hl,d⟩:=yo sfw3 h;rw [cw3]at hl;obtain ⟨v0,v1,v2,rfl⟩:=len3 hl;obtain ⟨m0,z0,e0⟩:=d 0 _ _ rfl;obtain ⟨m1,z1,e1⟩:=d 1 _ _ rfl;obtain ⟨m2,z2,e2⟩:=d 2 _ _ rfl;rw [c3]at e0 e1 e2;obtain ⟨x0,f0,b0⟩:=mj un3i e0;obtain ⟨x1,f1,b1⟩:=mj un3i e1;obtain ⟨x2,f2,b2⟩:=mj un3i e2;simp at f0 f1 f2;subst f0 f1 f2;exact ⟨⟨x0,x1,x2⟩,rfl,b0,b1,b2⟩
theorem oth_arg {r:Reach} {b0:Nat} {v:Value} {d:DataW H} {ps:List MemPlace} (k:Value.okWide P_ w r b0 114 v) (h:DataW.Trod enc P_ w base spare held 114 v d ps):∃l:List Want,yc Rv.j5 (ground w) v l/\∀x∈l,WB x:=by obtain ⟨a,len,cap,rfl⟩:=okWide_slice Sm k;obtain ⟨m,h⟩:=h;obtain ⟨a',len',cap',L,e,hl,_,hg,hq⟩:=Nz Rv.j5 WB Sm cw3 (by decide) (fun _ _ _ h=>oth_dec h) h;simp [Value.cells]at e;obtain ⟨rfl,rfl,rfl⟩:=e;exact ⟨L,hg,hq⟩
end
end
end Go.Proofs.YtfflipnhffknnaaGreatDoor
end

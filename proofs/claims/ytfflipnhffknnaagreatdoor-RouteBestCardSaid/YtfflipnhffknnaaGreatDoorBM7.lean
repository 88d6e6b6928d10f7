/- Texts of the proof, one behind the other. -/
import Derived.Test.YtfflipnhffknnaaGreatDoorBM4
import Derived.Test.YtfflipnhffknnaaGreatDoorBM1
import Derived.Test.YtfflipnhffknnaaGreatDoorBM6
import Derived.Test.YtfflipnhffknnaaGreatDoorBM2
import Derived.Test.YtfflipnhffknnaaGreatDoorBH3
import Derived.Test.YtfflipnhffknnaaGreatDoorBM3
set_option linter.unusedSimpArgs false
set_option linter.unusedVariables false
set_option maxRecDepth 100000
set_option maxHeartbeats 8000000
set_option linter.defProp false
section
namespace Go.Proofs.YtfflipnhffknnaaGreatDoor.Rv
open Go Go.HL Go.Proofs.Resv
def yz:=jq bC (jq (jq (jq (jq @bz_ @al103) (jq @Hd @ad9)) (jq (jq @at6 @Fx) (jq @cf107 @cf164))) (jq (jq (jq @eq106s @ld103) (jq @ld203p @ld3)) (jq (jq @ln103 @ln99) (jq @ne203p @true_and))))
def C5:Cod (Int × Int):=⟨2,fun g=>[.int .i64 g.1,.int .i64 g.2],fun _=>rfl,fun _ v hv=>by simp at hv;rcases hv with rfl|rfl<;>rfl⟩
theorem eopair:iu P_ 110 C5.n 16:=eo110
abbrev Z1 (g:Int × Int):Obj := .cells #[g.1,g.2] 110 (0,0)
theorem store39 {G h:Hp} {lb:Nat} {z:Value} {a:Option Addr} {n c:Nat} {K:Unit->Hp->Prop} (hb:h lb=some (.cells #[z] 103 (0,0))):
 wpH P_ G (Instr.storeAt 103 (.pointer (some ⟨lb,0,none⟩)) (.slice a n c)) h K=K () (h.set lb (.cells #[.slice a n c] 103 (0,0))):=by rw [ec sz103 rfl hb (by simp)];rfl
theorem W6 {G a:Hp} {lb mb:Nat} {most:Int} {L:List (Int × Int)} {m:Int × Int} (y:HL.GYb C5 110 103 most lb mb L a) (hm:most<=100000):
 bn P_ G 107 #[m.1,m.2,.pointer (some ⟨lb,0,none⟩),.pointer (some ⟨mb,0,none⟩)] a (fun v a'=>v = .bool (HL.C7 most (L++[m]))/\HL.GY C5 110 103 most lb mb (L++[m]) a'):=by
 obtain ⟨⟨ip,v,o,s⟩,hlen⟩:=y;refine bn.assume fun d=>aK3 (by simp) ?_;unfold S107;have clb:∀j,bf G a ⟨lb,j,none⟩=_:=fun j=>bm (bj (s.at 1 rfl bh));simp only [yz,clb];intro b hb gb;have s2:=s.past (o:=Z1 m) hb;have d2:=d.set (o:=Z1 m) gb;have hb2:(a.set b (Z1 m)) b=some (Z1 m):=bh;generalize Hp.set a b _=h2 at s2 d2 hb2 ⊢;refine fh C5 (by decide) un103 eopair (by decide) (by decide) (M:=[m]) s2 d2 o (Sees.row (c:=C5) (L:=[m]) hb2 rfl (aj_ _)) (by simp;omega) fun v3 a3 h3 o3 s3 d3=>?_;obtain ⟨sa,cap,rfl,hcap⟩:=o3.len (by decide);have hlb3:=s3.at 1 rfl bh;try simp (disch:=first|decide|omega) only [yz,Nat.reduceAdd,Nat.reduceMul]
 rw [store39 hlb3];have s4:=(s3.pick 1 rfl rfl).put (o := .cells #[.slice sa (L++[m]).length cap] 103 (0,0)) bh;rw [set_set]at s4;have clb4:∀j,bf G (h3.set lb (.cells #[.slice sa (L++[m]).length cap] 103 (0,0))) ⟨lb,j,none⟩=_:=fun j=>bm (bj (s4.at 0 rfl bh));have cmb4:∀j,bf G (h3.set lb (.cells #[.slice sa (L++[m]).length cap] 103 (0,0))) ⟨mb,j,none⟩=_:=fun j=>bm (bj (s4.at 2 rfl bh));try simp only [yz,clb4,cmb4]
 refine ⟨?_,a3,_,o3,s4.swap⟩;first|rfl|simp [HL.C7]
theorem ar2 {G:Hp} {lb mb:Nat} {most:Int} (hm:most<=100000):HL.Yl P_ gapA G (.func (.func 107) #[] #[.pointer (some ⟨lb,0,none⟩),.pointer (some ⟨mb,0,none⟩)]) (HL.GYb C5 110 103 most lb mb) (HL.GY C5 110 103 most lb mb) (HL.C7 most):=by
 intro L m a q h y s d;simp only [yz];refine (s.on (W6 y hm)).mono ?_;rintro v h' ⟨a',⟨rfl,gy⟩,s',d'⟩;refine ⟨a',rfl,s',d',?_⟩;split
 . rename_i hc;exact ⟨gy,of_decide_eq_true hc⟩
 . exact gy
theorem nn {G h:Hp} {b1 b2 b3 tp:Nat} {T:Tb} {c r most:Int} (h1:h b1=some (.cells #[.pointer (some ⟨tp,0,none⟩)] 34 (0,0))) (h2:h b2=some (.cells #[c] 3 (0,0))) (h3:h b3=some (.cells #[r] 3 (0,0))) (ts:TSee G h tp T)
 (fw:∀L∈T,L.length<=50000) (hm1:1<=most) (hm2:most<=100000):
 bn P_ G 53 #[.func (.func 164) #[] #[.pointer (some ⟨b1,0,none⟩),.pointer (some ⟨b2,0,none⟩),.pointer (some ⟨b3,0,none⟩)],most] h (fun u h'=>∃ip,Slc C5 110 ip u ((if inT T.length c=true then Ii (rowT T c) r else []).take most.toNat)/\HL.Sep [ip,h] h'/\Dis G h'):=by
 refine bn.assume fun d=>enter53 (by simp) ?_;unfold S53;simp only [yz];intro mb hmb gmb lb hlb glb;have s2:=((Sep.one (h:=h)).new (o := .cells #[most] 3 (0,0)) hmb).new (o := .cells #[.slice none 0 0] 103 (0,0)) hlb;have d2:=(d.set (o := .cells #[most] 3 (0,0)) gmb).set (o := .cells #[.slice none 0 0] 103 (0,0)) glb;generalize Hp.set (Hp.set h mb _) lb _=k2 at s2 d2 ⊢;have cmb:∀j,bf G k2 ⟨mb,j,none⟩=_:=fun j=>bm (bj (s2.at 1 rfl bh));have e1:decide (most<1)=false:=ai_ (by omega);try simp only [yz,cmb,e1]
 unfold aQ1;try simp (disch:=decide) only [yz]
 obtain ⟨a,s3,sa⟩:=uz s2.none;have ya:HL.GYb C5 110 103 most lb mb [] a:=⟨⟨noHp,_,Slc.nil,sa⟩,by simp;omega⟩;refine (X8 (r:=r) (ar2 hm2) ya s3 h1 h2 h3 ts fw).mono ?_;rintro _ h4 ⟨a4,s4,d4,z4⟩;rw [HL.Cu (by simp;omega)]at z4;generalize (if inT T.length c=true then Ii (rowT T c) r else [])=GL at*
 have gy:HL.GY C5 110 103 most lb mb (GL.take most.toNat) a4:=by
  unfold HL.Fin at z4;simp only [a8_,a3_,Nat.sub_zero]at z4;split at z4
  . exact z4.1
  . exact z4
 obtain ⟨ip,v,o,t4⟩:=gy;have s5:HL.Sep [h,ip,noHp.set lb (.cells #[v] 103 (0,0)),noHp.set mb (.cells #[most] 3 (0,0))] h4:=by have:=s4.swap.split t4;simpa using this
 have clb:∀j,bf G h4 ⟨lb,j,none⟩=_:=fun j=>bm (bj (s5.at 2 rfl bh));try simp only [yz,clb]
 exact ⟨ip,o,(s5.take 2 rfl).swap,d4⟩
def Bd (x:Int):Prop := -9223372036854775808<=x/\x<=9223372036854775807
theorem ze {G h:Hp} {a n:Int} (ha:Bd a) (hn:0<n) (hn2:n<=1000000):bn P_ G 25 #[a,n] h (fun v h'=>v = .int .i64 (a % n)/\h'=h):=by
 refine quietly (ad0 (by simp) ?_);obtain ⟨ha1,ha2⟩:=ha;unfold S25
 have e1:a.tmod n=if 0<=a\/a % n=0 then a % n else a % n-n:=by
  rw [Int.tmod_eq_emod];have:(n.natAbs:Int)=n:=by omega
  by_cases h0:0<=a
  . simp [h0]
  . simp [h0,this,Int.dvd_iff_emod_eq_zero];split<;>omega
 have hb:=Int.emod_nonneg a (show n≠0 by omega);have hb2:=Int.emod_lt_of_pos a hn;simp (disch:=first|decide|omega) only [yz];by_cases hc:0<=a\/a % n=0
 . rw [ak_ hc]at e1;rw [e1,kc (show ¬a % n<0 by omega)];simp only [yz];unfold Ho;simp (disch:=decide) only [yz];exact Hp.le.refl h
 . rw [ah_ hc]at e1;have:a % n≠0:=fun e=>hc (.inr e);rw [e1,js (show a % n-n<0 by omega)];simp only [yz];unfold Ho;simp only [yz];exact ⟨by congr 1;omega,Hp.le.refl h⟩
end Go.Proofs.YtfflipnhffknnaaGreatDoor.Rv
end
section
namespace Go.Proofs.YtfflipnhffknnaaGreatDoor
open Go Go.HL
section
variable (G:Hp) (K:EK) (r:Rg) (h:Hp)
def md91:Nat->Hint
 |_=>m0_
def aN9:Prop:=
 o_ G (Instr.makeSlice 98 (r 0) (r 0)) h fun g h=>o_ G (Instr.build 188 #[(0,g)]) h fun j h=>o_ G (Instr.box 188 j) h fun s h=>
 K .ret (u5 r 9 (r 0) 10 g 11 j 12 s 2 s) h
def S91:Prop:=
 o_ G (z2_ (r 0) (1:Int)) h fun g h=>g_ g false (fun K1=>K1 (r 0) h) h fun j h=>g_ g false (o_ G (z6_ j (256:Int)) h) h fun s h=>
 opH P_ G (dh g (.bool true) s) h fun u h=>
 (fun q=>cond u
 (K .ret (upd q 2 (.pointer none)) h)
 (aN9 G K q h))
 (u7 r 2 (.pointer none) 3 (r 0) 4 g 5 g 6 j 7 s 8 u)
theorem enter91:Ent 13 91 [.tmp 2] S91:=ent_ (m:=md91) (c:=(Tryz.f91.body.getD .skip)) (fun _ _ _ _=>by kernel_rfl) Tryz.func91 rfl rfl rfl
def md92:Nat->Hint
 |6=>⟨false,[0,0,0,6,14,30,63,127,255,511,511,2047,4095,8191,16383,32767,65535,131071,131071,524287,1048575,2097151,131071,131071,12713983,29491199,63045631,134217727,268435455,536870911,1073741823,1073741823,4294967295,8589934591,17179869183,34359738367,68719476735],[.pureN,.pureN,.pureN,.pureN,.pureN,.pureM,.eff,.pureN,.pureN,.pureN,.pureN,.pureN,.pureN,.pureM,.pureN,.pureN,.pureN,.pureN,.pureN,.pureN,.pureN,.pureM,.pureN,.pureN,.pureN,.pureN,.pureM,.pureN,.pureN,.pureN,.pureN,.pureN,.pureN,.pureN,.pureM,.pureN,.pureN],[.pureN,.pureN,.pureN,.pureN,.pureN,.pureM,.eff,.pureN,.pureN,.pureN,.pureN,.pureN,.pureN,.late,.pureN,.pureN,.pureN,.pureN,.pureN,.pureN,.pureN,.late,.pureN,.pureN,.pureN,.pureN,.late,.pureN,.pureN,.pureN,.pureN,.pureN,.pureN,.pureN,.late,.pureN,.pureN],(fs 37),false⟩
 |11=>mh false [0,0,0,0,12,28,60,0,0,384,896,1920,0,0,12288,28672,61440,131071] [n_,n_,n_,n_,n_,n_,m_,n_,n_,n_,n_,m_,n_,n_,n_,n_,m_,e_] (fs 18) false
 |16=>mh false [0,0,0,0,12,28,60,0,0,384,896,1920,0,0,12288,28672,61440,131071] [n_,n_,n_,n_,n_,n_,m_,n_,n_,n_,n_,m_,n_,n_,n_,n_,m_,e_] (fs 18) false
 |_=>m0_
def aN5 (G:Hp) (K:EK) (r:Rg) (h:Hp):Prop:=
 K .ret (upd r 6 (.int .i64 0)) h
def Pv:Prop:=
 o_ G (z1_ (r 9) (1:Int)) h fun g h=>
 K .normal (u3 r 83 (r 9) 84 g 9 g) h
def Pw:Prop:=
 p_ (i_ 114 (r 2) (r 9)) h fun g h'=>
 p_ (f_ 186 g 0) h' fun j h'=>
 w_ G h (l_ 3 j) h' fun s h'=>
 p_ (i_ 114 (r 2) (r 9)) h' fun u h'=>
 p_ (f_ 186 u 1) h' fun w h'=>
 w_ G h (l_ 3 w) h' fun z h'=>
 p_ (i_ 114 (r 2) (r 9)) h' fun C h'=>
 p_ (f_ 186 C 2) h' fun D h'=>
 w_ G h (l_ 3 D) h' fun E h=>
 c_ G 139 #[r 0,r 1,s,z,E] h fun F h=>
 Pv G K (u8 (u10 r 85 (r 0) 86 (r 1) 87 (r 2) 88 (r 9) 89 g 90 j 91 s 92 (r 2) 93 (r 9) 94 u) 95 w 96 z 97 (r 2) 98 (r 9) 99 C 100 D 101 E 102 F) h
def aN4 (r:Rg) (h:Hp) (K:EK):Prop:=
 o_ G (k_ 114 (r 2)) h fun g h=>o_ G (z2_ (r 9) g) h fun j h=>
 cond j
 (Pw G K (u4 r 79 (r 9) 80 (r 2) 81 g 82 j) h)
 (K (.exit 4) (u4 r 79 (r 9) 80 (r 2) 81 g 82 j) h)
def aN6:Prop:=
 du (aN4 G) (upd r 9 (.int .i64 0)) h (dc 4 (di (aN5 G K) K))
def Lx:Prop:=
 o_ G (z1_ (r 8) (1:Int)) h fun g h=>
 K .normal (u3 r 59 (r 8) 60 g 8 g) h
def Pu:Prop:=
 p_ (i_ 114 (r 2) (r 8)) h fun g h'=>
 p_ (f_ 186 g 0) h' fun j h'=>
 w_ G h (l_ 3 j) h' fun s h'=>
 p_ (i_ 114 (r 2) (r 8)) h' fun u h'=>
 p_ (f_ 186 u 1) h' fun w h'=>
 w_ G h (l_ 3 w) h' fun z h'=>
 p_ (i_ 114 (r 2) (r 8)) h' fun C h'=>
 p_ (f_ 186 C 2) h' fun D h'=>
 w_ G h (l_ 3 D) h' fun E h=>
 c_ G 138 #[r 0,r 1,s,z,E] h fun F h=>
 (fun q=>cond F
 (K .ret (upd q 6 (.int .i64 18)) h)
 (Lx G K q h))
 (u8 (u10 r 61 (r 0) 62 (r 1) 63 (r 2) 64 (r 8) 65 g 66 j 67 s 68 (r 2) 69 (r 8) 70 u) 71 w 72 z 73 (r 2) 74 (r 8) 75 C 76 D 77 E 78 F)
def aN3 (r:Rg) (h:Hp) (K:EK):Prop:=
 o_ G (k_ 114 (r 2)) h fun g h=>o_ G (z2_ (r 8) g) h fun j h=>
 cond j
 (Pu G K (u4 r 55 (r 8) 56 (r 2) 57 g 58 j) h)
 (K (.exit 2) (u4 r 55 (r 8) 56 (r 2) 57 g 58 j) h)
def aN7:Prop:=
 du (aN3 G) (upd r 8 (.int .i64 0)) h (dc 2 (di (aN6 G K) K))
def B4:Prop:=
 o_ G (z1_ (r 7) (1:Int)) h fun g h=>
 K .normal (u3 r 16 (r 7) 17 g 7 g) h
def Is:Prop:=
 p_ (i_ 114 (r 2) (r 7)) h fun g h'=>
 p_ (f_ 186 g 0) h' fun j h'=>
 w_ G h (l_ 3 j) h' fun s h=>
 c_ G 137 #[r 0,s] h fun u h=>
 p_ (Op.unary .not u) h fun w h=>g_ w false (fun K1=>K1 (r 2) h) h fun z h=>g_ w false (fun K1=>K1 (r 7) h) h fun C h=>g_ w false (p_ (i_ 114 z C) h) h fun D h=>g_ w false (p_ (f_ 186 D 1) h) h fun E h=>g_ w false (w_ G h (l_ 3 E) h) h fun F h=>g_ w false (p_ (z2_ F (0:Int)) h) h fun I h=>
 dl P_ noHp noHp (dh w (.bool true) I) h fun J h=>g_ J false (fun K1=>K1 (r 2) h) h fun L h=>g_ J false (fun K1=>K1 (r 7) h) h fun M h=>g_ J false (p_ (i_ 114 L M) h) h fun N h=>g_ J false (p_ (f_ 186 N 1) h) h fun O h=>g_ J false (w_ G h (l_ 3 O) h) h fun P h=>g_ J false (fun K1=>K1 (r 2) h) h fun Q h=>g_ J false (fun K1=>K1 (r 7) h) h fun U h=>g_ J false (p_ (i_ 114 Q U) h) h fun V h=>g_ J false (p_ (f_ 186 V 2) h) h fun W h=>g_ J false (w_ G h (l_ 3 W) h) h fun Y h=>g_ J false (p_ (z5_ P Y) h) h fun Z h=>
 dl P_ noHp noHp (dh J (.bool true) Z) h fun aa h=>g_ aa false (fun K1=>K1 (r 2) h) h fun ab h=>g_ aa false (fun K1=>K1 (r 7) h) h fun ac h=>g_ aa false (p_ (i_ 114 ab ac) h) h fun ae h=>g_ aa false (p_ (f_ 186 ae 2) h) h fun af h=>g_ aa false (w_ G h (l_ 3 af) h) h fun ag h=>g_ aa false (p_ (z6_ ag (4611686018427387904:Int)) h) h fun ah h=>
 dl P_ noHp noHp (dh aa (.bool true) ah) h fun ai h=>
 (fun q=>cond ai
 (K .ret (upd q 6 (.int .i64 1)) h)
 (B4 G K q h))
 (u7 (u10 (u10 (u10 r 18 (r 0) 19 (r 2) 20 (r 7) 21 g 22 j 23 s 24 u 25 w 26 w 27 z) 28 C 29 D 30 E 31 F 32 I 33 J 34 J 35 L 36 M 37 N) 38 O 39 P 40 Q 41 U 42 V 43 W 44 Y 45 Z 46 aa 47 aa) 48 ab 49 ac 50 ae 51 af 52 ag 53 ah 54 ai)
def ae0 (r:Rg) (h:Hp) (K:EK):Prop:=
 o_ G (k_ 114 (r 2)) h fun g h=>o_ G (z2_ (r 7) g) h fun j h=>
 cond j
 (Is G K (u4 r 12 (r 7) 13 (r 2) 14 g 15 j) h)
 (K (.exit 0) (u4 r 12 (r 7) 13 (r 2) 14 g 15 j) h)
def aN8:Prop:=
 du (ae0 G) (upd r 7 (.int .i64 0)) h (dc 0 (di (aN7 G K) K))
def S92:Prop:=
 o_ G (z2_ (r 1) (0:Int)) h fun g h=>
 cond g
 (K .ret (u4 r 6 (.int .i64 0) 10 (r 1) 11 g 6 (.int .i64 1)) h)
 (aN8 G K (u3 r 6 (.int .i64 0) 10 (r 1) 11 g) h)
theorem enter92:Ent 103 92 [.tmp 6] S92:=ent_ (m:=md92) (c:=(Tryz.f92.body.getD .skip)) (fun _ _ _ _=>by kernel_rfl) Tryz.func92 rfl rfl rfl
def md101:Nat->Hint
 |_=>m0_
def al8:Prop:=
 opH P_ G (xNil (r 0)) h fun g h=>o_ G (f_ 188 g 0) h fun j h=>o_ G (l_ 98 j) h fun s h=>o_ G (i_ 98 s (r 1)) h fun u h=>o_ G (l_ 99 u) h fun w h=>
 K .ret (u8 r 9 (r 0) 10 g 11 j 12 s 13 (r 1) 14 u 15 w 4 w) h
def S101:Prop:=
 c_ G 137 #[r 0,r 1] h fun g h=>o_ G (Op.unary .not g) h fun j h=>
 (fun q=>cond j
 (K .ret (upd q 4 (.slice none 0 0)) h)
 (al8 G K q h))
 (u5 r 4 (.slice none 0 0) 5 (r 0) 6 (r 1) 7 g 8 j)
theorem aK9:Ent 16 101 [.tmp 4] S101:=ent_ (m:=md101) (c:=(Tryz.f101.body.getD .skip)) (fun _ _ _ _=>by kernel_rfl) Tryz.func101 rfl rfl rfl
def md137:Nat->Hint
 |_=>m0_
def S137:Prop:=
 o_ G (z5_ (r 1) (0:Int)) h fun g h=>g_ g true (fun K1=>K1 (r 1) h) h fun j h=>g_ g true (fun K1=>K1 (r 0) h) h fun s h=>g_ g true (opH P_ G (xNil s) h) h fun u h=>g_ g true (o_ G (f_ 188 u 0) h) h fun w h=>g_ g true (o_ G (l_ 98 w) h) h fun z h=>g_ g true (o_ G (k_ 98 z) h) h fun C h=>g_ g true (o_ G (z2_ j C) h) h fun D h=>
 opH P_ G (dh g D (.bool false)) h fun E h=>
 K .ret (u3 (u10 r 4 (.bool false) 5 (r 1) 6 g 7 g 8 j 9 s 10 u 11 w 12 z 13 C) 14 D 15 E 4 E) h
theorem aH9:Ent 16 137 [.tmp 4] S137:=ent_ (m:=md137) (c:=(Tryz.f137.body.getD .skip)) (fun _ _ _ _=>by kernel_rfl) Tryz.func137 rfl rfl rfl
def md138:Nat->Hint
 |_=>m0_
def ai3 (G:Hp) (K:EK) (r:Rg) (h:Hp):Prop:=
 K .ret (upd r 10 (.bool false)) h
def Ed:Prop:=
 o_ G (z1_ (r 12) (1:Int)) h fun g h=>
 K .normal (u3 r 24 (r 12) 25 g 12 g) h
def Mt:Prop:=
 o_ G (i_ 99 (r 11) (r 12)) h fun g h=>o_ G (f_ 203 g 2) h fun j h=>o_ G (l_ 3 j) h fun s h=>
 opH P_ G (xEq .neq 3 (.tmp 0) (.tmp 0) s (r 1)) h fun u h=>g_ u true (fun K1=>K1 (r 11) h) h fun w h=>g_ u true (fun K1=>K1 (r 12) h) h fun z h=>g_ u true (o_ G (i_ 99 w z) h) h fun C h=>g_ u true (o_ G (f_ 203 C 0) h) h fun D h=>g_ u true (o_ G (l_ 3 D) h) h fun E h=>g_ u true (fun K1=>K1 (r 4) h) h fun F h=>g_ u true (o_ G (z2_ E F) h) h fun I h=>
 opH P_ G (dh u I (.bool false)) h fun J h=>g_ J true (fun K1=>K1 (r 3) h) h fun L h=>g_ J true (fun K1=>K1 (r 11) h) h fun M h=>g_ J true (fun K1=>K1 (r 12) h) h fun N h=>g_ J true (o_ G (i_ 99 M N) h) h fun O h=>g_ J true (o_ G (f_ 203 O 1) h) h fun P h=>g_ J true (o_ G (l_ 3 P) h) h fun Q h=>g_ J true (o_ G (z2_ L Q) h) h fun U h=>
 opH P_ G (dh J U (.bool false)) h fun V h=>
 (fun q=>cond V
 (K .ret (upd q 10 (.bool true)) h)
 (Ed G K q h))
 (u5 (u10 (u10 r 26 (r 11) 27 (r 12) 28 g 29 j 30 s 31 (r 1) 32 u 33 u 34 w 35 z) 36 C 37 D 38 E 39 F 40 I 41 J 42 J 43 L 44 M 45 N) 46 O 47 P 48 Q 49 U 50 V)
def ai2 (r:Rg) (h:Hp) (K:EK):Prop:=
 o_ G (k_ 99 (r 11)) h fun g h=>o_ G (z2_ (r 12) g) h fun j h=>
 cond j
 (Mt G K (u4 r 20 (r 12) 21 (r 11) 22 g 23 j) h)
 (K (.exit 0) (u4 r 20 (r 12) 21 (r 11) 22 g 23 j) h)
def S138:Prop:=
 opH P_ G (xNil (r 0)) h fun g h=>o_ G (f_ 188 g 0) h fun j h=>o_ G (l_ 98 j) h fun s h=>o_ G (i_ 98 s (r 2)) h fun u h=>o_ G (l_ 99 u) h fun w h=>
 du (ai2 G) (u10 r 10 (.bool false) 13 (r 0) 14 g 15 j 16 s 17 (r 2) 18 u 19 w 11 w 12 (.int .i64 0)) h (dc 0 (di (ai3 G K) K))
theorem aH8:Ent 51 138 [.tmp 10] S138:=ent_ (m:=md138) (c:=(Tryz.f138.body.getD .skip)) (fun _ _ _ _=>by kernel_rfl) Tryz.func138 rfl rfl rfl
def md139:Nat->Hint
 |11=>mh false [0,0,2,7,15,31,31,127,255,511,31,1055,4095,8191] [n_,n_,m_,n_,n_,n_,n_,n_,n_,m_,n_,m_,n_,n_] (fs 14) false
 |_=>m0_
def Tq:Prop:=
 o_ G (Instr.sliceAt 99 (r 11) none (some (r 14)) none) h fun g h=>o_ G (Builtin.append_ #[99,99] 99 #[(.slice none 0 0),g]) h fun j h=>o_ G (l_ 203 (r 10)) h fun s h=>o_ G (Instr.buildSlice 99 1 #[(0,s)]) h fun u h=>o_ G (Builtin.append_ #[99,99] 99 #[j,u]) h fun w h=>o_ G (Instr.sliceAt 99 (r 11) (some (r 14)) none none) h fun z h=>o_ G (Builtin.append_ #[99,99] 99 #[w,z]) h fun C h=>
 opH P_ G (xNil (r 0)) h fun D h=>o_ G (f_ 188 D 0) h fun E h=>o_ G (l_ 98 E) h fun F h=>o_ G (i_ 98 F (r 2)) h fun I h=>
 opH P_ G (x_ 99 I C) h fun J h=>
 K .normal (u5 (u10 (u10 r 15 (.slice none 0 0) 92 (.slice none 0 0) 93 (r 11) 94 (r 14) 95 g 96 j 15 j 97 j 98 s 99 u) 100 w 15 w 101 w 102 (r 11) 103 (r 14) 104 z 105 C 15 C 106 (r 0) 107 D) 108 E 109 F 110 (r 2) 111 C 112 I) h
def Ms:Prop:=
 o_ G (z1_ (r 14) (1:Int)) h fun g h=>
 K .normal (u3 r 90 (r 14) 91 g 14 g) h
def ai0 (r:Rg) (h:Hp) (K:EK):Prop:=
 w_ G h (k_ 99 (r 11)) h fun g h'=>
 p_ (z2_ (r 14) g) h' fun j h'=>g_ j true (fun K1=>K1 (r 11) h') h' fun s h'=>g_ j true (fun K1=>K1 (r 14) h') h' fun u h'=>g_ j true (p_ (i_ 99 s u) h') h' fun w h'=>g_ j true (p_ (f_ 203 w 0) h') h' fun z h'=>g_ j true (w_ G h (l_ 3 z) h') h' fun C h'=>g_ j true (p_ (f_ 203 (r 10) 0) h') h' fun D h'=>g_ j true (w_ G h (l_ 3 D) h') h' fun E h=>g_ j true (p_ (z2_ C E) h) h fun F h=>
 dl P_ noHp noHp (dh j F (.bool false)) h fun I h=>
 (fun q=>cond I
 (Ms G K q h)
 (K (.exit 2) q h))
 (u4 (u10 r 76 (r 14) 77 (r 11) 78 g 79 j 80 j 81 s 82 u 83 w 84 z 85 C) 86 D 87 E 88 F 89 I)
def ai1:Prop:=
 du (ai0 G) (upd r 14 (.int .i64 0)) h (dc 2 (di (Tq G K) K))
def Ab:Prop:=
 o_ G (z1_ (r 12) (1:Int)) h fun g h=>
 K .normal (u3 r 30 (r 12) 31 g 12 g) h
def Ec:Prop:=
 o_ G (l_ 203 (r 13)) h fun g h=>o_ G (Instr.buildSlice 99 1 #[(0,g)]) h fun j h=>o_ G (Builtin.append_ #[99,99] 99 #[r 11,j]) h fun s h=>
 Ab G K (u5 r 72 (r 11) 73 g 74 j 75 s 11 s) h
def Mr:Prop:=
 opH P_ G (xNil (r 0)) h fun g h=>o_ G (f_ 188 g 0) h fun j h=>o_ G (l_ 98 j) h fun s h=>o_ G (i_ 98 s (r 2)) h fun u h=>o_ G (l_ 99 u) h fun w h=>o_ G (i_ 99 w (r 12)) h fun z h=>o_ G (l_ 203 z) h fun C h=>o_ G (Instr.alloc 203 true (.tuple #[])) h fun D h=>
 opH P_ G (x_ 203 D C) h fun E h=>o_ G (f_ 203 D 2) h fun E h=>o_ G (l_ 3 E) h fun F h=>
 opH P_ G (xEq .eql 3 (.tmp 0) (.tmp 0) F (r 1)) h fun I h=>g_ I true (o_ G (f_ 203 D 0) h) h fun J h=>g_ I true (o_ G (l_ 3 J) h) h fun L h=>g_ I true (o_ G (f_ 203 (r 10) 1) h) h fun M h=>g_ I true (o_ G (l_ 3 M) h) h fun N h=>g_ I true (o_ G (z7_ L N) h) h fun O h=>
 opH P_ G (dh I O (.bool false)) h fun P h=>g_ P true (o_ G (f_ 203 (r 10) 0) h) h fun Q h=>g_ P true (o_ G (l_ 3 Q) h) h fun U h=>g_ P true (o_ G (f_ 203 D 1) h) h fun V h=>g_ P true (o_ G (l_ 3 V) h) h fun W h=>g_ P true (o_ G (z7_ U W) h) h fun Y h=>
 opH P_ G (dh P Y (.bool false)) h fun Z h=>
 cond Z
 (o_ G (f_ 203 (r 10) 0) h fun aa h'=>o_ G (l_ 3 aa) h' fun ab h'=>o_ G (f_ 203 D 0) h' fun ac h'=>o_ G (l_ 3 ac) h' fun ae h'=>o_ G (Builtin.min_ #[3,3] 3 #[ab,ae]) h' fun af h'=>o_ G (f_ 203 (r 10) 0) h' fun ag h'=>
 opH P_ G (x_ 3 ag af) h' fun ah h'=>o_ G (f_ 203 (r 10) 1) h' fun ah h'=>o_ G (l_ 3 ah) h' fun ai h'=>o_ G (f_ 203 D 1) h' fun aj h'=>o_ G (l_ 3 aj) h' fun ak h'=>o_ G (Builtin.max_ #[3,3] 3 #[ai,ak]) h' fun al h'=>o_ G (f_ 203 (r 10) 1) h' fun am h'=>
 opH P_ G (x_ 3 am al) h' fun an h'=>
 Ab G K (upd (u10 (u10 (u10 (u10 r 32 (r 0) 33 g 34 j 35 s 36 (r 2) 37 u 38 w 39 (r 12) 40 z 41 C) 13 D 42 E 43 F 44 (r 1) 45 I 46 I 47 J 48 L 49 M 50 N) 51 O 52 P 53 P 54 Q 55 U 56 V 57 W 58 Y 59 Z 60 aa) 61 ab 62 ac 63 ae 64 af 65 ag 66 ah 67 ai 68 aj 69 ak 70 al) 71 am) h')
 (Ec G K (u9 (u10 (u10 r 32 (r 0) 33 g 34 j 35 s 36 (r 2) 37 u 38 w 39 (r 12) 40 z 41 C) 13 D 42 E 43 F 44 (r 1) 45 I 46 I 47 J 48 L 49 M 50 N) 51 O 52 P 53 P 54 Q 55 U 56 V 57 W 58 Y 59 Z) h)
def ah9 (r:Rg) (h:Hp) (K:EK):Prop:=
 opH P_ G (xNil (r 0)) h fun g h=>o_ G (f_ 188 g 0) h fun j h=>o_ G (l_ 98 j) h fun s h=>o_ G (i_ 98 s (r 2)) h fun u h=>o_ G (l_ 99 u) h fun w h=>o_ G (k_ 99 w) h fun z h=>o_ G (z2_ (r 12) z) h fun C h=>
 (fun q=>cond C
 (Mr G K q h)
 (K (.exit 0) q h))
 (u10 r 20 (r 12) 21 (r 0) 22 g 23 j 24 s 25 (r 2) 26 u 27 w 28 z 29 C)
def S139:Prop:=
 o_ G (Instr.build 203 #[(0,(r 3)),(1,(r 4)),(2,(r 1))]) h fun g h=>o_ G (Instr.alloc 203 true (.tuple #[])) h fun j h=>
 opH P_ G (x_ 203 j g) h fun s h=>
 du (ah9 G) (u7 r 16 (r 3) 17 (r 4) 18 (r 1) 19 g 10 j 11 (.slice none 0 0) 12 (.int .i64 0)) h (dc 0 (di (ai1 G K) K))
theorem aH7:Ent 113 139 [] S139:=ent_ (m:=md139) (c:=(Tryz.f139.body.getD .skip)) (fun _ _ _ _=>by kernel_rfl) Tryz.func139 rfl rfl rfl
end
end Go.Proofs.YtfflipnhffknnaaGreatDoor
end
section
namespace Go.Proofs.YtfflipnhffknnaaGreatDoor.Rv
open Go Go.HL Go.Proofs.Resv
def ia:=jq bC (jq (jq (jq (jq @aH_ @and_true) (jq @bd188_0 @xa)) (jq (jq @kv @cf128) (jq @cf137 (jq @ab9 @zu)))) (jq (jq (jq @zt @zr) (jq @ld3 @ld98)) (jq (jq @ld99 @ln98) (jq @ln99 (jq @li @true_and)))))
theorem J2 {G h:Hp} {tp:Nat} {T:Tb} {c:Int} (ts:TSee G h tp T):bn P_ G 137 #[.pointer (some ⟨tp,0,none⟩),c] h (fun u h'=>u = .bool (inT T.length c)/\h'=h):=by
 obtain ⟨rb,e1,_⟩:=ts;refine aH9 (by simp) ?_;unfold S137 inT;try simp only [ia]
 by_cases h0:0<=c
 . try simp only [ia,af_ h0,show decide (c>=0)=true from af_ h0,e1]
 . try simp only [ia,ai_ h0,show decide (c>=0)=false from ai_ h0,fq,bZ_]
theorem Un {G h:Hp} {tp:Nat} {T:Tb} {c:Int} (ts:TSee G h tp T):bn P_ G 101 #[.pointer (some ⟨tp,0,none⟩),c] h (fun u h'=>Sees dm G h u (rowT T c)/\h'=h):=by
 refine aK9 (by simp) ?_;unfold S101;try simp only [ia]
 refine (J2 ts).mono ?_;rintro _ h ⟨rfl,rfl⟩;cases hc:inT T.length c with
 |false=>
  try simp only [ia]
  rw [A3 (fun e=>by rw [uu.2 e]at hc;cases hc)];exact ⟨_,0,rfl,aj_ _,.inl rfl⟩
 |true=>
  obtain ⟨h0,h1⟩:=uu.1 hc;obtain ⟨rb,e1,e2⟩:=ts;obtain ⟨a,cap,e3,e4⟩:=e2 _ _ (pm h0 h1);try simp only [ia]
  unfold al8;try simp (disch:=decide) only [ia,e1,ix98 h0 h1,aW_,e3]
  exact e4
theorem ao0 {G h:Hp} {n:Nat} (h1:1<=n) (h2:n<=256):bn P_ G 91 #[n] h (fun u h'=>∃a tp,u = .pointer (some ⟨tp,0,none⟩)/\Tab 188 a tp (List.replicate n [])/\HL.Sep [a,h] h'/\Dis G h'):=by
 refine bn.assume fun d=>enter91 (by simp) ?_;unfold S91;simp only [ia,ai_ (show ¬(n:Int)<1 by omega),show decide ((n:Int)>256)=false from ai_ (by omega)];unfold aN9;simp (disch:=decide) only [ia];rw [tf svC (none,0,0) (by decide) un98 eosv (by kernel_rfl) (by omega) (by omega)];intro rb hrb grb;simp only [ia];intro tp htp gtp;have s1:=(Sep.one (h:=h)).new (o := .cells (svC.rows (List.replicate n (none,0,0))).toArray 99 (0,0)) hrb;have d1:=d.set (o := .cells (svC.rows (List.replicate n (none,0,0))).toArray 99 (0,0)) grb;have s2:=s1.new (o := .cells #[.slice (some ⟨rb,0,none⟩) n n] 188 (0,0)) htp;have s3:=(s2.none.pick 2 rfl rfl).pick 2 rfl rfl;obtain ⟨a,s4,t4⟩:=uz s3;refine ⟨a,tp,rfl,⟨rb,List.replicate n (none,0,0),noHp,?_,by simp,fun i s L h1 h2=>?_⟩,s4,d1.set gtp⟩
 . rw [bG_];exact t4
 . rw [bS_]at h1 h2;split at h1
   . rename_i hi;rw [ak_ hi]at h2;cases h1;cases h2;exact ⟨rfl,Slc.nil⟩
   . cases h1
theorem ay9 {G h:Hp} {tp:Nat} {T:Tb} {L:List Slot} {c r f t:Int} (ts:TSee G h tp T) (h0:0<=c) (hL:T[c.toNat]?=some L) (hlen:L.length<=100000):
 bn P_ G 138 #[.pointer (some ⟨tp,0,none⟩),r,c,f,t] h (fun u h'=>u = .bool (!l8 L r f t)/\h'=h):=by
 have h1:c<T.length:=by have:=(ad_.1 hL).1;omega
 obtain ⟨rb,e1,e2⟩:=ts;obtain ⟨a,cap,e3,e4⟩:=e2 _ _ hL;refine aH8 (by simp) ?_;unfold S138;simp only [ia,e1,ix98 h0 h1,aW_,e3]
 refine dt (fun m q h3=>∃i:Nat,m=L.length-i/\i<=L.length/\q 1 = .int .i64 r/\q 3 = .int .i64 f/\q 4 = .int .i64 t/\q 11 = .slice a L.length cap/\q 12 = .int .i64 i/\h3=h/\l8 (L.take i) r f t=true) ?_
  (m:=L.length) ⟨0,rfl,au_ _,by simp (disch:=decide) only [ia],by simp (disch:=decide) only [ia],by simp (disch:=decide) only [ia],by simp (disch:=decide) only [ia],by simp only [ia]<;>rfl,rfl,rfl⟩
 rintro m q h ⟨i,rfl,hi,q1,q3,q4,q19,q21,rfl,hf⟩ X HX;unfold ai2;simp only [ia,q19,q21];refine df (fun hlt=>?_) (fun hge=>?_);rotate_left
 . obtain rfl:i=L.length:=by omega
   rw [am_ (aj_ _)]at hf;try simp (disch:=first|decide|omega) only [ia,Nat.reduceAdd,Nat.reduceMul]
   unfold ai3;try simp only [ia]
   rw [hf];rfl
 obtain ⟨s,hs⟩:∃s,L[i]?=some s:=⟨_,aa_ (by omega)⟩;obtain ⟨b,o,rfl,z0,z1,z2⟩:=Sees.slot e4 hs;unfold Mt;simp (disch:=decide) only [ia,q19,q21,ix99 (ac_ i) hlt,z0,z1,z2,q1];have k4:∀(K0:Exit->Rg->Hp->Prop) (q':Rg),q' 1 = .int .i64 r->q' 3 = .int .i64 f->q' 4 = .int .i64 t->q' 11=q 11->q' 12=q 12->(s.r==r || !(decide (s.f<t)&&decide (f<s.t)))=true->Ed G (di X K0) q' h:=by intro K0 q' p1 p3 p4 p19 p21 hc;unfold Ed;simp (disch:=first|decide|omega) only [ia,p21,q21];exact HX (L.length-(i+1)) _ _ (by omega) ⟨i+1,rfl,by omega,by simp (disch:=decide) only [ia,p1],by simp (disch:=decide) only [ia,p3],by simp (disch:=decide) only [ia,p4],by simp (disch:=decide) only [ia,p19,q19],by simp only [ia]<;>rfl,rfl,by rw [G7 hs,hf,hc];rfl⟩
 cases hb:(s.r != r)with
 |false=>
  try simp only [ia,fq,hb]
  exact k4 _ _ (by simp (disch:=decide) only [ia,q1]) (by simp (disch:=decide) only [ia,q3]) (by simp (disch:=decide) only [ia,q4]) (by simp (disch:=decide) only [ia]) (by simp (disch:=decide) only [ia]) (by simp at hb;simp [hb])
 |true=>
  try simp only [ia,q4,q19,q21,ix99 (ac_ i) hlt,z0,z1,z2]
  by_cases hb2:s.f<t
  . try simp only [ia,af_ hb2,q3,q19,q21,ix99 (ac_ i) hlt,z0,z1,z2]
    refine df (fun hb3=>?_) (fun hb3=>?_)
    . try simp (disch:=first|decide|omega) only [ia,Nat.reduceAdd,Nat.reduceMul]
      have:(s.r==r || !(decide (s.f<t)&&decide (f<s.t)))=false:=by simp at hb;simp [hb,hb2,hb3]
      rw [K6 hs this];rfl
    . exact k4 _ _ (by simp (disch:=decide) only [ia,q1]) (by simp (disch:=decide) only [ia,q3]) (by simp (disch:=decide) only [ia,q4]) (by simp (disch:=decide) only [ia]) (by simp (disch:=decide) only [ia]) (by simp [hb3])
  . try simp only [ia,ai_ hb2,fq]
    exact k4 _ _ (by simp (disch:=decide) only [ia,q1]) (by simp (disch:=decide) only [ia,q3]) (by simp (disch:=decide) only [ia,q4]) (by simp (disch:=decide) only [ia]) (by simp (disch:=decide) only [ia]) (by simp [hb2])
def gn:=jq bC (jq (jq (jq (jq @W4 @Wy) (jq @pd (jq @Ww @ab9))) (jq (jq @zu (jq @V9 @zt)) (jq @zr (jq @ix99p @Vk)))) (jq (jq (jq @ld3 @ld3p) (jq @ld98 (jq @ld99 @ln99))) (jq (jq @ln99p (jq @li @mx)) (jq @jw (jq @Kc @true_and)))))
theorem Zv {L:List Slot} {v:Int} {k:Nat} (h:∀s∈L.take k,s.f<v) (hk:k<=L.length) (h2:∀s,L[k]?=some s->¬s.f<v):rank L v=k:=by
 unfold rank;have e:=bE_ k L;conv=>lhs;rw [<- e]
 rw [List.takeWhile_append_of_pos (fun s hs=>by simpa using h s hs),ae_,aN_,bN_ hk];cases hd:L.drop k with
 |nil=>simp
 |cons s M=>
  have hs:L[k]?=some s:=by have:=congrArg (fun l=>l[0]?) hd;simpa [List.getElem?_drop]using this
  rw [List.takeWhile_cons,ah_ (by simpa using h2 s hs)];simp
theorem aw1 {G a h:Hp} {v:Value} {L:List Slot} (o:Slc dm 203 a v L) (l:a.le h) {k:Nat} (hk:k<=L.length) {K:VK} (H:∀v',Sees dm G h v' (L.drop k)->K v' h):wpH P_ G (Instr.sliceAt 99 v (some (.int .i64 k)) none none) h K:=by
 by_cases hL:L=[]
 . subst hL;obtain rfl:k=0:=by simpa using hk
   obtain ⟨ob,o'⟩:=id o;cases ob with
   |none=>obtain ⟨rfl,_⟩:=o';rw [show ((0:Nat):Int)=0 from rfl,Hy un99 rx];exact H _ ⟨none,0,rfl,aj_ _,.inl rfl⟩
   |some b=>obtain ⟨cap,t,rfl,hb,hl⟩:=o';rw [show ([]:List Slot).length=0 from rfl,pk un99 rx (ac_ _) (ac_ _) (au_ _)];exact H _ ⟨_,_,rfl,au_ _,.inl rfl⟩
 . exact an3 (c:=dm) (j:=(k:Int)) un99 rx (o.sees (by decide) l) hL (ac_ _) (by omega) H
theorem an5 {G h a:Hp} {R:List Hp} {tp:Nat} {T:List (List Slot)} {L:List Slot} {c r f t:Int} (tb:Tab 188 a tp T) (sp:HL.Sep (a::R) h) (h0:0<=c) (hL:T[c.toNat]?=some L) (g:Resv.Good L) (hlen:L.length<=50000) (hf:0<=f) (hft:f<t) (ht:t<=FV):
 bn P_ G 139 #[.pointer (some ⟨tp,0,none⟩),r,c,f,t] h (fun u h'=>u = .tuple #[]/\∃a',Tab 188 a' tp (T.set c.toNat (Resv.putL L r f t))/\HL.Sep (a'::R) h'/\Dis G h'):=by
 have h1:c<T.length:=by have:=(ad_.1 hL).1;omega
 refine bn.assume fun d=>aH7 (by simp) ?_;have da:Dis G a:=fun b o e=>d _ _ (sp.hd _ _ e);obtain ⟨rb,e1,e2⟩:=tb.see (G:=G) (Hp.le.refl a);obtain ⟨sa,cap,e3,e4⟩:=e2 _ _ hL;unfold S139;simp (disch:=first|decide|exact b8|exact bw|omega|rfl) only [gn];intro xb hxb gxb;generalize eh:Hp.set h xb _=hb;obtain ⟨lb,db,bb⟩:=boxed eh hxb d gxb;have sb:HL.Sep (noHp::noHp.set xb (qg ⟨f,t,r⟩)::a::R) hb:=by rw [<- eh];exact (sp.new hxb).none
 clear eh
 refine dt (fun m q h3=>∃(i:Nat) (fi ti:Int) (io:Hp) (v:Value) (out:List Slot),m=L.length-i/\i<=L.length/\q 0 = .pointer (some ⟨tp,0,none⟩)/\q 1 = .int .i64 r/\q 2 = .int .i64 c/\q 10 = .pointer (some ⟨xb,0,none⟩)/\q 11=v/\q 12 = .int .i64 i/\
  Slc dm 203 io v out/\out.length<=i/\HL.Sep (io::noHp.set xb (qg ⟨fi,ti,r⟩)::a::R) h3/\Dis G h3/\m9 r (L.drop i) fi ti out=m9 r L f t []) ?_
  (m:=L.length) ⟨0,f,t,noHp,_,[],rfl,au_ _,by simp (disch:=decide) only [gn],by simp (disch:=decide) only [gn],by simp (disch:=decide) only [gn],by simp (disch:=decide) only [gn],rfl,by simp only [gn]<;>rfl,by simp (disch:=decide) only [gn];exact Slc.nil,au_ _,sb,db,rfl⟩
 clear lb db bb sb hb;rintro m q h3 ⟨i,fi,ti,io,v,out,rfl,hi,q0,q1,q2,q10,q11,q12,o,ho,s3,d3,hm⟩ X HX;have l3:=s3.in 2 rfl;have bx3:h3 xb=some (qg ⟨fi,ti,r⟩):=s3.at 1 rfl bh;unfold ah9;simp only [gn,q0,q2,q12,ku l3 d3 e1,ix98 h0 h1,aW_,ku l3 d3 e3];refine df (fun hlt=>?_) (fun hge=>?_)
 . obtain ⟨s,hs⟩:∃s,L[i]?=some s:=⟨_,aa_ (by omega)⟩;obtain ⟨b,of,rfl,z0,z1,z2⟩:=Sees.slot (e4.up l3 d3) hs;unfold Mr;simp -implicitDefEqProofs (maxSteps:=2000000) (disch:=first|decide|with_reducible exact aA_ rfl|exact b8|exact bw|omega|rfl|(simp;done)|fail) only [gn,q0,q2,q12,ku l3 d3 e1,ix98 h0 h1,aW_,ku l3 d3 e3,ix99 (ac_ i) hlt,z0,z1,z2];intro y hy gy;simp only [gn,q1];generalize eh:Hp.set h3 y _=h4;obtain ⟨l4,d4,b4⟩:=boxed eh hy d3 gy;have s4:HL.Sep (io::noHp.set xb (qg ⟨fi,ti,r⟩)::a::R) h4:=by rw [<- eh];exact s3.past hy
   have cy:∀j,bf G h4 ⟨y,j,none⟩=_:=fun j=>bm (bj b4);have bx4:h4 xb=some (qg ⟨fi,ti,r⟩):=s4.at 1 rfl bh;have cb:∀j,bf G h4 ⟨xb,j,none⟩=_:=fun j=>bm (bj bx4)
   have k8:∀(K0:Exit->Rg->Hp->Prop) (q':Rg),(∀k,k<=12->q' k=q k)->q' 13 = .pointer (some ⟨y,0,none⟩)->j9 r fi ti s=false->Ec G (di X K0) q' h4:=by
    intro K0 q' hq q'13 htb;unfold Ec;simp only [gn,q'13,cy];intro z hz gz;generalize ez:Hp.set h4 z _=h5;obtain ⟨l5,d5,b5⟩:=boxed ez hz d4 gz;have s5:HL.Sep (io::noHp.set xb (qg ⟨fi,ti,r⟩)::a::R) h5:=by rw [<- ez];exact s4.past hz
    rw [hq 11 (by decide),q11];refine fh dm (by decide) un99 eoslot (by decide) (by decide) (M:=[s]) s5 d5 o (Sees.row (c:=dm) (L:=[s]) b5 rfl (aj_ _)) (by simp;omega) fun v' a' h' o' s' d'=>?_;unfold Ab;simp (disch:=first|decide|omega) only [gn,hq 12 (by decide),q12];refine HX (L.length-(i+1)) _ _ (by omega) ⟨i+1,fi,ti,a',v',out++[s],rfl,by omega,by simp (disch:=decide) only [gn,hq 0 (by decide),q0],by simp (disch:=decide) only [gn,hq 1 (by decide),q1],by simp (disch:=decide) only [gn,hq 2 (by decide),q2],by simp (disch:=decide) only [gn,hq 10 (by decide),q10],by simp (disch:=decide) only [gn],by simp only [gn]<;>rfl,o',by simp;omega,s',d',?_⟩;rw [<- hm,zg hs,ah_ (by rw [htb];decide)]
   cases hb:(s.r==r)with
   |false=>simp only [gn,hb,fq];exact k8 _ _ (fun k hk=>by simp (disch:=omega) only [bo]) (by simp (disch:=decide) only [gn]) (by unfold j9;rw [hb];rfl)
   |true=>
   simp only [gn,cy,q10,cb];by_cases hb2:s.f<=ti;rotate_left
   . simp only [gn,ai_ hb2,fq];exact k8 _ _ (fun k hk=>by simp (disch:=omega) only [bo]) (by simp (disch:=decide) only [gn]) (by unfold j9;rw [ai_ hb2];simp)
   simp only [gn,af_ hb2,q10,cb,cy];refine df (fun hb3=>?_) (fun hb3=>?_);rotate_left
   . exact k8 _ _ (fun k hk=>by simp (disch:=omega) only [bo]) (by simp (disch:=decide) only [gn]) (by unfold j9;rw [ai_ hb3];simp)
   simp only [gn,cy,cb,q10,Z5];rw [ec sz3 rfl bx4 (by simp)];generalize e5:Hp.set h4 xb _=h5;have b5:=Xh e5;have c5:∀j,bf G h5 ⟨xb,j,none⟩=_:=fun j=>bm (bj b5);have y5:∀j,bf G h5 ⟨y,j,none⟩=_:=fun j=>bm (bj (by rw [Gv e5 (fun e=>by rw [e]at hy;rw [bx3]at hy;cases hy)];exact b4));simp only [gn,c5,y5,q10,Z7];rw [ec sz3 rfl b5 (by simp)];unfold Ab;simp (disch:=first|decide|omega) only [gn,q12];have s6:=((s4.pick 1 rfl rfl).put (o:=qg ⟨min fi s.f,max ti s.t,r⟩) bh);rw [set_set]at s6;refine HX (L.length-(i+1)) _ _ (by omega) ⟨i+1,min fi s.f,max ti s.t,io,v,out,rfl,by omega,by simp (disch:=decide) only [gn,q0],by simp (disch:=decide) only [gn,q1],by simp (disch:=decide) only [gn,q2],by simp (disch:=decide) only [gn,q10],by simp (disch:=decide) only [gn,q11],by simp only [gn]<;>rfl,o,by omega,?_,?_,?_⟩
   . rw [<- e5,set_set];exact s6.pick 1 rfl rfl
   . rw [<- e5,set_set];exact d4.set (d4 _ _ bx4)
   . rw [<- hm,zg hs,ak_ (by unfold j9;rw [hb,af_ hb2,af_ hb3];rfl)]
 obtain rfl:i=L.length:=by omega
 rw [a5_ (aj_ _),m9]at hm;obtain ⟨f',t',em,m1,m2,m3,m4,m5⟩:=Dr (r:=r) (f:=f) (t:=t) (out:=[]) g.apart (fun s hs=>(g.ok s hs).2.1) hft;rw [<- hm]at em;simp only [Prod.mk.injEq,a8_]at em;obtain ⟨rfl,rfl,eo⟩:=em;have ep:Resv.putL L r f t=Bo out ⟨fi,ti,r⟩:=by unfold Resv.putL;rw [<- hm]
 clear HX m1 m2 m3 m4 m5 hm;try simp (disch:=first|decide|omega) only [gn,Nat.reduceAdd,Nat.reduceMul]
 unfold ai1;obtain ⟨oa,ocap,rfl,_⟩:=o.len (by decide);have cb:∀j,bf G h3 ⟨xb,j,none⟩=_:=fun j=>bm (bj bx3)
 refine dt (fun m q' h4=>∃k:Nat,m=out.length-k/\k<=out.length/\(∀j,j<=13->q' j=q j)/\q' 14 = .int .i64 k/\h4=h3/\∀s∈out.take k,s.f<fi) ?_
  (m:=out.length) ⟨0,rfl,au_ _,(fun j hj=>by simp (disch:=omega) only [bo]),by simp only [gn]<;>rfl,rfl,(fun s hs=>by simp at hs)⟩
 rintro m q' h4 ⟨k,rfl,hk,hq,q14,rfl,hlow⟩ X HX;unfold ai0
 have fin:∀r1:Rg,(∀j,j<=13->r1 j=q j)->r1 14 = .int .i64 k->rank out fi=k->Tq G (retK P_ G [] fun u h'=>u = .tuple #[]/\∃a',Tab 188 a' tp (T.set c.toNat (Resv.putL L r f t))/\HL.Sep (a'::R) h'/\Dis G h') r1 h4:=by
  intro r1 hr r14 hrk;unfold Tq;have so:=o.sees (G:=G) (by decide) (s3.in 0 rfl);simp only [gn,r14,hr 11 (by decide),q11];refine sees_to (c:=dm) (L:=out) (j:=(k:Int)) un99 rx so (ac_ _) (by omega) fun v3 t3=>?_;rw [aP_]at t3;refine fh dm (by decide) un99 eoslot (by decide) (by decide) (L:=[]) (M:=out.take k) s3.none d3 Slc.nil t3 (by simp;omega) fun v5 a5 h5 o5 s5 d5=>?_;have bx5:h5 xb=some (qg ⟨fi,ti,r⟩):=s5.at 2 rfl bh;have c5:∀j,bf G h5 ⟨xb,j,none⟩=_:=fun j=>bm (bj bx5);simp only [gn,hr 10 (by decide),q10,c5];intro z hz gz;generalize ez:Hp.set h5 z _=h6;obtain ⟨l6,d6,b6⟩:=boxed ez hz d5 gz;have s6:=s5.past (o:=qg ⟨fi,ti,r⟩) hz;rw [ez]at s6;rw [a8_]at o5;refine fh dm (by decide) un99 eoslot (by decide) (by decide) (M:=[⟨fi,ti,r⟩]) s6 d6 o5 (Sees.row (c:=dm) (L:=[⟨fi,ti,r⟩]) b6 rfl (aj_ _)) (by simp;omega) fun v7 a7 h7 o7 s7 d7=>?_;refine aw1 o (s7.in 1 rfl) hk fun v8 t8=>?_;refine fh dm (by decide) un99 eoslot (by decide) (by decide) (M:=out.drop k) s7 d7 o7 t8 (by simp;omega) fun v9 a9 h9 o9 s9 d9=>?_;rw [show out.take k++[⟨fi,ti,r⟩]++out.drop k=Resv.putL L r f t by rw [ep,Vu,hrk,aC_];rfl]at o9;have s10:=((s9.pick 1 rfl rfl).drop.pick 1 rfl rfl).drop;obtain ⟨rb',l,e1',hrb,hcl,a',t',s11,d11⟩:=Og (c:=c.toNat) tb s10 d9 o9 (by omega);rw [e1]at e1';obtain rfl:rb=rb':=by simpa using e1'
  simp only [gn,hr 0 (by decide),q0,hr 2 (by decide),q2,ku (s9.in 3 rfl) d9 e1,ix98 h0 h1,aW_];obtain ⟨sa6,cap6,rfl,_⟩:=o9.len (by decide);rw [ec sz99 rfl hrb hcl];exact ⟨a',t',s11,d11⟩
 simp only [gn,hq 11 (by decide),q11,q14];by_cases hlt:(k:Int)<out.length
 . obtain ⟨s,hs⟩:∃s,out[k]?=some s:=⟨_,aa_ (by omega)⟩;obtain ⟨b,of,rfl,z0,z1,z2⟩:=Sees.slot (o.sees (G:=G) (by decide) (s3.in 0 rfl)) hs;simp (disch:=first|decide|omega) only [gn,af_ hlt,ix99 (ac_ k) hlt,z0,hq 10 (by decide),q10,cb];refine df (fun h5=>?_) (fun h5=>?_)
   . unfold Ms;simp (disch:=first|decide|omega) only [gn,q14];refine HX (out.length-(k+1)) _ _ (by omega) ⟨k+1,rfl,by omega,(fun j hj=>by simp (disch:=omega) only [bo,hq]),by simp only [gn]<;>rfl,rfl,fun s' hs'=>?_⟩;rw [aL_,hs]at hs';rcases ao_.1 hs' with h6|h6
     . exact hlow s' h6
     . simp at h6;subst h6;exact h5
   . try simp (disch:=first|decide|omega) only [gn,Nat.reduceAdd,Nat.reduceMul]
     exact fin _ (fun j hj=>by simp (disch:=omega) only [bo,hq]) (by simp (disch:=decide) only [gn,q14]) (Zv hlow hk fun s' hs'=>by rw [hs]at hs';cases hs';exact h5)
 . simp only [gn,ai_ hlt,fq];exact fin _ (fun j hj=>by simp (disch:=omega) only [bo,hq]) (by simp (disch:=decide) only [gn,q14]) (Zv hlow hk fun s' hs'=>by rw [a4_ (by omega)]at hs';cases hs')
def gg:=jq bC (jq (jq (jq @Lp (jq @B1 @cf137)) (jq @cf138 (jq @cf139 @aD1))) (jq (jq @aD0 (jq @aC9 @ix114p)) (jq @ld3p (jq @ln114 @true_and))))
theorem Uw {G h a w:Hp} {R:List Hp} {tp b:Nat} {T:Tb} {r:Int} {v:Value} {l:List Want} (tb:Tab 188 a tp T) (sp:HL.Sep (a::w::R) h) (sv:Sees Of G w v l) (g:i7 T) (fw:Few T b) (hb:b+l.length<=50000):
 bn P_ G 92 #[.pointer (some ⟨tp,0,none⟩),r,v] h (fun u h'=>u = .int .i64 (lj T r l).1/\∃a',Tab 188 a' tp (lj T r l).2/\HL.Sep (a'::w::R) h'/\Dis G h'):=by
 obtain ⟨sa,cap,rfl⟩:=sv.len;refine bn.assume fun d=>enter92 (by simp) ?_;unfold S92;simp only [gg];refine df (fun hr=>?_) (fun hr=>?_)
 . try simp (disch:=first|decide|omega) only [gg,Nat.reduceAdd,Nat.reduceMul]
   have e:lj T r l=(1,T):=by unfold lj;rw [ak_ hr]
   rw [e];exact ⟨rfl,a,tb,sp,d⟩
 unfold aN8;generalize hKK:retK P_ G _ _=KK
 refine dt (fun m q h3=>∃i:Nat,m=l.length-i/\i<=l.length/\q 0 = .pointer (some ⟨tp,0,none⟩)/\q 1 = .int .i64 r/\q 2 = .slice sa l.length cap/\q 7 = .int .i64 i/\HL.Sep (a::w::R) h3/\Dis G h3/\(l.take i).all (oc T.length)=true) ?_
  (m:=l.length) ⟨0,rfl,au_ _,by simp (disch:=decide) only [gg],by simp (disch:=decide) only [gg],by simp (disch:=decide) only [gg],by simp only [gg]<;>rfl,sp,d,rfl⟩
 rintro m q h3 ⟨i,rfl,hi,q0,q1,q2,q7,s3,d3,hv⟩ X HX;unfold ae0;simp only [gg,q2,q7];refine df (fun hlt=>?_) (fun hge=>?_)
 . obtain ⟨x,hx⟩:∃x,l[i]?=some x:=⟨_,aa_ (by omega)⟩;obtain ⟨bb,of,rfl,z0,z1,z2⟩:=Sees.want (sv.up (s3.in 1 rfl) d3) hx;unfold Is;simp (disch:=first|decide|omega) only [gg,q0,q2,q7,O7 (ac_ i) hlt,z0,z1,z2];refine (J2 (c:=x.c) (tb.see (s3.in 0 rfl))).mono ?_;rintro _ h3 ⟨rfl,rfl⟩
   have bad:∀r1:Rg,r1 6 = .int .i64 1->oc T.length x=false->KK .ret r1 h3:=fun r1 h6 hf=>by
    rw [<- hKK];have e:lj T r l=(1,T):=by unfold lj;rw [ah_ hr,ah_ (by rw [Jr hx hf];decide)]
    simp only [gg,h6,e];exact ⟨a,tb,s3,d3⟩
   have go:∀(K0:Exit->Rg->Hp->Prop) (r1:Rg),(∀k,k<=7->r1 k=q k)->oc T.length x=true->B4 G (di X K0) r1 h3:=fun K0 r1 hk ht=>by unfold B4;simp (disch:=first|decide|omega) only [gg,hk 7 (by decide),q7];exact HX (l.length-(i+1)) _ _ (by omega) ⟨i+1,rfl,by omega,by simp (disch:=decide) only [gg,hk 0 (by decide),q0],by simp (disch:=decide) only [gg,hk 1 (by decide),q1],by simp (disch:=decide) only [gg,hk 2 (by decide),q2],by simp only [gg]<;>rfl,s3,d3,by rw [F7 hx,hv,ht];rfl⟩
   cases e1:inT T.length x.c with
   |false=>
    try simp only [gg,fq]
    exact bad _ (by simp only [gg]) (by unfold oc;rw [e1];rfl)
   |true=>
   try simp (disch:=first|decide|omega) only [gg,q2,q7,O7 (ac_ i) hlt,z0,z1,z2]
   by_cases e2:x.f<0
   . try simp only [gg,af_ e2,fq]
     exact bad _ (by simp only [gg]) (by unfold oc;rw [ai_ (show ¬0<=x.f by omega)];simp)
   try simp (disch:=first|decide|omega) only [gg,ai_ e2,q2,q7,O7 (ac_ i) hlt,z0,z1,z2]
   by_cases e3:x.f>=x.t
   . try simp only [gg,af_ e3,fq]
     exact bad _ (by simp only [gg]) (by unfold oc;rw [ai_ (show ¬x.f<x.t by omega)];simp)
   try simp (disch:=first|decide|omega) only [gg,ai_ e3,q2,q7,O7 (ac_ i) hlt,z0,z1,z2]
   refine df (fun e4=>?_) (fun e4=>?_)
   . exact bad _ (by simp only [gg]) (by unfold oc;rw [ai_ (show ¬x.t<=FV by simp only [FV];omega)];simp)
   . exact go _ _ (fun k hk=>by simp (disch:=omega) only [bo]) (sd.2 ⟨uu.1 e1,by omega,by omega,by simp only [FV];omega⟩)
 obtain rfl:i=l.length:=by omega
 rw [am_ (aj_ _)]at hv;clear HX;try simp (disch:=first|decide|omega) only [gg,Nat.reduceAdd,Nat.reduceMul]
 unfold aN7
 refine dt (fun m q' h3=>∃i:Nat,m=l.length-i/\i<=l.length/\q' 0 = .pointer (some ⟨tp,0,none⟩)/\q' 1 = .int .i64 r/\q' 2 = .slice sa l.length cap/\q' 8 = .int .i64 i/\HL.Sep (a::w::R) h3/\Dis G h3/\(l.take i).all (uk T r)=true) ?_
  (m:=l.length) ⟨0,rfl,au_ _,by simp (disch:=decide) only [gg,q0],by simp (disch:=decide) only [gg,q1],by simp (disch:=decide) only [gg,q2],by simp only [gg]<;>rfl,s3,d3,rfl⟩
 clear q0 q1 q2 q7 s3 d3;clear q h3;rintro m q h3 ⟨i,rfl,hi,q0,q1,q2,q8,s3,d3,hf⟩ X HX;unfold aN3;simp only [gg,q2,q8];refine df (fun hlt=>?_) (fun hge=>?_)
 . obtain ⟨x,hx⟩:∃x,l[i]?=some x:=⟨_,aa_ (by omega)⟩;obtain ⟨bb,of,rfl,z0,z1,z2⟩:=Sees.want (sv.up (s3.in 1 rfl) d3) hx;obtain ⟨⟨c0,c1⟩,f0,f1,f2⟩:=sd.1 (az_.1 hv x (ab_ hx));unfold Pu;simp (disch:=first|decide|omega) only [gg,q0,q1,q2,q8,O7 (ac_ i) hlt,z0,z1,z2];refine (ay9 (r:=r) (f:=x.f) (t:=x.t) (tb.see (s3.in 0 rfl)) c0 (pm c0 c1) (by have:=vh fw x.c;omega)).mono ?_;rintro _ h3 ⟨rfl,rfl⟩;cases e1:l8 (rowT T x.c) r x.f x.t with
   |false=>
    try simp only [gg]
    rw [<- hKK];have e:lj T r l=(18,T):=by unfold lj;rw [ah_ hr,ak_ hv,ah_ (by rw [Jr hx (by unfold uk;exact e1)];decide)]
    simp only [gg,e];exact ⟨a,tb,s3,d3⟩
   |true=>
    try simp only [gg]
    unfold Lx;simp (disch:=first|decide|omega) only [gg,q8];exact HX (l.length-(i+1)) _ _ (by omega) ⟨i+1,rfl,by omega,by simp (disch:=decide) only [gg,q0],by simp (disch:=decide) only [gg,q1],by simp (disch:=decide) only [gg,q2],by simp only [gg]<;>rfl,s3,d3,by rw [F7 hx,hf];unfold uk;rw [e1];rfl⟩
 obtain rfl:i=l.length:=by omega
 rw [am_ (aj_ _)]at hf;clear HX;try simp (disch:=first|decide|omega) only [gg,Nat.reduceAdd,Nat.reduceMul]
 unfold aN6
 refine dt (fun m q' h3=>∃(i:Nat) (a':Hp),m=l.length-i/\i<=l.length/\q' 0 = .pointer (some ⟨tp,0,none⟩)/\q' 1 = .int .i64 r/\q' 2 = .slice sa l.length cap/\q' 9 = .int .i64 i/\Tab 188 a' tp (wh r T (l.take i))/\HL.Sep (a'::w::R) h3/\Dis G h3) ?_
  (m:=l.length) ⟨0,a,rfl,au_ _,by simp (disch:=decide) only [gg,q0],by simp (disch:=decide) only [gg,q1],by simp (disch:=decide) only [gg,q2],by simp only [gg]<;>rfl,tb,s3,d3⟩
 clear q0 q1 q2 q8 s3 d3;clear q h3;rintro m q h3 ⟨i,a3,rfl,hi,q0,q1,q2,q9,t3,s3,d3⟩ X HX;unfold aN4;simp only [gg,q2,q9];refine df (fun hlt=>?_) (fun hge=>?_)
 . obtain ⟨x,hx⟩:∃x,l[i]?=some x:=⟨_,aa_ (by omega)⟩;obtain ⟨bb,of,rfl,z0,z1,z2⟩:=Sees.want (sv.up (s3.in 1 rfl) d3) hx;obtain ⟨⟨c0,c1⟩,f0,f1,f2⟩:=sd.1 (az_.1 hv x (ab_ hx));have sub:∀u∈l.take i,u∈l:=fun u hu=>List.mem_of_mem_take hu;obtain ⟨g3,fw3,l3,k3⟩:=Km (by omega:0<=r) (l:=l.take i) g fw (az_.2 fun u hu=>az_.1 hv u (sub u hu)) (az_.2 fun u hu=>az_.1 hf u (sub u hu));unfold Pw;simp (disch:=first|decide|omega) only [gg,q0,q1,q2,q9,O7 (ac_ i) hlt,z0,z1,z2];have hlen:(rowT (wh r T (l.take i)) x.c).length<=50000:=by have h5:=vh fw3 x.c;rw [aN_]at h5;omega
   refine (an5 (r:=r) t3 s3 c0 (pm c0 (by rw [l3];exact c1)) (sf g3 x.c) hlen f0 f1 f2).mono ?_;rintro _ h5 ⟨rfl,a5,t5,s5,d5⟩;unfold Pv;simp (disch:=first|decide|omega) only [gg,q9];refine HX (l.length-(i+1)) _ _ (by omega) ⟨i+1,a5,rfl,by omega,by simp (disch:=decide) only [gg,q0],by simp (disch:=decide) only [gg,q1],by simp (disch:=decide) only [gg,q2],by simp only [gg]<;>rfl,?_,s5,d5⟩;rw [Om hx];exact t5
 obtain rfl:i=l.length:=by omega
 rw [am_ (aj_ _)]at t3;try simp (disch:=first|decide|omega) only [gg,Nat.reduceAdd,Nat.reduceMul]
 unfold aN5;have e:lj T r l=(0,wh r T l):=by unfold lj;rw [ah_ hr,ak_ hv,ak_ hf]
 rw [<- hKK];simp only [gg,e];exact ⟨a3,t3,s3,d3⟩
end Go.Proofs.YtfflipnhffknnaaGreatDoor.Rv
end
section
namespace Go.Proofs.YtfflipnhffknnaaGreatDoor
open Go Go.HL Go.Proofs.Resv Go.Proofs.Srch
def kz:=jq bC (jq (jq (jq (jq @al97 @Wz) (jq @Yu (jq @bne_self_eq_false.{0} @at5))) (jq (jq @aL9 (jq @cf24 @cf25)) (jq @cf50 (jq @cf91 @cf92)))) (jq (jq (jq @ac8 (jq @zq @Bv)) (jq @fa97_0 (jq @fa97_1 @fa97_2))) (jq (jq @fa97_3 (jq @ld3 @ld97)) (jq @ln77 (jq @ao4 @st97w)))))
structure Hold where
 r:Int
 c:Int
 f:Int
 t:Int
def O8:Cod Hold:=⟨4,fun s=>[.int .i64 s.r,.int .i64 s.c,.int .i64 s.f,.int .i64 s.t],fun _=>rfl,fun _ v hv=>by simp at hv;rcases hv with rfl|rfl|rfl|rfl<;>rfl⟩
def W5 (x:Hold):Prop:=Bd x.r/\Bd x.c/\Bd x.f/\Bd x.t
def Bp (n:Nat) (T:Tb) (x:Hold):Tb:=(lj T (x.r % 5) [⟨x.c % (n:Int),x.f,x.t⟩]).2
def tabL (n:Nat) (l:List Hold):Tb:=(l.take 40).foldl (Bp n) (List.replicate n [])
theorem Dw {n:Nat}:∀(l:List Hold) (T:Tb) (b:Nat),i7 T->Few T b->i7 (l.foldl (Bp n) T)/\Few (l.foldl (Bp n) T) (b+l.length)/\(l.foldl (Bp n) T).length=T.length
 |[],T,b,g,f=>⟨g,f,rfl⟩
 |x::l,T,b,g,f=>by obtain ⟨g1,f1,l1⟩:=as7 (r:=x.r % 5) (l:=[⟨x.c % (n:Int),x.f,x.t⟩]) g f;obtain ⟨g2,f2,l2⟩:=Dw l (Bp n T x) (b+1) g1 f1;rw [bU_];refine ⟨g2,fun L hL=>?_,l2.trans l1⟩;have:=f2 L hL;rw [an_];omega
theorem tab_ok (n:Nat) (l:List Hold):i7 (tabL n l)/\Few (tabL n l) 100/\(tabL n l).length=n:=by obtain ⟨g,f,e⟩:=Dw (n:=n) (l.take 40) (List.replicate n []) 0 Du (fun L hL=>by rw [List.eq_of_mem_replicate hL];exact aj_ _);refine ⟨g,fun L hL=>?_,e.trans (bG_ ..)⟩;have:=f L hL;rw [aN_]at this;omega
theorem T7 {n:Nat} {l:List Hold} {i:Nat} {x:Hold} (hx:l[i]?=some x):(l.take (i+1)).foldl (Bp n) (List.replicate n [])=Bp n ((l.take i).foldl (Bp n) (List.replicate n [])) x:=by rw [aL_,hx,cj_];rfl
theorem Sees.hold {G h:Hp} {sa:Option Addr} {cap n:Nat} {L:List Hold} (s:Sees O8 G h (.slice sa n cap) L) {i:Nat} {x:Hold} (hx:L[i]?=some x):
 ∃b o,sa=some ⟨b,o,none⟩/\bf G h ⟨b,o+i*4,none⟩=some (.int .i64 x.r)/\bf G h ⟨b,o+i*4+1,none⟩=some (.int .i64 x.c)/\bf G h ⟨b,o+i*4+2,none⟩=some (.int .i64 x.f)/\bf G h ⟨b,o+i*4+3,none⟩=some (.int .i64 x.t):=by
 obtain ⟨s',c',e,_,hc|⟨b,o,rfl,hc⟩⟩:=s
 . rw [hc]at hx;cases hx
 . cases e;exact ⟨b,o,rfl,hc i x hx 0 (by decide),hc i x hx 1 (by decide),hc i x hx 2 (by decide),hc i x hx 3 (by decide)⟩
abbrev holdO (x:Hold):Obj := .cells #[x.r,x.c,x.f,x.t] 97 (0,0)
theorem Ke {G:Hp} {xb:Nat} {w:Want} {ty:TypeId}:Sees Rv.Of G (noHp.set xb (.cells #[w.c,w.f,w.t] ty (0,0))) (.slice (some ⟨xb,0,none⟩) 1 1) [w]:=by have o:Slc Rv.Of ty (noHp.set xb (.cells #[w.c,w.f,w.t] ty (0,0))) (.slice (some ⟨xb,0,none⟩) 1 1) [w]:=⟨some xb,1,[],rfl,by rw [bh];rfl,rfl⟩;exact o.see (by decide) (Hp.le.refl _)
theorem T6 {G h:Hp} {v lv:Value} {C:Conf} {l:List Hold} (hv:CV G h v C) (sm:SmO C) (hl:Cf O8 G lv l) (hb:∀x∈l,W5 x):
 bn P_ G 42 #[v,lv] h (fun u h'=>∃a1 a2 t1 t2,u = .tuple #[.pointer (some ⟨t1,0,none⟩),.pointer (some ⟨t2,0,none⟩),.bool true]/\
  Rv.Tab 124 a1 t1 (tabL (C.w*C.h).toNat l)/\Rv.Tab 188 a2 t2 (tabL (C.w*C.h).toNat l)/\HL.Sep [a1,a2,h] h'/\Dis G h'):=by
 obtain ⟨ab,cb,ap,cp,ar,cr,az,cs,rfl,ca⟩:=hv;obtain ⟨n1,n2,n3,n4⟩:=Ug sm;refine bn.assume fun d=>enter42 (by simp) ?_;unfold S42;simp (disch:=first|decide|omega) only [kz];intro xc hxc gxc;have s0:=(HL.Sep.one (h:=h)).past (o := .cells #[C.w,C.h,C.ht,.slice ab C.bl.length cb,.slice ap C.po.length cp,.slice ar C.ro.length cr,.slice az C.st.length cs,C.un,C.ac,C.sp,C.tu,C.ho,C.qu,C.re,C.bu,.bool C.back] 26 (0,0)) hxc;generalize e1:Hp.set h xc _=h1 at*;obtain ⟨l1,d1,bc1⟩:=boxed e1 hxc d gxc;have cc:∀{h':Hp},h1.le h'->∀k,bf G h' ⟨xc,k,none⟩=_:=fun l k=>bm (bj (l _ _ bc1));try simp (disch:=first|decide|omega) only [kz,Nat.reduceAdd,Nat.reduceMul,cc (Hp.le.refl _)]
 first|rw [n3]|rw [<- n4]
 generalize hn:(C.w*C.h).toNat=n at*;refine (Rv.yi (n:=n) (by omega) (by omega)).mono ?_;rintro _ h2 ⟨a1,t1,rfl,tab1,s2,d2⟩;try simp (disch:=first|decide|omega) only [kz,cc (s2.in 1 rfl)]
 first|rw [n3]|rw [<- n4]
 refine (Rv.ao0 (n:=n) (by omega) (by omega)).mono ?_;rintro _ h3 ⟨a2,t2,rfl,tab2,s3,d3⟩;try simp (disch:=first|decide|omega) only [kz,Nat.reduceAdd,Nat.reduceMul]
 have s4:HL.Sep [a1,a2,h1] h3:=(HL.Sep.open (L:=[a1,h1]) (R:=[a2]) s3.swap s2).sel [0,2,1] (by decide) rfl;unfold aS0;generalize hKK:retK P_ G _ _=KK;obtain ⟨la,lc,rfl,_⟩:=(hl h d).len
 refine dt (fun m p h'=>∃(i:Nat) (a1 a2:Hp),m=40-i/\i<=40/\i<=l.length/\p 1 = .slice la l.length lc/\p 2 = .pointer (some ⟨xc,0,none⟩)/\p 7 = .pointer (some ⟨t1,0,none⟩)/\p 9 = .pointer (some ⟨t2,0,none⟩)/\p 10 = .int .i64 i/\
  Rv.Tab 124 a1 t1 ((l.take i).foldl (Bp n) (List.replicate n []))/\Rv.Tab 188 a2 t2 ((l.take i).foldl (Bp n) (List.replicate n []))/\HL.Sep [a1,a2,h1] h'/\Dis G h') ?_ (m:=40)
  ⟨0,a1,a2,rfl,by omega,by omega,by simp (disch:=decide) only [kz],by simp (disch:=decide) only [kz],by simp (disch:=decide) only [kz],by simp (disch:=decide) only [kz],by simp only [kz];rfl,tab1,tab2,s4,d3⟩
 clear tab1 tab2 s4 d3 s3 d2 s2;rintro m p h4 ⟨i,a1,a2,rfl,hi,hil,g1,g2,g7,g9,g10,tab1,tab2,s,d4⟩ X hX;obtain ⟨gT,fT,lT⟩:=Dw (n:=n) (l.take i) (List.replicate n []) 0 Du (fun L hL=>by rw [List.eq_of_mem_replicate hL];exact aj_ _);rw [bG_]at lT;generalize hT:(l.take i).foldl (Bp n) (List.replicate n [])=T at*
 have fin:¬(i<l.length/\i<40)->T=tabL n l:=fun hh=>by
  rw [<- hT];unfold tabL;by_cases h40:i=40
  . rw [h40]
  . have:i=l.length:=by omega
    rw [this,bt_,am_ (by omega)]
 unfold aR9;simp only [kz,g10,g1]
 have go:¬(i<l.length/\i<40)->∀r':Rg,r' 7 = .pointer (some ⟨t1,0,none⟩)->r' 9 = .pointer (some ⟨t2,0,none⟩)->dc 0 (di (Za G KK) KK) (.exit 0) r' h4:=fun hh r' e7 e9=>by
  try simp only [kz]
  unfold Za;rw [<- hKK];try simp (disch:=decide) only [kz,e7,e9]
  have s5:=((s.sel (L':=[h1,a1,a2]) [2,0,1] (by decide) rfl).cut l1).sel (L':=[a1,a2,h]) [1,2,0] (by decide) rfl;refine ⟨a1,a2,t1,t2,rfl,?_,?_,s5,d4⟩
  . rw [<- fin hh];exact tab1
  . rw [<- fin hh];exact tab2
 by_cases q1:(i:Int)<l.length;rotate_left
 . try simp only [kz,kc q1,fq]
   exact go (by omega) _ (by simp (disch:=decide) only [kz,g7]) (by simp (disch:=decide) only [kz,g9])
 by_cases q2:(i:Int)<40;rotate_left
 . try simp only [kz,js q1,kc q2]
   exact go (by omega) _ (by simp (disch:=decide) only [kz,g7]) (by simp (disch:=decide) only [kz,g9])
 try simp only [kz,js q1,js q2]
 obtain ⟨y,hy⟩:∃y,l[i]?=some y:=⟨_,aa_ (by omega)⟩;have hyb:=hb y (ab_ hy);obtain ⟨b,o,rfl,c0,c1,c2,c3⟩:=Sees.hold (hl h4 d4) hy;unfold Qp;simp -implicitDefEqProofs (maxSteps:=2000000) (disch:=first|decide|with_reducible exact aA_ rfl|exact b8|exact bw|omega|rfl|(simp;done)|fail) only [kz,g1,g10,ix77 (ac_ i) q1,c0,c1,c2,c3];intro x hx gx;try simp (disch:=first|decide|omega) only [kz,Nat.reduceAdd,Nat.reduceMul]
 generalize e5:Hp.set h4 x _=h5 at*;obtain ⟨l5,d5,bx5⟩:=boxed e5 hx d4 gx;have s5:=s.past (o:=holdO y) hx;rw [e5]at s5;have cx5:∀k,bf G h5 ⟨x,k,none⟩=_:=fun k=>bm (bj bx5);try simp (disch:=first|decide|omega) only [kz,Nat.reduceAdd,Nat.reduceMul,cx5]
 refine (ze (a:=y.r) (n:=5) hyb.1 (by decide) (by decide)).mono ?_;rintro _ h5 ⟨rfl,rfl⟩;have yr0:=Int.emod_nonneg y.r (by decide:(5:Int)≠0);try simp (disch:=first|decide|omega) only [kz,Nat.reduceAdd,Nat.reduceMul]
 rw [ec sz3 rfl bx5 (by simp)];try simp only [kz]
 rw [<- e5,set_set];generalize e6:Hp.set h4 x _=h6;obtain ⟨l6,d6,bx6⟩:=boxed e6 hx d4 gx;have s6:=s.past (o := .cells #[.int .i64 (y.r % 5),y.c,y.f,y.t] 97 (0,0)) hx;rw [show h4.set x (.cells #[.int .i64 (y.r % 5),y.c,y.f,y.t] 97 (0,0))=h6 from e6]at s6;have cx6:∀k,bf G h6 ⟨x,k,none⟩=_:=fun k=>bm (bj bx6);try simp (disch:=first|decide|omega) only [kz,cx6,g2,cc (s6.in 2 rfl)]
 first|rw [n3]|rw [<- n4]
 refine (ze (a:=y.c) (n:=(n:Int)) hyb.2.1 (by omega) (by omega)).mono ?_;rintro _ h6 ⟨rfl,rfl⟩;try simp (disch:=first|decide|omega) only [kz,Nat.reduceAdd,Nat.reduceMul]
 rw [ec sz3 rfl bx6 (by simp)];try simp only [kz]
 rw [<- e6,set_set];generalize e7:Hp.set h4 x _=h7;obtain ⟨l7,d7,bx7⟩:=boxed e7 hx d4 gx;have s7:=s.new (o := .cells #[.int .i64 (y.r % 5),.int .i64 (y.c % (n:Int)),y.f,y.t] 97 (0,0)) hx;rw [show h4.set x (.cells #[.int .i64 (y.r % 5),.int .i64 (y.c % (n:Int)),y.f,y.t] 97 (0,0))=h7 from e7]at s7;intro w hw gw;have s8:=(s7.new (o := .cells #[.int .i64 (y.c % (n:Int)),y.f,y.t] 75 (0,0)) hw);have d8:=d7.set (o := .cells #[.int .i64 (y.c % (n:Int)),y.f,y.t] 75 (0,0)) gw;generalize Hp.set h7 w _=h8 at s8 d8 ⊢;rw [g7];refine (Rv.Yo (r:=y.r % 5) (l:=[⟨y.c % (n:Int),y.f,y.t⟩]) tab1 (s8.sel [2,0,1,3,4] (by decide) rfl) (Ke (w:=⟨y.c % (n:Int),y.f,y.t⟩)) gT fT (by simp;omega)).mono ?_;rintro _ h9 ⟨rfl,a1',tab1',s9,d9⟩;have cx9:∀k,bf G h9 ⟨x,k,none⟩=_:=fun k=>bm (bj (s9.at 2 rfl bh));try simp only [kz,cx9]
 intro w2 hw2 gw2;have s10:=(s9.new (o := .cells #[.int .i64 (y.c % (n:Int)),y.f,y.t] 186 (0,0)) hw2);have d10:=d9.set (o := .cells #[.int .i64 (y.c % (n:Int)),y.f,y.t] 186 (0,0)) gw2;generalize Hp.set h9 w2 _=h10 at s10 d10 ⊢;rw [g9];refine (Rv.Uw (r:=y.r % 5) (l:=[⟨y.c % (n:Int),y.f,y.t⟩]) tab2 (s10.sel [4,0,1,5] (by decide) rfl) (Ke (w:=⟨y.c % (n:Int),y.f,y.t⟩)) gT fT (by simp;omega)).mono ?_;rintro _ h11 ⟨rfl,a2',tab2',s11,d11⟩;try simp only [kz]
 unfold Qo;try simp (disch:=first|decide|omega) only [kz,g10]
 refine hX (40-(i+1)) _ _ (by omega) ⟨i+1,a1',a2',rfl,by omega,by omega,by simp (disch:=decide) only [kz,g1],by simp (disch:=decide) only [kz,g2],by simp (disch:=decide) only [kz,g7],by simp (disch:=decide) only [kz,g9],by simp only [kz];rfl,?_,?_,s11.sel [2,0,3] (by decide) rfl,d11⟩
 . rw [T7 hy,hT];exact tab1'
 . rw [T7 hy,hT];exact tab2'
def fe:=jq bC (jq (jq (jq @ff (jq @cf101 @cf41)) (jq @zu (jq @zt @zr))) (jq (jq @ix99 (jq @Ak @yp)) (jq @ld3 (jq @ln22 @ln99))))
def lu (C:Conf) (T:Tb) (r:Int) (L:List Cell) (a b:Int):Bool:=L.all fun c=>l8 (rowT T (numR C c)) r a b
theorem zo {C:Conf} (mk:dx C) {T:Tb} {r a b:Int} {L:List Cell} (h:Gq C T r L a b):lu C T r L a b=true:=by unfold lu;rw [az_];intro c hc;rw [<- Xt mk];exact (h c hc).2
theorem wt {C:Conf} (mk:dx C) {T:Tb} (hT:(T.length:Int)=C.w*C.h) {r a b:Int} {L:List Cell} (hin:∀c∈L,inW (wC C) (kC C) c=true) (h:lu C T r L a b=true):Gq C T r L a b:=by unfold lu at h;rw [az_]at h;intro c hc;rw [Xt mk];exact ⟨by rw [<- Xt mk];exact in_T mk hT (hin c hc),h c hc⟩
theorem zj {G h:Hp} {v cv:Value} {C:Conf} {tp bb:Nat} {T:Tb} {r a b:Int} {cells:List Cell} (hv:CV G h v C) (hw:C.w<=16) (hh:C.h<=16) (ts:Rv.TSee G h tp T) (fw:Few T bb) (hbb:bb<=50000) (sc:Sees dy G h cv cells) (hc:cells.length<=300):
 bn Tryz.prog G 47 #[v,.pointer (some ⟨tp,0,none⟩),r,cv,a,b] h (fun u h'=>u = .bool (lu C T r cells a b)/\h'=h):=by
 have hv0:=hv;obtain ⟨ab,cb,ap,cp,ar,cr,az,cs,rfl,ca⟩:=hv;obtain ⟨va,cc,rfl⟩:=sc.len;refine bn.assume fun d=>quietly (enter47 (by simp) ?_);unfold S47;simp only [fe];intro xc hxc gxc;generalize e1:Hp.set h xc _=h1 at*;obtain ⟨l1,d1,bc1⟩:=boxed e1 hxc d gxc;have c1:∀k,bf G h1 ⟨xc,k,none⟩=_:=fun k=>bm (bj bc1);have ca1:=ca.up l1 d1;have ts1:=ts.up l1 d1;have sc1:=sc.up l1 d1;generalize hKK:retK Tryz.prog G _ _=KK
 refine dt (fun m p h'=>∃i:Nat,m=cells.length-i/\i<=cells.length/\p 1 = .pointer (some ⟨tp,0,none⟩)/\p 2 = .int .i64 r/\p 3 = .slice va cells.length cc/\p 4 = .int .i64 a/\p 5 = .int .i64 b/\p 6 = .pointer (some ⟨xc,0,none⟩)/\p 13 = .int .i64 i/\h'=h1/\lu C T r (cells.take i) a b=true) ?_ (m:=cells.length)
  ⟨0,rfl,by omega,by simp (disch:=decide) only [fe],by simp (disch:=decide) only [fe],by simp (disch:=decide) only [fe],by simp (disch:=decide) only [fe],by simp (disch:=decide) only [fe],by simp (disch:=decide) only [fe],by simp only [fe];rfl,rfl,rfl⟩
 rintro m p h2 ⟨i,rfl,hi,g1,g2,g3,g4,g5,g6,g13,rfl,hf⟩ X hX;unfold aR1;simp only [fe,g3,g13];refine df (fun hlt=>?_) (fun hge=>?_);rotate_left
 . obtain rfl:i=cells.length:=by omega
   rw [bt_]at hf;try simp (disch:=first|decide|omega) only [fe,Nat.reduceAdd,Nat.reduceMul]
   unfold Sz;rw [<- hKK];try simp only [fe]
   exact ⟨by rw [hf],l1⟩
 obtain ⟨c,hcx⟩:∃c,cells[i]?=some c:=⟨_,aa_ (by omega)⟩;obtain ⟨bb',o,rfl,z1,z2⟩:=Sees.cell sc1 hcx;unfold Ql;simp (disch:=decide) only [fe,g6,g3,g13,c1,tz (ac_ i) hlt,z1,z2];refine (Q7 (c:=c) ca1.cv hw hh).mono ?_;rintro _ h2 ⟨rfl,rfl⟩;try simp only [fe,g1]
 refine (Rv.Un (c:=numR C c) ts1).mono ?_;rintro sv h2 ⟨ss,rfl⟩;have hstep:lu C T r (cells.take (i+1)) a b=l8 (rowT T (numR C c)) r a b:=by unfold lu at*;rw [aL_,hcx,List.all_append,hf];simp
 have hno:l8 (rowT T (numR C c)) r a b=false->lu C T r cells a b=false:=fun hh=>by unfold lu;rw [bI_];exact ⟨c,ab_ hcx,by rw [hh];simp⟩
 have hL:=vh fw (numR C c);generalize rowT T (numR C c)=L at*;obtain ⟨sa,cap,rfl⟩:=ss.len
 refine dt (fun m p h'=>∃k:Nat,m=L.length-k/\k<=L.length/\p 1 = .pointer (some ⟨tp,0,none⟩)/\p 2 = .int .i64 r/\p 3 = .slice (some ⟨bb',o,none⟩) cells.length cc/\p 4 = .int .i64 a/\p 5 = .int .i64 b/\p 6 = .pointer (some ⟨xc,0,none⟩)/\p 13 = .int .i64 i/\p 14 = .slice sa L.length cap/\p 15 = .int .i64 k/\h'=h2/\l8 (L.take k) r a b=true) ?_ (m:=L.length)
  ⟨0,rfl,by omega,by simp (disch:=decide) only [fe,g1],by simp (disch:=decide) only [fe,g2],by simp (disch:=decide) only [fe,g3],by simp (disch:=decide) only [fe,g4],by simp (disch:=decide) only [fe,g5],by simp (disch:=decide) only [fe,g6],by simp (disch:=decide) only [fe,g13],by simp (disch:=decide) only [fe],by simp only [fe];rfl,rfl,rfl⟩
 rintro m p h3 ⟨k,rfl,hk,g1,g2,g3,g4,g5,g6,g13,g14,g15,rfl,hfk⟩ Y hY;unfold Qk;simp only [fe,g14,g15];refine df (fun hlt2=>?_) (fun hge2=>?_);rotate_left
 . obtain rfl:k=L.length:=by omega
   rw [bt_]at hfk;try simp (disch:=first|decide|omega) only [fe,Nat.reduceAdd,Nat.reduceMul]
   unfold Hk;try simp (disch:=first|decide|omega) only [fe,g13]
   exact hX (cells.length-(i+1)) _ _ (by omega) ⟨i+1,rfl,by omega,by simp (disch:=decide) only [fe,g1],by simp (disch:=decide) only [fe,g2],by simp (disch:=decide) only [fe,g3],by simp (disch:=decide) only [fe,g4],by simp (disch:=decide) only [fe,g5],by simp (disch:=decide) only [fe,g6],by simp only [fe];rfl,rfl,by rw [hstep];exact hfk⟩
 obtain ⟨s,hs⟩:∃s,L[k]?=some s:=⟨_,aa_ (by omega)⟩;obtain ⟨sb,so,rfl,y0,y1,y2⟩:=Rv.Sees.slot ss hs;unfold Gh;simp (disch:=decide) only [fe,g14,g15,g2,g4,g5,ix99 (ac_ k) hlt2,y0,y1,y2]
 have bad:(s.r==r || !(decide (s.f<b)&&decide (a<s.t)))=false->(Value.bool false = .bool (lu C T r cells a b)/\h.le h3):=fun hh=>
  ⟨by rw [hno (Rv.K6 hs hh)],l1⟩
 have k7:∀q':Rg,q' 1 = .pointer (some ⟨tp,0,none⟩)->q' 2 = .int .i64 r->q' 3 = .slice (some ⟨bb',o,none⟩) cells.length cc->q' 4 = .int .i64 a->q' 5 = .int .i64 b->q' 6 = .pointer (some ⟨xc,0,none⟩)->q' 13 = .int .i64 i->q' 14 = .slice (some ⟨sb,so,none⟩) L.length cap->q' 15 = .int .i64 k->(s.r==r || !(decide (s.f<b)&&decide (a<s.t)))=true->zz G (di Y (dc 2 (dc 1 (di (Hk G (di X (dc 0 (di (Sz G KK) KK)))) (di X (dc 0 (di (Sz G KK) KK))))))) q' h3:=by intro q' p1 p2 p3 p4 p5 p6 p13 p14 p15 hc';unfold zz;simp (disch:=first|decide|omega) only [fe,p15];exact hY (L.length-(k+1)) _ _ (by omega) ⟨k+1,rfl,by omega,by simp (disch:=decide) only [fe,p1],by simp (disch:=decide) only [fe,p2],by simp (disch:=decide) only [fe,p3],by simp (disch:=decide) only [fe,p4],by simp (disch:=decide) only [fe,p5],by simp (disch:=decide) only [fe,p6],by simp (disch:=decide) only [fe,p13],by simp (disch:=decide) only [fe,p14],by simp only [fe];rfl,rfl,by rw [Rv.G7 hs,hfk,hc'];rfl⟩
 cases hb:(s.r != r)with
 |false=>
  try simp only [fe,fq,hb]
  exact k7 _ (by simp (disch:=decide) only [fe,g1]) (by simp (disch:=decide) only [fe,g2]) (by simp (disch:=decide) only [fe,g3]) (by simp (disch:=decide) only [fe,g4]) (by simp (disch:=decide) only [fe,g5]) (by simp (disch:=decide) only [fe,g6]) (by simp (disch:=decide) only [fe,g13]) (by simp (disch:=decide) only [fe,g14]) (by simp (disch:=decide) only [fe,g15]) (by simp at hb;simp [hb])
 |true=>
  try simp (disch:=first|decide|omega) only [fe,hb,y0]
  by_cases hb2:s.f<b
  . try simp (disch:=first|decide|omega) only [fe,af_ hb2,y1]
    by_cases hb3:a<s.t
    . try simp only [fe,af_ hb3]
      rw [<- hKK];try simp only [fe]
      exact bad (by simp at hb;simp [hb,hb2,hb3])
    . try simp only [fe,ai_ hb3]
      exact k7 _ (by simp (disch:=decide) only [fe,g1]) (by simp (disch:=decide) only [fe,g2]) (by simp (disch:=decide) only [fe,g3]) (by simp (disch:=decide) only [fe,g4]) (by simp (disch:=decide) only [fe,g5]) (by simp (disch:=decide) only [fe,g6]) (by simp (disch:=decide) only [fe,g13]) (by simp (disch:=decide) only [fe,g14]) (by simp (disch:=decide) only [fe,g15]) (by simp [hb3])
  . try simp only [fe,ai_ hb2,fq]
    exact k7 _ (by simp (disch:=decide) only [fe,g1]) (by simp (disch:=decide) only [fe,g2]) (by simp (disch:=decide) only [fe,g3]) (by simp (disch:=decide) only [fe,g4]) (by simp (disch:=decide) only [fe,g5]) (by simp (disch:=decide) only [fe,g6]) (by simp (disch:=decide) only [fe,g13]) (by simp (disch:=decide) only [fe,g14]) (by simp (disch:=decide) only [fe,g15]) (by simp [hb2])
def ie:=jq bC (jq (jq (jq @al30 (jq @yw @yv)) (jq @ff (jq @aM1 @cf22))) (jq (jq @zq (jq @Bv @ld26)) (jq @ld3 (jq @ld30 @Ax))))
def tq (x y d:Nat):Pose:=⟨x,y,(d:Int)==1⟩
def psD (C:Conf) (x y n:Nat):List Pose:=((List.range n).map (tq x y)).filter (fu C)
def psX (C:Conf) (y n:Nat):List Pose:=(List.range n).flatMap fun x=>psD C x y 2
def psY (C:Conf) (n:Nat):List Pose:=(List.range n).flatMap fun y=>psX C y C.w.toNat
def qo (C:Conf):List Pose:=psY C C.h.toNat
theorem U4 {C:Conf} {x y n:Nat}:psD C x y (n+1)=psD C x y n++(if fu C (tq x y n)then [tq x y n]else []):=by unfold psD;rw [bO_,bQ_,List.filter_append];congr 1;simp only [bC_,List.map_nil,List.filter_cons,List.filter_nil]
theorem U3 {C:Conf} {y n:Nat}:psX C y (n+1)=psX C y n++psD C n y 2:=by unfold psX;rw [bO_,be_];simp
theorem U2 {C:Conf} {n:Nat}:psY C (n+1)=psY C n++psX C n C.w.toNat:=by unfold psY;rw [bO_,be_];simp
theorem Zy {C:Conf} {x y n:Nat}:(psD C x y n).length<=n:=by unfold psD;refine bo_ (List.length_filter_le _ _) ?_;simp
theorem Zx {C:Conf} {y n:Nat}:(psX C y n).length<=2*n:=by
 induction n with
 |zero=>simp [psX]
 |succ n ih=>rw [U3,ae_];have:=Zy (C:=C) (x:=n) (y:=y) (n:=2);omega
theorem Zw {C:Conf} {n:Nat}:(psY C n).length<=2*C.w.toNat*n:=by
 induction n with
 |zero=>simp [psY]
 |succ n ih=>rw [U2,ae_,Nat.mul_succ];have:=Zx (C:=C) (y:=n) (n:=C.w.toNat);omega
theorem ps_l30 {G h a q:Hp} {C:Conf} {xc x y:Nat} {ab:Option Addr} {cb:Nat} {ap:Option Addr} {cp':Nat} {ar:Option Addr} {cr:Nat} {az:Option Addr} {cs:Nat} {L:List Pose} {v:Value}
 (ca:CA G q C ab cb ap cp' ar cr az cs) (bx:q xc=some (na C ab cb ap cp' ar cr az cs)) (hbl:C.bl.length<=100000000000000) (o:Slc lk 30 a v L) (hL:L.length<=10000)
 (s:HL.Sep [a,q] h) (d:Dis G h) {KK:EK} {r:Rg} (g6:r 6 = .pointer (some ⟨xc,0,none⟩)) (g18:r 18=v) (g19:r 19 = .int .i64 y) (g20:r 20 = .int .i64 x)
 (H:∀(r':Rg) (a' h':Hp) (v':Value),(∀j,1<=j->j<=17->r' j=r j)->r' 18=v'->r' 19=r 19->r' 20=r 20->Slc lk 30 a' v' (L++psD C x y 2)->HL.Sep [a',q] h'->Dis G h'->qs G KK r' h'):
 du (ug G) (upd r 21 (.int .i64 0)) h (dc 4 (dc 3 (di (qs G KK) KK))):=by
 refine dt (fun m p h'=>∃(i:Nat) (a':Hp) (v':Value),m=2-i/\i<=2/\(∀j,1<=j->j<=17->p j=r j)/\p 18=v'/\p 19=r 19/\p 20=r 20/\p 21 = .int .i64 i/\Slc lk 30 a' v' (L++psD C x y i)/\HL.Sep [a',q] h'/\Dis G h') ?_ (m:=2)
  ⟨0,a,v,rfl,by omega,fun j h1 h2=>by simp (disch:=omega) only [bo],by simp (disch:=decide) only [ie,g18],by simp (disch:=decide) only [ie],by simp (disch:=decide) only [ie],by simp only [ie]<;>rfl,by simpa [psD]using o,s,d⟩
 rintro m p h1 ⟨i,a1,v1,rfl,hi,hp,p18,p19,p20,p21,o1,s1,d1⟩ X hX;have p6:=(hp 6 (by decide) (by decide)).trans g6;have l1:=s1.in 1 rfl;have cc:∀{h':Hp},q.le h'->∀j,bf G h' ⟨xc,j,none⟩=_:=fun l j=>bm (bj (l _ _ bx));unfold ug;simp only [ie,p21];refine df (fun hlt=>?_) (fun hge=>?_);rotate_left
 . obtain rfl:i=2:=by omega
   try simp (disch:=first|decide|omega) only [ie,Nat.reduceAdd,Nat.reduceMul]
   exact H _ a1 h1 v1 (fun j h1 h2=>by simp (disch:=omega) only [bo];exact hp j h1 h2) (by simp (disch:=decide) only [ie,p18]) (by simp (disch:=decide) only [ie,p19]) (by simp (disch:=decide) only [ie,p20]) o1 s1 d1
 unfold um;simp (disch:=first|decide|exact b8|exact bw|omega|rfl) only [ie,p6,p18,p19,p20,p21,g19,g20];intro z hz gz;have s2:=s1.new (o:=pq (tq x y i)) hz;have d2:=d1.set (o:=pq (tq x y i)) gz;have bz:(Hp.set h1 z (pq (tq x y i))) z=_:=bh;have e2:pq (tq x y i) = .cells #[x,y,.bool ((i:Int)==1)] 30 (0,0):=rfl;try simp (disch:=first|decide|omega) only [ie,Nat.reduceAdd,Nat.reduceMul]
 rw [<- e2];generalize Hp.set h1 z (pq (tq x y i))=h2 at s2 d2 bz ⊢;have l2:=s2.in 2 rfl;have cz:∀j,bf G h2 ⟨z,j,none⟩=_:=fun j=>bm (bj bz);try simp only [ie,cc l2,cz]
 refine (vi (p:=tq x y i) (ca.up l2 d2).cv hbl).mono ?_;rintro _ h2 ⟨rfl,rfl⟩;have next:∀(p':Rg) (a2 h2:Hp) (v2:Value) (K0:Exit->Rg->Hp->Prop),(∀j,1<=j->j<=17->p' j=p j)->p' 18=v2->p' 19=p 19->p' 20=p 20->p' 21=p 21->Slc lk 30 a2 v2 (L++psD C x y (i+1))->HL.Sep [a2,q] h2->Dis G h2->nk G (di X K0) p' h2:=by intro p' a2 h2 v2 K0 hp' h18 h19 h20 h21 o2 s2 d2;unfold nk;simp (disch:=first|decide|omega) only [ie,h21,p21];exact hX (2-(i+1)) _ _ (by omega) ⟨i+1,a2,v2,rfl,by omega,fun j h1 h2=>by simp (disch:=omega) only [bo];exact (hp' j h1 h2).trans (hp j h1 h2),by simp (disch:=decide) only [ie,h18],by simp (disch:=decide) only [ie,h19,p19],by simp (disch:=decide) only [ie,h20,p20],by simp only [ie]<;>rfl,o2,s2,d2⟩
 cases hf:fu C (tq x y i)with
 |false=>
  try simp only [ie]
  exact next _ a1 h2 v1 _ (fun j h1 h2=>by simp (disch:=omega) only [bo]) (by simp (disch:=decide) only [ie,p18]) (by simp (disch:=decide) only [ie]) (by simp (disch:=decide) only [ie]) (by simp (disch:=decide) only [ie]) (by rw [U4,hf,ah_ (by decide),av_];exact o1) (s2.sel (L':=[a1,q]) [1,2] (by decide) rfl) d2
 |true=>
  try simp only [ie,cz]
  intro b hb gb;have s3:=(s2.sel (L':=[a1,q]) [1,2] (by decide) rfl).past (o:=pq (tq x y i)) hb;have d3:=d2.set (o:=pq (tq x y i)) gb;have hb3:(h2.set b (pq (tq x y i))) b=some _:=bh;generalize Hp.set h2 b _=h3 at s3 d3 hb3 ⊢;have hl3:(L++psD C x y i).length<=10002:=by rw [ae_];have:=Zy (C:=C) (x:=x) (y:=y) (n:=i);omega
  refine fh lk (by decide) un23 eopose (by decide) (by decide) (M:=[tq x y i]) s3 d3 o1 (Sees.row (c:=lk) (L:=[tq x y i]) hb3 rfl (aj_ _)) (by simp only [a2_];omega) fun v4 a4 h4 o4 s4 d4=>?_;try simp (disch:=first|decide|omega) only [ie,Nat.reduceAdd,Nat.reduceMul]
  exact next _ a4 h4 v4 _ (fun j h1 h2=>by simp (disch:=omega) only [bo]) (by simp only [ie]) (by simp (disch:=decide) only [ie]) (by simp (disch:=decide) only [ie]) (by simp (disch:=decide) only [ie]) (by rw [U4,hf,ak_ rfl,<- aC_];exact o4) s4 d4
theorem ps_l27 {G h a q:Hp} {C:Conf} {xc y:Nat} {ab:Option Addr} {cb:Nat} {ap:Option Addr} {cp':Nat} {ar:Option Addr} {cr:Nat} {az:Option Addr} {cs:Nat} {L:List Pose} {v:Value}
 (ca:CA G q C ab cb ap cp' ar cr az cs) (bx:q xc=some (na C ab cb ap cp' ar cr az cs)) (hbl:C.bl.length<=100000000000000) (hw0:0<=C.w) (hw:C.w<=16) (o:Slc lk 30 a v L) (hL:L.length<=5000)
 (s:HL.Sep [a,q] h) (d:Dis G h) {KK:EK} {r:Rg} (g6:r 6 = .pointer (some ⟨xc,0,none⟩)) (g18:r 18=v) (g19:r 19 = .int .i64 y)
 (H:∀(r':Rg) (a' h':Hp) (v':Value),(∀j,1<=j->j<=17->r' j=r j)->r' 18=v'->r' 19=r 19->Slc lk 30 a' v' (L++psX C y C.w.toNat)->HL.Sep [a',q] h'->Dis G h'->xf G KK r' h'):
 du (B8 G) (upd r 20 (.int .i64 0)) h (dc 2 (dc 1 (di (xf G KK) KK))):=by
 refine dt (fun m p h'=>∃(i:Nat) (a':Hp) (v':Value),m=C.w.toNat-i/\i<=C.w.toNat/\(∀j,1<=j->j<=17->p j=r j)/\p 18=v'/\p 19=r 19/\p 20 = .int .i64 i/\Slc lk 30 a' v' (L++psX C y i)/\HL.Sep [a',q] h'/\Dis G h') ?_ (m:=C.w.toNat)
  ⟨0,a,v,rfl,by omega,fun j h1 h2=>by simp (disch:=omega) only [bo],by simp (disch:=decide) only [ie,g18],by simp (disch:=decide) only [ie],by simp only [ie]<;>rfl,by simpa [psX]using o,s,d⟩
 rintro m p h1 ⟨i,a1,v1,rfl,hi,hp,p18,p19,p20,o1,s1,d1⟩ X hX;have p6:=(hp 6 (by decide) (by decide)).trans g6;have l1:=s1.in 1 rfl;have cc:∀{h':Hp},q.le h'->∀j,bf G h' ⟨xc,j,none⟩=_:=fun l j=>bm (bj (l _ _ bx));unfold B8;simp only [ie,p6,p20,cc l1];refine df (fun hlt=>?_) (fun hge=>?_);rotate_left
 . obtain rfl:i=C.w.toNat:=by omega
   try simp (disch:=first|decide|omega) only [ie,Nat.reduceAdd,Nat.reduceMul]
   exact H _ a1 h1 v1 (fun j h1 h2=>by simp (disch:=omega) only [bo];exact hp j h1 h2) (by simp (disch:=decide) only [ie,p18]) (by simp (disch:=decide) only [ie,p19]) o1 s1 d1
 unfold As;have hl3:(L++psX C y i).length<=10000:=by rw [ae_];have:=Zx (C:=C) (y:=y) (n:=i);omega
 refine ps_l30 (x:=i) (y:=y) ca bx hbl o1 hl3 s1 d1 (by simp (disch:=decide) only [ie,p6]) (by simp (disch:=decide) only [ie,p18]) (by simp (disch:=decide) only [ie,p19,g19]) (by simp (disch:=decide) only [ie,p20]) fun r2 a2 h2 v2 hr2 h18 h19 h20 o2 s2 d2=>?_;unfold qs;have e20:r2 20 = .int .i64 i:=by rw [h20];simp (disch:=decide) only [ie,p20]
 simp (disch:=first|decide|omega) only [ie,e20];exact hX (C.w.toNat-(i+1)) _ _ (by omega) ⟨i+1,a2,v2,rfl,by omega,fun j h1 h2=>by simp (disch:=omega) only [bo];rw [hr2 j h1 h2];simp (disch:=omega) only [bo];exact hp j h1 h2,by simp (disch:=decide) only [ie,h18],by simp (disch:=decide) only [ie,h19,p19],by simp only [ie]<;>rfl,by rw [U3,<- aC_];exact o2,s2,d2⟩
theorem ps_loop {G h a q:Hp} {C:Conf} {xc:Nat} {ab:Option Addr} {cb:Nat} {ap:Option Addr} {cp':Nat} {ar:Option Addr} {cr:Nat} {az:Option Addr} {cs:Nat}
 (ca:CA G q C ab cb ap cp' ar cr az cs) (bx:q xc=some (na C ab cb ap cp' ar cr az cs)) (hbl:C.bl.length<=100000000000000) (hw0:0<=C.w) (hw:C.w<=16) (hh0:0<=C.h) (hh:C.h<=16) (o:Slc lk 30 a (.slice none 0 0) [])
 (s:HL.Sep [a,q] h) (d:Dis G h) {KK:EK} {r:Rg} (g6:r 6 = .pointer (some ⟨xc,0,none⟩))
 (H:∀(r':Rg) (a' h':Hp) (v':Value),(∀j,1<=j->j<=17->r' j=r j)->r' 18=v'->Slc lk 30 a' v' (qo C)->HL.Sep [a',q] h'->Dis G h'->Zf G KK r' h'):Mq G KK r h:=by
 unfold Mq
 refine dt (fun m p h'=>∃(i:Nat) (a':Hp) (v':Value),m=C.h.toNat-i/\i<=C.h.toNat/\(∀j,1<=j->j<=17->p j=r j)/\p 18=v'/\p 19 = .int .i64 i/\Slc lk 30 a' v' (psY C i)/\HL.Sep [a',q] h'/\Dis G h') ?_ (m:=C.h.toNat)
  ⟨0,a,.slice none 0 0,rfl,by omega,fun j h1 h2=>by simp (disch:=omega) only [bo],by simp (disch:=decide) only [ie],by simp only [ie]<;>rfl,by simpa [psY]using o,s,d⟩
 rintro m p h1 ⟨i,a1,v1,rfl,hi,hp,p18,p19,o1,s1,d1⟩ X hX;have p6:=(hp 6 (by decide) (by decide)).trans g6;have l1:=s1.in 1 rfl;have cc:∀{h':Hp},q.le h'->∀j,bf G h' ⟨xc,j,none⟩=_:=fun l j=>bm (bj (l _ _ bx));unfold ag9;simp only [ie,p6,p19,cc l1];refine df (fun hlt=>?_) (fun hge=>?_);rotate_left
 . obtain rfl:i=C.h.toNat:=by omega
   try simp (disch:=first|decide|omega) only [ie,Nat.reduceAdd,Nat.reduceMul]
   exact H _ a1 h1 v1 (fun j h1 h2=>by simp (disch:=omega) only [bo];exact hp j h1 h2) (by simp (disch:=decide) only [ie,p18]) o1 s1 d1
 unfold I5;have hl3:(psY C i).length<=5000:=by have h1:=Zw (C:=C) (n:=i);have h2:2*C.w.toNat*i<=2*16*16:=bw_ (by omega) (by omega);omega
 refine ps_l27 (y:=i) ca bx hbl hw0 hw o1 hl3 s1 d1 (by simp (disch:=decide) only [ie,p6]) (by simp (disch:=decide) only [ie,p18]) (by simp (disch:=decide) only [ie,p19]) fun r2 a2 h2 v2 hr2 h18 h19 o2 s2 d2=>?_;unfold xf;have e19:r2 19 = .int .i64 i:=by rw [h19];simp (disch:=decide) only [ie,p19]
 simp (disch:=first|decide|omega) only [ie,e19];exact hX (C.h.toNat-(i+1)) _ _ (by omega) ⟨i+1,a2,v2,rfl,by omega,fun j h1 h2=>by simp (disch:=omega) only [bo];rw [hr2 j h1 h2];simp (disch:=omega) only [bo];exact hp j h1 h2,by simp (disch:=decide) only [ie,h18],by simp only [ie]<;>rfl,by rw [U2];exact o2,s2,d2⟩
end Go.Proofs.YtfflipnhffknnaaGreatDoor
end
section
namespace Go.Proofs.YtfflipnhffknnaaGreatDoor
open Go Go.HL
abbrev rowB (m:Nat) (f:Nat->Bool):List Value:=(List.range m).map fun j=>Value.bool (f j)
structure BT (a:Hp) (ob:Nat) (bs:Nat->Nat) (n m:Nat) (R:Nat->Nat->Bool):Prop where
 out:a ob=some (.cells ((List.range n).map fun i=>Value.slice (some ⟨bs i,0,none⟩) m m).toArray 90 (0,0))
 row:∀i,i<n->a (bs i)=some (.cells (rowB m (R i)).toArray 4 (0,0))
 inj:∀i j,i<n->j<n->bs i=bs j->i=j
 ne:∀i,i<n->bs i≠ob
theorem BT.outer {a:Hp} {ob n m:Nat} {bs:Nat->Nat} {R:Nat->Nat->Bool} (b:BT a ob bs n m R) {G h:Hp} (l:a.le h) {i:Nat} (hi:i<n):bf G h ⟨ob,i,none⟩=some (.slice (some ⟨bs i,0,none⟩) m m):=by rw [bm (bj (l _ _ b.out))];simp [hi]
theorem BT.cell {a:Hp} {ob n m:Nat} {bs:Nat->Nat} {R:Nat->Nat->Bool} (b:BT a ob bs n m R) {G h:Hp} (l:a.le h) {i j:Nat} (hi:i<n) (hj:j<m):bf G h ⟨bs i,j,none⟩=some (.bool (R i j)):=by rw [bm (bj (l _ _ (b.row i hi)))];simp [hj]
def setB (R:Nat->Nat->Bool) (i j:Nat) (v:Bool):Nat->Nat->Bool:=fun x y=>if x=i/\y=j then v else R x y
theorem aw4 {R:Nat->Nat->Bool} {i j m:Nat} {v:Bool}:(rowB m (R i)).set j (.bool v)=rowB m (setB R i j v i):=by
 apply List.ext_getElem
 . simp
 . intro k h1 h2;simp only [bT_,List.getElem_map,List.getElem_range,setB];by_cases e:k=j
   . subst e;simp
   . rw [ah_ (fun h=>e h.symm),ah_ (fun h=>e h.2)]
theorem zc {R:Nat->Nat->Bool} {i j x:Nat} {v:Bool} (h:x≠i):setB R i j v x=R x:=by funext y;unfold setB;rw [ah_ (fun e=>h e.1)]
theorem BT.put {a:Hp} {ob n m:Nat} {bs:Nat->Nat} {R:Nat->Nat->Bool} (b:BT a ob bs n m R) {i j:Nat} {v:Bool} (hi:i<n):
 BT (a.set (bs i) (.cells (rowB m (setB R i j v i)).toArray 4 (0,0))) ob bs n m (setB R i j v):=by
 refine ⟨?_,fun x hx=>?_,b.inj,b.ne⟩
 . rw [ci (fun e=>b.ne i hi e.symm)];exact b.out
 . by_cases e:x=i
   . subst e;exact bh
   . rw [ci (fun h=>e (b.inj x i hx hi h)),zc e];exact b.row x hx
theorem BT.store {G h a:Hp} {Rs:List Hp} {ob n m:Nat} {bs:Nat->Nat} {R:Nat->Nat->Bool} (b:BT a ob bs n m R) (s:HL.Sep (a::Rs) h) (d:Dis G h) {i j:Nat} {v:Bool} (hi:i<n) (hj:j<m) {K:Unit->Hp->Prop}
 (H:∀a' h',BT a' ob bs n m (setB R i j v)->HL.Sep (a'::Rs) h'->Dis G h'->K () h'):wpH P_ G (Instr.storeAt 4 (.pointer (some ⟨bs i,j,none⟩)) (.bool v)) h K:=by have e:=b.row i hi;have eh:=s.in 0 rfl _ _ e;rw [ec sz4 rfl eh (by simp;exact hj),aw4];exact H _ _ (b.put hi) (s.put e) (d.set (d _ _ eh))
def ad8:Cod Bool:=⟨1,fun b=>[.bool b],fun _=>rfl,fun _ v hv=>by simp at hv;subst hv;rfl⟩
def slcC:Cod (Option Addr × Nat × Nat):=⟨1,fun s=>[.slice s.1 s.2.1 s.2.2],fun _=>rfl,fun _ v hv=>by simp at hv;subst hv;rfl⟩
theorem eoboolT:iu P_ 4 ad8.n 1:=⟨by kernel_rfl,by kernel_rfl,by kernel_rfl⟩
theorem eoslc:iu P_ 90 slcC.n 24:=⟨by kernel_rfl,by kernel_rfl,by kernel_rfl⟩
structure BTp (a:Hp) (ob:Nat) (bs:Nat->Nat) (n m i:Nat):Prop where
 out:a ob=some (.cells ((List.range n).map fun j=>if j<i then Value.slice (some ⟨bs j,0,none⟩) m m else .slice none 0 0).toArray 90 (0,0))
 row:∀j,j<i->a (bs j)=some (.cells (rowB m fun _=>false).toArray 4 (0,0))
 inj:∀j k,j<i->k<i->bs j=bs k->j=k
 ne:∀j,j<i->bs j≠ob
theorem BTp.all {a:Hp} {ob n m:Nat} {bs:Nat->Nat} (b:BTp a ob bs n m n):BT a ob bs n m fun _ _=>false:=by refine ⟨?_,b.row,b.inj,b.ne⟩;rw [b.out];congr 3;apply List.map_congr_left;intro j hj;rw [ak_ (aM_.1 hj)]
theorem BTp.up {a a':Hp} {ob n m i:Nat} {bs:Nat->Nat} (b:BTp a ob bs n m i) (l:a.le a'):BTp a' ob bs n m i:=⟨l _ _ b.out,fun j hj=>l _ _ (b.row j hj),b.inj,b.ne⟩
theorem BTp.put {a:Hp} {ob n m i x:Nat} {bs:Nat->Nat} (b:BTp a ob bs n m i) (hx:a x=some (.cells (rowB m fun _=>false).toArray 4 (0,0))) (hne:∀j,j<i->bs j≠x) (hxo:x≠ob):
 BTp (a.set ob (.cells (((List.range n).map fun j=>if j<i then Value.slice (some ⟨bs j,0,none⟩) m m else .slice none 0 0).set i (.slice (some ⟨x,0,none⟩) m m)).toArray 90 (0,0))) ob (fun j=>if j=i then x else bs j) n m (i+1):=by
 refine ⟨?_,fun j hj=>?_,fun j k hj hk e=>?_,fun j hj=>?_⟩
 . rw [bh];congr 3;apply List.ext_getElem
   . simp
   . intro j h1 h2;simp only [bT_,List.getElem_map,List.getElem_range];by_cases h:i=j
     . subst h;simp
     . rw [ah_ h];by_cases h3:j<i
       . rw [ak_ h3,ak_ (by omega),ah_ (by omega)]
       . rw [ah_ h3,ah_ (by omega)]
 . by_cases h:j=i
   . rw [ak_ h,ci hxo];exact hx
   . rw [ah_ h,ci (b.ne j (by omega))];exact b.row j (by omega)
 . by_cases h:j=i
   . by_cases h':k=i
     . omega
     . simp only [ak_ h,ah_ h']at e;exact absurd e.symm (hne k (by omega))
   . by_cases h':k=i
     . simp only [ah_ h,ak_ h']at e;exact absurd e (hne j (by omega))
     . simp only [ah_ h,ah_ h']at e;exact b.inj j k (by omega) (by omega) e
 . by_cases h:j=i
   . simp only [ak_ h];exact hxo
   . simp only [ah_ h];exact b.ne j (by omega)
end Go.Proofs.YtfflipnhffknnaaGreatDoor
end
section
namespace Go.Proofs.YtfflipnhffknnaaGreatDoor
open Go Go.HL Go.Proofs.Resv Go.Proofs.Srch
def B2:=jq bC (jq @pd (jq @ix89 @ln23))
theorem an7 {m:Nat}:ad8.rows (List.replicate m false)=rowB m fun _=>false:=by
 induction m with
 |zero=>rfl
 |succ m ih=>rw [List.replicate_succ,rowB,List.range_succ_eq_map,bC_,List.map_map];exact congrArg (Value.bool false::·) ih
theorem aw6 {n m:Nat} {bs:Nat->Nat}:slcC.rows (List.replicate n (none,0,0))=(List.range n).map fun j=>if j<0 then Value.slice (some ⟨bs j,0,none⟩) m m else .slice none 0 0:=by
 have e:slcC.rows (List.replicate n (none,0,0))=List.replicate n (Value.slice none 0 0):=by
  induction n with
  |zero=>rfl
  |succ n ih=>rw [List.replicate_succ,List.replicate_succ];exact congrArg (Value.slice none 0 0::·) ih
 rw [e];apply List.ext_getElem
 . simp
 . intro j h1 h2;simp
theorem an6 {G h q:Hp} {n m mc:Nat} {sp:Option Addr} (s:HL.Sep [q] h) (d:Dis G h) (hn:n<=1000) (hm:m<=1000) {KK:EK} {r:Rg} (g18:r 18 = .slice sp m mc) (g24:r 24 = .int .i64 n)
 (H:∀(r':Rg) (a' h':Hp) (ob:Nat) (bs:Nat->Nat),(∀j,1<=j->j<=24->r' j=r j)->r' 25 = .slice (some ⟨ob,0,none⟩) (n+1) (n+1)->BT a' ob bs (n+1) m (fun _ _=>false)->HL.Sep [a',q] h'->Dis G h'->Tm G KK r' h'):Hq G KK r h:=by
 unfold Hq;simp (disch:=first|decide|omega) only [B2,g24];rw [show (Value.int .i64 ((n:Int)+1))=Value.int .i64 ((n+1:Nat):Int)from rfl,tf slcC (none,0,0) (by decide) un89 eoslc (by kernel_rfl) (by omega) (by omega)];intro ob ho go;rw [aw6 (m:=m) (bs:=fun _=>0)];have s0:=s.new (o := .cells ((List.range (n+1)).map fun j=>if j<0 then Value.slice (some ⟨(fun _=>0) j,0,none⟩) m m else .slice none 0 0).toArray 90 (0,0)) ho;have d0:=d.set (o := .cells ((List.range (n+1)).map fun j=>if j<0 then Value.slice (some ⟨(fun _=>0) j,0,none⟩) m m else .slice none 0 0).toArray 90 (0,0)) go;have b0:BTp (noHp.set ob (.cells ((List.range (n+1)).map fun j=>if j<0 then Value.slice (some ⟨(fun _=>0) j,0,none⟩) m m else .slice none 0 0).toArray 90 (0,0))) ob (fun _=>0) (n+1) m 0:=⟨bh,fun j hj=>absurd hj (by omega),fun j k hj=>absurd hj (by omega),fun j hj=>absurd hj (by omega)⟩;generalize Hp.set h ob _=h0 at s0 d0 ⊢;generalize noHp.set ob _=a0 at s0 b0
 refine dt (fun k p h'=>∃(i:Nat) (a':Hp) (bs:Nat->Nat),k=n+1-i/\i<=n+1/\(∀j,1<=j->j<=24->p j=r j)/\p 25 = .slice (some ⟨ob,0,none⟩) (n+1) (n+1)/\p 26 = .int .i64 i/\BTp a' ob bs (n+1) m i/\HL.Sep [a',q] h'/\Dis G h') ?_ (m:=n+1)
  ⟨0,a0,_,rfl,by omega,fun j h1 h2=>by simp (disch:=omega) only [bo],by simp (disch:=decide) only [B2],by simp only [B2]<;>rfl,b0,s0,d0⟩
 rintro k p h1 ⟨i,a1,bs,rfl,hi,hp,p25,p26,b1,s1,d1⟩ X hX;have p18:=(hp 18 (by decide) (by decide)).trans g18;have p24:=(hp 24 (by decide) (by decide)).trans g24;unfold ah0;simp only [B2,p24,p26];refine df (fun hle=>?_) (fun hgt=>?_);rotate_left
 . obtain rfl:i=n+1:=by omega
   try simp (disch:=first|decide|omega) only [B2,Nat.reduceAdd,Nat.reduceMul]
   exact H _ a1 h1 ob bs (fun j h1 h2=>by simp (disch:=omega) only [bo];exact hp j h1 h2) (by simp (disch:=decide) only [B2,p25]) b1.all s1 d1
 have hi':i<n+1:=by omega
 unfold I7;simp (disch:=first|decide|omega) only [B2,p18,p25,p26];rw [tf ad8 false (by decide) un90 eoboolT (by kernel_rfl) (by omega) (by omega)];intro x hx gx;rw [an7]
 have hax:a1 x=none:=by
  cases e:a1 x with
  |none=>rfl
  |some o=>have:=s1.in 0 rfl _ _ e;rw [hx]at this;cases this
 have l2:a1.le (a1.set x (.cells (rowB m fun _=>false).toArray 4 (0,0))):=dw hax;have s2:=s1.grow (o := .cells (rowB m fun _=>false).toArray 4 (0,0)) hx;have d2:=d1.set (o := .cells (rowB m fun _=>false).toArray 4 (0,0)) gx;have bx:(a1.set x (.cells (rowB m fun _=>false).toArray 4 (0,0))) x=some _:=bh;have b2:=b1.up l2;have ne1:∀j,j<i->bs j≠x:=fun j hj e=>by have:=b1.row j hj;rw [e,hax]at this;cases this
 have ne2:x≠ob:=fun e=>by have:=b1.out;rw [<- e,hax]at this;cases this
 generalize Hp.set h1 x _=h2 at s2 d2 ⊢;generalize Hp.set a1 x _=a2 at s2 b2 bx l2;try simp only [B2,ix89 (ac_ i) (show (i:Int)<((n+1:Nat):Int)by omega),aW_]
 have e:=b2.out;have eh:=s2.in 0 rfl _ _ e;rw [ec sz90 rfl eh (by simp;exact hi')];have s3:=s2.put (o := .cells (((List.range (n+1)).map fun j=>if j<i then Value.slice (some ⟨bs j,0,none⟩) m m else .slice none 0 0).set i (.slice (some ⟨x,0,none⟩) m m)).toArray 90 (0,0)) e;have d3:=d2.set (o := .cells (((List.range (n+1)).map fun j=>if j<i then Value.slice (some ⟨bs j,0,none⟩) m m else .slice none 0 0).set i (.slice (some ⟨x,0,none⟩) m m)).toArray 90 (0,0)) (d2 _ _ eh);have b3:=b2.put bx ne1 ne2;unfold I6;simp (disch:=first|decide|omega) only [B2,p26];exact hX (n+1-(i+1)) _ _ (by omega) ⟨i+1,_,_,rfl,by omega,fun j h1 h2=>by simp (disch:=omega) only [bo];exact hp j h1 h2,by simp (disch:=decide) only [B2,p25],by simp only [B2]<;>rfl,b3,s3,d3⟩
end Go.Proofs.YtfflipnhffknnaaGreatDoor
end
section
namespace Go.Proofs.YtfflipnhffknnaaGreatDoor
open Go Go.HL
section
variable (G:Hp) (K:EK) (r:Rg) (h:Hp)
def md31:Nat->Hint
 |_=>m0_
def S31:Prop:=
 o_ G (Instr.box 54 (r 0)) h fun g h=>o_ G (l_ 54 g) h fun j h=>
 c_ G 73 #[j,r 1] h fun s h=>o_ G (k_ 168 s) h fun u h=>
 K .ret (u7 r 2 g 4 (.int .i64 0) 5 j 6 (r 1) 7 s 8 u 4 u) h
theorem enter31:Ent 9 31 [.tmp 4] S31:=ent_ (m:=md31) (c:=(Tryz.f31.body.getD .skip)) (fun _ _ _ _=>by kernel_rfl) Tryz.func31 rfl rfl rfl
def md73:Nat->Hint
 |_=>m0_
def aP3 (G:Hp) (K:EK) (r:Rg) (h:Hp):Prop:=
 K .ret (u2 r 43 (r 5) 4 (r 5)) h
def P6:Prop:=
 o_ G (l_ 54 (r 2)) h fun g h=>o_ G (f_ 54 (r 2) 0) h fun j h=>o_ G (l_ 3 j) h fun s h=>o_ G (z4_ (r 1) s) h fun u h=>o_ G (z3_ u (r 6)) h fun w h=>o_ G (f_ 54 (r 2) 2) h fun z h=>o_ G (l_ 3 z) h fun C h=>
 c_ G 125 #[g,w,r 7,C] h fun D h=>o_ G (z1_ (r 6) D) h fun E h=>o_ G (Instr.buildSlice 168 1 #[(0,E)]) h fun F h=>o_ G (Builtin.append_ #[168,168] 168 #[r 5,F]) h fun I h=>
 K .normal (upd (u10 (u10 r 25 g 26 (r 1) 27 j 28 s 29 u 30 (r 6) 31 w 32 (r 7) 33 z 34 C) 35 D 7 D 36 (r 6) 37 D 38 E 6 E 39 (r 5) 40 E 41 F 42 I) 5 I) h
def aP2 (r:Rg) (h:Hp) (K:EK):Prop:=
 o_ G (f_ 54 (r 2) 0) h fun g h=>o_ G (l_ 3 g) h fun j h=>o_ G (z4_ (r 1) j) h fun s h=>o_ G (z2_ (r 6) s) h fun u h=>
 (fun q=>cond u
 (P6 G K q h)
 (K (.exit 0) q h))
 (u6 r 19 (r 6) 20 (r 1) 21 g 22 j 23 s 24 u)
def aP4:Prop:=
 du (aP2 G) (u3 r 5 (.slice none 0 0) 6 (.int .i64 0) 7 (.int .i64 0)) h (dc 0 (di (aP3 G K) K))
def S73:Prop:=
 o_ G (Instr.box 54 (r 0)) h fun g h=>o_ G (z2_ (r 1) (1:Int)) h fun j h=>g_ j false (fun K1=>K1 (r 1) h) h fun s h=>g_ j false (o_ G (z6_ s (16:Int)) h) h fun u h=>
 opH P_ G (dh j (.bool true) u) h fun w h=>g_ w false (o_ G (l_ 54 g) h) h fun z h=>g_ w false (c_ G 124 #[z] h) h fun C h=>g_ w false (o_ G (Op.unary .not C) h) h fun D h=>
 opH P_ G (dh w (.bool true) D) h fun E h=>
 (fun q=>cond E
 (K .ret (upd q 4 (.slice none 0 0)) h)
 (aP4 G K q h))
 (u3 (u10 r 2 g 4 (.slice none 0 0) 8 (r 1) 9 j 10 j 11 s 12 u 13 w 14 w 15 z) 16 C 17 D 18 E)
theorem enter73:Ent 44 73 [.tmp 4] S73:=ent_ (m:=md73) (c:=(Tryz.f73.body.getD .skip)) (fun _ _ _ _=>by kernel_rfl) Tryz.func73 rfl rfl rfl
def md124:Nat->Hint
 |_=>m0_
def S124:Prop:=
 o_ G (Instr.box 54 (r 0)) h fun g h=>o_ G (f_ 54 g 0) h fun j h=>o_ G (l_ 3 j) h fun s h=>o_ G (z5_ s (1:Int)) h fun u h=>g_ u true (o_ G (f_ 54 g 0) h) h fun w h=>g_ u true (o_ G (l_ 3 w) h) h fun z h=>g_ u true (o_ G (z7_ z (1000:Int)) h) h fun C h=>
 opH P_ G (dh u C (.bool false)) h fun D h=>g_ D true (o_ G (f_ 54 g 1) h) h fun E h=>g_ D true (o_ G (l_ 3 E) h) h fun F h=>g_ D true (o_ G (z5_ F (1:Int)) h) h fun I h=>
 opH P_ G (dh D I (.bool false)) h fun J h=>g_ J true (o_ G (f_ 54 g 1) h) h fun L h=>g_ J true (o_ G (l_ 3 L) h) h fun M h=>g_ J true (o_ G (z7_ M (1000:Int)) h) h fun N h=>
 opH P_ G (dh J N (.bool false)) h fun O h=>g_ O true (o_ G (f_ 54 g 2) h) h fun P h=>g_ O true (o_ G (l_ 3 P) h) h fun Q h=>g_ O true (o_ G (z5_ Q (1:Int)) h) h fun U h=>
 opH P_ G (dh O U (.bool false)) h fun V h=>g_ V true (o_ G (f_ 54 g 2) h) h fun W h=>g_ V true (o_ G (l_ 3 W) h) h fun Y h=>g_ V true (o_ G (z7_ Y (1000:Int)) h) h fun Z h=>
 opH P_ G (dh V Z (.bool false)) h fun aa h=>
 K .ret (upd (u10 (u10 (u10 r 1 g 2 (.bool false) 3 j 4 s 5 u 6 u 7 w 8 z 9 C 10 D) 11 D 12 E 13 F 14 I 15 J 16 J 17 L 18 M 19 N 20 O) 21 O 22 P 23 Q 24 U 25 V 26 V 27 W 28 Y 29 Z 30 aa) 2 aa) h
theorem aJ0:Ent 31 124 [.tmp 2] S124:=ent_ (m:=md124) (c:=(Tryz.f124.body.getD .skip)) (fun _ _ _ _=>by kernel_rfl) Tryz.func124 rfl rfl rfl
def md125:Nat->Hint
 |_=>m0_
def Tw (G:Hp) (K:EK) (r:Rg) (h:Hp):Prop:=
 K .ret (u2 r 35 (r 9) 8 (r 9)) h
def Nc:Prop:=
 o_ G (z3_ (r 9) (1:Int)) h fun g h=>
 K .normal (u3 r 33 (r 9) 34 g 9 g) h
def aj6 (r:Rg) (h:Hp) (K:EK):Prop:=
 o_ G (z6_ (r 9) (1:Int)) h fun g h=>g_ g true (o_ G (l_ 54 (r 4)) h) h fun j h=>g_ g true (fun K1=>K1 (r 9) h) h fun s h=>g_ g true (c_ G 153 #[j,s] h) h fun u h=>g_ g true (fun K1=>K1 (r 1) h) h fun w h=>g_ g true (fun K1=>K1 (r 9) h) h fun z h=>g_ g true (o_ G (z3_ w z) h) h fun C h=>g_ g true (o_ G (z6_ u C) h) h fun D h=>
 opH P_ G (dh g D (.bool false)) h fun E h=>
 (fun q=>cond E
 (Nc G K q h)
 (K (.exit 0) q h))
 (upd (u10 r 22 (r 9) 23 g 24 g 25 j 26 s 27 u 28 w 29 z 30 C 31 D) 32 E)
def Jt:Prop:=
 du (aj6 G) r h (dc 0 (di (Tw G K) K))
def Ju:Prop:=
 o_ G (z6_ (r 9) (r 1)) h fun g h=>
 cond g
 (Jt G K (u5 r 18 (r 9) 19 (r 1) 20 g 21 (r 1) 9 (r 1)) h)
 (Jt G K (u3 r 18 (r 9) 19 (r 1) 20 g) h)
def S125:Prop:=
 o_ G (Instr.box 54 (r 0)) h fun g h=>o_ G (f_ 54 g 1) h fun j h=>o_ G (l_ 3 j) h fun s h=>o_ G (z1_ (r 2) s) h fun u h=>o_ G (z6_ u (r 3)) h fun w h=>
 (fun q=>cond w
 (Ju G K (u2 q 17 (r 3) 9 (r 3)) h)
 (Ju G K q h))
 (u10 r 4 g 8 (.int .i64 0) 10 (r 2) 11 j 12 s 13 u 9 u 14 u 15 (r 3) 16 w)
theorem aI9:Ent 36 125 [.tmp 8] S125:=ent_ (m:=md125) (c:=(Tryz.f125.body.getD .skip)) (fun _ _ _ _=>by kernel_rfl) Tryz.func125 rfl rfl rfl
def md153:Nat->Hint
 |_=>m0_
def ag1 (G:Hp) (K:EK) (r:Rg) (h:Hp):Prop:=
 K .ret (u2 r 19 (r 5) 4 (r 5)) h
def Ml:Prop:=
 o_ G (f_ 54 (r 2) 1) h fun g h=>o_ G (l_ 3 g) h fun j h=>o_ G (z3_ (r 1) j) h fun s h=>
 K .normal (u5 r 12 (r 1) 13 g 14 j 15 s 1 s) h
def Mm:Prop:=
 o_ G (z1_ (r 5) (r 1)) h fun g h=>
 Ml G K (u4 r 16 (r 5) 17 (r 1) 18 g 5 g) h
def ag0 (r:Rg) (h:Hp) (K:EK):Prop:=
 o_ G (z6_ (r 1) (0:Int)) h fun g h=>
 cond g
 (Mm G K (u2 r 10 (r 1) 11 g) h)
 (K (.exit 0) (u2 r 10 (r 1) 11 g) h)
def S153:Prop:=
 o_ G (Instr.box 54 (r 0)) h fun g h=>o_ G (f_ 54 g 1) h fun j h=>o_ G (l_ 3 j) h fun s h=>o_ G (z3_ (r 1) s) h fun u h=>
 du (ag0 G) (u8 r 2 g 4 (.int .i64 0) 5 (.int .i64 0) 6 (r 1) 7 j 8 s 9 u 1 u) h (dc 0 (di (ag1 G K) K))
theorem aG6:Ent 20 153 [.tmp 4] S153:=ent_ (m:=md153) (c:=(Tryz.f153.body.getD .skip)) (fun _ _ _ _=>by kernel_rfl) Tryz.func153 rfl rfl rfl
def md93:Nat->Hint
 |_=>m0_
def S93:Prop:=
 o_ G (Instr.box 26 (r 0)) h fun g h=>o_ G (Instr.alloc 54 true (.tuple #[])) h fun j h=>o_ G (f_ 26 g 7) h fun s h=>o_ G (l_ 3 s) h fun u h=>o_ G (f_ 26 g 8) h fun w h=>o_ G (l_ 3 w) h fun z h=>o_ G (f_ 26 g 9) h fun C h=>o_ G (l_ 3 C) h fun D h=>o_ G (Instr.build 54 #[(0,u),(1,z),(2,D)]) h fun E h=>
 opH P_ G (x_ 54 j E) h fun F h=>
 K .ret (u9 r 1 g 2 j 3 s 4 u 5 w 6 z 7 C 8 D 9 E) h
theorem enter93:Ent 10 93 [.cell 2 54] S93:=ent_ (m:=md93) (c:=(Tryz.f93.body.getD .skip)) (fun _ _ _ _=>by kernel_rfl) Tryz.func93 rfl rfl rfl
def md46:Nat->Hint
 |3=>mh false [0,1,0,4,15,31] [m_,e_,n_,m_,e_,n_] ([false]++[true]++fs 4) false
 |_=>m0_
def aR2 (G:Hp) (K:EK) (r:Rg) (h:Hp):Prop:=
 K .ret (upd r 4 (.int .i64 0)) h
def S0:Prop:=
 cond (r 18)
 (o_ G (f_ 26 (r 2) 11) h fun g h'=>o_ G (l_ 3 g) h' fun j h'=>
 K .ret (u3 r 21 g 22 j 4 j) h')
 (aR2 G K r h)
def S46:Prop:=
 o_ G (Instr.box 26 (r 0)) h fun g h=>o_ G (Instr.box 48 (r 1)) h fun j h=>o_ G (f_ 48 j 0) h fun s h=>o_ G (l_ 3 s) h fun u h=>
 opH P_ G (xEq .eql 3 (.tmp 0) (.const .nilFunc) u (.int .i64 1)) h fun w h=>
 cond w
 (w_ G h (l_ 26 g) h fun z h'=>
 c_ G 93 #[z] h' fun C h'=>h.le h'/\
 p_ (f_ 48 j 2) h' fun D h'=>
 w_ G h (l_ 3 D) h' fun E h'=>
 c_ G 31 #[C,E] h' fun F h'=>
 K .ret (u3 (u10 r 2 g 3 j 4 (.int .i64 0) 5 s 6 u 8 w 7 w 9 z 10 C 11 D) 12 E 13 F 4 F) h')
 (opH P_ G (xEq .eql 3 (.tmp 0) (.const .nilFunc) u (.int .i64 2)) h fun z h=>
 cond z
 (o_ G (f_ 26 g 10) h fun C h'=>o_ G (l_ 3 C) h' fun D h'=>
 K .ret (u2 (u10 r 2 g 3 j 4 (.int .i64 0) 5 s 6 u 8 w 7 w 15 z 14 z 16 C) 17 D 4 D) h')
 (opH P_ G (xEq .eql 3 (.tmp 0) (.const .nilFunc) u (.int .i64 3)) h fun C h=>
 cond C
 (S0 G K (upd (u10 r 2 g 3 j 4 (.int .i64 0) 5 s 6 u 8 w 7 w 15 z 14 z 19 C) 18 C) h)
 (opH P_ G (xEq .eql 3 (.tmp 0) (.const .nilFunc) u (.int .i64 4)) h fun D h=>
 S0 G K (u3 (u10 r 2 g 3 j 4 (.int .i64 0) 5 s 6 u 8 w 7 w 15 z 14 z 19 C) 18 C 20 D 18 D) h)))
theorem enter46:Ent 23 46 [.tmp 4] S46:=ent_ (m:=md46) (c:=(Tryz.f46.body.getD .skip)) (fun _ _ _ _=>by kernel_rfl) Tryz.func46 rfl rfl rfl
end
end Go.Proofs.YtfflipnhffknnaaGreatDoor
end
section
namespace Go.Proofs.YtfflipnhffknnaaGreatDoor
open Go Go.HL Go.Proofs.Resv Go.Proofs.Srch
def fm:=jq bC (jq (jq (jq @xa (jq @kv @pd)) (jq (jq @Po @cf124) (jq @cf125 @cf153))) (jq (jq (jq @cf73 @fa54_0) (jq @fa54_1 @fa54_2)) (jq (jq @ld3 @ld54) (jq @O1 @true_and))))
abbrev kV (U A V:Int):Value := .agg #[U,A,V]
abbrev kO (U A V:Int):Obj := .cells #[U,A,V] 54 (0,0)
theorem Uy {G h:Hp} {U A V q:Int} (kb:KB U A V) (h0:0<=q) (h1:q<=V):
 bn P_ G 153 #[kV U A V,q] h (fun v h'=>v = .int .i64 (xu A q)/\h'=h):=by
 obtain ⟨ku1,ku2,ka1,ka2,kv1,kv2⟩:=kb;refine quietly (aG6 (by simp) ?_);unfold S153;simp (disch:=first|decide|omega) only [fm];intro kp hkp gkp;have bk:(h.set kp (kO U A V)) kp=some (kO U A V):=bh;have l1:h.le (h.set kp (kO U A V)):=dw hkp;try simp (disch:=first|decide|omega) only [fm,Nat.reduceAdd,Nat.reduceMul]
 generalize Hp.set h kp _=h1 at bk l1 ⊢;have ck:∀j,bf G h1 ⟨kp,j,none⟩=_:=fun j=>bm (bj bk);try simp (disch:=first|decide|omega) only [fm,Nat.reduceAdd,Nat.reduceMul,ck]
 have hbd:=Fy ka1 (show q<=1000 by omega)
 refine dt (fun m r h'=>h'=h1/\r 2 = .pointer (some ⟨kp,0,none⟩)/\∃s v:Int,r 5 = .int .i64 s/\r 1 = .int .i64 v/\v.toNat=m/\v<=1000 /\ -1000<=v/\0<=s/\∃n:Nat,v<=n/\s+brk A n v=xu A q) ?_ (m:=(q-A).toNat)
  ⟨rfl,by simp (disch:=decide) only [fm],0,q-A,by simp (disch:=decide) only [fm],by simp only [fm],rfl,by omega,by omega,by omega,q.toNat,by omega,by unfold xu;omega⟩
 rintro m r h' ⟨rfl,g0,s,v,g5,g6,rfl,hv,hv2,hs,n,hn,hsum⟩ X hX;unfold ag0;simp only [fm,g6];by_cases hp:v>0
 . rw [js hp];obtain ⟨n,rfl⟩:∃k,n=k+1:=⟨n-1,by omega⟩;unfold brk at hsum;rw [ak_ hp]at hsum;have hb:=Sl ka1 n (v-A) (by omega);simp only [fm];unfold Mm;simp (disch:=first|decide|omega) only [fm,g5,g6];unfold Ml;simp (disch:=first|decide|omega) only [fm,g0,g6,ck];refine hX (v-A).toNat _ _ (by omega) ⟨rfl,by simp (disch:=decide) only [fm,g0],s+v,v-A,by simp (disch:=decide) only [fm],by simp only [fm],rfl,by omega,by omega,by omega,n,by omega,by omega⟩
 . rw [kc hp];rw [ad7 n (by omega)]at hsum;simp only [fm];unfold ag1;simp (disch:=decide) only [fm,g5];exact ⟨by rw [<- hsum];simp,l1⟩
theorem Xm {G h:Hp} {U A V x s v:Int} (kb:KB U A V) (hx1:1<=x) (hx2:x<=100000) (hs:0<=s) (hs2:s<=1000) (hv1:1<=v) (hv2:v<=V):
 bn P_ G 125 #[kV U A V,x,s,v] h (fun u h'=>u = .int .i64 (tt A x s v)/\h'=h):=by
 have kb':=kb;obtain ⟨ku1,ku2,ka1,ka2,kv1,kv2⟩:=kb;refine quietly (aI9 (by simp) ?_);unfold S125;simp (disch:=first|decide|omega) only [fm];intro kp hkp gkp;have bk:(h.set kp (kO U A V)) kp=some (kO U A V):=bh;have l1:h.le (h.set kp (kO U A V)):=dw hkp;try simp (disch:=first|decide|omega) only [fm,Nat.reduceAdd,Nat.reduceMul]
 generalize Hp.set h kp _=h1 at bk l1 ⊢;have ck:∀j,bf G h1 ⟨kp,j,none⟩=_:=fun j=>bm (bj bk);try simp (disch:=first|decide|omega) only [fm,Nat.reduceAdd,Nat.reduceMul,ck]
 suffices k2:∀r:Rg,r 4 = .pointer (some ⟨kp,0,none⟩)->r 1 = .int .i64 x->r 9 = .int .i64 (min (min (s+A) v) x)->Jt G (retK P_ G [.tmp 8] fun u h'=>(u = .int .i64 (tt A x s v)/\h.le h')) r h1 by
  have k1:∀r:Rg,r 4 = .pointer (some ⟨kp,0,none⟩)->r 1 = .int .i64 x->r 9 = .int .i64 (min (s+A) v)->Ju G (retK P_ G [.tmp 8] fun u h'=>(u = .int .i64 (tt A x s v)/\h.le h')) r h1:=fun r e4 e1 e9=>by
   unfold Ju;simp only [fm,e9,e1];refine df (fun hb=>?_) (fun hb=>?_)
   . exact k2 _ (by simp (disch:=decide) only [fm,e4]) (by simp (disch:=decide) only [fm,e1]) (by simp only [fm];first|omega|(congr 1;omega))
   . exact k2 _ (by simp (disch:=decide) only [fm,e4]) (by simp (disch:=decide) only [fm,e1]) (by simp (disch:=decide) only [fm,e9];first|omega|(congr 1;omega))
  refine df (fun hb=>?_) (fun hb=>?_)
  . exact k1 _ (by simp (disch:=decide) only [fm]) (by simp (disch:=decide) only [fm]) (by simp only [fm];first|omega|(congr 1;omega))
  . exact k1 _ (by simp (disch:=decide) only [fm]) (by simp (disch:=decide) only [fm]) (by simp (disch:=decide) only [fm];first|omega|(congr 1;omega))
 intro r e4 e1 e9;unfold Jt
 refine dt (fun m r h'=>h'=h1/\r 4 = .pointer (some ⟨kp,0,none⟩)/\r 1 = .int .i64 x/\∃q:Int,r 9 = .int .i64 q/\q.toNat=m/\q<=V/\1<=q/\∃n:Nat,q<=n/\dq A x n q=tt A x s v) ?_ (m:=(min (min (s+A) v) x).toNat)
  ⟨rfl,e4,e1,min (min (s+A) v) x,e9,rfl,by omega,by omega,(min (min (s+A) v) x).toNat,by omega,rfl⟩
 rintro m r h' ⟨rfl,g0,g1,q,g9,rfl,hq,hq1,n,hn,hd⟩ X hX;unfold aj6;simp only [fm,g9];obtain ⟨n,rfl⟩:∃k,n=k+1:=⟨n-1,by omega⟩;unfold dq at hd;by_cases hp:q>1
 . rw [js hp];simp (disch:=first|decide|omega) only [fm,g0,g1,g9,ck];refine (Uy kb' (by omega) hq).mono ?_;rintro _ _ ⟨rfl,rfl⟩;have hbd:=Fy ka1 (show q<=1000 by omega);simp only [fm];refine df (fun hb=>?_) (fun hb=>?_)
   . rw [ak_ ⟨hp,hb⟩]at hd;unfold Nc;simp (disch:=first|decide|omega) only [fm,g9];refine hX (q-1).toNat _ _ (by omega) ⟨rfl,by simp (disch:=decide) only [fm,g0],by simp (disch:=decide) only [fm,g1],q-1,by simp only [fm],rfl,by omega,by omega,n,by omega,hd⟩
   . rw [ah_ (by omega)]at hd;unfold Tw;simp (disch:=decide) only [fm,g9];exact ⟨by rw [hd],l1⟩
 . rw [kc hp];rw [ah_ (by omega)]at hd;simp only [fm,fq];unfold Tw;simp (disch:=decide) only [fm,g9];exact ⟨by rw [hd],l1⟩
theorem Xn {G h:Hp} {U A V:Int} (kb:KB U A V):bn P_ G 124 #[kV U A V] h (fun u h'=>u = .bool true/\h'=h):=by
 obtain ⟨ku1,ku2,ka1,ka2,kv1,kv2⟩:=kb;refine quietly (aJ0 (by simp) ?_);unfold S124;simp only [fm];intro kp hkp gkp;have bk:(h.set kp (kO U A V)) kp=some (kO U A V):=bh;have l1:h.le (h.set kp (kO U A V)):=dw hkp;try simp (disch:=first|decide|omega) only [fm,Nat.reduceAdd,Nat.reduceMul]
 generalize Hp.set h kp _=h1 at bk l1 ⊢;have ck:∀j,bf G h1 ⟨kp,j,none⟩=_:=fun j=>bm (bj bk);try simp only [fm,ck,js (show U>=1 from ku1),js ku2,js (show A>=1 from ka1),js ka2,js (show V>=1 from kv1),js kv2]
 exact l1
theorem N1 {G h:Hp} {U A V n:Int} (kb:KB U A V) (hn:Bd n):
 bn P_ G 73 #[kV U A V,n] h (fun u h'=>∃ip,Slc intC 3 ip u (kq U A V n)/\Sep [ip,h] h'/\Dis G h'):=by
 have kb':=kb;obtain ⟨ku1,ku2,ka1,ka2,kv1,kv2⟩:=kb;refine bn.assume fun d=>enter73 (by simp) ?_;unfold S73;simp only [fm];intro kp hkp gkp;have s1:=(Sep.one (h:=h)).past (o:=kO U A V) hkp;try simp (disch:=first|decide|omega) only [fm,Nat.reduceAdd,Nat.reduceMul]
 generalize e1:Hp.set h kp _=h1 at*;obtain ⟨l1,d1,bk⟩:=boxed e1 hkp d gkp;have ck:∀{h':Hp},h1.le h'->∀j,bf G h' ⟨kp,j,none⟩=_:=fun l j=>bm (bj (l _ _ bk));have no:¬(1<=n/\n<=16)->∃ip,Slc intC 3 ip (.slice none 0 0) (kq U A V n)/\Sep [ip,h] h1/\Dis G h1:=fun hh=>by unfold kq;rw [ah_ hh];exact ⟨noHp,Slc.nil,(Sep.one.cut l1).none,d1⟩
 by_cases q1:n<1
 . try simp only [fm,js q1,fq]
   exact no (by omega)
 by_cases q2:n>16
 . try simp only [fm,kc q1,js q2,fq]
   exact no (by omega)
 try simp only [fm,kc q1,kc q2,ck (Hp.le.refl _)]
 refine (Xn kb').mono ?_;rintro _ h1 ⟨rfl,rfl⟩;try simp only [fm]
 unfold aP4;generalize hKK:retK P_ G _ _=KK;have hnU:1*1<=n*U:=bx_ (by omega) ku1 (by omega) (by omega);have hnU2:n*U<=16*1000:=bx_ (by omega) ku2 (by omega) (by omega);have hwr:IntKind.i64.wrap (n*U)=n*U:=ng (by omega) (by omega);generalize he:n*U=e at hnU hnU2 hwr;obtain ⟨W,hW⟩:∃W,W=kq U A V n:=⟨_,rfl⟩;have hW2:W=prof A V e e.toNat 0 0:=by rw [hW];unfold kq;rw [ak_ (by omega),he]
 rw [<- hW]at hKK
 refine dt (fun m r h'=>∃(ip:Hp) (v:Value) (M:List Int) (p sp:Int),m=(e-p).toNat/\r 1 = .int .i64 n/\r 2 = .pointer (some ⟨kp,0,none⟩)/\r 5=v/\r 6 = .int .i64 p/\r 7 = .int .i64 sp/\
  Slc intC 3 ip v M/\Sep [ip,h1] h'/\Dis G h'/\0<=p/\0<=sp/\sp<=V/\p<=e/\∃k:Nat,e-p<=k/\M++prof A V e k p sp=W) ?_ (m:=(e-0).toNat)
  ⟨noHp,_,[],0,0,rfl,by simp (disch:=decide) only [fm],by simp (disch:=decide) only [fm],by simp (disch:=decide) only [fm],by simp (disch:=decide) only [fm],by simp only [fm],Slc.nil,Sep.one.none,d1,by omega,by omega,by omega,by omega,e.toNat,by omega,hW2.symm⟩
 rintro m r h' ⟨ip,v,M,p,sp,rfl,g1,g2,g5,g6,g7,sl,s',d',hp0,hsp0,hspV,hpe,k,hk,hprof⟩ X hX;have l':=s'.in 1 rfl;unfold aP2;simp (disch:=first|decide|omega) only [fm,g1,g2,g6,ck l'];rw [he];by_cases hlt:p<e
 . rw [js hlt];simp only [fm];unfold P6;simp (disch:=first|decide|omega) only [fm,g1,g2,g6,g7,ck l'];rw [he];try simp (disch:=first|decide|omega) only [fm,Nat.reduceAdd,Nat.reduceMul]
   refine (Xm kb' (x:=e-p) (s:=sp) (v:=V) (by omega) (by omega) hsp0 (by omega) (by omega) (by omega)).mono ?_;rintro _ h' ⟨rfl,rfl⟩;have hnx:=Z4 ka1 (show 1<=e-p by omega) hsp0 kv1;obtain ⟨k,rfl⟩:∃j,k=j+1:=⟨k-1,by omega⟩;unfold prof at hprof;rw [ak_ hlt]at hprof;generalize tt A (e-p) sp V=x at*;simp (disch:=first|decide|omega) only [fm];intro b hb gb;have s2:=(s'.new (o := .cells #[.int .i64 (p+x)] 3 (0,0)) hb).sel (L':=[ip,noHp.set b (.cells #[.int .i64 (p+x)] 3 (0,0)),h1]) [1,0,2] (by decide) rfl;have d2:=d'.set (o := .cells #[.int .i64 (p+x)] 3 (0,0)) gb;generalize Hp.set h' b _=h2 at s2 d2 ⊢;simp only [fm,g5];have hlen:M.length<=16000:=by have e1:=congrArg List.length hprof;have e2:=E0 (a:=A) (v:=V) (e:=e) e.toNat 0 0;rw [hW2]at e1;simp only [ae_]at e1;omega
   refine fh intC (by decide) Ht eo3 (by decide) (by decide) (M:=[p+x]) s2 d2 sl (Sees.row (c:=intC) (L:=[p+x]) (s2.at 1 rfl bh) rfl (aj_ _)) (by simp;omega) fun v3 a3 h3 o3 s3 d3=>?_;try simp (disch:=first|decide|omega) only [fm,Nat.reduceAdd,Nat.reduceMul]
   refine hX (e-(p+x)).toNat _ _ (by omega) ⟨a3,v3,M++[p+x],p+x,x,rfl,by simp (disch:=decide) only [fm,g1],by simp (disch:=decide) only [fm,g2],by simp only [fm],by simp (disch:=decide) only [fm],by simp (disch:=decide) only [fm],o3,s3.sel [0,2] (by decide) rfl,d3,by omega,by omega,by omega,by omega,k,by omega,?_⟩;rw [<- hprof];simp
 . rw [kc hlt];try simp only [fm]
   have hz:prof A V e k p sp=[]:=by
    cases k with
    |zero=>rfl
    |succ k=>unfold prof;rw [ah_ hlt]
   rw [hz,av_]at hprof;unfold aP3;rw [<- hKK];simp (disch:=decide) only [fm,g5];exact ⟨ip,by rw [<- hprof];exact sl,(s'.swap.cut l1).swap,d'⟩
theorem Xj {G h:Hp} {U A V n:Int} (kb:KB U A V) (hn:Bd n):
 bn P_ G 31 #[kV U A V,n] h (fun u h'=>u = .int .i64 (Hu U A V n)/\h'=h):=by
 refine bn.assume fun d=>quietly (enter31 (by simp) ?_);unfold S31;simp only [fm];intro kp hkp gkp;have s1:=(Sep.one (h:=h)).past (o:=kO U A V) hkp;try simp (disch:=first|decide|omega) only [fm,Nat.reduceAdd,Nat.reduceMul]
 generalize e1:Hp.set h kp _=h1 at*;obtain ⟨l1,d1,bk⟩:=boxed e1 hkp d gkp;have ck:∀j,bf G h1 ⟨kp,j,none⟩=_:=fun j=>bm (bj bk);try simp (disch:=first|decide|omega) only [fm,Nat.reduceAdd,Nat.reduceMul,ck]
 refine (N1 kb hn).mono ?_;rintro u h2 ⟨ip,sl,s2,d2⟩;obtain ⟨sa,cap,rfl,_⟩:=sl.len (by decide);try simp only [fm]
 exact ⟨rfl,l1.trans (s2.in 1 rfl)⟩
def ua:=jq bC (jq (jq (jq (jq @al54 @Yv) (jq @cf31 @cf93)) (jq (jq @Cv @Fp) (jq @Ha (jq @Sa @R9)))) (jq (jq (jq @Dx @R7) (jq @Ak @ld3)) (jq (jq @ld3p @ld54) (jq @A9 (jq @yc @true_and)))))
theorem st_k {G h:Hp} {b:Nat} {U A V U' A' V':Int} {K:Unit->Hp->Prop} (hb:h b=some (kO U' A' V')):wpH P_ G (Instr.storeAt 54 (.pointer (some ⟨b,0,none⟩)) (kV U A V)) h K=K () (h.set b (kO U A V)):=by rw [vd (n:=3) sz54 hb rfl (by simp) (by intro v hv;simp [Value.cells]at hv;rcases hv with rfl|rfl|rfl<;>rfl)];rfl
theorem ao2 {G h:Hp} {v:Value} {C:Conf} (hv:CV G h v C):bn P_ G 93 #[v] h (fun u h'=>u=kV C.un C.ac C.sp/\h'=h):=by
 obtain ⟨ab,cb,ap,cp,ar,cr,az,cs,rfl,ca⟩:=hv;refine bn.assume fun d=>quietly (enter93 (by simp) ?_);unfold S93;simp (disch:=decide) only [ua];intro xc hxc gxc;generalize e1:Hp.set h xc _=h1 at*;obtain ⟨l1,d1,q1⟩:=boxed e1 hxc d gxc;intro xk hxk gxk;generalize e2:Hp.set h1 xk _=h2 at*;obtain ⟨l2,d2,q2⟩:=boxed e2 hxk d1 gxk;have cc:∀k,bf G h2 ⟨xc,k,none⟩=_:=fun k=>bm (bj (l2 _ _ q1));try simp only [ua,cc]
 rw [st_k q2];have q3:=bh (h:=h2) (b:=xk) (o:=kO C.un C.ac C.sp);have ck:∀k,bf G (h2.set xk (kO C.un C.ac C.sp)) ⟨xk,k,none⟩=_:=fun k=>bm (bj q3);try simp only [ua,ck]
 rw [<- e2,set_set];exact l1.trans (dw hxk)
theorem Uu {G h:Hp} {v:Value} {C:Conf} {m:Move} (hv:CV G h v C) (kb:KB C.un C.ac C.sp) (hn:Bd m.n):bn P_ G 46 #[v,E7 m] h (fun u h'=>u = .int .i64 (dr C m)/\h'=h):=by
 obtain ⟨ab,cb,ap,cp,ar,cr,az,cs,rfl,ca⟩:=hv;refine bn.assume fun d=>quietly (enter46 (by simp) ?_);unfold S46;simp only [ua];intro xc hxc gxc xm hxm gxm;generalize e1:Hp.set h xc _=h1 at*;obtain ⟨l1,d1,q1⟩:=boxed e1 hxc d gxc;generalize e2:Hp.set h1 xm _=h2 at*;obtain ⟨l2,d2,q2⟩:=boxed e2 hxm d1 gxm;have cc:∀k,bf G h2 ⟨xc,k,none⟩=_:=fun k=>bm (bj (l2 _ _ q1));have cm:∀k,bf G h2 ⟨xm,k,none⟩=_:=fun k=>bm (bj q2);have ll:=l1.trans l2;try simp (disch:=first|decide|omega) only [ua,Nat.reduceAdd,Nat.reduceMul,cm]
 by_cases k1:m.k=1
 . try simp only [ua,show (m.k==1)=true by simpa using k1,cc]
   refine (ao2 (ca.up ll d2).cv).mono ?_;rintro _ h2 ⟨rfl,rfl⟩;refine ⟨Hp.le.refl _,?_⟩;try simp (disch:=first|decide|omega) only [ua,Nat.reduceAdd,Nat.reduceMul,cm]
   refine (Xj kb hn).mono ?_;rintro _ h2 ⟨rfl,rfl⟩;try simp (disch:=first|decide|omega) only [ua,Nat.reduceAdd,Nat.reduceMul]
   exact ⟨by unfold dr;rw [ak_ k1],ll⟩
 try simp only [ua,show (m.k==1)=false by simpa using k1]
 by_cases k2:m.k=2
 . try simp only [ua,show (m.k==2)=true by simpa using k2,cc]
   exact ⟨by unfold dr;rw [ah_ k1,ak_ k2],ll⟩
 try simp only [ua,show (m.k==2)=false by simpa using k2]
 by_cases k3:m.k=3
 . try simp only [ua,show (m.k==3)=true by simpa using k3]
   unfold S0;try simp (disch:=decide) only [ua,cc]
   exact ⟨by unfold dr;rw [ah_ k1,ah_ k2,ak_ (.inl k3)],ll⟩
 try simp only [ua,show (m.k==3)=false by simpa using k3]
 unfold S0;by_cases k4:m.k=4
 . try simp (disch:=decide) only [ua,show (m.k==4)=true by simpa using k4,cc]
   exact ⟨by unfold dr;rw [ah_ k1,ah_ k2,ak_ (.inr k4)],ll⟩
 try simp (disch:=decide) only [ua,show (m.k==4)=false by simpa using k4]
 unfold aR2;try simp only [ua]
 exact ⟨by unfold dr;rw [ah_ k1,ah_ k2,ah_ (by omega)],ll⟩
theorem Dq {G h:Hp} {b:Nat} {p:Pose} (e:h b=some (.cells #[p.x,p.y,(east p).1,(east p).2] 28 (0,0))):Sees dy G h (.slice (some ⟨b,0,none⟩) 2 2) (dj p):=Sees.row (c:=dy) (L:=dj p) e rfl (aj_ _)
theorem Xu {t:Int} {M:List Move} {i:Nat} {m:Move} (h:M[i]?=some m):nc t M (i+1)=m.e:=by show (M.getD i zM).e=m.e;rw [aG_,h];rfl
theorem Xc {C:Conf} (mk:dx C) {m:Move}:(gk C m).length<=300:=by
 obtain ⟨_,_,_,w16,_,k16⟩:=Jy mk;unfold gk;split
 . have h1:=J5 (W:=qh m) w16 k16;omega
 . simp
def Am:=jq bC (jq (jq (jq @B1 @cf40) (jq @cf47 (jq @ix89 @Ak))) (jq (jq @rz @ld4p) (jq @ld90 (jq @Z9 @ln23))))
def Af (C:Conf) (T:Tb) (r:Int) (R:Nat->Nat->Bool) (ps:List Pose) (t:Int) (k j:Nat):Bool:=
 R (k-1) j&&(match ps[j]? with|some p=>lu C T r (dj p) (t-1) (t+1)|none=>false)
theorem am6 {G h a q:Hp} {v pv:Value} {C:Conf} {tp bb ob n xc:Nat} {bs:Nat->Nat} {T:Tb} {rb t0 t:Int} {k:Nat} {ps:List Pose} {R:Nat->Nat->Bool} {ab:Option Addr} {cb:Nat} {ap:Option Addr} {cp':Nat} {ar:Option Addr} {cr:Nat} {az:Option Addr} {cs:Nat}
 (ca:CA G q C ab cb ap cp' ar cr az cs) (bx:q xc=some (na C ab cb ap cp' ar cr az cs)) (hw:C.w<=16) (hh:C.h<=16) (ts:Rv.TSee G q tp T) (fw:Few T bb) (hbb:bb<=50000) (sp:Sees lk G q pv ps) (hps:ps.length<=1000)
 (bt:BT a ob bs n ps.length R) (s:HL.Sep [a,q] h) (d:Dis G h) (hn:n<=1000) (ht0:0<=t0) (ht1:t0<=1000000) (ht:t=t0+k) (hk1:1<=k) (hk:k<n) {KK:EK} {r:Rg}
 (g1:r 1 = .pointer (some ⟨tp,0,none⟩)) (g2:r 2 = .int .i64 rb) (g3:r 3 = .slice (some ⟨ob,0,none⟩) n n) (g4:r 4=pv) (g5:r 5 = .int .i64 t) (g6:r 6 = .int .i64 t0) (g7:r 7 = .pointer (some ⟨xc,0,none⟩))
 (H:∀(r':Rg) (a' h':Hp) (R':Nat->Nat->Bool),(∀j,1<=j->j<=7->r' j=r j)->BT a' ob bs n ps.length R'->HL.Sep [a',q] h'->Dis G h'->(∀x,x≠k->R' x=R x)->(∀j,j<ps.length->R' k j=(R k j||Af C T rb R ps t k j))->L0 G KK r' h'):
 du (Sy G) (upd r 14 (.int .i64 0)) h (dc 0 (di (L0 G KK) KK)):=by
 obtain ⟨pa,pc,rfl,_⟩:=id sp
 refine dt (fun m p h'=>∃(i:Nat) (a':Hp) (R':Nat->Nat->Bool),m=ps.length-i/\i<=ps.length/\(∀j,1<=j->j<=7->p j=r j)/\p 14 = .int .i64 i/\BT a' ob bs n ps.length R'/\HL.Sep [a',q] h'/\Dis G h'/\(∀x,x≠k->R' x=R x)/\(∀j,j<ps.length->R' k j=(R k j||(decide (j<i)&&Af C T rb R ps t k j)))) ?_ (m:=ps.length)
  ⟨0,a,R,rfl,au_ _,fun j h1 h2=>by simp (disch:=omega) only [bo],by simp only [Am]<;>rfl,bt,s,d,fun x _=>rfl,fun j _=>by simp⟩
 rintro m p h1 ⟨i,a1,R1,rfl,hi,hp,p14,bt1,s1,d1,hR,hRk⟩ X hX;have p1:=(hp 1 (by decide) (by decide)).trans g1;have p2:=(hp 2 (by decide) (by decide)).trans g2;have p3:=(hp 3 (by decide) (by decide)).trans g3;have p4:=(hp 4 (by decide) (by decide)).trans g4;have p5:=(hp 5 (by decide) (by decide)).trans g5;have p6:=(hp 6 (by decide) (by decide)).trans g6;have p7:=(hp 7 (by decide) (by decide)).trans g7;unfold Sy;simp only [Am,p4,p14];refine df (fun hlt=>?_) (fun hge=>?_);rotate_left
 . obtain rfl:i=ps.length:=by omega
   try simp (disch:=first|decide|omega) only [Am,Nat.reduceAdd,Nat.reduceMul]
   refine H _ a1 h1 R1 (fun j h1 h2=>by simp (disch:=omega) only [bo];exact hp j h1 h2) bt1 s1 d1 hR fun j hj=>?_;rw [hRk j hj,af_ hj,aH_]
 have hi':i<ps.length:=by omega
 obtain ⟨x,hx⟩:∃x,ps[i]?=some x:=⟨_,aa_ hi'⟩;obtain ⟨b,o,rfl,e1,e2,e3⟩:=Sees.pose (sp.up (s1.in 1 rfl) d1) hx;have l1:=s1.in 1 rfl;have la:=s1.in 0 rfl;have cc:∀{h':Hp},q.le h'->∀j,bf G h' ⟨xc,j,none⟩=_:=fun l j=>bm (bj (l _ _ bx));have o1:=bt1.outer (G:=G) la (i:=k-1) (by omega);have c1:=bt1.cell (G:=G) la (i:=k-1) (j:=i) (by omega) hi';have tk:(t-1-t0).toNat=k-1:=by omega
 unfold Iy;simp (disch:=first|decide|omega) only [Am,p3,p5,p6,p14,show decide (t>t0)=true from af_ (by omega),aa4 (show 0<=t-1-t0 by omega) (show t-1-t0<(n:Int)by omega),tk,aW_,o1,aa3 (ac_ i) hlt,c1];have hRk1:R1 (k-1) i=R (k-1) i:=by rw [hR (k-1) (by omega)]
 rw [hRk1];have next:∀(p':Rg) (a2 h2:Hp) (R2:Nat->Nat->Bool) (K0:Exit->Rg->Hp->Prop),(∀j,1<=j->j<=7->p' j=p j)->p' 14=p 14->BT a2 ob bs n ps.length R2->HL.Sep [a2,q] h2->Dis G h2->(∀x,x≠k->R2 x=R x)->(∀j,j<ps.length->R2 k j=(R k j||(decide (j<i+1)&&Af C T rb R ps t k j)))->xe G (di X K0) p' h2:=by intro p' a2 h2 R2 K0 hp' h14 b2 s2 d2 r2 rk2;unfold xe;simp (disch:=first|decide|omega) only [Am,h14,p14];exact hX (ps.length-(i+1)) _ _ (by omega) ⟨i+1,a2,R2,rfl,by omega,fun j h1 h2=>by simp (disch:=omega) only [bo];exact (hp' j h1 h2).trans (hp j h1 h2),by simp only [Am]<;>rfl,b2,s2,d2,r2,rk2⟩
 have hsplit:∀j,j<ps.length->(decide (j<i+1)&&Af C T rb R ps t k j)=((decide (j<i)&&Af C T rb R ps t k j)||(decide (j=i)&&Af C T rb R ps t k i)):=fun j hj=>by
  by_cases h1:j<i
  . simp [h1,show j<i+1 by omega,show j≠i by omega]
  . by_cases h2:j=i
    . subst h2;simp
    . simp [h1,h2,show ¬j<i+1 by omega]
 have hsi:Af C T rb R ps t k i=(R (k-1) i&&lu C T rb (dj x) (t-1) (t+1)):=by unfold Af;rw [hx]
 cases hb:R (k-1) i with
 |false=>
  rw [hb,bZ_]at hsi;try simp only [Am,fq]
  exact next _ a1 h1 R1 _ (fun j h1 h2=>by simp (disch:=omega) only [bo]) (by simp (disch:=decide) only [Am]) bt1 s1 d1 hR fun j hj=>by rw [hRk j hj,hsplit j hj,hsi];simp
 |true=>
  rw [hb,aH_]at hsi;try simp (disch:=first|decide|omega) only [Am,p1,p2,p4,p7,cc l1,Ib (ac_ i) hlt,e1,e2,e3]
  refine (ny (p:=x)).mono ?_;rintro _ _ ⟨q1,rfl,hq1,gq1,rfl⟩;have s2:=s1.past (o := .cells #[x.x,x.y,(east x).1,(east x).2] 28 (0,0)) hq1;generalize eq1:Hp.set h1 q1 _=h2 at s2;obtain ⟨l2,d2,bq⟩:=boxed eq1 hq1 d1 gq1;refine ⟨l2,?_⟩;have lq2:=s2.in 1 rfl;refine (zj (ca.up lq2 d2).cv hw hh (ts.up lq2 d2) fw hbb (Dq bq) (by simp [dj])).mono ?_;rintro _ h2 ⟨rfl,rfl⟩;have o2:=bt1.outer (G:=G) (s2.in 0 rfl) hk;refine nu (fun hf=>?_) (fun hf=>?_)
  . simp only [Am,p3,p5,p6,p14,ix89 (show 0<=t-t0 by omega) (show t-t0<(n:Int)by omega),show (t-t0).toNat=k by omega,aW_,o2,ix90 (ac_ i) hlt];refine bt1.store s2 d2 hk hi' fun a3 h3 b3 s3 d3=>?_;refine next _ a3 h3 (setB R1 k i true) _ (fun j h1 h2=>by simp (disch:=omega) only [bo]) (by simp (disch:=decide) only [Am]) b3 s3 d3 (fun y hy=>by rw [zc hy];exact hR y hy) fun j hj=>?_
    rw [hsplit j hj,hsi,hf];unfold setB;by_cases hji:j=i
    . simp [hji]
    . rw [ah_ (fun e=>hji e.2),hRk j hj];simp [hji]
  . exact next _ a1 h2 R1 _ (fun j h1 h2=>by simp (disch:=omega) only [bo]) (by simp (disch:=decide) only [Am]) bt1 s2 d2 hR fun j hj=>by rw [hRk j hj,hsplit j hj,hsi,hf];simp
def F3:=jq bC (jq (jq @bz_ (jq @ff @eq30p)) (jq (jq @Jm @rz) (jq @ld90 @ln23)))
theorem ap6 {G h a q:Hp} {pv mv:Value} {ob n:Nat} {bs:Nat->Nat} {t0 t:Int} {k j:Nat} {ps:List Pose} {ms:List Move} {x:Move} {R:Nat->Nat->Bool}
 (sp:Sees lk G q pv ps) (sm:Sees jg G q mv ms) (hx:ms[j]?=some x) (hps:ps.length<=1000)
 (bt:BT a ob bs n ps.length R) (s:HL.Sep [a,q] h) (d:Dis G h) (hn:n<=1000) (ht0:0<=t0) (ht1:t0<=1000000) (ht:t=t0+k) (hk:k<n) {X:Exit->Rg->Hp->Prop} {r:Rg}
 (g3:r 3 = .slice (some ⟨ob,0,none⟩) n n) (g4:r 4=pv) (g5:r 5 = .int .i64 t) (g6:r 6 = .int .i64 t0) (g16:r 16=mv) (g17:r 17 = .int .i64 j)
 (H:∀(r':Rg) (a' h':Hp) (R':Nat->Nat->Bool),(∀y,1<=y->y<=17->r' y=r y)->BT a' ob bs n ps.length R'->HL.Sep [a',q] h'->Dis G h'->(∀y,y≠k->R' y=R y)->(∀y,y<ps.length->R' k y=(R k y||decide (ps[y]?=some x.t)))->qc G X r' h'):
 zy G X r h:=by
 obtain ⟨pa,pc,rfl,_⟩:=id sp;obtain ⟨ma,mc,rfl,_⟩:=id sm;unfold zy
 refine dt (fun m p h'=>∃(i:Nat) (a':Hp) (R':Nat->Nat->Bool),m=ps.length-i/\i<=ps.length/\(∀y,1<=y->y<=17->p y=r y)/\p 19 = .int .i64 i/\BT a' ob bs n ps.length R'/\HL.Sep [a',q] h'/\Dis G h'/\(∀y,y≠k->R' y=R y)/\(∀y,y<ps.length->R' k y=(R k y||(decide (y<i)&&decide (ps[y]?=some x.t))))) ?_ (m:=ps.length)
  ⟨0,a,R,rfl,au_ _,fun j h1 h2=>by simp (disch:=omega) only [bo],by simp only [F3]<;>rfl,bt,s,d,fun x _=>rfl,fun j _=>by simp⟩
 rintro m p h1 ⟨i,a1,R1,rfl,hi,hp,p19,bt1,s1,d1,hR,hRk⟩ Y hY;have p3:=(hp 3 (by decide) (by decide)).trans g3;have p4:=(hp 4 (by decide) (by decide)).trans g4;have p5:=(hp 5 (by decide) (by decide)).trans g5;have p6:=(hp 6 (by decide) (by decide)).trans g6;have p16:=(hp 16 (by decide) (by decide)).trans g16;have p17:=(hp 17 (by decide) (by decide)).trans g17;unfold Ge;simp only [F3,p4,p19];refine df (fun hlt=>?_) (fun hge=>?_);rotate_left
 . obtain rfl:i=ps.length:=by omega
   try simp (disch:=first|decide|omega) only [F3,Nat.reduceAdd,Nat.reduceMul]
   refine H _ a1 h1 R1 (fun j h1 h2=>by simp (disch:=omega) only [bo];exact hp j h1 h2) bt1 s1 d1 hR fun j hj=>?_;rw [hRk j hj,af_ hj,aH_]
 have hi':i<ps.length:=by omega
 obtain ⟨z,hz⟩:∃z,ps[i]?=some z:=⟨_,aa_ hi'⟩;obtain ⟨b,o,rfl,e1,e2,e3⟩:=Sees.pose (sp.up (s1.in 1 rfl) d1) hz;obtain ⟨b',o',rfl,e⟩:=Sees.move (sm.up (s1.in 1 rfl) d1) hx;have y6:=e 6 (by decide);have y7:=e 7 (by decide);have y8:=e 8 (by decide);simp only [jg,ar_,as_]at y6 y7 y8;have hj:(j:Int)<(ms.length:Int):=by have:=(ad_.1 hx).1;omega
 unfold za;simp (disch:=decide) only [F3,p4,p16,p17,p19,Ib (ac_ i) hlt,Vn (ac_ j) hj,e1,e2,e3,y6,y7,y8];have next:∀(p':Rg) (a2 h2:Hp) (R2:Nat->Nat->Bool) (K0:Exit->Rg->Hp->Prop),(∀y,1<=y->y<=17->p' y=p y)->p' 19=p 19->BT a2 ob bs n ps.length R2->HL.Sep [a2,q] h2->Dis G h2->(∀y,y≠k->R2 y=R y)->(∀y,y<ps.length->R2 k y=(R k y||(decide (y<i+1)&&decide (ps[y]?=some x.t))))->qb G (di Y K0) p' h2:=by intro p' a2 h2 R2 K0 hp' h19 b2 s2 d2 r2 rk2;unfold qb;simp (disch:=first|decide|omega) only [F3,h19,p19];exact hY (ps.length-(i+1)) _ _ (by omega) ⟨i+1,a2,R2,rfl,by omega,fun j h1 h2=>by simp (disch:=omega) only [bo];exact (hp' j h1 h2).trans (hp j h1 h2),by simp only [F3]<;>rfl,b2,s2,d2,r2,rk2⟩
 have hsplit:∀y,y<ps.length->(decide (y<i+1)&&decide (ps[y]?=some x.t))=((decide (y<i)&&decide (ps[y]?=some x.t))||(decide (y=i)&&decide (z=x.t))):=fun y hy=>by
  by_cases h1:y<i
  . simp [h1,show y<i+1 by omega,show y≠i by omega]
  . by_cases h2:y=i
    . subst h2;simp [hz]
    . simp [h1,h2,show ¬y<i+1 by omega]
 have hzx:(z.x==x.t.x&&z.y==x.t.y&&z.d==x.t.d)=decide (z=x.t):=by obtain ⟨z1,z2,z3⟩:=z;generalize x.t=w;obtain ⟨w1,w2,w3⟩:=w;rw [a6_];simp [and_assoc]
 rw [hzx];have o2:=bt1.outer (G:=G) (s1.in 0 rfl) hk;refine nu (fun hf=>?_) (fun hf=>?_)
 . simp (disch:=first|decide|omega) only [F3,p3,p5,p6,p19,ix89 (show 0<=t-t0 by omega) (show t-t0<(n:Int)by omega),show (t-t0).toNat=k by omega,aW_,o2,ix90 (ac_ i) hlt];refine bt1.store s1 d1 hk hi' fun a3 h3 b3 s3 d3=>?_;refine next _ a3 h3 (setB R1 k i true) _ (fun j h1 h2=>by simp (disch:=omega) only [bo]) (by simp (disch:=decide) only [F3]) b3 s3 d3 (fun y hy=>by rw [zc hy];exact hR y hy) fun y hy=>?_
   rw [hsplit y hy,hf];unfold setB;by_cases hji:y=i
   . simp [hji]
   . rw [ah_ (fun e=>hji e.2),hRk y hy];simp [hji]
 . exact next _ a1 h1 R1 _ (fun j h1 h2=>by simp (disch:=omega) only [bo]) (by simp (disch:=decide) only [F3]) bt1 s1 d1 hR fun y hy=>by rw [hRk y hy,hsplit y hy,hf];simp
def qf:=jq bC (jq (jq (jq @ff (jq @cf40 @cf46)) (jq @cf47 (jq @cf48 @Jm))) (jq (jq @Ak (jq @rz @ld48p)) (jq @ld4p (jq @Z9 @ln40))))
def arrB (C:Conf) (T:Tb) (r:Int) (R:Nat->Nat->Bool) (t0 t:Int) (i:Nat) (x:Move):Bool:=
 decide (t0<=t-dr C x)&&(R (t-dr C x-t0).toNat i&&(lu C T r (gk C x) (t-dr C x) t&&lu C T r (dj x.t) t (t+1)))
theorem aN2 {G h a q:Hp} {pv mv:Value} {C:Conf} {tp bb ob n xc i:Nat} {bs:Nat->Nat} {T:Tb} {rb t0 t:Int} {k:Nat} {ps:List Pose} {ms:List Move} {R:Nat->Nat->Bool} {ab:Option Addr} {cb:Nat} {ap:Option Addr} {cp':Nat} {ar:Option Addr} {cr:Nat} {az:Option Addr} {cs:Nat}
 (ca:CA G q C ab cb ap cp' ar cr az cs) (bx:q xc=some (na C ab cb ap cp' ar cr az cs)) (mk:dx C) (hbl:C.bl.length<=100000000000000) (ts:Rv.TSee G q tp T) (fw:Few T bb) (hbb:bb<=50000) (sp:Sees lk G q pv ps) (sm:Sees jg G q mv ms) (hps:ps.length<=1000) (hms:ms.length<=1000) (hi:i<ps.length)
 (hd:∀x∈ms,1<=dr C x/\dr C x<=16000/\Bd x.n/\(gk C x).length<=300)
 (bt:BT a ob bs n ps.length R) (s:HL.Sep [a,q] h) (d:Dis G h) (hn:n<=1000) (ht0:0<=t0) (ht1:t0<=1000000) (ht:t=t0+k) (hk:k<n) {X:Exit->Rg->Hp->Prop} {r:Rg}
 (g1:r 1 = .pointer (some ⟨tp,0,none⟩)) (g2:r 2 = .int .i64 rb) (g3:r 3 = .slice (some ⟨ob,0,none⟩) n n) (g4:r 4=pv) (g5:r 5 = .int .i64 t) (g6:r 6 = .int .i64 t0) (g7:r 7 = .pointer (some ⟨xc,0,none⟩)) (g15:r 15 = .int .i64 i) (g16:r 16=mv)
 (H:∀(r':Rg) (a' h':Hp) (R':Nat->Nat->Bool),(∀y,1<=y->y<=16->r' y=r y)->BT a' ob bs n ps.length R'->HL.Sep [a',q] h'->Dis G h'->(∀y,y≠k->R' y=R y)->(∀y,y<ps.length->R' k y=(R k y||ms.any fun x=>arrB C T rb R t0 t i x&&decide (ps[y]?=some x.t)))->C0 G X r' h'):
 du (Hi G) (upd r 17 (.int .i64 0)) h (dc 4 (dc 3 (di (C0 G X) X))):=by
 obtain ⟨ew,ek,_,w16,_,k16⟩:=Jy mk;have kb:KB C.un C.ac C.sp:=kb_of mk;obtain ⟨ma,mc,rfl,_⟩:=id sm
 refine dt (fun m p h'=>∃(j:Nat) (a':Hp) (R':Nat->Nat->Bool),m=ms.length-j/\j<=ms.length/\(∀y,1<=y->y<=16->p y=r y)/\p 17 = .int .i64 j/\BT a' ob bs n ps.length R'/\HL.Sep [a',q] h'/\Dis G h'/\(∀y,y≠k->R' y=R y)/\(∀y,y<ps.length->R' k y=(R k y||(ms.take j).any fun x=>arrB C T rb R t0 t i x&&decide (ps[y]?=some x.t)))) ?_ (m:=ms.length)
  ⟨0,a,R,rfl,au_ _,fun j h1 h2=>by simp (disch:=omega) only [bo],by simp (disch:=first|decide|exact b8|exact bw|omega|rfl) only [qf]<;>rfl,bt,s,d,fun x _=>rfl,fun j _=>by simp⟩
 rintro m p h1 ⟨j,a1,R1,rfl,hj,hp,p17,bt1,s1,d1,hR,hRk⟩ Y hY;have p1:=(hp 1 (by decide) (by decide)).trans g1;have p2:=(hp 2 (by decide) (by decide)).trans g2;have p3:=(hp 3 (by decide) (by decide)).trans g3;have p4:=(hp 4 (by decide) (by decide)).trans g4;have p5:=(hp 5 (by decide) (by decide)).trans g5;have p6:=(hp 6 (by decide) (by decide)).trans g6;have p7:=(hp 7 (by decide) (by decide)).trans g7;have p15:=(hp 15 (by decide) (by decide)).trans g15;have p16:=(hp 16 (by decide) (by decide)).trans g16;unfold Hi;simp (disch:=first|decide|exact b8|exact bw|omega|rfl) only [qf,p16,p17];refine df (fun hlt=>?_) (fun hge=>?_);rotate_left
 . obtain rfl:j=ms.length:=by omega
   try simp -implicitDefEqProofs (maxSteps:=2000000) (disch:=first|decide|with_reducible exact aA_ rfl|exact b8|exact bw|omega|rfl|(simp;done)|fail) only [qf,Nat.reduceAdd,Nat.reduceMul]
   refine H _ a1 h1 R1 (fun j h1 h2=>by simp (disch:=omega) only [bo];exact hp j h1 h2) bt1 s1 d1 hR fun y hy=>?_;rw [hRk y hy,bt_]
 obtain ⟨x,hx⟩:∃x,ms[j]?=some x:=⟨_,aa_ (by omega)⟩;obtain ⟨d1',d2',d3',d4'⟩:=hd x (ab_ hx);obtain ⟨b',o',rfl,e⟩:=Sees.move (sm.up (s1.in 1 rfl) d1) hx;have y0:=e 0 (by decide);have y1:=e 1 (by decide);have y2:=e 2 (by decide);have y3:=e 3 (by decide);have y4:=e 4 (by decide);have y5:=e 5 (by decide);have y6:=e 6 (by decide);have y7:=e 7 (by decide);have y8:=e 8 (by decide);have y9:=e 9 (by decide);have y10:=e 10 (by decide);simp only [jg,bc_,ar_,as_]at y0 y1 y2 y3 y4 y5 y6 y7 y8 y9 y10;have l1:=s1.in 1 rfl;have cc:∀{h':Hp},q.le h'->∀j,bf G h' ⟨xc,j,none⟩=_:=fun l j=>bm (bj (l _ _ bx));unfold Gf;simp -implicitDefEqProofs (maxSteps:=2000000) (disch:=first|decide|with_reducible exact aA_ rfl|exact b8|exact bw|omega|rfl|(simp;done)|fail) only [qf,p7,p16,p17,cc l1,Vn (ac_ j) hlt,y0,y1,y2,y3,y4,y5,y6,y7,y8,y9,y10];refine (Uu (m:=x) (ca.up l1 d1).cv kb d3').mono ?_;rintro _ h1 ⟨rfl,rfl⟩;generalize hD:dr C x=D at*;have next:∀(p':Rg) (a2 h2:Hp) (R2:Nat->Nat->Bool) (K0:Exit->Rg->Hp->Prop),(∀y,1<=y->y<=17->p' y=p y)->BT a2 ob bs n ps.length R2->HL.Sep [a2,q] h2->Dis G h2->(∀y,y≠k->R2 y=R y)->(∀y,y<ps.length->R2 k y=(R k y||(ms.take (j+1)).any fun x=>arrB C T rb R t0 t i x&&decide (ps[y]?=some x.t)))->qc G (di Y K0) p' h2:=by intro p' a2 h2 R2 K0 hp' b2 s2 d2 r2 rk2;unfold qc;simp -implicitDefEqProofs (maxSteps:=2000000) (disch:=first|decide|with_reducible exact aA_ rfl|exact b8|exact bw|omega|rfl|(simp;done)|fail) only [qf,hp' 17 (by decide) (by decide),p17];exact hY (ms.length-(j+1)) _ _ (by omega) ⟨j+1,a2,R2,rfl,by omega,fun y h1 h2=>by simp (disch:=omega) only [bo];exact (hp' y h1 (by omega)).trans (hp y h1 h2),by simp (disch:=first|decide|omega) only [qf]<;>rfl,b2,s2,d2,r2,rk2⟩
 have htk:∀y:Nat,(ms.take (j+1)).any (fun x=>arrB C T rb R t0 t i x&&decide (ps[y]?=some x.t))=((ms.take j).any (fun x=>arrB C T rb R t0 t i x&&decide (ps[y]?=some x.t))||(arrB C T rb R t0 t i x&&decide (ps[y]?=some x.t))):=fun y=>by rw [aL_,hx,List.any_append];simp
 have no:arrB C T rb R t0 t i x=false->∀(p':Rg) (h2:Hp) (K0:Exit->Rg->Hp->Prop),(∀y,1<=y->y<=17->p' y=p y)->HL.Sep [a1,q] h2->Dis G h2->qc G (di Y K0) p' h2:=fun hno p' h2 K0 hp' s2 d2=>
  next p' a1 h2 R1 K0 hp' bt1 s2 d2 hR fun y hy=>by rw [htk y,hno,hRk y hy];simp
 have rng : -9223372036854775808<=t-D/\t-D<=9223372036854775807:=by omega
 simp -implicitDefEqProofs (maxSteps:=2000000) (disch:=first|decide|with_reducible exact aA_ rfl|exact b8|exact bw|omega|rfl|(simp;done)|fail) only [qf,p5,p6];by_cases hlow:t-D<t0
 . try simp (disch:=first|decide|omega) only [qf,af_ hlow,fq]
   exact no (by unfold arrB;rw [hD,ai_ (by omega)];rfl) _ h1 _ (fun y h1 h2=>by simp (disch:=omega) only [bo]) s1 d1
 have hwk:(t-D-t0).toNat≠k:=by omega
 have o1:=bt1.outer (G:=G) (s1.in 0 rfl) (i:=(t-D-t0).toNat) (by omega);have c1:=bt1.cell (G:=G) (s1.in 0 rfl) (i:=(t-D-t0).toNat) (j:=i) (by omega) hi;rw [hR _ hwk]at c1;have hab:arrB C T rb R t0 t i x=(R (t-D-t0).toNat i&&(lu C T rb (gk C x) (t-D) t&&lu C T rb (dj x.t) t (t+1))):=by unfold arrB;rw [hD,af_ (by omega),aH_]
 generalize hW:(t-D-t0).toNat=W at*;try simp -implicitDefEqProofs (maxSteps:=2000000) (disch:=first|decide|with_reducible exact aA_ rfl|exact b8|exact bw|omega|rfl|(simp;done)|fail) only [qf,ai_ hlow,p3,p15,aa4 (show 0<=t-D-t0 by omega) (show t-D-t0<(n:Int)by omega),hW,aW_,o1,aa3 (ac_ i) (show (i:Int)<(ps.length:Int)by omega),c1]
 cases hb:R W i with
 |false=>
  rw [hb,bZ_]at hab;try simp (disch:=first|decide|omega) only [qf,fq]
  exact no hab _ h1 _ (fun y h1 h2=>by simp (disch:=omega) only [bo]) s1 d1
 |true=>
 rw [hb,aH_]at hab;try simp -implicitDefEqProofs (maxSteps:=2000000) (disch:=first|decide|with_reducible exact aA_ rfl|exact b8|exact bw|omega|rfl|(simp;done)|fail) only [qf,p1,p2,p5,p7,p16,p17,cc l1,Vn (ac_ j) hlt,y0,y1,y2,y3,y4,y5,y6,y7,y8,y9,y10]
 refine (Um (m:=x) (ca.up l1 d1).cv hbl ew ek w16 k16).mono ?_;rintro u3 h3 ⟨ip3,sl3,s3',d3⟩;refine ⟨s3'.in 1 rfl,?_⟩;have s5:=((s3'.pick 1 rfl rfl).open s1).sel (L':=[a1,q]) [0,1] (by decide) rfl;have lq3:=s5.in 1 rfl;refine (zj (ca.up lq3 d3).cv (by omega) (by omega) (ts.up lq3 d3) fw hbb (sl3.see (by decide) (s3'.in 0 rfl)) d4').mono ?_;rintro _ h3 ⟨rfl,rfl⟩;refine ⟨s3'.in 1 rfl,?_⟩;cases hf1:lu C T rb (gk C x) (t-D) t with
 |false=>
  rw [hf1,bZ_]at hab;try simp only [qf,fq]
  exact no hab _ h3 _ (fun y h1 h2=>by simp (disch:=omega) only [bo]) s5 d3
 |true=>
 rw [hf1,aH_]at hab;try simp (disch:=first|decide|omega) only [qf,p1,p2,p5,p7,p16,p17,cc l1,Vn (ac_ j) hlt,y6,y7,y8]
 refine (ny (p:=x.t)).mono ?_;rintro _ _ ⟨q1,rfl,hq1,gq1,rfl⟩;have s6:=s5.past (o := .cells #[x.t.x,x.t.y,(east x.t).1,(east x.t).2] 28 (0,0)) hq1;generalize eq1:Hp.set h3 q1 _=h4 at s6;obtain ⟨l4,d4,bq⟩:=boxed eq1 hq1 d3 gq1;refine ⟨(s3'.in 1 rfl).trans l4,?_⟩;have lq4:=s6.in 1 rfl;try simp (disch:=first|decide|omega) only [qf,Nat.reduceAdd,Nat.reduceMul,p5]
 refine (zj (ca.up lq4 d4).cv (by omega) (by omega) (ts.up lq4 d4) fw hbb (Dq bq) (by simp [dj])).mono ?_;rintro _ h4 ⟨rfl,rfl⟩;cases hf2:lu C T rb (dj x.t) t (t+1)with
 |false=>
  rw [hf2]at hab;try simp only [qf,fq]
  exact no hab _ h4 _ (fun y h1 h2=>by simp (disch:=omega) only [bo]) s6 d4
 |true=>
 rw [hf2]at hab;try simp only [qf]
 refine ap6 sp sm hx hps bt1 s6 d4 hn ht0 ht1 ht hk (by simp (disch:=decide) only [qf,p3]) (by simp (disch:=decide) only [qf,p4]) (by simp (disch:=decide) only [qf,p5]) (by simp (disch:=decide) only [qf,p6]) (by simp (disch:=decide) only [qf,p16]) (by simp (disch:=decide) only [qf,p17]) fun r' a' h' R' hr' b' s' d' hR' hRk'=>?_;exact next _ a' h' R' _ (fun y h1 h2=>by rw [hr' y h1 h2];simp (disch:=omega) only [bo]) b' s' d' (fun y hy=>(hR' y hy).trans (hR y hy)) fun y hy=>by rw [hRk' y hy,htk y,hab,hRk y hy,aH_,Bool.or_assoc]
def ub:=jq bC (jq (jq @cf102 @Ak) (jq @rz @ln23))
def vn (C:Conf) (T:Tb) (r:Int) (R:Nat->Nat->Bool) (ps:List Pose) (t0 t:Int) (y i:Nat):Bool:=
 match ps[i]? with
 |some p=>(jn C p).any fun x=>arrB C T r R t0 t i x&&decide (ps[y]?=some x.t)
 |none=>false
theorem Xr {G h a q:Hp} {pv:Value} {C:Conf} {tp bb ob n xc:Nat} {bs:Nat->Nat} {T:Tb} {rb t0 t:Int} {k:Nat} {ps:List Pose} {R:Nat->Nat->Bool} {ab:Option Addr} {cb:Nat} {ap:Option Addr} {cp':Nat} {ar:Option Addr} {cr:Nat} {az:Option Addr} {cs:Nat}
 (ca:CA G q C ab cb ap cp' ar cr az cs) (bx:q xc=some (na C ab cb ap cp' ar cr az cs)) (mk:dx C) (hbl:C.bl.length<=100000000000000) (ts:Rv.TSee G q tp T) (fw:Few T bb) (hbb:bb<=50000) (sp:Sees lk G q pv ps) (hps:ps.length<=1000)
 (hd:∀p∈ps,(jn C p).length<=1000/\∀x∈jn C p,1<=dr C x/\dr C x<=16000/\Bd x.n/\(gk C x).length<=300)
 (bt:BT a ob bs n ps.length R) (s:HL.Sep [a,q] h) (d:Dis G h) (hn:n<=1000) (ht0:0<=t0) (ht1:t0<=1000000) (ht:t=t0+k) (hk:k<n) {X:Exit->Rg->Hp->Prop} {r:Rg}
 (g1:r 1 = .pointer (some ⟨tp,0,none⟩)) (g2:r 2 = .int .i64 rb) (g3:r 3 = .slice (some ⟨ob,0,none⟩) n n) (g4:r 4=pv) (g5:r 5 = .int .i64 t) (g6:r 6 = .int .i64 t0) (g7:r 7 = .pointer (some ⟨xc,0,none⟩))
 (H:∀(r':Rg) (a' h':Hp) (R':Nat->Nat->Bool),BT a' ob bs n ps.length R'->HL.Sep [a',q] h'->Dis G h'->(∀y,y≠k->R' y=R y)->(∀y,y<ps.length->R' k y=(R k y||(List.range ps.length).any (vn C T rb R ps t0 t y)))->X .normal r' h'):
 L0 G X r h:=by
 obtain ⟨pa,pc,rfl,_⟩:=id sp;unfold L0
 refine dt (fun m p h'=>∃(i:Nat) (a':Hp) (R':Nat->Nat->Bool),m=ps.length-i/\i<=ps.length/\(∀y,1<=y->y<=7->p y=r y)/\p 15 = .int .i64 i/\BT a' ob bs n ps.length R'/\HL.Sep [a',q] h'/\Dis G h'/\(∀y,y≠k->R' y=R y)/\(∀y,y<ps.length->R' k y=(R k y||(List.range i).any (vn C T rb R ps t0 t y)))) ?_ (m:=ps.length)
  ⟨0,a,R,rfl,au_ _,fun j h1 h2=>by simp (disch:=omega) only [bo],by simp only [ub]<;>rfl,bt,s,d,fun x _=>rfl,fun j _=>by simp⟩
 rintro m p h1 ⟨i,a1,R1,rfl,hi,hp,p15,bt1,s1,d1,hR,hRk⟩ Y hY;have p4:=(hp 4 (by decide) (by decide)).trans g4;have p7:=(hp 7 (by decide) (by decide)).trans g7;unfold aQ8;simp only [ub,p4,p15];refine df (fun hlt=>?_) (fun hge=>?_);rotate_left
 . obtain rfl:i=ps.length:=by omega
   try simp (disch:=first|decide|omega) only [ub,Nat.reduceAdd,Nat.reduceMul]
   exact H _ a1 h1 R1 bt1 s1 d1 hR hRk
 obtain ⟨z,hz⟩:∃z,ps[i]?=some z:=⟨_,aa_ (by omega)⟩;obtain ⟨m1,m2⟩:=hd z (ab_ hz);obtain ⟨b,o,rfl,e1,e2,e3⟩:=Sees.pose (sp.up (s1.in 1 rfl) d1) hz;have l1:=s1.in 1 rfl;have cc:∀{h':Hp},q.le h'->∀j,bf G h' ⟨xc,j,none⟩=_:=fun l j=>bm (bj (l _ _ bx));unfold Qg;simp (disch:=decide) only [ub,p4,p7,p15,cc l1,Ib (ac_ i) hlt,e1,e2,e3];refine (Ut (p:=z) (ca.up l1 d1).cv hbl).mono ?_;rintro mv h2 ⟨ip,sl,s2',d2⟩;obtain ⟨B,sB,tB⟩:=HL.Sep.pack [q,ip] (R:=[a1]) (((s2'.pick 1 rfl rfl).open s1).sel (L':=[q,ip,a1]) [1,2,0] (by decide) rfl);have dB:Dis G B:=fun x o hx=>d2 x o (sB.in 0 rfl x o hx);try simp (disch:=first|decide|omega) only [ub,Nat.reduceAdd,Nat.reduceMul]
 refine aN2 (ca.up (tB.in 0 rfl) dB) (tB.in 0 rfl _ _ bx) mk hbl (ts.up (tB.in 0 rfl) dB) fw hbb (sp.up (tB.in 0 rfl) dB) (sl.see (by decide) (tB.in 1 rfl)) hps m1 (i:=i) (rb:=rb) (t:=t) (t0:=t0) (by omega) m2 bt1 sB.swap d2 hn ht0 ht1 ht hk
  (by simp (disch:=decide) only [ub,(hp 1 (by decide) (by decide)).trans g1]) (by simp (disch:=decide) only [ub,(hp 2 (by decide) (by decide)).trans g2]) (by simp (disch:=decide) only [ub,(hp 3 (by decide) (by decide)).trans g3]) (by simp (disch:=decide) only [ub,p4]) (by simp (disch:=decide) only [ub,(hp 5 (by decide) (by decide)).trans g5]) (by simp (disch:=decide) only [ub,(hp 6 (by decide) (by decide)).trans g6]) (by simp (disch:=decide) only [ub,p7]) (by simp (disch:=decide) only [ub,p15]) (by simp only [ub]) fun r' a' h' R' hr' b' s' d' hR' hRk'=>?_
 unfold C0;have r15:r' 15 = .int .i64 i:=(hr' 15 (by decide) (by decide)).trans (by simp (disch:=decide) only [ub,p15]);simp (disch:=first|decide|omega) only [ub,r15];refine hY (ps.length-(i+1)) _ _ (by omega) ⟨i+1,a',R',rfl,by omega,fun y h1 h2=>by simp (disch:=omega) only [bo];rw [hr' y h1 (by omega)];simp (disch:=omega) only [bo];exact hp y h1 h2,by simp only [ub]<;>rfl,b',((s'.pick 1 rfl rfl).open tB).sel (L':=[a',q]) [2,0] (by decide) rfl,d',fun y hy=>(hR' y hy).trans (hR y hy),fun y hy=>?_⟩
 have harr:∀x∈jn C z,arrB C T rb R1 t0 t i x=arrB C T rb R t0 t i x:=fun x hx=>by
  unfold arrB;by_cases hl:t0<=t-dr C x
  . rw [hR _ (by have:=(m2 x hx).1;omega)]
  . rw [ai_ hl];rfl
 rw [hRk' y hy,hRk y hy,bO_,List.any_append,List.any_cons,List.any_nil,Bool.or_false,<- Bool.or_assoc];congr 1;unfold vn;rw [hz];show List.any _ _=List.any _ _;rw [a6_,bf_,bf_];constructor
 . rintro ⟨x,hx,e⟩;exact ⟨x,hx,by rw [<- harr x hx];exact e⟩
 . rintro ⟨x,hx,e⟩;exact ⟨x,hx,by rw [harr x hx];exact e⟩
def Pq:=jq bC (jq (jq @bz_ @eq30p) (jq @rz (jq @Z9 @ln23)))
theorem ax5 {z w:Pose}:(z.x==w.x&&z.y==w.y&&z.d==w.d)=decide (z=w):=by obtain ⟨z1,z2,z3⟩:=z;obtain ⟨w1,w2,w3⟩:=w;rw [a6_];simp [and_assoc]
theorem Yc {G h a q:Hp} {n ob x1:Nat} {bs:Nat->Nat} {pv:Value} {ps:List Pose} {p:Pose} (sp:Sees lk G q pv ps) (bx:q x1=some (pq p))
 (bt:BT a ob bs (n+1) ps.length fun _ _=>false) (s:HL.Sep [a,q] h) (d:Dis G h) (hps:ps.length<=1000) {KK:EK} {r:Rg} (g9:r 9 = .pointer (some ⟨x1,0,none⟩)) (g18:r 18=pv) (g25:r 25 = .slice (some ⟨ob,0,none⟩) (n+1) (n+1))
 (H:∀(r':Rg) (a' h':Hp) (R':Nat->Nat->Bool),(∀j,1<=j->j<=25->r' j=r j)->BT a' ob bs (n+1) ps.length R'->HL.Sep [a',q] h'->Dis G h'->(∀x,x≠0->R' x=fun _=>false)->(∀j,j<ps.length->R' 0 j=decide (ps[j]?=some p))->Tl G KK r' h'):Tm G KK r h:=by
 obtain ⟨pa,pc,rfl,_⟩:=id sp;unfold Tm
 refine dt (fun k w h'=>∃(i:Nat) (a':Hp) (R':Nat->Nat->Bool),k=ps.length-i/\i<=ps.length/\(∀j,1<=j->j<=25->w j=r j)/\w 27 = .int .i64 i/\BT a' ob bs (n+1) ps.length R'/\HL.Sep [a',q] h'/\Dis G h'/\(∀x,x≠0->R' x=fun _=>false)/\(∀j,j<ps.length->R' 0 j=(decide (j<i)&&decide (ps[j]?=some p)))) ?_ (m:=ps.length)
  ⟨0,a,fun _ _=>false,rfl,au_ _,fun j h1 h2=>by simp (disch:=omega) only [bo],by simp only [Pq]<;>rfl,bt,s,d,fun x _=>rfl,fun j _=>by simp⟩
 rintro k w h1 ⟨i,a1,R1,rfl,hi,hw,w27,bt1,s1,d1,hR,hRk⟩ Y hY;have w9:=(hw 9 (by decide) (by decide)).trans g9;have w18:=(hw 18 (by decide) (by decide)).trans g18;have w25:=(hw 25 (by decide) (by decide)).trans g25;unfold ah5;simp only [Pq,w18,w27];refine df (fun hlt=>?_) (fun hge=>?_);rotate_left
 . obtain rfl:i=ps.length:=by omega
   try simp (disch:=first|decide|omega) only [Pq,Nat.reduceAdd,Nat.reduceMul]
   refine H _ a1 h1 R1 (fun j h1 h2=>by simp (disch:=omega) only [bo];exact hw j h1 h2) bt1 s1 d1 hR fun j hj=>?_;rw [hRk j hj,af_ hj,aH_]
 have hi':i<ps.length:=by omega
 obtain ⟨z,hz⟩:∃z,ps[i]?=some z:=⟨_,aa_ hi'⟩;obtain ⟨b,o,rfl,e1,e2,e3⟩:=Sees.pose (sp.up (s1.in 1 rfl) d1) hz;have c1:∀j,bf G h1 ⟨x1,j,none⟩=_:=fun j=>bm (bj (s1.in 1 rfl _ _ bx));have o2:=bt1.outer (G:=G) (i:=0) (s1.in 0 rfl) (by omega);unfold I9;simp (disch:=decide) only [Pq,w9,w18,w25,w27,aa4 (show (0:Int)<=0 by omega) (show (0:Int)<((n+1:Nat):Int)by omega),ca_,bH_,o2,Ib (ac_ i) hlt,aW_,e1,e2,e3,c1,aa3 (ac_ i) hlt];rw [ax5];refine bt1.store s1 d1 (by omega) hi' fun a3 h3 b3 s3 d3=>?_;unfold I8;simp (disch:=first|decide|omega) only [Pq,w27];refine hY (ps.length-(i+1)) _ _ (by omega) ⟨i+1,a3,_,rfl,by omega,fun j h1 h2=>by simp (disch:=omega) only [bo];exact hw j h1 h2,by simp only [Pq]<;>rfl,b3,s3,d3,fun x hx=>by rw [zc hx];exact hR x hx,fun j hj=>?_⟩;unfold setB;by_cases hji:j=i
 . subst hji;simp [hz]
 . rw [ah_ (fun e=>hji e.2),hRk j hj];by_cases h1:j<i
   . simp [h1,show j<i+1 by omega]
   . simp [h1,show ¬j<i+1 by omega]
def ul:=jq bC (jq @ne_eq.{1} (jq @mx @jw))
theorem X9 {C:Conf} {T:Tb} {r:Int} {R R1:Nat->Nat->Bool} {ps:List Pose} {t0 t:Int} {k y i:Nat} (ht:t=t0+k) (hd:∀p∈ps,∀x∈jn C p,1<=dr C x) (h:∀z,z≠k->R1 z=R z):vn C T r R1 ps t0 t y i=vn C T r R ps t0 t y i:=by
 unfold vn;cases hz:ps[i]? with
 |none=>rfl
 |some p=>
  have harr:∀x∈jn C p,arrB C T r R1 t0 t i x=arrB C T r R t0 t i x:=fun x hx=>by
   unfold arrB;by_cases hl:t0<=t-dr C x
   . rw [h _ (by have:=hd p (ab_ hz) x hx;omega)]
   . rw [ai_ hl];rfl
  show List.any _ _=List.any _ _;rw [a6_,bf_,bf_];constructor
  . rintro ⟨x,hx,e⟩;exact ⟨x,hx,by rw [<- harr x hx];exact e⟩
  . rintro ⟨x,hx,e⟩;exact ⟨x,hx,by rw [harr x hx];exact e⟩
theorem am5 {G h a q:Hp} {v pv:Value} {C:Conf} {tp bb ob n:Nat} {bs:Nat->Nat} {T:Tb} {rb t0 t:Int} {k:Nat} {ps:List Pose} {R:Nat->Nat->Bool}
 (hv:CV G q v C) (mk:dx C) (hbl:C.bl.length<=100000000000000) (ts:Rv.TSee G q tp T) (fw:Few T bb) (hbb:bb<=50000) (sp:Sees lk G q pv ps) (hps:ps.length<=1000)
 (hd:∀p∈ps,(jn C p).length<=1000/\∀x∈jn C p,1<=dr C x/\dr C x<=16000/\Bd x.n/\(gk C x).length<=300)
 (bt:BT a ob bs n ps.length R) (s:HL.Sep [a,q] h) (hn:n<=1000) (ht0:0<=t0) (ht1:t0<=1000000) (ht:t=t0+k) (hk1:1<=k) (hk:k<n):
 bn P_ G 49 #[v,.pointer (some ⟨tp,0,none⟩),rb,.slice (some ⟨ob,0,none⟩) n n,pv,t,t0] h (fun _ h'=>∃a' R',BT a' ob bs n ps.length R'/\HL.Sep [a',q] h'/\Dis G h'/\(∀y,y≠k->R' y=R y)/\∀y,y<ps.length->R' k y=(R k y||Af C T rb R ps t k y||(List.range ps.length).any (vn C T rb R ps t0 t y))):=by
 obtain ⟨ab,cb,ap,cp',ar,cr,az,cs,rfl,ca⟩:=hv;obtain ⟨ew,ek,_,w16,_,k16⟩:=Jy mk;refine bn.assume fun d=>enter49 (by simp) ?_;unfold S49;simp only [ul];intro xc hxc gxc;have s1:=s.new (o:=na C ab cb ap cp' ar cr az cs) hxc;have d1:=d.set (o:=na C ab cb ap cp' ar cr az cs) gxc;generalize Hp.set h xc _=h1 at s1 d1 ⊢;obtain ⟨B,sB,tB⟩:=HL.Sep.pack [q,noHp.set xc (na C ab cb ap cp' ar cr az cs)] (R:=[a]) (s1.sel (L':=[q,noHp.set xc (na C ab cb ap cp' ar cr az cs),a]) [2,0,1] (by decide) rfl);have dB:Dis G B:=fun x o hx=>d1 x o (sB.in 0 rfl x o hx);have lB:=tB.in 0 rfl;have bx:=tB.at 1 rfl bh;refine am6 (v:=pv) (rb:=rb) (t:=t) (t0:=t0) (ca.up lB dB) bx (by omega) (by omega) (ts.up lB dB) fw hbb (sp.up lB dB) hps bt sB.swap d1 hn ht0 ht1 ht hk1 hk (by simp (disch:=decide) only [ul]) (by simp (disch:=decide) only [ul]) (by simp (disch:=decide) only [ul]) (by simp (disch:=decide) only [ul]) (by simp (disch:=decide) only [ul]) (by simp (disch:=decide) only [ul]) (by simp only [ul]) fun r1 a1 h2 R1 hr1 b1 s2 d2 hR1 hRk1=>?_;have gr:∀j,1<=j->j<=7->r1 j=_:=hr1
 refine Xr (rb:=rb) (t:=t) (t0:=t0) (ca.up lB dB) bx mk hbl (ts.up lB dB) fw hbb (sp.up lB dB) hps hd b1 s2 d2 hn ht0 ht1 ht hk
  ((hr1 1 (by decide) (by decide)).trans (by simp (disch:=decide) only [ul])) ((hr1 2 (by decide) (by decide)).trans (by simp (disch:=decide) only [ul])) ((hr1 3 (by decide) (by decide)).trans (by simp (disch:=decide) only [ul])) ((hr1 4 (by decide) (by decide)).trans (by simp (disch:=decide) only [ul])) ((hr1 5 (by decide) (by decide)).trans (by simp (disch:=decide) only [ul])) ((hr1 6 (by decide) (by decide)).trans (by simp (disch:=decide) only [ul])) ((hr1 7 (by decide) (by decide)).trans (by simp only [ul])) fun r2 a2 h3 R2 b2 s3 d3 hR2 hRk2=>?_
 try simp only [ul]
 refine ⟨a2,R2,b2,((s3.pick 1 rfl rfl).open tB).sel (L':=[a2,q]) [2,0] (by decide) rfl,d3,fun y hy=>(hR2 y hy).trans (hR1 y hy),fun y hy=>?_⟩;rw [hRk2 y hy,hRk1 y hy];congr 1;have e:∀i,vn C T rb R1 ps t0 t y i=vn C T rb R ps t0 t y i:=fun i=>X9 ht (fun p hp x hx=>((hd p hp).2 x hx).1) hR1;rw [show vn C T rb R1 ps t0 t y=vn C T rb R ps t0 t y from funext e]
def lr:=jq bC (jq (jq (jq (jq @bz_ @kv) (jq @pd @ff)) (jq (jq @cf23 @cf40) (jq @cf47 @cf49))) (jq (jq (jq @Wg @Jn) (jq @ld26 @Ak)) (jq (jq @yp @rz) (jq @ld4p (jq @Z9 @ln23)))))
def pt (C:Conf) (T:Tb) (r:Int) (R:Nat->Nat->Bool) (ps:List Pose) (g:Pose) (t0:Int) (k i:Nat):Bool:=
 R k i&&(match ps[i]? with|some z=>(z.x==g.x&&z.y==g.y)&&lu C T r (dj z) (t0+k) 4611686018427387904|none=>false)
theorem aq9 {G h a q:Hp} {pv:Value} {C:Conf} {tp bb ob n xc x2:Nat} {bs:Nat->Nat} {T:Tb} {rb t0 e:Int} {k:Nat} {ps:List Pose} {g:Pose} {R:Nat->Nat->Bool} {ab:Option Addr} {cb:Nat} {ap:Option Addr} {cp':Nat} {ar:Option Addr} {cr:Nat} {az:Option Addr} {cs:Nat}
 (ca:CA G q C ab cb ap cp' ar cr az cs) (bx:q xc=some (na C ab cb ap cp' ar cr az cs)) (b2:q x2=some (pq g)) (st:lg G) (hw:C.w<=16) (hh:C.h<=16) (ts:Rv.TSee G q tp T) (fw:Few T bb) (hbb:bb<=50000) (sp:Sees lk G q pv ps) (hps:ps.length<=1000)
 (bt:BT a ob bs (n+1) ps.length R) (s:HL.Sep [a,q] h) (d:Dis G h) (hn:n<=900) (ht0:0<=t0) (ht1:t0<=1000000) (hk:k<=n) (hgo:∀i,i<ps.length->pt C T rb R ps g t0 k i=true->e=0/\k=n) {KK:EK} {r:Rg}
 (g2:r 2 = .int .i64 rb) (g4:r 4 = .int .i64 t0) (g6:r 6 = .pointer (some ⟨xc,0,none⟩)) (g11:r 11 = .pointer (some ⟨x2,0,none⟩)) (g14:r 14 = .pointer (some ⟨tp,0,none⟩)) (g17:r 17 = .int .i64 e) (g18:r 18=pv) (g24:r 24 = .int .i64 n) (g25:r 25 = .slice (some ⟨ob,0,none⟩) (n+1) (n+1)) (g28:r 28 = .int .i64 k)
 (hret:∀(r':Rg) (h':Hp),r' 12 = .bool true->KK .ret r' h')
 (H:∀(r':Rg) (h':Hp),(∀j,1<=j->j<=28->r' j=r j)->HL.Sep [a,q] h'->Dis G h'->(∀i,i<ps.length->pt C T rb R ps g t0 k i=false)->B9 G KK r' h'):ud G KK r h:=by
 have aw:∀{h:Hp} {K:VK},(∀h',K (.bool true) h')->bn P_ G 23 #[] h K:=fun hK=>(Jq st).mono fun u h' e=>by rw [e.1];exact hK h'
 obtain ⟨pa,pc,rfl,_⟩:=id sp;unfold ud
 refine dt (fun m p h'=>∃(i:Nat),m=ps.length-i/\i<=ps.length/\(∀j,1<=j->j<=28->p j=r j)/\p 29 = .int .i64 i/\HL.Sep [a,q] h'/\Dis G h'/\(∀j,j<i->pt C T rb R ps g t0 k j=false)) ?_ (m:=ps.length)
  ⟨0,rfl,au_ _,fun j h1 h2=>by simp (disch:=omega) only [bo],by simp only [lr]<;>rfl,s,d,fun j hj=>absurd hj (by omega)⟩
 rintro m p h1 ⟨i,rfl,hi,hp,p29,s1,d1,hno⟩ Y hY;have p2:=(hp 2 (by decide) (by decide)).trans g2;have p4:=(hp 4 (by decide) (by decide)).trans g4;have p6:=(hp 6 (by decide) (by decide)).trans g6;have p11:=(hp 11 (by decide) (by decide)).trans g11;have p14:=(hp 14 (by decide) (by decide)).trans g14;have p17:=(hp 17 (by decide) (by decide)).trans g17;have p18:=(hp 18 (by decide) (by decide)).trans g18;have p24:=(hp 24 (by decide) (by decide)).trans g24;have p25:=(hp 25 (by decide) (by decide)).trans g25;have p28:=(hp 28 (by decide) (by decide)).trans g28;unfold Ja;simp only [lr,p18,p29];refine df (fun hlt=>?_) (fun hge=>?_);rotate_left
 . obtain rfl:i=ps.length:=by omega
   try simp (disch:=first|decide|omega) only [lr,Nat.reduceAdd,Nat.reduceMul]
   exact H _ h1 (fun j h1 h2=>by simp (disch:=omega) only [bo];exact hp j h1 h2) s1 d1 hno
 have hi':i<ps.length:=by omega
 obtain ⟨z,hz_⟩:∃z,ps[i]?=some z:=⟨_,aa_ hi'⟩;obtain ⟨b,o,rfl,e1,e2,e3⟩:=Sees.pose (sp.up (s1.in 1 rfl) d1) hz_;have l1:=s1.in 1 rfl;have cc:∀{h':Hp},q.le h'->∀j,bf G h' ⟨xc,j,none⟩=_:=fun l j=>bm (bj (l _ _ bx));have c2:∀{h':Hp},q.le h'->∀j,bf G h' ⟨x2,j,none⟩=_:=fun l j=>bm (bj (l _ _ b2));have o1:=bt.outer (G:=G) (i:=k) (s1.in 0 rfl) (by omega);have v1:=bt.cell (G:=G) (i:=k) (j:=i) (s1.in 0 rfl) (by omega) hi';have next:∀(p':Rg) (h2:Hp) (K0:Exit->Rg->Hp->Prop),(∀j,1<=j->j<=28->p' j=p j)->p' 29=p 29->HL.Sep [a,q] h2->Dis G h2->pt C T rb R ps g t0 k i=false->uh G (di Y K0) p' h2:=by intro p' h2 K0 hp' h29 s2 d2 hg;unfold uh;simp (disch:=first|decide|omega) only [lr,h29,p29];exact hY (ps.length-(i+1)) _ _ (by omega) ⟨i+1,rfl,by omega,fun j h1 h2=>by simp (disch:=omega) only [bo];exact (hp' j h1 h2).trans (hp j h1 h2),by simp only [lr]<;>rfl,s2,d2,fun j hj=>(cg_.1 hj).elim (fun x=>hno j x) fun e=>by rw [e];exact hg⟩
 have hgi:pt C T rb R ps g t0 k i=(R k i&&((z.x==g.x&&z.y==g.y)&&lu C T rb (dj z) (t0+k) 4611686018427387904)):=by unfold pt;rw [hz_]
 unfold Au;simp (disch:=decide) only [lr,p25,p28,p29,aa4 (ac_ k) (show (k:Int)<((n+1:Nat):Int)by omega),aP_,aW_,o1,aa3 (ac_ i) hlt,v1];cases hb:R k i with
 |false=>
  rw [hb,bZ_]at hgi;try simp only [lr,fq]
  exact next _ h1 _ (fun j h1 h2=>by simp (disch:=omega) only [bo]) (by simp (disch:=decide) only [lr]) s1 d1 hgi
 |true=>
 rw [hb,aH_]at hgi;try simp only [lr,p11,p18,p29,Ib (ac_ i) hlt,e1,e2,e3,c2 l1]
 cases hxy:(z.x==g.x&&z.y==g.y)with
 |false=>
  rw [hxy,bZ_]at hgi;try simp only [lr,fq]
  exact next _ h1 _ (fun j h1 h2=>by simp (disch:=omega) only [bo]) (by simp (disch:=decide) only [lr]) s1 d1 hgi
 |true=>
 rw [hxy,aH_]at hgi;try simp (disch:=first|decide|omega) only [lr,p2,p4,p6,p14,p18,p28,p29,cc l1,Ib (ac_ i) hlt,e1,e2,e3]
 refine (ny (p:=z)).mono ?_;rintro _ _ ⟨q1,rfl,hq1,gq1,rfl⟩;have s2:=s1.past (o := .cells #[z.x,z.y,(east z).1,(east z).2] 28 (0,0)) hq1;generalize eq1:Hp.set h1 q1 _=h2 at s2;obtain ⟨l2,d2,bq⟩:=boxed eq1 hq1 d1 gq1;refine ⟨l2,?_⟩;have lq2:=s2.in 1 rfl;try simp (disch:=first|decide|omega) only [lr,Nat.reduceAdd,Nat.reduceMul,p4,p28]
 refine (zj (ca.up lq2 d2).cv hw hh (ts.up lq2 d2) fw hbb (Dq bq) (by simp [dj])).mono ?_;rintro _ h2 ⟨rfl,rfl⟩;try simp (disch:=first|decide|omega) only [lr,Nat.reduceAdd,Nat.reduceMul]
 refine nu (fun hf=>?_) (fun hf=>?_);rotate_left
 . exact next _ h2 _ (fun j h1 h2=>by simp (disch:=omega) only [bo]) (by simp (disch:=decide) only [lr]) s2 d2 (by rw [hgi,hf])
 . obtain ⟨he0,hkn⟩:=hgo i hi' (by rw [hgi,hf]);subst he0;subst hkn;try simp only [lr,p17,p24,p28,show ((0:Int)==0)=true from rfl,show ((k:Int)==(k:Int))=true from beq_self_eq_true _]
   refine aw fun h'=>?_;try simp (disch:=first|decide|omega) only [lr,Nat.reduceAdd,Nat.reduceMul]
   exact hret _ _ (by simp only [lr])
theorem Ih {C:Conf} {T:Tb} {r:Int} {R R':Nat->Nat->Bool} {ps:List Pose} {g:Pose} {t0:Int} {k i:Nat} (h:R k i=R' k i):pt C T r R ps g t0 k i=pt C T r R' ps g t0 k i:=by unfold pt;rw [h]
theorem W8 {G h a q:Hp} {pv:Value} {C:Conf} {tp bb ob n xc x2:Nat} {bs:Nat->Nat} {T:Tb} {rb t0 e:Int} {ps:List Pose} {g:Pose} {R W:Nat->Nat->Bool} {ab:Option Addr} {cb:Nat} {ap:Option Addr} {cp':Nat} {ar:Option Addr} {cr:Nat} {az:Option Addr} {cs:Nat}
 (ca:CA G q C ab cb ap cp' ar cr az cs) (bx:q xc=some (na C ab cb ap cp' ar cr az cs)) (b2:q x2=some (pq g)) (st:lg G) (mk:dx C) (hbl:C.bl.length<=100000000000000) (hw:C.w<=16) (hh:C.h<=16) (ts:Rv.TSee G q tp T) (fw:Few T bb) (hbb:bb<=50000) (sp:Sees lk G q pv ps) (hps:ps.length<=1000)
 (hd:∀p∈ps,(jn C p).length<=1000/\∀x∈jn C p,1<=dr C x/\dr C x<=16000/\Bd x.n/\(gk C x).length<=300)
 (bt:BT a ob bs (n+1) ps.length R) (s:HL.Sep [a,q] h) (d:Dis G h) (hn:n<=900) (ht0:0<=t0) (ht1:t0<=1000000)
 (h0:∀i,i<ps.length->R 0 i=W 0 i) (hz:∀x,x≠0->R x=fun _=>false)
 (hstep:∀k R,1<=k->k<=n->(∀x,x<k->∀y,y<ps.length->R x y=W x y)->∀y,y<ps.length->(Af C T rb R ps (t0+k) k y||(List.range ps.length).any (vn C T rb R ps t0 (t0+k) y))=W k y)
 (hgo:∀k,k<=n->∀i,i<ps.length->pt C T rb W ps g t0 k i=true->e=0/\k=n)
 (hend:(∀k,k<=n->∀i,i<ps.length->pt C T rb W ps g t0 k i=false)->e=6) {KK:EK} {r:Rg}
 (g2:r 2 = .int .i64 rb) (g4:r 4 = .int .i64 t0) (g6:r 6 = .pointer (some ⟨xc,0,none⟩)) (g11:r 11 = .pointer (some ⟨x2,0,none⟩)) (g14:r 14 = .pointer (some ⟨tp,0,none⟩)) (g17:r 17 = .int .i64 e) (g18:r 18=pv) (g24:r 24 = .int .i64 n) (g25:r 25 = .slice (some ⟨ob,0,none⟩) (n+1) (n+1))
 (hret:∀(r':Rg) (h':Hp),r' 12 = .bool true->KK .ret r' h'):Tl G KK r h:=by
 have aw:∀{h:Hp} {K:VK},(∀h',K (.bool true) h')->bn P_ G 23 #[] h K:=fun hK=>(Jq st).mono fun u h' e=>by rw [e.1];exact hK h'
 unfold Tl
 refine dt (fun m p h'=>∃(k:Nat) (a':Hp) (R':Nat->Nat->Bool),m=n+1-k/\k<=n+1/\(∀j,1<=j->j<=25->p j=r j)/\p 28 = .int .i64 k/\BT a' ob bs (n+1) ps.length R'/\HL.Sep [a',q] h'/\Dis G h'/\(∀x,x<max k 1->∀y,y<ps.length->R' x y=W x y)/\(∀x,max k 1<=x->R' x=fun _=>false)/\(∀x,x<k->∀i,i<ps.length->pt C T rb W ps g t0 x i=false)) ?_ (m:=n+1)
  ⟨0,a,R,rfl,au_ _,fun j h1 h2=>by simp (disch:=omega) only [bo],by simp only [lr]<;>rfl,bt,s,d,fun x hx y hy=>(show x=0 by omega)▸h0 y hy,fun x hx=>hz x (by omega),fun x hx=>absurd hx (by omega)⟩
 rintro m p h1 ⟨k,a1,R1,rfl,hk,hp,p28,bt1,s1,d1,hW,hF,hno⟩ Y hY;have p2:=(hp 2 (by decide) (by decide)).trans g2;have p4:=(hp 4 (by decide) (by decide)).trans g4;have p6:=(hp 6 (by decide) (by decide)).trans g6;have p11:=(hp 11 (by decide) (by decide)).trans g11;have p14:=(hp 14 (by decide) (by decide)).trans g14;have p17:=(hp 17 (by decide) (by decide)).trans g17;have p18:=(hp 18 (by decide) (by decide)).trans g18;have p24:=(hp 24 (by decide) (by decide)).trans g24;have p25:=(hp 25 (by decide) (by decide)).trans g25;unfold ah6;simp only [lr,p24,p28];refine df (fun hle=>?_) (fun hgt=>?_);rotate_left
 . obtain rfl:k=n+1:=by omega
   have he6:=hend fun k hk i hi=>hno k (by omega) i hi;subst he6;try simp (disch:=first|decide|omega) only [lr,Nat.reduceAdd,Nat.reduceMul]
   unfold Tp;simp (disch:=decide) only [lr,p17,show ((6:Int)==6)=true from rfl];refine aw fun h'=>?_;try simp (disch:=first|decide|omega) only [lr,Nat.reduceAdd,Nat.reduceMul]
   exact hret _ _ (by simp only [lr])
 have hk':k<=n:=by omega
 have l1:=s1.in 1 rfl;have cc:∀{h':Hp},q.le h'->∀j,bf G h' ⟨xc,j,none⟩=_:=fun l j=>bm (bj (l _ _ bx))
 have fin:∀(p':Rg) (a2 h2:Hp) (R2:Nat->Nat->Bool) (K0:Exit->Rg->Hp->Prop),K0=dc 10 (di (Tp G KK) KK)->(∀j,1<=j->j<=25->p' j=r j)->p' 28 = .int .i64 k->BT a2 ob bs (n+1) ps.length R2->HL.Sep [a2,q] h2->Dis G h2->(∀x,x<k+1->∀y,y<ps.length->R2 x y=W x y)->(∀x,k+1<=x->R2 x=fun _=>false)->ud G (di Y K0) p' h2:=by
  intro p' a2 h2 R2 K0 hK0 hp' h28 bt2 s2 d2 hW2 hF2
  refine aq9 (k:=k) (e:=e) (g:=g) ca bx b2 st hw hh ts fw hbb sp hps bt2 s2 d2 hn ht0 ht1 hk' (fun i hi hg=>hgo k hk' i hi (by rw [<- hg];exact Ih (hW2 k (by omega) i hi).symm))
   ((hp' 2 (by decide) (by decide)).trans g2) ((hp' 4 (by decide) (by decide)).trans g4) ((hp' 6 (by decide) (by decide)).trans g6) ((hp' 11 (by decide) (by decide)).trans g11) ((hp' 14 (by decide) (by decide)).trans g14) ((hp' 17 (by decide) (by decide)).trans g17) ((hp' 18 (by decide) (by decide)).trans g18) ((hp' 24 (by decide) (by decide)).trans g24) ((hp' 25 (by decide) (by decide)).trans g25) h28 (fun r' h' e=>by subst hK0;try simp only [lr];exact hret r' h' e) fun r3 h3 hr3 s3 d3 hno3=>?_
  unfold B9;have e28:r3 28 = .int .i64 k:=(hr3 28 (by decide) (by decide)).trans h28;simp (disch:=first|decide|omega) only [lr,e28];exact hY (n+1-(k+1)) _ _ (by omega) ⟨k+1,a2,R2,rfl,by omega,fun j h1 h2=>by simp (disch:=omega) only [bo];exact (hr3 j h1 (by omega)).trans (hp' j h1 h2),by simp only [lr]<;>rfl,bt2,s3,d3,fun x hx y hy=>hW2 x (by omega) y hy,fun x hx=>hF2 x (by omega),fun x hx=>(cg_.1 hx).elim (fun y=>hno x y) fun e i hi=>by rw [e,Ih (hW2 k (by omega) i hi).symm];exact hno3 i hi⟩
 unfold Jb;simp (disch:=decide) only [lr,p28];refine df (fun hpos=>?_) (fun hzero=>?_)
 . simp (disch:=first|decide|omega) only [lr,p2,p4,p6,p14,p18,p25,p28,cc l1];refine (am5 (k:=k) (t:=t0+k) ca.cv mk hbl ts fw hbb sp hps hd bt1 s1 (by omega) ht0 ht1 rfl (by omega) (by omega)).mono ?_;rintro _ h2 ⟨a2,R2,bt2,s2,d2,hR2,hRk2⟩;try simp (disch:=first|decide|omega) only [lr,Nat.reduceAdd,Nat.reduceMul]
   refine fin _ a2 h2 R2 _ rfl (fun j h1 h2=>by simp (disch:=omega) only [bo];exact hp j h1 h2) (by simp (disch:=decide) only [lr,p28]) bt2 s2 d2 (fun x hx y hy=>?_) fun x hx=>by rw [hR2 x (by omega)];exact hF x (by omega)
   by_cases hxk:x=k
   . subst hxk;rw [hRk2 y hy,hF x (by omega),Bool.false_or];exact hstep x R1 (by omega) hk' (fun z hz y hy=>hW z (by omega) y hy) y hy
   . rw [hR2 x hxk];exact hW x (by omega) y hy
 . obtain rfl:k=0:=by omega
   try simp (disch:=first|decide|omega) only [lr,Nat.reduceAdd,Nat.reduceMul]
   exact fin _ a1 h1 R1 _ rfl (fun j h1 h2=>by simp (disch:=omega) only [bo];exact hp j h1 h2) (by simp (disch:=decide) only [lr,p28]) bt1 s1 d1 (fun x hx y hy=>hW x (by omega) y hy) fun x hx=>hF x (by omega)
section
variable {C:Conf} {T:Tb} {r:Int} {p0:Pose} {t0:Int}
theorem yj (mk:dx C) {p:Pose} (hp:fu C p=true) {x:Move} (hx:x∈jn C p):1<=dr C x/\dr C x<=16000/\fu C x.t=true/\(∀c∈gk C x,inW (wC C) (kC C) c=true)/\Bd x.n:=by
 have hm:x∈ml (wC C) (kC C) (f3C C) p:=by rw [E6 mk (Fi mk hp)];exact hx
 obtain ⟨l1,l2⟩:=Bn mk hm;obtain ⟨_,_,e1,e2,e3,e4,e5,e6,e7,e8,e9,e10⟩:=Kt mk hm;refine ⟨l1,l2,e9,fun c hc=>(Dm mk hm).2.2 c (by rw [e10];exact hc),?_⟩;exact e2.n
theorem TR.ge (mk:dx C) (hp:fu C p0=true) {p:Pose} {t:Int} (h:TR C T r p0 t0 p t):t0<=t:=by
 induction h with
 |start=>exact aS_ _
 |stay h hf ih=>omega
 |move h hm h1 h2 ih=>have:=(yj mk (h.fits mk hp) hm).1;omega
theorem tr_iff (mk:dx C) (hT:(T.length:Int)=C.w*C.h) (hp:fu C p0=true) {z:Pose} {t:Int} (ht:t0<t):TR C T r p0 t0 z t↔(TR C T r p0 t0 z (t-1)/\lu C T r (dj z) (t-1) (t+1)=true)\/
 ∃w x,TR C T r p0 t0 w (t-dr C x)/\x∈jn C w/\lu C T r (gk C x) (t-dr C x) t=true/\lu C T r (dj x.t) t (t+1)=true/\x.t=z:=by
 constructor
 . intro h;cases h with
   |start=>omega
   |@stay p s h hf=>refine .inl ⟨by rw [show s+1-1=s by omega];exact h,?_⟩;rw [show s+1-1=s by omega,show s+1+1=s+2 by omega];exact zo mk hf
   |@move w s x h hm h1 h2=>refine .inr ⟨w,x,by rw [show s+dr C x-dr C x=s by omega];exact h,hm,?_,zo mk h2,rfl⟩;rw [show s+dr C x-dr C x=s by omega];exact zo mk h1
 . rintro (⟨h,hf⟩|⟨w,x,h,hm,h1,h2,rfl⟩)
   . have:=TR.stay h (by
      have:=wt mk hT (wu mk (h.fits mk hp)) hf;rw [show t-1+2=t+1 by omega]
      exact this)
     rw [show t-1+1=t by omega]at this;exact this
   . obtain ⟨l1,l2,f1,f2,_⟩:=yj mk (h.fits mk hp) hm;have e:t-dr C x+dr C x=t:=by omega
     have:=TR.move h hm (by rw [e];exact wt mk hT f2 h1) (by rw [e];exact wt mk hT (wu mk f1) h2);rw [e]at this;exact this
def IsW (C:Conf) (T:Tb) (r:Int) (p0:Pose) (t0:Int) (ps:List Pose) (W:Nat->Nat->Bool):Prop:=∀(k i:Nat) z,ps[i]?=some z->(W k i=true↔TR C T r p0 t0 z (t0+(k:Int)))
theorem aA2 {ps:List Pose}:∃W,IsW C T r p0 t0 ps W:=by classical refine ⟨fun k i=>match ps[i]? with|some z=>decide (TR C T r p0 t0 z (t0+(k:Int)))|none=>false,fun k i z hz=>?_⟩;simp only [hz,aw_]
theorem av8 (mk:dx C) (hT:(T.length:Int)=C.w*C.h) (hp:fu C p0=true) {ps:List Pose} (hall:∀z,fu C z=true->∃i:Nat,ps[i]?=some z) (hfit:∀z∈ps,fu C z=true) {W R:Nat->Nat->Bool} (hW:IsW C T r p0 t0 ps W) {k:Nat} (hk:1<=k)
 (hR:∀x,x<k->∀y,y<ps.length->R x y=W x y) {y:Nat} (hy:y<ps.length):(Af C T r R ps (t0+k) k y||(List.range ps.length).any (vn C T r R ps t0 (t0+k) y))=W k y:=by
 obtain ⟨z,hz⟩:∃z,ps[y]?=some z:=⟨_,aa_ hy⟩;rw [a6_,hW k y z hz,tr_iff mk hT hp (by omega),Bool.or_eq_true];refine or_congr ?_ ?_
 . unfold Af;rw [hR (k-1) (by omega) y hy,hz,ag_,hW (k-1) y z hz,show ((k-1:Nat):Int)=(k:Int)-1 by omega,show t0+((k:Int)-1)=t0+k-1 by omega]
 . rw [bf_];constructor
   . rintro ⟨i,hi,h⟩;have hi':=aM_.1 hi;obtain ⟨w,hw⟩:∃w,ps[i]?=some w:=⟨_,aa_ hi'⟩;unfold vn at h;rw [hw]at h;obtain ⟨x,hx,h⟩:=bf_.1 h;simp only [ag_,aw_]at h;obtain ⟨ha,ht⟩:=h;unfold arrB at ha;simp only [ag_,aw_]at ha;obtain ⟨h1,h2,h3,h4⟩:=ha;have hl:=(yj mk (hfit w (ab_ hw)) hx).1;rw [hR _ (by omega) i hi',hW _ i w hw,show t0+(((t0+k-dr C x-t0).toNat:Nat):Int)=t0+k-dr C x by omega]at h2;rw [hz]at ht;exact ⟨w,x,h2,hx,h3,h4,(Option.some.inj ht).symm⟩
   . rintro ⟨w,x,h,hm,h1,h2,rfl⟩;obtain ⟨i,hi⟩:=hall w (h.fits mk hp);have hi':i<ps.length:=(ad_.1 hi).1;have hge:=h.ge mk hp;obtain ⟨l1,l2,f1,f2,_⟩:=yj mk (h.fits mk hp) hm;refine ⟨i,aM_.2 hi',?_⟩;unfold vn;rw [hi];refine bf_.2 ⟨x,hm,?_⟩;unfold arrB;simp only [ag_,aw_];refine ⟨⟨hge,?_,h1,h2⟩,hz⟩;rw [hR _ (by omega) i hi',hW _ i w hi,show t0+(((t0+k-dr C x-t0).toNat:Nat):Int)=t0+k-dr C x by omega];exact h
end
section
variable {C:Conf} {T:Tb} {r:Int} {p0:Pose} {t0:Int}
theorem wk_in {q:Pose} {i:Nat} {a:Int} {l:List Move} (w:Wk (envC C T r) p0 t0 l q i a):(inside ((envC C T r).spans p0) t0).isSome=true:=by
 induction w with
 |nil h=>rw [h];rfl
 |@snoc l q i j a s0 s w h h0 ha1 ha2 hw hs h1 h2 he he2 hj ih=>exact ih
theorem aa8 (mk:dx C) (gt:i7 T) (hT:(T.length:Int)=C.w*C.h) (hp:fu C p0=true) (h0:0<=t0) (hin:(inside ((envC C T r).spans p0) t0).isSome=true) {ps:List Pose} {W:Nat->Nat->Bool} (hW:IsW C T r p0 t0 ps W) {g:Pose} {k i:Nat} (hk:t0+(k:Int)<FV-1)
 (h:pt C T r W ps g t0 k i=true):∃z j t' s,Rc (envC C T r) p0 t0 z j t'/\t'<=t0+k/\((envC C T r).spans z)[j]?=some s/\nf g true z s=true:=by
 unfold pt at h;rw [ag_]at h;obtain ⟨h1,h2⟩:=h;cases hz:ps[i]? with
 |none=>rw [hz]at h2;cases h2
 |some z=>
  rw [hz]at h2;simp only [ag_,beq_iff_eq]at h2;obtain ⟨⟨hx,hy⟩,hf⟩:=h2;have tr:=(hW k i z hz).1 h1;obtain ⟨_,j,t',s,rc,a1,a2,a3,a4⟩:=tr_rc mk gt hp h0 hin tr hk;have hfit:=tr.fits mk hp;obtain ⟨u,hu,u1,u2⟩:=(wt mk hT (wu mk hfit) hf).span gt (by omega) (by show t0+(k:Int)<FV;omega) (aS_ FV);obtain ⟨j',hj'⟩:=Es gt hu;have:j=j':=Ji (rn gt r _) a2 hj' a3 (Int.le_of_lt a4) u1 (by have:(4611686018427387904:Int)=FV:=rfl;omega);subst this;have e:s=u:=Option.some.inj (a2.symm.trans hj');subst e;have hb:=(Jp mk gt (r:=r)).pos _ s (ab_ a2);refine ⟨z,j,t',s,rc,a1,a2,?_⟩;unfold nf;simp only [hx,hy,aH_,beq_self_eq_true,bz_,Bool.or_true];have h3:(4611686018427387904:Int)<=s.2:=u2;have:s.2=FV:=by have:(4611686018427387904:Int)=FV:=rfl;omega
  rw [this];rfl
theorem best_no (mk:dx C) (gt:i7 T) (h0:0<=t0) {ps:List Pose} {W:Nat->Nat->Bool} (hW:IsW C T r p0 t0 ps W) {g:Pose} (h:nt C (some T) r p0 t0 g true = .no 6) {k i:Nat} (hk:t0+(k:Int)<FV-1):pt C T r W ps g t0 k i=false:=by
 have ha:¬F5 C T r p0 t0 g true:=fun ha=>by rw [vo ha]at h;cases h
 obtain ⟨c1,c2,c3,c4,c5,c6⟩:=F4 ha;have hf:fu C p0=true:=by rw [<- qm mk];exact c5
 rw [Fl ha]at h;have o1:=Fj mk gt (r:=r) (gp:=g) (t:=t0) (any:=true) (n:=C.bu.toNat) c5;rw [h]at o1;cases o1 with
 |route hin hno=>
  cases hg:pt C T r W ps g t0 k i with
  |false=>rfl
  |true=>obtain ⟨z,j,t',s,rc,_,hs,hb⟩:=aa8 mk gt c1 hf h0 hin hW hk hg;rw [hno z j t' s rc hs]at hb;cases hb
theorem best_ok (mk:dx C) (gt:i7 T) (h0:0<=t0) {ps:List Pose} (hall:∀z,fu C z=true->∃i:Nat,ps[i]?=some z) {W:Nat->Nat->Bool} (hW:IsW C T r p0 t0 ps W) {g:Pose} {l:List Move} (h:nt C (some T) r p0 t0 g true = .ok l) (hl:nc t0 l l.length<FV-1):
 ∃n:Nat,nc t0 l l.length=t0+n/\(∀k i:Nat,k<=n->pt C T r W ps g t0 k i=true->k=n)/\∃i,i<ps.length/\pt C T r W ps g t0 n i=true:=by
 have ha:¬F5 C T r p0 t0 g true:=fun ha=>by rw [vo ha]at h;cases h
 obtain ⟨c1,c2,c3,c4,c5,c6⟩:=F4 ha;have hf:fu C p0=true:=by rw [<- qm mk];exact c5
 rw [Fl ha]at h;have o1:=Fj mk gt (r:=r) (gp:=g) (t:=t0) (any:=true) (n:=C.bu.toNat) c5;rw [h]at o1;cases o1 with
 |@ok l q i a s w hs h1 h2 gb best=>
  have tr:=wk_tr mk gt hf c3 w;have hin:=wk_in w;obtain ⟨w1,e1,e2,w4,w5⟩:=W7 mk gt hf c3 w;have hge:=tr.ge mk hf;obtain ⟨n,hn⟩:∃n:Nat,a=t0+n:=⟨(a-t0).toNat,by omega⟩;refine ⟨n,by rw [<- e2];exact hn,fun k i hk hg=>?_,?_⟩
  . obtain ⟨z,j,t',s',rc,b1,hs',hb⟩:=aa8 mk gt c1 hf h0 hin hW (by omega) hg;have:=best z j t' s' rc hs' hb;omega
  . obtain ⟨j,hj⟩:=hall q w4;refine ⟨j,(ad_.1 hj).1,?_⟩;unfold nf at gb;simp only [ag_,Bool.or_eq_true,beq_iff_eq]at gb;obtain ⟨ga,gFV⟩:=gb;have gx:q.x=g.x:=by rcases ga with ⟨⟨a,_⟩,_⟩|⟨_,a,_⟩<;>exact a
    have gy:q.y=g.y:=by rcases ga with ⟨⟨_,a⟩,_⟩|⟨_,_,a⟩<;>exact a
    unfold pt;rw [hj,ag_];refine ⟨(hW n j q hj).2 (by rw [<- hn];exact tr),?_⟩;simp only [ag_,beq_iff_eq];refine ⟨⟨gx,gy⟩,?_⟩;rw [<- hn];exact zo mk fun c hc=>sk gt (ab_ hs) h1 (by rw [gFV];exact aS_ _) _ (ba_.2 ⟨c,hc,rfl⟩)
theorem He {z:Pose} (h:z∈qo C):fu C z=true:=by unfold qo psY at h;obtain ⟨y,_,h⟩:=aY_.1 h;unfold psX at h;obtain ⟨x,_,h⟩:=aY_.1 h;unfold psD at h;exact (bF_.1 h).2
theorem Pt (mk:dx C) {z:Pose} (h:fu C z=true):∃i:Nat,(qo C)[i]?=some z:=by
 apply bn_;have hin:=zp (by rw [qm mk];exact h);unfold inW cj at hin;simp only [ag_,aw_]at hin;obtain ⟨⟨x0,x1⟩,y0,y1⟩:=hin;obtain ⟨_,_,hw,_,hk,_⟩:=Jy mk;unfold qo psY;refine aY_.2 ⟨z.y.toNat,aM_.2 (by unfold kC at y1;omega),?_⟩;unfold psX;refine aY_.2 ⟨z.x.toNat,aM_.2 (by unfold wC at x1;omega),?_⟩;unfold psD;have e:tq z.x.toNat z.y.toNat (if z.d then 1 else 0)=z:=by obtain ⟨x,y,d⟩:=z;unfold tq;simp only [aD_ x0,aD_ y0];cases d<;>rfl
 refine bF_.2 ⟨ba_.2 ⟨_,aM_.2 ?_,e⟩,h⟩;split<;>omega
theorem au8 (hw:C.w<=16) (hh:C.h<=16):(qo C).length<=512:=by have h1:=Zw (C:=C) (n:=C.h.toNat);have h2:2*C.w.toNat*C.h.toNat<=2*16*16:=bw_ (by omega) (by omega);unfold qo;omega
end
theorem tr_zero {C:Conf} (mk:dx C) {T:Tb} {r:Int} {p0:Pose} {t0:Int} (hp:fu C p0=true) {z:Pose}:TR C T r p0 t0 z t0↔z=p0:=by
 constructor
 . intro h
   have key:∀t,TR C T r p0 t0 z t->t<=t0->z=p0:=by
    intro t h ht;cases h with
    |start=>rfl
    |@stay _ s h' hf=>have:=h'.ge mk hp;omega
    |@move w s x h' hm h1 h2=>have:=h'.ge mk hp;have:=(yj mk (h'.fits mk hp) hm).1;omega
   exact key t0 h (aS_ _)
 . rintro rfl;exact .start
theorem au0 {G q:Hp} {pv:Value} {C:Conf} {tp n xc x1 x2:Nat} {T:Tb} {rb t0 e:Int} {p g:Pose} {W:Nat->Nat->Bool} {ab:Option Addr} {cb:Nat} {ap:Option Addr} {cp':Nat} {ar:Option Addr} {cr:Nat} {az:Option Addr} {cs:Nat}
 (ca:CA G q C ab cb ap cp' ar cr az cs) (bx:q xc=some (na C ab cb ap cp' ar cr az cs)) (b1:q x1=some (pq p)) (b2:q x2=some (pq g)) (st:lg G) (mk:dx C) (hbl:C.bl.length<=100000000000000) (hT:(T.length:Int)=C.w*C.h) (ts:Rv.TSee G q tp T) (fw:Few T 100) (sp:Sees lk G q pv (qo C))
 (d:Dis G q) (hn:n<=900) (ht0:0<=t0) (ht1:t0<=1000000) (hp:fu C p=true) (hW:IsW C T rb p t0 (qo C) W)
 (hgo:∀k,k<=n->∀i,i<(qo C).length->pt C T rb W (qo C) g t0 k i=true->e=0/\k=n)
 (hend:(∀k,k<=n->∀i,i<(qo C).length->pt C T rb W (qo C) g t0 k i=false)->e=6) {KK:EK} {r:Rg}
 (g2:r 2 = .int .i64 rb) (g4:r 4 = .int .i64 t0) (g6:r 6 = .pointer (some ⟨xc,0,none⟩)) (g9:r 9 = .pointer (some ⟨x1,0,none⟩)) (g11:r 11 = .pointer (some ⟨x2,0,none⟩)) (g14:r 14 = .pointer (some ⟨tp,0,none⟩)) (g17:r 17 = .int .i64 e) (g18:r 18=pv) (g24:r 24 = .int .i64 n)
 (hret:∀(r':Rg) (h':Hp),r' 12 = .bool true->KK .ret r' h'):Hq G KK r q:=by
 obtain ⟨ew,ek,_,w16,_,k16⟩:=Jy mk;have hps:(qo C).length<=1000:=by have:=au8 (C:=C) (by omega) (by omega);omega
 obtain ⟨pa,pc,rfl,_⟩:=id sp;refine an6 (HL.Sep.one (h:=q)) d (by omega) hps g18 g24 fun r1 a1 h1 ob bs hr1 h25 b0 s1 d1=>?_;have l1:=s1.in 1 rfl;have f1:∀{j:Nat} {v:Value},1<=j->j<=24->r j=v->r1 j=v:=fun a b e=>(hr1 _ a b).trans e;refine Yc (p:=p) sp b1 b0 s1 d1 hps (f1 (by decide) (by decide) g9) (f1 (by decide) (by decide) g18) h25 fun r2 a2 h2 R2 hr2 bt2 s2 d2 hz2 hr0=>?_;have f2:∀{j:Nat} {v:Value},1<=j->j<=24->r j=v->r2 j=v:=fun a b e=>(hr2 _ a (by omega)).trans (f1 a b e)
 refine W8 (W:=W) (e:=e) (g:=g) ca bx b2 st mk hbl (by omega) (by omega) ts fw (by decide) sp hps (fun z hz=>⟨by rw [<- E6 mk (Fi mk (He hz))];exact bo_ Gz (by decide),fun x hx=>?_⟩) bt2 s2 d2 hn ht0 ht1 (fun i hi=>?_) hz2 (fun k R h1 h2 hR y hy=>av8 mk hT hp (fun z hz=>Pt mk hz) (fun z hz=>He hz) hW h1 hR hy) hgo hend
  (f2 (by decide) (by decide) g2) (f2 (by decide) (by decide) g4) (f2 (by decide) (by decide) g6) (f2 (by decide) (by decide) g11) (f2 (by decide) (by decide) g14) (f2 (by decide) (by decide) g17) (f2 (by decide) (by decide) g18) (f2 (by decide) (by decide) g24) ((hr2 25 (by decide) (by decide)).trans h25) hret
 . obtain ⟨a,b,_,_,c⟩:=yj mk (He hz) hx;exact ⟨a,b,c,Xc mk⟩
 . obtain ⟨z,hz⟩:∃z,(qo C)[i]?=some z:=⟨_,aa_ hi⟩;rw [hr0 i hi,hz,a6_,hW 0 i z hz,aw_];rw [show t0+((0:Nat):Int)=t0 by omega,tr_zero mk hp];exact ⟨fun e=>Option.some.inj e,fun e=>by rw [e]⟩
end Go.Proofs.YtfflipnhffknnaaGreatDoor
end

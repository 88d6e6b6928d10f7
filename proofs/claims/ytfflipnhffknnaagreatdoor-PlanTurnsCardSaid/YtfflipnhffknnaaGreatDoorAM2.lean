/- Texts of the proof, one behind the other. -/
import Derived.Test.YtfflipnhffknnaaGreatDoorAM1
import Derived.Test.YtfflipnhffknnaaGreatDoorAH4
import Derived.Test.YtfflipnhffknnaaGreatDoorAH3
set_option linter.unusedSimpArgs false
set_option linter.unusedVariables false
set_option maxRecDepth 100000
set_option maxHeartbeats 2000000
set_option linter.defProp false
section
namespace Go.Proofs.YtfflipnhffknnaaGreatDoor
open Go Go.HL Go.Proofs.Resv Go.Proofs.Srch
def bRtK:=jq bC (jq (jq (jq @kg @cf187) (jq @Xz (jq @fa173_1 @an1))) (jq (jq @an0 @ld3) (jq @ld3p (jq @ld @ir))))
def KR (G h:Hp) (kp:Nat) (U A V:Int):Prop:=∀j,j<3->af G h ⟨kp,j,none⟩=[Value.int .i64 U,.int .i64 A,.int .i64 V][j]?
structure KB (U A V:Int):Prop where
 u1:1<=U
 u2:U<=1000
 a1:1<=A
 a2:A<=1000
 v1:1<=V
 v2:V<=1000
theorem P1 {a:Int} (ha:1<=a):∀(n:Nat) (v:Int),v<=1000->0<=brk a n v/\brk a n v<=n*1000
 |0,v,_=>by simp [brk]
 |n+1,v,h=>by
   unfold brk
   split
   . have:=P1 ha n (v-a) (by omega);omega
   . omega
theorem X7 {a:Int}:∀(n:Nat) {v:Int},v<=0->brk a n v=0
 |0,v,_=>rfl
 |n+1,v,h=>by unfold brk;rw [if_neg (by omega)]
theorem Dm {a s:Int} (ha:1<=a) (hs:s<=1000):0<=uj a s/\uj a s<=1000000:=by
 unfold uj
 have:=P1 ha s.toNat (s-a) (by omega)
 omega
theorem minE {a b:Int}:(if b<a then b else a)=min a b:=by split<;>omega
theorem maxE {a b:Int}:(if b>a then b else a)=max a b:=by split<;>omega
theorem min2p {P:Program} {G h:Hp} {a b:Int} {K:Value->Prop}:pw P G h (Builtin.min_ #[3,3] 3 #[a,b]) K=K (.int .i64 (min a b)):=by rw [<- minE];rfl
theorem max2p {P:Program} {G h:Hp} {a b:Int} {K:Value->Prop}:pw P G h (Builtin.max_ #[3,3] 3 #[a,b]) K=K (.int .i64 (max a b)):=by rw [<- maxE];rfl
theorem max2w {P:Program} {G h:Hp} {a b:Int} {K:VK}:wpH P G (Builtin.max_ #[3,3] 3 #[a,b]) h K=K (.int .i64 (max a b)) h:=by rw [<- maxE];rfl
theorem min3w {P:Program} {G h:Hp} {a b c:Int} {K:VK}:wpH P G (Builtin.min_ #[3,3,3] 3 #[a,b,c]) h K=K (.int .i64 (min (min a b) c)) h:=by rw [<- minE,<- minE];rfl
theorem Vu {G h:Hp} {kp:Nat} {U A V q:Int} (kr:KR G h kp U A V) (kb:KB U A V) (h0:0<=q) (h1:q<=V):
   al P_ G 187 #[.pointer (some ⟨kp,0,none⟩),q] h (fun v h'=>v = .int .i64 (uj A q)/\h'=h):=by
 have c1:af G h ⟨kp,1,none⟩=some (.int .i64 A):=kr 1 (by decide)
 have c2:af G h ⟨kp,2,none⟩=some (.int .i64 V):=kr 2 (by decide)
 obtain ⟨ku1,ku2,ka1,ka2,kv1,kv2⟩:=kb
 refine quietly (ao9 (by simp) ?_)
 unfold S187
 simp only [bRtK,c1]
 rw [ig (show ¬A<1 by omega)]
 simp only [bRtK]
 unfold Yd
 simp (disch:=first|decide|omega) only [bRtK,c1,c2,min2p,max2p]
 rw [show max 0 (min q V)=q by omega]
 have hbd:=Dm ka1 (show q<=1000 by omega)
 refine di (fun m r h'=>h'=h/\r 0 = .pointer (some ⟨kp,0,none⟩)/\∃s v:Int,r 5 = .int .i64 s/\r 6 = .int .i64 v/\v.toNat=m/\v<=1000 /\ -1000<=v/\0<=s/\∃n:Nat,v<=n/\s+brk A n v=uj A q) ?_ (m:=(q-A).toNat)
   ⟨rfl,by simp (disch:=decide) only [bRtK],0,q-A,by simp (disch:=decide) only [bRtK],by simp only [bRtK],rfl,by omega,by omega,by omega,q.toNat,by omega,by unfold uj;omega⟩
 rintro m r h' ⟨rfl,g0,s,v,g5,g6,rfl,hv,hv2,hs,n,hn,hsum⟩ X hX
 unfold Yb
 simp only [bRtK,g6]
 by_cases hp:v>0
 . rw [gi hp]
   obtain ⟨n,rfl⟩:∃k,n=k+1:=⟨n-1,by omega⟩
   unfold brk at hsum
   rw [if_pos hp]at hsum
   have hb:=P1 ka1 n (v-A) (by omega)
   simp only [bRtK]
   unfold Jv
   simp (disch:=first|decide|omega) only [bRtK,g5,g6]
   unfold Ju
   simp (disch:=first|decide|omega) only [bRtK,g0,g6,c1]
   refine hX (v-A).toNat _ _ (by omega) ⟨rfl,by simp (disch:=decide) only [bRtK,g0],s+v,v-A,by simp (disch:=decide) only [bRtK],by simp only [bRtK],rfl,by omega,by omega,by omega,n,by omega,by omega⟩
 . rw [ig hp]
   rw [X7 n (by omega)]at hsum
   simp only [bRtK]
   unfold Yc
   simp (disch:=decide) only [bRtK,g5]
   exact ⟨by rw [<- hsum];simp,Hp.le.refl _⟩
theorem aa2 {G h:Hp} {kp:Nat} {U A V x s v:Int} (kr:KR G h kp U A V) (kb:KB U A V) (hx1:1<=x) (hx2:x<=100000) (hs:0<=s) (hs2:s<=1000) (hv1:1<=v) (hv2:v<=V):
   al P_ G 170 #[.pointer (some ⟨kp,0,none⟩),x,s,v] h (fun u h'=>u = .int .i64 (qv A x s v)/\h'=h):=by
 have c1:af G h ⟨kp,1,none⟩=some (.int .i64 A):=kr 1 (by decide)
 have kb':=kb
 obtain ⟨ku1,ku2,ka1,ka2,kv1,kv2⟩:=kb
 refine quietly (ap1 (by simp) ?_)
 unfold S170
 simp (disch:=first|decide|omega) only [bRtK,c1,min3w]
 refine di (fun m r h'=>h'=h/\r 0 = .pointer (some ⟨kp,0,none⟩)/\r 1 = .int .i64 x/\∃q:Int,r 9 = .int .i64 q/\q.toNat=m/\q<=V/\1<=q/\∃n:Nat,q<=n/\dq A x n q=qv A x s v) ?_ (m:=(min (min (s+A) v) x).toNat)
   ⟨rfl,by simp (disch:=decide) only [bRtK],by simp (disch:=decide) only [bRtK],min (min (s+A) v) x,by simp only [bRtK],rfl,by omega,by omega,(min (min (s+A) v) x).toNat,by omega,rfl⟩
 rintro m r h' ⟨rfl,g0,g1,q,g9,rfl,hq,hq1,n,hn,hd⟩ X hX
 unfold Yg
 simp only [bRtK,g0,g1,g9]
 obtain ⟨n,rfl⟩:∃k,n=k+1:=⟨n-1,by omega⟩
 unfold dq at hd
 by_cases hp:q>1
 . rw [gi hp]
   simp (disch:=first|decide|omega) only [bRtK]
   refine (Vu kr kb' (by omega) hq).mono ?_
   rintro _ _ ⟨rfl,rfl⟩
   have hbd:=Dm ka1 (show q<=1000 by omega)
   simp only [bRtK]
   refine bv (fun hb=>?_) (fun hb=>?_)
   . rw [if_pos ⟨hp,hb⟩]at hd
     unfold Jy
     simp (disch:=first|decide|omega) only [bRtK,g9]
     refine hX (q-1).toNat _ _ (by omega) ⟨rfl,by simp (disch:=decide) only [bRtK,g0],by simp (disch:=decide) only [bRtK,g1],q-1,by simp only [bRtK],rfl,by omega,by omega,n,by omega,hd⟩
   . rw [if_neg (by omega)]at hd
     unfold Qk
     simp (disch:=decide) only [bRtK,g9]
     exact ⟨by rw [hd],Hp.le.refl _⟩
 . rw [ig hp]
   rw [if_neg (by omega)]at hd
   simp only [bRtK]
   unfold Qk
   simp (disch:=decide) only [bRtK,g9]
   exact ⟨by rw [hd],Hp.le.refl _⟩
def mx:=jq bC (jq (jq (jq @cf170 @fa173_2) (jq @ld3 @ld4)) (jq (jq @ld50 @ld) (jq @my @kq)))
def KH (a:Hp) (kp:Nat) (U A V:Int):Prop:=∃l e,a kp=some (.cells l e (0,0))/\∀j,j<3->l[j]?=[Value.int .i64 U,.int .i64 A,.int .i64 V][j]?
theorem KH.kr {G a h:Hp} {kp:Nat} {U A V:Int} (k:KH a kp U A V) (l:a.le h):KR G h kp U A V:=by
 obtain ⟨cs,e,h1,h2⟩:=k
 intro j hj
 rw [aj (ai (l _ _ h1))]
 rw [Array.getElem?_toList];exact h2 j hj
abbrev plA (p:Int):Array Value:=#[p]
def Yf (G:Hp) (y:Value) (Y:List Int->Hp->Prop):Prop:=∀(L:List Int) (m:Int) (a q h:Hp),L.length<=16000->Y L a->Sep [a,q] h->Dis G h->
   opH P_ G (ij y (plA m)) h (fun v h'=>∃a',v = .bool true/\Sep [a',q] h'/\Dis G h'/\Y (L++[m]) a')
theorem Ri {G h a q:Hp} {y:Value} {Y:List Int->Hp->Prop} {kb fb sb pb eb kp:Nat} {U A V e:Int}
   (yl:Yf G y Y) (yk:∀L a,Y L a->KH a kp U A V) (kbd:KB U A V) (ya:Y [] a)
   (s:Sep [a,noHp.set sb (.cells #[(0:Int)] 3 (0,0)),noHp.set pb (.cells #[(0:Int)] 3 (0,0)),q] h)
   (h1:q kb=some (.cells #[.pointer (some ⟨kp,0,none⟩)] 50 (0,0))) (h2:q fb=some (.cells #[.bool false] 4 (0,0))) (h3:q eb=some (.cells #[e] 3 (0,0))) (he:0<=e) (he2:e<=16000):
   al P_ G 169 #[y,.pointer (some ⟨kb,0,none⟩),.pointer (some ⟨fb,0,none⟩),.pointer (some ⟨sb,0,none⟩),.pointer (some ⟨pb,0,none⟩),.pointer (some ⟨eb,0,none⟩)] h
     (fun _ h'=>∃a',Sep [a',q] h'/\Dis G h'/\Y (prof A V e e.toNat 0 0) a'):=by
 obtain ⟨W,hW⟩:∃W,W=prof A V e e.toNat 0 0:=⟨_,rfl⟩
 rw [<- hW]
 refine al.assume fun d=>ap2 (by simp) ?_
 have kb':=kbd
 obtain ⟨ku1,ku2,ka1,ka2,kv1,kv2⟩:=kbd
 have ck:af G h ⟨kb,0,none⟩=some (.pointer (some ⟨kp,0,none⟩)):=by rw [aj (ai (s.at 3 rfl h1))];rfl
 have cf:af G h ⟨fb,0,none⟩=some (.bool false):=by rw [aj (ai (s.at 3 rfl h2))];rfl
 have c2:af G h ⟨kp,2,none⟩=some (.int .i64 V):=(yk _ _ ya).kr (s.in 0 rfl) 2 (by decide)
 unfold S169
 simp only [mx,ck,cf,c2]
 unfold Ql
 refine di (fun m r h'=>∃(a':Hp) (M:List Int) (p sp:Int),m=(e-p).toNat/\r 0=y/\r 1 = .pointer (some ⟨kb,0,none⟩)/\r 2 = .pointer (some ⟨fb,0,none⟩)/\r 3 = .pointer (some ⟨sb,0,none⟩)/\r 4 = .pointer (some ⟨pb,0,none⟩)/\r 5 = .pointer (some ⟨eb,0,none⟩)/\r 7 = .int .i64 V/\
     Y M a'/\Sep [a',noHp.set sb (.cells #[sp] 3 (0,0)),noHp.set pb (.cells #[p] 3 (0,0)),q] h'/\Dis G h'/\0<=p/\0<=sp/\sp<=V/\p<=e/\∃n:Nat,e-p<=n/\M++prof A V e n p sp=W) ?_ (m:=(e-0).toNat)
   ⟨a,[],0,0,rfl,by simp (disch:=decide) only [mx],by simp (disch:=decide) only [mx],by simp (disch:=decide) only [mx],by simp (disch:=decide) only [mx],by simp (disch:=decide) only [mx],by simp (disch:=decide) only [mx],by simp (disch:=decide) only [mx],ya,s,d,by omega,by omega,by omega,by omega,e.toNat,by omega,hW.symm⟩
 rintro m r h' ⟨a',M,p,sp,rfl,g0,g1,g2,g3,g4,g5,g7,ya',s',d',hp0,hsp0,hspV,hpe,n,hn,hprof⟩ X hX
 have cp:af G h' ⟨pb,0,none⟩=some (.int .i64 p):=by rw [aj (ai (s'.at 2 rfl ag))];rfl
 have cs:af G h' ⟨sb,0,none⟩=some (.int .i64 sp):=by rw [aj (ai (s'.at 1 rfl ag))];rfl
 have ce:af G h' ⟨eb,0,none⟩=some (.int .i64 e):=by rw [aj (ai (s'.at 3 rfl h3))];rfl
 have ck':af G h' ⟨kb,0,none⟩=some (.pointer (some ⟨kp,0,none⟩)):=by rw [aj (ai (s'.at 3 rfl h1))];rfl
 unfold Yh
 simp only [mx,g4,g5,cp,ce]
 by_cases hlt:p<e
 . rw [gi hlt]
   simp only [mx]
   unfold Jz
   simp (disch:=first|decide|omega) only [mx,g1,g5,g4,g3,g7,ck',ce,cp,cs]
   refine (aa2 ((yk _ _ ya').kr (s'.in 0 rfl)) kb' (x:=e-p) (s:=sp) (v:=V) (by omega) (by omega) hsp0 (by omega) (by omega) (by omega)).mono ?_
   rintro _ h' ⟨rfl,rfl⟩
   have hnx:=W9 ka1 (show 1<=e-p by omega) hsp0 kv1
   obtain ⟨n,rfl⟩:∃k,n=k+1:=⟨n-1,by omega⟩
   unfold prof at hprof
   rw [if_pos hlt]at hprof
   generalize qv A (e-p) sp V=x at*
   have hsb:h' sb=some (.cells [Value.int .i64 sp].toArray 3 (0,0)):=s'.at 1 rfl ag
   rw [dh sz3 (v := .int .i64 x) rfl hsb (by simp)]
   try simp only [mx,List.set_cons_zero]
   have s1:=(s'.pick 1 rfl rfl).put (o := .cells #[x] 3 (0,0)) ag
   rw [set_set]at s1
   have d1:Dis G (h'.set sb (.cells #[x] 3 (0,0))):=d'.set (d' _ _ hsb)
   generalize Hp.set h' sb _=h4 at s1 d1 ⊢
   have cf4:af G h4 ⟨fb,0,none⟩=some (.bool false):=by rw [aj (ai (s1.at 3 rfl h2))];rfl
   simp only [mx,g2,cf4]
   unfold B6
   have cp4:af G h4 ⟨pb,0,none⟩=some (.int .i64 p):=by rw [aj (ai (s1.at 2 rfl ag))];rfl
   have cs4:af G h4 ⟨sb,0,none⟩=some (.int .i64 x):=by rw [aj (ai (s1.at 0 rfl ag))];rfl
   have hpb:h4 pb=some (.cells [Value.int .i64 p].toArray 3 (0,0)):=s1.at 2 rfl ag
   simp (disch:=first|decide|omega) only [mx,g3,g4,cp4,cs4]
   rw [dh sz3 (v := .int .i64 (p+x)) rfl hpb (by simp)]
   try simp only [mx,List.set_cons_zero]
   have s2:=(s1.pick 2 rfl rfl).put (o := .cells #[.int .i64 (p+x)] 3 (0,0)) ag
   rw [set_set]at s2
   have d2:Dis G (h4.set pb (.cells #[.int .i64 (p+x)] 3 (0,0))):=d1.set (d1 _ _ hpb)
   generalize Hp.set h4 pb _=h5 at s2 d2 ⊢
   have cp5:af G h5 ⟨pb,0,none⟩=some (.int .i64 (p+x)):=by rw [aj (ai (s2.at 0 rfl ag))];rfl
   try simp only [mx,g4,cp5,g0]
   obtain ⟨Q,s3,sQ⟩:=Af (s2.pick 2 rfl rfl).swap
   obtain ⟨Q,s3,sQ⟩:∃b,Sep [a',b] h5/\Sep [noHp.set pb (.cells #[.int .i64 (p+x)] 3 (0,0)),noHp.set sb (.cells #[x] 3 (0,0)),q] b:=by
     obtain ⟨b,t1,t2⟩:=Af (s2.sel (L':=[noHp.set pb (.cells #[.int .i64 (p+x)] 3 (0,0)),noHp.set sb (.cells #[x] 3 (0,0)),q,a']) [0,1,3,2] (by decide) rfl)
     exact ⟨b,t1.swap,t2⟩
   refine jv (fun v h6 H=>?_) (yl M (p+x) a' Q h5 (by have e1:=congrArg List.length hprof;have e2:=Cv (a:=A) (v:=V) (e:=e) e.toNat 0 0;rw [hW]at e1;simp only [List.length_append]at e1;omega) ya' s3 d2)
   obtain ⟨a6,rfl,s6,d6,z6⟩:=H
   have s7:Sep [a6,noHp.set pb (.cells #[.int .i64 (p+x)] 3 (0,0)),noHp.set sb (.cells #[x] 3 (0,0)),q] h6:=by
     have:=s6.split sQ
     simpa using this
   simp only [mx]
   refine hX (e-(p+x)).toNat _ _ (by omega) ⟨a6,M++[p+x],p+x,x,rfl,by simp (disch:=decide) only [mx,g0],by simp (disch:=decide) only [mx,g1],by simp (disch:=decide) only [mx,g2],by simp (disch:=decide) only [mx,g3],by simp (disch:=decide) only [mx,g4],by simp (disch:=decide) only [mx,g5],by simp (disch:=decide) only [mx,g7],by simpa using z6,s7.sel [0,2,1,3] (by decide) rfl,d6,by omega,by omega,by omega,by omega,n,by omega,?_⟩
   rw [<- hprof]
   simp
 . rw [ig hlt]
   simp only [mx]
   have hz:prof A V e n p sp=[]:=by
     cases n with
     |zero=>rfl
     |succ n=>unfold prof;rw [if_neg hlt]
   rw [hz,List.append_nil]at hprof
   exact ⟨a',s'.sel [0,3] (by decide) rfl,d',by rw [<- hprof];exact ya'⟩
def Jh:=jq bC (jq (jq (jq @vg (jq @gg @M9)) (jq (jq @ny @cf152) (jq @an3 @an2))) (jq (jq (jq @Pc @ld261p) (jq @ld3p @ld50p)) (jq (jq @ir @my) (jq @kq @true_and))))
theorem Un {G h:Hp} {kp:Nat} {p s e:Int}:al P_ G 152 #[.pointer (some ⟨kp,0,none⟩),p,s,e,.bool false] h (fun u h'=>∃b1 b2 b3 b4 b5,
   u = .func (.func 169) #[] #[.pointer (some ⟨b1,0,none⟩),.pointer (some ⟨b2,0,none⟩),.pointer (some ⟨b3,0,none⟩),.pointer (some ⟨b4,0,none⟩),.pointer (some ⟨b5,0,none⟩)]/\
   Sep [noHp.set b3 (.cells #[s] 3 (0,0)),noHp.set b4 (.cells #[p] 3 (0,0)),noHp.set b1 (.cells #[.pointer (some ⟨kp,0,none⟩)] 50 (0,0)),noHp.set b2 (.cells #[.bool false] 4 (0,0)),noHp.set b5 (.cells #[e] 3 (0,0)),h] h'/\Dis G h'):=by
 refine al.assume fun d=>aq2 (by simp) ?_
 unfold S152
 simp only [Jh]
 intro x1 hx1 gx1 x2 hx2 gx2 x3 hx3 gx3 x4 hx4 gx4 x5 hx5 gx5
 have s1:=(Sep.one (h:=h)).new (o := .cells #[.pointer (some ⟨kp,0,none⟩)] 50 (0,0)) hx1
 have s2:=s1.new (o := .cells #[p] 3 (0,0)) hx2
 have s3:=s2.new (o := .cells #[s] 3 (0,0)) hx3
 have s4:=s3.new (o := .cells #[e] 3 (0,0)) hx4
 have s5:=s4.new (o := .cells #[.bool false] 4 (0,0)) hx5
 exact ⟨x1,x5,x3,x2,x4,rfl,s5.sel [2,3,4,0,1,5] (by decide) rfl,((((d.set gx1).set gx2).set gx3).set gx4).set gx5⟩
theorem Z8 {G:Hp} {a b c e f y:Value} {h:Hp} {K:VK}:opE P_ G (ij (.func (.func 169) #[] #[a,b,c,e,f]) #[y]) h K=al P_ G 169 #[y,a,b,c,e,f] h K:=by kernel_rfl
def KYi (kp o rb l:Nat) (ob:Obj) (l0:List Value) (pb:Hp) (L:List Int) (b:Hp):Prop:=∃ip v,Slc icC 3 ip v L/\Sep [noHp.set kp (.cells (l0.set (o+3) v).toArray 173 (0,0)),ip,pb,noHp.set rb (.cells #[.pointer (some ⟨kp,o,none⟩)] 261 (0,0)),noHp.set l ob] b
theorem eoint8:gc P_ 3 icC.n 8:=eo3
theorem Ox {G:Hp} {y:Value} {kp o rb l:Nat} {oo:Option Exit->Obj} {l0:List Value} {pb:Hp} {r:Rg} (gl:G l=none) (ho:∀e,gu (oo e)=false) (hlen:o+3<l0.length) (g2:r 2 = .pointer (some ⟨rb,0,none⟩))
   (hy:∀(args:Array Value) (h1:Hp) (K1:Value->Hp->Prop),args.size=1->h1 l=some (oo none)->
     Qv G (setR 23 #[12] args r) h1 (fun e r2 h2=>e = .normal/\h2 l=some (oo none)/\∀ob,gu ob=false->Qu G r2 (h2.set l ob) (fun e _ h3=>h3 l=some ob/\match e with
       | .normal=>K1 (.bool true) (h3.set l (oo none))
       | .panic _=>False
       | .outgrown=>False
       |e=>K1 (.bool false) (h3.set l (oo (some e)))))->
     opH P_ G (ij y args) h1 K1):
   Yf G y (KYi kp o rb l (oo none) l0 pb):=by
 rintro L p b q h hL ⟨ip,v,sl,sb⟩ s d
 have s1:Sep [q,noHp.set kp (.cells (l0.set (o+3) v).toArray 173 (0,0)),ip,pb,noHp.set rb (.cells #[.pointer (some ⟨kp,o,none⟩)] 261 (0,0)),noHp.set l (oo none)] h:=by
   have:=s.swap.split sb
   simpa using this
 refine hy (plA p) h _ rfl (s1.at 5 rfl ag) ?_
 rw [Ww (by decide)]
 unfold Qv
 refine ⟨rfl,s1.at 5 rfl ag,fun ob hob=>?_⟩
 have s2:=(s1.pick 5 rfl rfl).put (o:=ob) ag
 rw [set_set]at s2
 have d2:Dis G (h.set l ob):=d.set gl
 generalize Hp.set h l ob=h2 at s2 d2 ⊢
 obtain ⟨sa,cap,rfl,hcap⟩:=sl.len (by decide)
 obtain ⟨Q,s3,sQ⟩:=Lq (s2.sel (L':=[noHp.set rb (.cells #[.pointer (some ⟨kp,o,none⟩)] 261 (0,0)),noHp.set kp (.cells (l0.set (o+3) (.slice sa L.length cap)).toArray 173 (0,0)),ip,pb,noHp.set l ob,q]) [5,2,3,4,0,1] (by decide) rfl)
 have cr:af G Q ⟨rb,0,none⟩=some (.pointer (some ⟨kp,o,none⟩)):=by rw [aj (ai (sQ.at 0 rfl ag))];rfl
 have ck:af G Q ⟨kp,o+3,none⟩=some (.slice sa L.length cap):=by
   rw [aj (ai (sQ.at 1 rfl ag))]
   simp [hlen]
 unfold Qu
 refine ⟨Q,s3.in 0 rfl,?_⟩
 simp (disch:=decide) only [Jh,g2,cr,ck]
 intro x hx gx
 have s4:=s3.past (o := .cells #[p] 3 (0,0)) hx
 have d4:=d2.set (o := .cells #[p] 3 (0,0)) gx
 have hxs:(h2.set x (.cells #[p] 3 (0,0))) x=some (.cells #[p] 3 (0,0)):=ag
 generalize Hp.set h2 x _=h4 at s4 d4 hxs ⊢
 refine ez icC (by decide) (L:=L) (M:=[p]) Fe eoint8 (by decide) (by decide) (s4.pick 1 rfl rfl) d4 sl (Sees.row hxs (by simp [icC,Cod.rows]) (by simp)) (by simp;omega) ?_
 intro v' ip' h5 sl' s5 d5
 refine ⟨s5.in 1 rfl,?_⟩
 have s6:Sep [noHp.set rb (.cells #[.pointer (some ⟨kp,o,none⟩)] 261 (0,0)),noHp.set kp (.cells (l0.set (o+3) (.slice sa L.length cap)).toArray 173 (0,0)),pb,noHp.set l ob,q,ip'] h5:=
   ((s5.pick 1 rfl rfl).open sQ).sel [0,1,3,4,5,2] (by decide) rfl
 obtain ⟨sa',cap',rfl,hcap'⟩:=sl'.len (by decide)
 have hk5:h5 kp=some (.cells (l0.set (o+3) (.slice sa L.length cap)).toArray 173 (0,0)):=s6.at 1 rfl ag
 try simp (disch:=first|decide|omega) only [Jh,Nat.reduceAdd,Nat.reduceMul]
 rw [dh sz168 rfl hk5 (by simpa using hlen)]
 have s7:=(s6.pick 1 rfl rfl).put (o := .cells ((l0.set (o+3) (.slice sa L.length cap)).set (o+3) (.slice sa' (L++[p]).length cap')).toArray 173 (0,0)) ag
 rw [set_set,List.set_set]at s7
 rw [List.set_set]
 have d7:=d5.set (o := .cells (l0.set (o+3) (.slice sa' (L++[p]).length cap')).toArray 173 (0,0)) (d5 _ _ hk5)
 generalize Hp.set h5 kp _=h7 at s7 d7 ⊢
 try simp (disch:=first|decide|omega) only [Jh,Nat.reduceAdd,Nat.reduceMul]
 have hl7:h7 l=some ob:=s7.at 3 rfl ag
 refine ⟨hl7,?_⟩
 have s8:=(s7.pick 3 rfl rfl).put (o:=oo none) ag
 rw [set_set]at s8
 obtain ⟨b',t1,t2⟩:=Sep.pack [_,_,_,_,_] (s8.sel (L':=[noHp.set kp (.cells (l0.set (o+3) (.slice sa' (L++[p]).length cap')).toArray 173 (0,0)),ip',pb,noHp.set rb (.cells #[.pointer (some ⟨kp,o,none⟩)] 261 (0,0)),noHp.set l (oo none),q]) [1,5,3,2,0,4] (by decide) rfl)
 exact ⟨b',t1,d7.set gl,ip',_,sl',t2⟩
theorem KYi.kh {kp o rb l:Nat} {ob:Obj} {l0:List Value} {pb b:Hp} {L:List Int} {U A V:Int} (k:KYi kp o rb l ob l0 pb L b) (ho:3<=o) (h:∀j,j<3->l0[j]?=[Value.int .i64 U,.int .i64 A,.int .i64 V][j]?):KH b kp U A V:=by
 obtain ⟨ip,v,_,s⟩:=k
 refine ⟨_,_,s.at 0 rfl ag,fun j hj=>?_⟩
 rw [List.getElem?_toArray,List.getElem?_set_ne (by omega)]
 exact h j hj
theorem Oy {G h q pb:Hp} {kb nb rb kp o:Nat} {l0:List Value} {U A V n:Int} (hl0:∀j,j<3->l0[j]?=[Value.int .i64 U,.int .i64 A,.int .i64 V][j]?) (ho:3<=o) (hlen:o+3<l0.length) (h3:l0[o+3]?=some (.slice none 0 0)) (kbd:KB U A V) (n1:1<=n) (n2:n<=16)
   (s:Sep [noHp.set kp (.cells l0.toArray 173 (0,0)),pb,noHp.set rb (.cells #[.pointer (some ⟨kp,o,none⟩)] 261 (0,0)),q] h) (h1:q kb=some (.cells #[.pointer (some ⟨kp,0,none⟩)] 50 (0,0))) (h2:q nb=some (.cells #[n] 3 (0,0))):
   al P_ G 151 #[.pointer (some ⟨kb,0,none⟩),.pointer (some ⟨nb,0,none⟩),.pointer (some ⟨rb,0,none⟩)] h (fun v h'=>v = .tuple #[]/\∃ip v',Slc icC 3 ip v' (jr U A V n)/\
     Sep [noHp.set kp (.cells (l0.set (o+3) v').toArray 173 (0,0)),ip,pb,noHp.set rb (.cells #[.pointer (some ⟨kp,o,none⟩)] 261 (0,0)),q] h'/\Dis G h'):=by
 refine al.assume fun d=>aq3 (by simp) ?_
 have hnU:1*1<=n*U:=Int.mul_le_mul n1 kbd.u1 (by omega) (by omega)
 have hnU2:n*U<=16*1000:=Int.mul_le_mul n2 kbd.u2 (by have:=kbd.u1;omega) (by omega)
 have c1:af G h ⟨kb,0,none⟩=some (.pointer (some ⟨kp,0,none⟩)):=by rw [aj (ai (s.at 3 rfl h1))];rfl
 have c2:af G h ⟨nb,0,none⟩=some (.int .i64 n):=by rw [aj (ai (s.at 3 rfl h2))];rfl
 have c3:af G h ⟨kp,0,none⟩=some (.int .i64 U):=by rw [aj (ai (s.at 0 rfl ag))];exact hl0 0 (by decide)
 unfold S151
 simp (disch:=first|decide|omega) only [Jh,c1,c2,c3]
 refine Un.mono ?_
 rintro _ h4 ⟨b1,b2,b3,b4,b5,rfl,s4,d4⟩
 intro y l oo hl gl hoo hy
 rw [Z8]
 have yl:=Ox (kp:=kp) (o:=o) (rb:=rb) (l0:=l0) (pb:=pb) gl hoo hlen (by simp (disch:=decide) only [Jh]) hy
 have hself:l0.set (o+3) (.slice none 0 0)=l0:=by
   apply List.ext_getElem?
   intro i
   by_cases hi:o+3=i
   . subst hi;rw [List.getElem?_set_self hlen,h3]
   . rw [List.getElem?_set_ne hi]
 have s5:Sep [noHp.set l (oo none),noHp.set b3 (.cells #[(0:Int)] 3 (0,0)),noHp.set b4 (.cells #[(0:Int)] 3 (0,0)),noHp.set b1 (.cells #[.pointer (some ⟨kp,0,none⟩)] 50 (0,0)),noHp.set b2 (.cells #[.bool false] 4 (0,0)),noHp.set b5 (.cells #[.int .i64 (n*U)] 3 (0,0)),
     noHp.set kp (.cells l0.toArray 173 (0,0)),pb,noHp.set rb (.cells #[.pointer (some ⟨kp,o,none⟩)] 261 (0,0)),q] (h4.set l (oo none)):=
   (((s4.pick 5 rfl rfl).open s).new (o:=oo none) hl).sel [0,5,6,7,8,9,1,2,3,4] (by decide) rfl
 have d5:Dis G (h4.set l (oo none)):=d4.set gl
 obtain ⟨a,s6,sa⟩:=Sep.pack [_,_,_,_,_] (s5.none.sel (L':=[noHp.set kp (.cells l0.toArray 173 (0,0)),noHp,pb,noHp.set rb (.cells #[.pointer (some ⟨kp,o,none⟩)] 261 (0,0)),noHp.set l (oo none),noHp.set b1 (.cells #[.pointer (some ⟨kp,0,none⟩)] 50 (0,0)),noHp.set b2 (.cells #[.bool false] 4 (0,0)),noHp.set b5 (.cells #[.int .i64 (n*U)] 3 (0,0)),q,noHp.set b3 (.cells #[(0:Int)] 3 (0,0)),noHp.set b4 (.cells #[(0:Int)] 3 (0,0))]) [7,0,8,9,1,4,5,6,10,2,3] (by decide) rfl)
 obtain ⟨Q,s7,sQ⟩:=Sep.pack [_,_,_,_] (s6.sel (L':=[noHp.set b1 (.cells #[.pointer (some ⟨kp,0,none⟩)] 50 (0,0)),noHp.set b2 (.cells #[.bool false] 4 (0,0)),noHp.set b5 (.cells #[.int .i64 (n*U)] 3 (0,0)),q,a,noHp.set b3 (.cells #[(0:Int)] 3 (0,0)),noHp.set b4 (.cells #[(0:Int)] 3 (0,0))]) [1,2,3,4,0,5,6] (by decide) rfl)
 refine (Ri (kp:=kp) yl (fun L a h=>h.kh ho hl0) kbd (a:=a) (q:=Q) ⟨noHp,.slice none 0 0,Slc.nil,by rw [hself];exact sa⟩ (s7.sel [1,2,3,0] (by decide) rfl) (sQ.at 0 rfl ag) (sQ.at 1 rfl ag) (sQ.at 2 rfl ag) (by omega) (by omega)).mono ?_
 rintro _ h8 ⟨a',s8,d8,ip,v',sl,sa'⟩
 have hpl:prof A V (n*U) (n*U).toNat 0 0=jr U A V n:=by unfold jr;rw [if_pos ⟨n1,n2⟩]
 rw [hpl]at sl
 have s9:Sep [noHp.set kp (.cells (l0.set (o+3) v').toArray 173 (0,0)),ip,pb,noHp.set rb (.cells #[.pointer (some ⟨kp,o,none⟩)] 261 (0,0)),q,noHp.set l (oo none)] h8:=
   (((s8.open sa').pick 5 rfl rfl).open sQ).sel [4,5,6,7,3,8] (by decide) rfl
 obtain ⟨h9,s10,t10⟩:=Sep.pack [_,_,_,_,_] s9
 refine ⟨h9,s10.in 0 rfl,?_,.inl ⟨s10.at 1 rfl ag,?_⟩⟩
 . rcases s10.apart (b:=noHp.set l (oo none)) (by simp) l with e|e
   . exact e
   . rw [ag]at e;cases e
 try simp only [Jh]
 exact ⟨ip,v',sl,t10,fun b o e=>d8 b o (s10.in 0 rfl _ _ e)⟩
def ka:=jq bC (jq (jq (jq (jq @al261 @and_true) (jq @Ua (jq @kg @ny))) (jq (jq @cf123 (jq @cf150 @Xz)) (jq @fa170_0 (jq @fa170_1 @fa173_0)))) (jq (jq (jq @am9 (jq @Ii @ld261)) (jq @ld3 (jq @ld3p @ld50))) (jq (jq @ld50p (jq @Mk @ld)) (jq @ir (jq @jy @true_and)))))
abbrev RunE:=Bool × Option Addr × Nat × Nat
def runC:Cod RunE:=⟨4,fun x=>[.int .u32 (if x.1=true then 1 else 0),.int .i32 0,.int .u32 0,.slice x.2.1 x.2.2.1 x.2.2.2],fun _=>rfl,fun _ v hv=>by simp at hv;rcases hv with rfl|rfl|rfl|rfl<;>rfl⟩
def mz (U A V:Int) (R:List RunE):List Value := .int .i64 U :: .int .i64 A :: .int .i64 V::runC.rows R
def KP (a:Hp) (kp:Nat) (U A V:Int):Prop:=KB U A V/\∃(R:List RunE) (pb:Hp),R.length=17/\Sep [noHp.set kp (.cells (mz U A V R).toArray 173 (0,0)),pb] a/\
 ∀(i:Nat) (x:RunE),R[i]?=some x->(x.1=true->Slc icC 3 pb (.slice x.2.1 x.2.2.1 x.2.2.2) (jr U A V i))/\(x.1=false->x.2=(none,0,0))
theorem kcell {U A V:Int} {R:List RunE} {i j:Nat} {x:RunE} (h:R[i]?=some x) (hj:j<4):(mz U A V R)[i*4+3+j]?=(runC.enc x)[j]?:=by
 unfold mz
 rw [show i*4+3+j=(i*4+j)+1+1+1 by omega,List.getElem?_cons_succ,List.getElem?_cons_succ,List.getElem?_cons_succ]
 have:=runC.rows_get (t:=[]) (j:=j) h hj
 rw [List.append_nil]at this
 exact this
theorem kdone {U A V:Int} {R:List RunE} {i:Nat} {x:RunE} (h:R[i]?=some x) {s:Option Addr} {n c:Nat}:
   ((((mz U A V R).set (i*4+3+1) (.int .i32 1)).set (i*4+3+3) (.slice s n c)).set (i*4+3) (.int .u32 1)).set (i*4+3+1) (.int .i32 0)=mz U A V (R.set i (true,s,n,c)):=by
 have hil:i<R.length:=(List.getElem?_eq_some_iff.1 h).1
 have c2:(runC.rows R)[i*4+2]?=some (.int .u32 0):=by
   have:=runC.rows_get (t:=[]) (j:=2) h (by decide)
   rw [List.append_nil]at this
   exact this
 have hrl:(runC.rows R).length=R.length*4:=by rw [runC.rows_length];rfl
 have hp:=runC.rows_put (t:=[]) (x:=((true,s,n,c):RunE)) hil
 rw [List.append_nil,List.append_nil]at hp
 unfold mz
 simp only [show i*4+3+1=(i*4+1)+1+1+1 by omega,show i*4+3+3=(i*4+3)+1+1+1 by omega,show i*4+3=(i*4)+1+1+1 by omega,List.set_cons_succ]
 rw [<- hp]
 simp only [List.cons.injEq,true_and]
 have e:putL (runC.rows R) (i*runC.n) (runC.enc (true,s,n,c))=((((runC.rows R).set (i*4) (.int .u32 1)).set (i*4+1) (.int .i32 0)).set (i*4+1+1) (.int .u32 0)).set (i*4+1+1+1) (.slice s n c):=rfl
 rw [e]
 apply List.ext_getElem?
 intro j
 simp only [List.getElem?_set,List.length_set]
 rw [hrl]
 repeat' split
 all_goals first
   |rfl
   |(exfalso;omega)
   |(rw [<- ‹i*4+1+1=j›];exact c2)
theorem un17:P_.underlying 171=some (.array 17 170):=by kernel_rfl
theorem szrun:(P_.info? 170).map (·.size)=some 4:=by kernel_rfl
theorem R9 {G h a:Hp} {R:List Hp} {kp:Nat} {U A V n:Int} (k:KP a kp U A V) (s:Sep (a::R) h) (hn : -9223372036854775808<=n/\n<=9223372036854775807):
   al P_ G 123 #[.pointer (some ⟨kp,0,none⟩),n] h (fun v h'=>∃a' sa cap,v = .slice sa (jr U A V n).length cap/\KP a' kp U A V/\Sep (a'::R) h'/\Dis G h'):=by
 obtain ⟨kbd,L,pb,hL,sp,hr⟩:=id k
 have kbd':=kbd
 obtain ⟨ku1,ku2,ka1,ka2,kv1,kv2⟩:=kbd
 refine al.assume fun d=>as4 (by simp) ?_
 unfold S123
 simp only [ka]
 intro x hx gx y hy gy
 have hxy:x≠y:=je hy
 have s1:=(s.open sp).new (o := .cells #[.pointer (some ⟨kp,0,none⟩)] 50 (0,0)) hx
 have s2:=s1.new (o := .cells #[n] 3 (0,0)) hy
 have d2:=(d.set (o := .cells #[.pointer (some ⟨kp,0,none⟩)] 50 (0,0)) gx).set (o := .cells #[n] 3 (0,0)) gy
 generalize Hp.set (Hp.set h x _) y _=h2 at s2 d2 ⊢
 have cx:af G h2 ⟨x,0,none⟩=some (.pointer (some ⟨kp,0,none⟩)):=by rw [aj (ai (s2.at 1 rfl ag))];rfl
 have cy:af G h2 ⟨y,0,none⟩=some (.int .i64 n):=by rw [aj (ai (s2.at 0 rfl ag))];rfl
 have c0:af G h2 ⟨kp,0,none⟩=some (.int .i64 U):=by rw [aj (ai (s2.at 2 rfl ag))];rfl
 simp only [ka,cx,cy,c0,ig (show ¬U<1 by omega)]
 have out:¬(1<=n/\n<=16)->∃a' sa cap,(.slice none 0 0:Value) = .slice sa (jr U A V n).length cap/\KP a' kp U A V/\Sep (a'::R) h2/\Dis G h2:=fun hno=>by
   have e:jr U A V n=[]:=by unfold jr;rw [if_neg hno]
   rw [e]
   obtain ⟨a',t1,t2⟩:=Sep.pack [_,_] (s2.drop.drop)
   exact ⟨a',none,0,rfl,⟨kbd',L,pb,hL,t2,hr⟩,t1,d2⟩
 by_cases h1:n<1
 . simp only [ka,gi h1,fe]
   exact out (by omega)
 by_cases h16:n>16
 . simp only [ka,cy,ig h1,gi h16]
   exact out (by omega)
 simp only [ka,cy,ig h1,ig h16]
 unfold Y7
 simp (disch:=decide) only [ka,cx,cy,Io un17 szrun (show 0<=n by omega) (show n<(17:Nat)by omega)]
 intro z hz gz
 have s3:=s2.new (o := .cells #[.pointer (some ⟨kp,n.toNat*4+3,none⟩)] 261 (0,0)) hz
 have d3:=d2.set (o := .cells #[.pointer (some ⟨kp,n.toNat*4+3,none⟩)] 261 (0,0)) gz
 rw [show 3+n.toNat*4=n.toNat*4+3 by omega]
 rw [dh sz261 rfl ag (by simp),set_set]
 try simp only [ka,List.set_cons_zero]
 generalize Hp.set h2 z _=h3 at s3 d3 ⊢
 have cz:af G h3 ⟨z,0,none⟩=some (.pointer (some ⟨kp,n.toNat*4+3,none⟩)):=by rw [aj (ai (s3.at 0 rfl ag))];rfl
 try simp (disch:=first|decide|omega) only [ka,Nat.reduceAdd,Nat.reduceMul,cz]
 obtain ⟨e,he⟩:∃e,L[n.toNat]?=some e:=⟨_,List.getElem?_eq_getElem (by omega)⟩
 obtain ⟨r1,r2⟩:=hr _ _ he
 have hni:((n.toNat:Nat):Int)=n:=by omega
 have hkp:h3 kp=some (.cells (mz U A V L).toArray 173 (0,0)):=s3.at 3 rfl ag
 cases hd:e.1 with
 |true=>
   have sl:=r1 hd
   rw [hni]at sl
   refine (On.aa0 hkp (by rw [kcell he (j:=0) (by decide)];simp [runC,hd])).mono ?_
   rintro _ h3 ⟨rfl,rfl⟩
   have c3:af G h3 ⟨kp,n.toNat*4+3+3,none⟩=some (.slice e.2.1 e.2.2.1 e.2.2.2):=by
     rw [aj (ai hkp)]
     exact kcell he (j:=3) (by decide)
   try simp only [ka,cz,c3]
   obtain ⟨sa,cap,e2,_⟩:=sl.len (by decide)
   obtain ⟨a',t1,t2⟩:=Sep.pack [_,_] (s3.drop.drop.drop)
   exact ⟨a',sa,cap,e2,⟨kbd',L,pb,hL,t2,hr⟩,t1,d3⟩
 |false=>
   have sl:=r2 hd
   obtain ⟨q,s4,sq⟩:=Sep.rest [_,_,_] ((s3.pick 3 rfl rfl).pick 4 rfl rfl).swap
   have hcell:∀j,j<4->(mz U A V L)[n.toNat*4+3+j]?=(runC.enc e)[j]?:=fun j hj=>kcell he hj
   have hlen:(mz U A V L).length=71:=by unfold mz;simp only [List.length_cons];rw [runC.rows_length,hL];rfl
   have c0':=hcell 0 (by decide)
   have c1':=hcell 1 (by decide)
   have c3':=hcell 3 (by decide)
   have s5:=s4.put (o := .cells ((mz U A V L).set (n.toNat*4+3+1) (.int .i32 1)).toArray 173 (0,0)) ag
   rw [set_set]at s5
   have hpl:=(Oy (G:=G) (kp:=kp) (o:=n.toNat*4+3) (l0:=(mz U A V L).set (n.toNat*4+3+1) (.int .i32 1)) (n:=n) (fun j hj=>by rw [List.getElem?_set_ne (by omega)];unfold mz;rcases (show j=0\/j=1\/j=2 by omega)with rfl|rfl|rfl<;>rfl) (by omega) (by rw [List.length_set,hlen];omega)
     (by rw [List.getElem?_set_ne (by omega),c3'];simp [runC,sl]) kbd' (by omega) (by omega) s5 (sq.at 1 rfl ag) (sq.at 0 rfl ag))
   refine (On.U1 (Q:=fun l' h'=>∃ip v',l'=((mz U A V L).set (n.toNat*4+3+1) (.int .i32 1)).set (n.toNat*4+3+3) v'/\Slc icC 3 ip v' (jr U A V n)/\Sep [noHp.set kp (.cells l'.toArray 173 (0,0)),ip,pb,noHp.set z (.cells #[.pointer (some ⟨kp,n.toNat*4+3,none⟩)] 261 (0,0)),q] h'/\Dis G h')
     hkp (by rw [c0'];simp [runC,hd]) (by rw [c1'];rfl) (fun args w=>by kernel_rfl) (hpl.mono ?_)).mono ?_
   . rintro _ h' ⟨rfl,ip,v',sl',s6,d6⟩
     refine ⟨rfl,_,s6.at 0 rfl ag,?_,?_,ip,v',rfl,sl',s6,d6⟩
     . rw [List.getElem?_set_ne (by omega),List.getElem?_set_ne (by omega),c0'];simp [runC,hd]
     . rw [List.getElem?_set_ne (by omega),List.getElem?_set_self (by rw [hlen];omega)]
   . rintro _ h4 ⟨rfl,l',h1,⟨ip,v',rfl,sl',s6,d6⟩,hk1,rfl⟩
     obtain ⟨sa,cap,rfl,hcap⟩:=sl'.len (by decide)
     rw [kdone he]
     have s7:=s6.put (o := .cells (mz U A V (L.set n.toNat (true,sa,(jr U A V n).length,cap))).toArray 173 (0,0)) ag
     rw [set_set]at s7
     have d7:=d6.set (o := .cells (mz U A V (L.set n.toNat (true,sa,(jr U A V n).length,cap))).toArray 173 (0,0)) (d6 _ _ hk1)
     generalize Hp.set h1 kp _=h7 at s7 d7 ⊢
     have cz7:af G h7 ⟨z,0,none⟩=some (.pointer (some ⟨kp,n.toNat*4+3,none⟩)):=by rw [aj (ai (s7.at 3 rfl ag))];rfl
     have he7:(L.set n.toNat (true,sa,(jr U A V n).length,cap))[n.toNat]?=some (true,sa,(jr U A V n).length,cap):=by rw [List.getElem?_set_self (by omega)]
     have c37:af G h7 ⟨kp,n.toNat*4+3+3,none⟩=some (.slice sa (jr U A V n).length cap):=by
       rw [aj (ai (s7.at 0 rfl ag))]
       exact kcell he7 (j:=3) (by decide)
     try simp only [ka,cz7,c37]
     have s8:=Sep.unrest [_,_,_,_] s7 sq
     obtain ⟨pb',s9,t9⟩:=Sep.pack [_,_] (((s8.pick 1 rfl rfl).pick 2 rfl rfl).swap)
     obtain ⟨a',s10,t10⟩:=Sep.pack [_,_] s9.swap
     refine ⟨a',sa,cap,rfl,⟨kbd',_,pb',by rw [List.length_set];exact hL,t10,fun i u hu=>?_⟩,s10.swap.drop.swap.drop.swap.drop,d7⟩
     by_cases hi:n.toNat=i
     . subst hi
       rw [he7]at hu
       cases hu
       refine ⟨fun _=>?_,fun h=>by cases h⟩
       rw [hni]
       exact sl'.le (t9.in 0 rfl)
     . rw [List.getElem?_set_ne hi]at hu
       obtain ⟨q1,q2⟩:=hr i u hu
       exact ⟨fun h=>(q1 h).le (t9.in 1 rfl),q2⟩
theorem Zp {G h a:Hp} {R:List Hp} {kp:Nat} {U A V n:Int} (k:KP a kp U A V) (s:Sep (a::R) h) (hn : -9223372036854775808<=n/\n<=9223372036854775807):
   al P_ G 72 #[.pointer (some ⟨kp,0,none⟩),n] h (fun v h'=>v = .int .i64 (Ff U A V n)/\∃a',KP a' kp U A V/\Sep (a'::R) h'/\Dis G h'):=by
 refine enter72 (by simp) ?_
 unfold S72
 simp only [ka]
 refine (R9 k s hn).mono ?_
 rintro _ h1 ⟨a',sa,cap,rfl,k',s',d'⟩
 simp only [ka]
 exact ⟨rfl,a',k',s',d'⟩
def Sl (U A V:Int):List RunE:=List.replicate 17 (false,none,0,0)
theorem bdkin {G h:Hp} {U A V:Int} {K:VK}:wpH P_ G (Instr.build 173 #[(0,.int .i64 U),(1,.int .i64 A),(2,.int .i64 V)]) h K=K (.agg (mz U A V (Sl U A V)).toArray) h:=by kernel_rfl
theorem Il {G h:Hp} {U A V:Int}:al P_ G 29 #[U,A,V] h (fun v h'=>
   (KB U A V/\∃a kp,v = .tuple #[.pointer (some ⟨kp,0,none⟩),(0:Int)]/\KP a kp U A V/\Sep [a,h] h'/\Dis G h')\/(¬KB U A V/\v = .tuple #[.pointer none,(1:Int)]/\h'=h)):=by
 refine al.assume fun d=>enter29 (by simp) ?_
 unfold S29
 simp only [ka]
 refine di (fun m r h'=>∃i:Nat,m=3-i/\i<=3/\h'=h/\r 0 = .int .i64 U/\r 1 = .int .i64 A/\r 2 = .int .i64 V/\r 13 = .agg #[U,A,V]/\r 14 = .int .i64 i/\∀j x,j<i->[U,A,V][j]?=some x->1<=x/\x<=1000) ?_ (m:=3)
   ⟨0,rfl,by omega,rfl,by simp (disch:=decide) only [ka],by simp (disch:=decide) only [ka],by simp (disch:=decide) only [ka],by simp (disch:=decide) only [ka],by simp only [ka];rfl,fun j x hj=>by omega⟩
 rintro m r h' ⟨i,rfl,hi,rfl,g0,g1,g2,g13,g14,hall⟩ X hX
 unfold aB7
 simp only [ka,g14]
 by_cases h3:i<3
 . rw [gi (show (i:Int)<3 by omega)]
   simp only [ka]
   obtain ⟨x,hx⟩:∃x,[U,A,V][i]?=some x:=⟨_,List.getElem?_eq_getElem (by simpa using h3)⟩
   have hix:∀(K:Value->Hp->Prop),wpH P_ G (Instr.index 155 (.agg #[U,A,V]) (.int .i64 (i:Int))) h' K=K x h':=by
     intro K
     rcases (show i=0\/i=1\/i=2 by omega)with rfl|rfl|rfl<;>cases hx<;>kernel_rfl
   have hno:¬(1<=x/\x<=1000)->¬KB U A V:=fun hno kb=>by
     obtain ⟨q1,q2,q3,q4,q5,q6⟩:=kb
     rcases (show i=0\/i=1\/i=2 by omega)with rfl|rfl|rfl<;>cases hx<;>omega
   unfold Oe
   simp (disch:=decide) only [ka,g13,g14,hix]
   by_cases hx1:x<1
   . rw [gi hx1]
     simp only [ka,fe]
     exact .inr (hno (by omega))
   . rw [ig hx1]
     simp only [ka]
     by_cases hx2:x>1000
     . rw [gi hx2]
       simp only [ka]
       exact .inr (hno (by omega))
     . rw [ig hx2]
       simp only [ka]
       unfold Od
       simp (disch:=first|decide|omega) only [ka,g14]
       refine hX (3-(i+1)) _ _ (by omega) ⟨i+1,rfl,h3,rfl,by simp (disch:=decide) only [ka,g0],by simp (disch:=decide) only [ka,g1],by simp (disch:=decide) only [ka,g2],by simp (disch:=decide) only [ka,g13],by simp only [ka];rfl,fun j y hj hy=>?_⟩
       rcases (show j<i\/j=i by omega)with hj|rfl
       . exact hall j y hj hy
       . rw [hx]at hy;cases hy;omega
 . obtain rfl:i=3:=by omega
   rw [ig (show ¬((3:Nat):Int)<3 by omega)]
   have kb:KB U A V:=by
     have a0:=hall 0 U (by omega) rfl
     have a1:=hall 1 A (by omega) rfl
     have a2:=hall 2 V (by omega) rfl
     exact ⟨a0.1,a0.2,a1.1,a1.2,a2.1,a2.2⟩
   simp only [ka]
   unfold aB8
   simp (disch:=decide) only [ka,g0,g1,g2,bdkin]
   intro x hx gx
   refine .inl ⟨kb,noHp.set x (.cells (mz U A V (Sl U A V)).toArray 173 (0,0)),x,rfl,⟨kb,Sl U A V,noHp,by simp [Sl],Sep.one.none.swap,fun i e he=>?_⟩,Sep.one.new hx,d.set gx⟩
   have:e=(false,none,0,0):=by
     unfold Sl at he
     rw [List.getElem?_replicate]at he
     split at he
     . exact (Option.some.inj he).symm
     . cases he
   subst this
   exact ⟨fun h=>(by cases h),fun _=>rfl⟩
end Go.Proofs.YtfflipnhffknnaaGreatDoor
end
section
namespace Go.Proofs.YtfflipnhffknnaaGreatDoor
open Go Go.HL
def bRpB:=jq bC (jq (jq (jq (jq (jq @Bool.and_true @Bool.true_and) (jq @Ds @Jd)) (jq (jq @Jc @cf159) (jq @cf40 (jq @cf60 @cf82)))) (jq (jq (jq @cf83 @cf84) (jq @cf85 @X0)) (jq (jq @I3 @Pu) (jq @Pt (jq @I2 @Xl))))) (jq (jq (jq (jq @zr @Bv) (jq @tk @Ex)) (jq (jq @ld22 @Xc) (jq @ld23 (jq @ld23p @ld26)))) (jq (jq (jq @zi @ld28) (jq @t6 (jq @ld3 @ld30))) (jq (jq @qw @ld4) (jq @ln22 (jq @ln23 @true_and))))))
theorem boxed {G h h1:Hp} {x:Nat} {o:Obj} (e:h.set x o=h1) (hx:h x=none) (d:Dis G h) (gx:G x=none):h.le h1/\Dis G h1/\h1 x=some o:=by
 subst e
 exact ⟨b8 hx,d.set gx,ag⟩
theorem qj {G h:Hp} {v:Value} {C:Conf} {c:Cell} (hv:CV G h v C) (hL:C.bl.length<=100000000000000):al P_ G 60 #[v,uc c] h (fun u h'=>u = .bool (nc C c)/\h'=h):=by
 have hv0:=hv
 obtain ⟨ab,cb,ap,cp,ar,cr,az,cs,rfl,ca⟩:=hv
 refine al.assume fun d=>quietly (enter60 (by simp) ?_)
 unfold S60
 simp only [bRpB]
 intro x hx gx
 generalize e1:Hp.set h x _=h1
 obtain ⟨l1,d1,b1⟩:=boxed e1 hx d gx
 intro y hy gy
 generalize e2:Hp.set h1 y _=h2
 obtain ⟨l2,d2,b2⟩:=boxed e2 hy d1 gy
 have cx:∀k,af G h2 ⟨x,k,none⟩=_:=fun k=>aj (ai (l2 _ _ b1))
 have cy:∀k,af G h2 ⟨y,k,none⟩=_:=fun k=>aj (ai b2)
 have ca2:=ca.up (l1.trans l2) d2
 try simp only [bRpB,cx,cy]
 refine (Gu ca2.cv).mono ?_
 rintro _ _ ⟨rfl,rfl⟩
 unfold nc
 cases hc:inB C c with
 |false=>simp only [bRpB,hc];exact ⟨rfl,l1.trans l2⟩
 |true=>
 simp only [bRpB,hc,cx,cy]
 refine (qm ca2.bl hL).mono ?_
 rintro _ _ ⟨rfl,rfl⟩
 simp only [bRpB]
 refine ⟨?_,l1.trans l2⟩
 congr 1
 rw [Bool.eq_iff_iff]
 simp
theorem Uu {G h:Hp} {v:Value} {C:Conf} {c:Cell} (hv:CV G h v C) (hL:C.po.length<=100000000000000):al P_ G 159 #[v,uc c] h (fun u h'=>u = .int .i64 (H7 C c)/\h'=h):=by
 obtain ⟨ab,cb,ap,cp,ar,cr,az,cs,rfl,ca⟩:=hv
 refine al.assume fun d=>quietly (ap5 (by simp) ?_)
 unfold S159
 simp only [bRpB]
 intro x hx gx
 generalize e1:Hp.set h x _=h1
 obtain ⟨l1,d1,b1⟩:=boxed e1 hx d gx
 intro y hy gy
 generalize e2:Hp.set h1 y _=h2
 obtain ⟨l2,d2,b2⟩:=boxed e2 hy d1 gy
 have cx:∀k,af G h2 ⟨x,k,none⟩=_:=fun k=>aj (ai (l2 _ _ b1))
 have cy:∀k,af G h2 ⟨y,k,none⟩=_:=fun k=>aj (ai b2)
 have ca2:=ca.up (l1.trans l2) d2
 refine di (fun m r h3=>∃i:Nat,m=C.po.length-i/\i<=C.po.length/\r 2 = .pointer (some ⟨x,0,none⟩)/\r 3 = .pointer (some ⟨y,0,none⟩)/\r 5 = .int .i64 i/\c∉C.po.take i/\h3=h2) ?_
   (m:=C.po.length) ⟨0,rfl,Nat.zero_le _,by simp (disch:=decide) only [bRpB],by simp (disch:=decide) only [bRpB],by simp only [bRpB]<;>rfl,by simp,rfl⟩
 rintro m r h3 ⟨i,rfl,hi,g2,g3,g5,hni,rfl⟩ X HX
 unfold Yj
 simp only [bRpB,g2,g5,cx]
 refine bv (fun hlt=>?_) (fun hge=>?_)
 . have hlt':i<C.po.length:=by omega
   obtain ⟨z,hz⟩:∃x,C.po[i]?=some x:=⟨_,List.getElem?_eq_getElem hlt'⟩
   obtain ⟨b,o,rfl,y0,y1⟩:=Sees.cell ca2.po hz
   have htk:C.po.take (i+1)=C.po.take i++[z]:=by rw [List.take_add_one,hz];rfl
   unfold J1
   simp (disch:=decide) only [bRpB,g2,g5,g3,cx,cy,qe (Int.natCast_nonneg i) hlt,y0,y1,zw]
   cases hb:(z==c)with
   |true=>
     simp only [bRpB,g5]
     have hzc:z=c:=by simpa using hb
     subst hzc
     refine ⟨?_,l1.trans l2⟩
     have hm:z∈C.po:=List.mem_of_getElem? hz
     unfold H7
     rw [if_pos hm]
     congr 1
     have h1:C.po=C.po.take i++z::C.po.drop (i+1):=by
       have:=List.getElem?_eq_some_iff.1 hz
       conv=>lhs;rw [<- List.take_append_drop i C.po,List.drop_eq_getElem_cons hlt',this.2]
     rw [h1,List.idxOf_append,if_neg hni,List.idxOf_cons_self,List.length_take]
     omega
   |false=>
     simp only [bRpB]
     unfold J0
     simp (disch:=first|decide|omega) only [bRpB,g5]
     refine HX (C.po.length-(i+1)) _ _ (by omega) ⟨i+1,rfl,hlt',by simp (disch:=decide) only [bRpB,g2],by simp (disch:=decide) only [bRpB,g3],by simp only [bRpB]<;>rfl,?_,rfl⟩
     rw [htk,List.mem_append,List.mem_singleton]
     rintro (h|rfl)
     . exact hni h
     . simp at hb
 . obtain rfl:i=C.po.length:=by omega
   rw [List.take_of_length_le (Nat.le_refl _)]at hni
   show Qt _ _ _ _
   unfold Qt
   simp only [bRpB]
   refine ⟨?_,l1.trans l2⟩
   unfold H7
   rw [if_neg hni]
theorem tw {G h:Hp} {p:Pose}:al P_ G 40 #[ja p] h (fun u h'=>∃b,u = .slice (some ⟨b,0,none⟩) 2 2/\h b=none/\G b=none/\h'=h.set b (.cells #[p.x,p.y,(east p).1,(east p).2] 28 (0,0))):=by
 refine al.assume fun d=>al.less (enter40 (by simp) (R:=fun u h'=>∃b,u = .slice (some ⟨b,0,none⟩) 2 2/\h b=none/\G b=none/\(h.set b (.cells #[p.x,p.y,(east p).1,(east p).2] 28 (0,0))).le h') ?_) ?_
 rotate_left
 . rintro v h' ⟨b,e,h1,h2,h3⟩
   exact ⟨_,h3,b,e,h1,h2,rfl⟩
 unfold S40
 simp only [bRpB]
 intro x hx gx
 generalize e1:Hp.set h x _=h1
 obtain ⟨l1,d1,b1⟩:=boxed e1 hx d gx
 have cx:∀k,af G h1 ⟨x,k,none⟩=_:=fun k=>aj (ai b1)
 try simp (disch:=first|decide|omega) only [bRpB,Nat.reduceAdd,Nat.reduceMul,cx]
 unfold east wr
 cases hd:p.d with
 |true=>
   try simp only [bRpB,cx]
   intro b hb gb
   exact ⟨b,rfl,l1.none hb,gb,l1.both⟩
 |false=>
   try simp only [bRpB,cx]
   unfold az8
   simp (disch:=decide) only [bRpB,cx]
   intro b hb gb
   exact ⟨b,rfl,l1.none hb,gb,l1.both⟩
theorem vq {G h:Hp} {v:Value} {C:Conf} {p:Pose} (hv:CV G h v C) (hL:C.bl.length<=100000000000000):al P_ G 22 #[v,ja p] h (fun u h'=>u = .bool (fi C p)/\h'=h):=by
 obtain ⟨ab,cb,ap,cp,ar,cr,az,cs,rfl,ca⟩:=hv
 refine al.assume fun d=>quietly (enter22 (by simp) ?_)
 unfold S22
 simp only [bRpB]
 intro x hx gx
 generalize e1:Hp.set h x _=h1
 obtain ⟨l1,d1,b1⟩:=boxed e1 hx d gx
 intro y hy gy
 generalize e2:Hp.set h1 y _=h2
 obtain ⟨l2,d2,b2⟩:=boxed e2 hy d1 gy
 have cy:∀k,af G h2 ⟨y,k,none⟩=_:=fun k=>aj (ai b2)
 try simp (disch:=first|decide|omega) only [bRpB,Nat.reduceAdd,Nat.reduceMul,cy]
 refine tw.mono ?_
 rintro _ _ ⟨b,rfl,hb,gb,rfl⟩
 generalize e3:Hp.set h2 b _=h3
 obtain ⟨l3,d3,b3⟩:=boxed e3 hb d2 gb
 have L:=(l1.trans l2).trans l3
 have cx:∀k,af G h3 ⟨x,k,none⟩=_:=fun k=>aj (ai (l3 _ _ (l2 _ _ b1)))
 have cb3:∀k,af G h3 ⟨b,k,none⟩=_:=fun k=>aj (ai b3)
 have ca3:=ca.up L d3
 try simp only [bRpB,cx,cb3,qe (by decide:(0:Int)<=0) (by decide:(0:Int)<(2:Nat)),Int.toNat_zero,Nat.zero_mul]
 refine (qj (c:=(p.x,p.y)) ca3.cv hL).mono ?_
 rintro _ _ ⟨rfl,rfl⟩
 unfold fi
 cases hc:nc C (p.x,p.y)with
 |false=>simp only [bRpB,hc];exact ⟨rfl,L⟩
 |true=>
 try simp only [bRpB,Nat.reduceAdd,cx,cb3,qe (by decide:(0:Int)<=1) (by decide:(1:Int)<(2:Nat)),Int.toNat_one,Nat.one_mul]
 refine (qj (c:=east p) ca3.cv hL).mono ?_
 rintro _ _ ⟨rfl,rfl⟩
 try simp only [bRpB]
 first|exact L|exact ⟨by simp,L⟩
theorem Cr {G h:Hp} {v:Value} {C:Conf} {c:Cell} (hv:CV G h v C) (hL:C.bl.length<=100000000000000):al P_ G 85 #[v,uc c] h (fun u h'=>u = .bool (lj C c)/\h'=h):=by
 obtain ⟨ab,cb,ap,cp,ar,cr,az,cs,rfl,ca⟩:=hv
 refine al.assume fun d=>quietly (enter85 (by simp) ?_)
 unfold S85
 simp only [bRpB]
 intro x hx gx
 generalize e1:Hp.set h x _=h1
 obtain ⟨l1,d1,b1⟩:=boxed e1 hx d gx
 intro y hy gy
 generalize e2:Hp.set h1 y _=h2
 obtain ⟨l2,d2,b2⟩:=boxed e2 hy d1 gy
 have L:=l1.trans l2
 have cx:∀k,af G h2 ⟨x,k,none⟩=_:=fun k=>aj (ai (l2 _ _ b1))
 have cy:∀k,af G h2 ⟨y,k,none⟩=_:=fun k=>aj (ai b2)
 have ca2:=ca.up L d2
 try simp only [bRpB,cx,cy]
 refine (qj (c:=(IntKind.i64.wrap (c.1+1),c.2)) ca2.cv hL).mono ?_
 rintro _ _ ⟨rfl,rfl⟩
 unfold lj wr
 cases hc:nc C (IntKind.i64.wrap (c.1+1),c.2)with
 |true=>simp only [bRpB,hc];first|exact L|exact ⟨rfl,L⟩
 |false=>
 try simp only [bRpB,cx,cy]
 refine (qj (c:=(c.1,IntKind.i64.wrap (c.2+1))) ca2.cv hL).mono ?_
 rintro _ _ ⟨rfl,rfl⟩
 try simp (disch:=first|decide|omega) only [bRpB,Nat.reduceAdd,Nat.reduceMul]
 first|exact L|exact ⟨by simp,L⟩
theorem H0 {G h:Hp} {v:Value} {C:Conf} {c:Cell} (hv:CV G h v C) (hL:C.ro.length<=100000000000000):al P_ G 84 #[v,uc c] h (fun u h'=>u = .bool (rh C c)/\h'=h):=by
 obtain ⟨ab,cb,ap,cp,ar,cr,az,cs,rfl,ca⟩:=hv
 refine al.assume fun d=>quietly (enter84 (by simp) ?_)
 unfold S84
 simp only [bRpB]
 intro x hx gx
 generalize e1:Hp.set h x _=h1
 obtain ⟨l1,d1,b1⟩:=boxed e1 hx d gx
 intro y hy gy
 generalize e2:Hp.set h1 y _=h2
 obtain ⟨l2,d2,b2⟩:=boxed e2 hy d1 gy
 have L:=l1.trans l2
 have b1':=l2 _ _ b1
 have ca2:=ca.up L d2
 refine di (fun m r h3=>∃i:Nat,m=C.ro.length-i/\i<=C.ro.length/\r 2 = .pointer (some ⟨x,0,none⟩)/\r 3 = .pointer (some ⟨y,0,none⟩)/\r 5 = .int .i64 i/\((C.ro.take i).any fun p=>decide (((bz p).count c:Int)>0))=false/\h2.le h3/\Dis G h3) ?_
   (m:=C.ro.length) ⟨0,rfl,Nat.zero_le _,by simp (disch:=decide) only [bRpB],by simp (disch:=decide) only [bRpB],by simp only [bRpB]<;>rfl,by simp,Hp.le.refl _,d2⟩
 rintro m r h3 ⟨i,rfl,hi,g2,g3,g5,hni,l3,d3⟩ X HX
 have cx:∀k,af G h3 ⟨x,k,none⟩=_:=fun k=>aj (ai (l3 _ _ b1'))
 unfold aw9
 simp only [bRpB,g2,g5,cx]
 refine bv (fun hlt=>?_) (fun hge=>?_)
 . have hlt':i<C.ro.length:=by omega
   obtain ⟨z,hz⟩:∃x,C.ro[i]?=some x:=⟨_,List.getElem?_eq_getElem hlt'⟩
   have ca3:=ca2.up l3 d3
   obtain ⟨b,o,rfl,y0,y1,y2⟩:=Sees.pose ca3.ro hz
   have htk:C.ro.take (i+1)=C.ro.take i++[z]:=by rw [List.take_add_one,hz];rfl
   unfold Nl
   refine ⟨h3,Hp.le.refl _,?_⟩
   simp (disch:=decide) only [bRpB,g2,g5,g3,cx,ix23p (Int.natCast_nonneg i) hlt,y0,y1,y2]
   refine (tw (p:=z)).mono ?_
   rintro _ _ ⟨b',rfl,hb,gb,rfl⟩
   generalize e4:Hp.set h3 b' _=h4
   obtain ⟨l4,d4,b4⟩:=boxed e4 hb d3 gb
   have cy:∀k,af G h3 ⟨y,k,none⟩=_:=fun k=>aj (ai (l3 _ _ b2))
   refine ⟨l4,?_⟩
   try simp only [bRpB,g3,cy]
   refine (qm (L:=bz z) (c:=c) (Sees.row b4 rfl (Nat.le_refl _)) (by simp [bz])).mono ?_
   rintro _ _ ⟨rfl,rfl⟩
   try simp only [bRpB]
   cases hb:decide (((bz z).count c:Int)>0)with
   |true=>
     try simp only [bRpB,hb]
     refine ⟨?_,(L.trans l3).trans l4⟩
     unfold rh
     congr 1
     symm
     rw [List.any_eq_true]
     exact ⟨z,List.mem_of_getElem? hz,hb⟩
   |false=>
     try simp only [bRpB,hb]
     unfold Nk
     simp (disch:=first|decide|omega) only [bRpB,g5]
     refine HX (C.ro.length-(i+1)) _ _ (by omega) ⟨i+1,rfl,hlt',by simp (disch:=decide) only [bRpB,g2],by simp (disch:=decide) only [bRpB,g3],by simp only [bRpB]<;>rfl,?_,l3.trans l4,d4⟩
     rw [htk,List.any_append,hni]
     simp only [List.any_cons,List.any_nil,hb]
     rfl
 . obtain rfl:i=C.ro.length:=by omega
   rw [List.take_of_length_le (Nat.le_refl _)]at hni
   show V7 _ _ _ _
   unfold V7
   simp only [bRpB]
   refine ⟨?_,L.trans l3⟩
   unfold rh
   rw [hni]
theorem K7 {G h:Hp} {v:Value} {C:Conf} {c:Cell} (hv:CV G h v C) (hL:C.bl.length<=100000000000000) (hP:C.po.length<=100000000000000) (hR:C.ro.length<=100000000000000):al P_ G 133 #[v,uc c] h (fun u h'=>u = .bool (si C c)/\h'=h):=by
 obtain ⟨ab,cb,ap,cp,ar,cr,az,cs,rfl,ca⟩:=hv
 refine al.assume fun d=>quietly (ar4 (by simp) ?_)
 unfold S133
 simp only [bRpB]
 intro x hx gx
 generalize e1:Hp.set h x _=h1
 obtain ⟨l1,d1,b1⟩:=boxed e1 hx d gx
 intro y hy gy
 generalize e2:Hp.set h1 y _=h2
 obtain ⟨l2,d2,b2⟩:=boxed e2 hy d1 gy
 have L:=l1.trans l2
 have cx:∀k,af G h2 ⟨x,k,none⟩=_:=fun k=>aj (ai (l2 _ _ b1))
 have cy:∀k,af G h2 ⟨y,k,none⟩=_:=fun k=>aj (ai b2)
 have ca2:=ca.up L d2
 unfold si
 try simp only [bRpB,cx,cy]
 refine (qj ca2.cv hL).mono ?_
 rintro _ _ ⟨rfl,rfl⟩
 cases hc:nc C c with
 |false=>simp only [bRpB,hc];exact ⟨by simp,L⟩
 |true=>
 try simp only [bRpB,cx,cy]
 refine (Uu ca2.cv hP).mono ?_
 rintro _ _ ⟨rfl,rfl⟩
 try simp only [bRpB]
 cases hc2:decide (H7 C c<0)with
 |false=>simp only [bRpB,hc2];exact ⟨by simp,L⟩
 |true=>
 try simp only [bRpB,cx,cy]
 refine (H0 ca2.cv hR).mono ?_
 rintro _ _ ⟨rfl,rfl⟩
 try simp only [bRpB]
 cases hc3:rh C c with
 |true=>simp only [bRpB,hc3];exact ⟨by simp,L⟩
 |false=>
 try simp only [bRpB,cx,cy]
 refine (Cr ca2.cv hL).mono ?_
 rintro _ _ ⟨rfl,rfl⟩
 try simp only [bRpB]
 first|exact L|exact ⟨by simp,L⟩
def bRpC:=jq bC (jq (jq (jq (jq @Bool.and_true (jq @Bool.true_and @kg)) (jq @cf98 (jq @X0 @I4))) (jq (jq @Bz (jq @E0 @Dg)) (jq @Df (jq @Xo @Xn)))) (jq (jq (jq @Gv (jq @am1 @Xk)) (jq @Bw (jq @Ez @Ey))) (jq (jq @ld24p (jq @t6 @ld3)) (jq @ld3p (jq @Mk @true_and)))))
def og (C:Conf):Bool:=ax C.w 1 16&&(ax C.h 1 16&&(ax C.ht 1 8&&(ax C.un 1 1000&&(ax C.ac 1 1000&&(ax C.sp 1 1000&&(ax C.tu 1 1000&&(ax C.ho 1 1000&&(ax C.re 1 1000&&(ax C.qu 1 16&&(ax C.bu 1 1048576))))))))))
theorem O2 {G h:Hp} {v:Value} {C:Conf} (hv:CV G h v C):al P_ G 81 #[v] h (fun u h'=>u = .bool (og C)/\h'=h):=by
 obtain ⟨ab,cb,ap,cp,ar,cr,az,cs,rfl,ca⟩:=hv
 refine al.assume fun d=>quietly (enter81 (by simp) ?_)
 unfold S81
 simp only [bRpC]
 intro x hx gx
 generalize e1:Hp.set h x _=h1
 obtain ⟨l1,d1,b1⟩:=boxed e1 hx d gx
 have cx:∀k,af G h1 ⟨x,k,none⟩=_:=fun k=>aj (ai b1)
 unfold og
 try simp (disch:=first|decide|omega) only [bRpC,Nat.reduceAdd,Nat.reduceMul,cx]
 refine (gm (n:=C.w) (a:=1) (b:=16)).mono ?_
 rintro _ _ ⟨rfl,rfl⟩
 cases hc0:ax C.w 1 16 with
 |false=>try simp only [bRpC,hc0];exact ⟨by simp,l1⟩
 |true=>
 try simp only [bRpC,cx]
 refine (gm (n:=C.h) (a:=1) (b:=16)).mono ?_
 rintro _ _ ⟨rfl,rfl⟩
 cases hc1:ax C.h 1 16 with
 |false=>try simp only [bRpC,hc1];exact ⟨by simp,l1⟩
 |true=>
 try simp only [bRpC,cx]
 refine (gm (n:=C.ht) (a:=1) (b:=8)).mono ?_
 rintro _ _ ⟨rfl,rfl⟩
 cases hc2:ax C.ht 1 8 with
 |false=>try simp only [bRpC,hc2];exact ⟨by simp,l1⟩
 |true=>
 try simp only [bRpC,cx]
 refine (gm (n:=C.un) (a:=1) (b:=1000)).mono ?_
 rintro _ _ ⟨rfl,rfl⟩
 cases hc3:ax C.un 1 1000 with
 |false=>try simp only [bRpC,hc3];exact ⟨by simp,l1⟩
 |true=>
 try simp only [bRpC,cx]
 refine (gm (n:=C.ac) (a:=1) (b:=1000)).mono ?_
 rintro _ _ ⟨rfl,rfl⟩
 cases hc4:ax C.ac 1 1000 with
 |false=>try simp only [bRpC,hc4];exact ⟨by simp,l1⟩
 |true=>
 try simp only [bRpC,cx]
 refine (gm (n:=C.sp) (a:=1) (b:=1000)).mono ?_
 rintro _ _ ⟨rfl,rfl⟩
 cases hc5:ax C.sp 1 1000 with
 |false=>try simp only [bRpC,hc5];exact ⟨by simp,l1⟩
 |true=>
 try simp only [bRpC,cx]
 refine (gm (n:=C.tu) (a:=1) (b:=1000)).mono ?_
 rintro _ _ ⟨rfl,rfl⟩
 cases hc6:ax C.tu 1 1000 with
 |false=>try simp only [bRpC,hc6];exact ⟨by simp,l1⟩
 |true=>
 try simp only [bRpC,cx]
 refine (gm (n:=C.ho) (a:=1) (b:=1000)).mono ?_
 rintro _ _ ⟨rfl,rfl⟩
 cases hc7:ax C.ho 1 1000 with
 |false=>try simp only [bRpC,hc7];exact ⟨by simp,l1⟩
 |true=>
 try simp only [bRpC,cx]
 refine (gm (n:=C.re) (a:=1) (b:=1000)).mono ?_
 rintro _ _ ⟨rfl,rfl⟩
 cases hc8:ax C.re 1 1000 with
 |false=>try simp only [bRpC,hc8];exact ⟨by simp,l1⟩
 |true=>
 try simp only [bRpC,cx]
 refine (gm (n:=C.qu) (a:=1) (b:=16)).mono ?_
 rintro _ _ ⟨rfl,rfl⟩
 cases hc9:ax C.qu 1 16 with
 |false=>try simp only [bRpC,hc9];exact ⟨by simp,l1⟩
 |true=>
 try simp only [bRpC,cx]
 refine (gm (n:=C.bu) (a:=1) (b:=1048576)).mono ?_
 rintro _ _ ⟨rfl,rfl⟩
 try simp only [bRpC]
 first|exact l1|exact ⟨by simp,l1⟩
theorem icget {G h:Hp} {b o i:Nat} {x:Int} (e:∀j,j<icC.n->af G h ⟨b,o+i*icC.n+j,none⟩=(icC.enc x)[j]?):af G h ⟨b,o+i*1,none⟩=some (.int .i64 x):=e 0 (by decide)
theorem Sees.int {G h:Hp} {sa:Option Addr} {n cap:Nat} {L:List Int} (s:Sees icC G h (.slice sa n cap) L) {i:Nat} {x:Int} (hx:L[i]?=some x):
   ∃b o,sa=some ⟨b,o,none⟩/\af G h ⟨b,o+i,none⟩=some (.int .i64 x):=by
 obtain ⟨b,o,c,e1,e2⟩:=s.get hx
 simp only [Value.slice.injEq]at e1
 have:=icget e2
 rw [Nat.mul_one]at this
 exact ⟨b,o,e1.1,this⟩
theorem CA.stk {G h:Hp} {C:Conf} {ab:Option Addr} {cb:Nat} {ap:Option Addr} {cp:Nat} {ar:Option Addr} {cr:Nat} {az:Option Addr} {cs:Nat} (ca:CA G h C ab cb ap cp ar cr az cs) {i:Nat} {s:Cell × List Int} (hs:C.st[i]?=some s):
   ∃b o a c,az=some ⟨b,o,none⟩/\af G h ⟨b,o+i*3,none⟩=some (.int .i64 s.1.1)/\af G h ⟨b,o+i*3+1,none⟩=some (.int .i64 s.1.2)/\af G h ⟨b,o+i*3+2,none⟩=some (.slice a s.2.length c)/\Sees icC G h (.slice a s.2.length c) s.2:=by
 obtain ⟨raw,h1,h2⟩:=ca.st
 obtain ⟨sa,cp2,e⟩:=h1.len
 have hl:C.st.length=raw.length:=by simp only [Value.slice.injEq]at e;exact e.2.1
 have hi:i<raw.length:=by rw [<- hl];exact (List.getElem?_eq_some_iff.1 hs).1
 have hr:raw[i]?=some raw[i]:=List.getElem?_eq_getElem hi
 obtain ⟨k1,k2,k3⟩:=h2 i _ s hr hs
 obtain ⟨b,o,c,e1,e2⟩:=h1.get hr
 simp only [Value.slice.injEq]at e1
 have z0:=e2 0 (by decide)
 have z1:=e2 1 (by decide)
 have z2:=e2 2 (by decide)
 simp only [rawC,Nat.add_zero,List.getElem?_cons_zero,List.getElem?_cons_succ]at z0 z1 z2
 refine ⟨b,o,_,_,e1.1,?_,?_,?_,k3⟩
 . rw [z0,<- k1]
 . rw [z1,<- k1]
 . rw [z2,k2]
structure Wl (C:Conf):Prop where
 few:C.st.length<=257
 each:∀s∈C.st,si C s.1=true/\(s.2.length:Int)<=C.ht
 apart:(C.st.map Prod.fst).Nodup
 most:(C.st.flatMap Prod.snd).length<=512
 nums:∀b∈C.st.flatMap Prod.snd,ax b 1 1000000000=true
 once:(C.st.flatMap Prod.snd).Nodup
theorem av2 {G h:Hp} {C:Conf} {ab:Option Addr} {cb:Nat} {ap:Option Addr} {cp:Nat} {ar:Option Addr} {cr:Nat} {az:Option Addr} {cs:Nat} (ca:CA G h C ab cb ap cp ar cr az cs) {x:Nat}
   (cx:∀k,af G h ⟨x,k,none⟩=[Value.int .i64 C.w,.int .i64 C.h,.int .i64 C.ht,.slice ab C.bl.length cb,.slice ap C.po.length cp,.slice ar C.ro.length cr,.slice az C.st.length cs,.int .i64 C.un,.int .i64 C.ac,.int .i64 C.sp,.int .i64 C.tu,.int .i64 C.ho,.int .i64 C.qu,.int .i64 C.re,.int .i64 C.bu,.bool C.back][k]?)
   {i:Nat} {s:Cell × List Int} (hs:C.st[i]?=some s) (hi:i<1000) {KK:EK} (r:Rg) (g1:r 1 = .pointer (some ⟨x,0,none⟩)) (g4:r 4 = .int .i64 i) (g5:r 5 = .int .i64 0)
   (H1:s.1∉(C.st.take i).map Prod.fst->∀r':Rg,r' 1=r 1->r' 3=r 3->r' 4=r 4->KK (.exit 2) r' h)
   (H2:s.1∈(C.st.take i).map Prod.fst->∀r':Rg,r' 2 = .bool false->KK .ret r' h):dl (zz G) r h KK:=by
 have hil:i<C.st.length:=(List.getElem?_eq_some_iff.1 hs).1
 obtain ⟨b,o,a,c,e1,z0,z1,z2,z3⟩:=ca.stk hs
 refine di (fun m r2 h3=>∃k:Nat,m=i-k/\k<=i/\r2 1=r 1/\r2 3=r 3/\r2 4=r 4/\r2 5 = .int .i64 k/\h3=h/\s.1∉(C.st.take k).map Prod.fst) ?_
   (m:=i) ⟨0,rfl,Nat.zero_le _,rfl,rfl,rfl,by rw [g5];rfl,rfl,by simp⟩
 rintro m r2 h3 ⟨k,rfl,hk,k1,k3,k4,k5,rfl,hn⟩ X HX
 rw [g1]at k1
 rw [g4]at k4
 unfold zz
 simp only [bRpC,k4,k5]
 refine bv (fun hlt=>?_) (fun hge=>?_)
 . have hlt':k<i:=by omega
   obtain ⟨t,ht⟩:∃x,C.st[k]?=some x:=⟨_,List.getElem?_eq_getElem (by omega)⟩
   obtain ⟨b',o',a',c',e1',y0,y1,y2,y3⟩:=ca.stk ht
   subst e1
   cases e1'
   have htk:C.st.take (k+1)=C.st.take k++[t]:=by rw [List.take_add_one,ht];rfl
   unfold yf
   simp (disch:=decide) only [bRpC,k1,k4,k5,cx,Sn (Int.natCast_nonneg k) (show (k:Int)<C.st.length by omega),Sn (Int.natCast_nonneg i) (show (i:Int)<C.st.length by omega),z0,z1,y0,y1,zw]
   cases hb:(t.1==s.1)with
   |true=>
     try simp only [bRpC]
     refine H2 ?_ _ (by simp only [bRpC])
     have:t.1=s.1:=by simpa using hb
     rw [<- this]
     exact List.mem_map_of_mem (f:=Prod.fst) (List.mem_of_getElem? (i:=k) (by rw [List.getElem?_take,if_pos hlt',ht]))
   |false=>
     try simp only [bRpC]
     unfold ye
     simp (disch:=first|decide|omega) only [bRpC,k5]
     refine HX (i-(k+1)) _ _ (by omega) ⟨k+1,rfl,hlt',by simp (disch:=decide) only [bRpC,k1,g1],by simp (disch:=decide) only [bRpC,k3],by simp (disch:=decide) only [bRpC,k4,g4],by simp only [bRpC]<;>rfl,rfl,?_⟩
     rw [htk,List.map_append,List.mem_append]
     rintro (q|q)
     . exact hn q
     . simp at q
       rw [q]at hb
       simp at hb
 . obtain rfl:k=i:=by omega
   exact H1 hn _ (by simp (disch:=decide) only [bRpC,k1,g1]) (by simp (disch:=decide) only [bRpC,k3]) (by simp (disch:=decide) only [bRpC,k4,g4])
theorem eoint:gc P_ 3 icC.n 8:=⟨by kernel_rfl,by kernel_rfl,by kernel_rfl⟩
theorem av1 {G h:Hp} {v:Value} {L:List Int} (sv:Sees icC G h v L) {i:Nat} {y:Int} (hy:L[i]?=some y) (hi:i<100000) {KK:EK} (r:Rg) (g3:r 3=v) (g6:r 6 = .int .i64 i) (g7:r 7 = .int .i64 0)
   (H1:y∉L.take i->∀r':Rg,r' 3=r 3->r' 6=r 6->KK (.exit 6) r' h)
   (H2:y∈L.take i->∀r':Rg,r' 2 = .bool false->KK .ret r' h):dl (E4 G) r h KK:=by
 have hil:i<L.length:=(List.getElem?_eq_some_iff.1 hy).1
 obtain ⟨sa,cap,rfl⟩:=sv.len
 obtain ⟨b,o,e1,z0⟩:=Sees.int sv hy
 refine di (fun m r2 h3=>∃k:Nat,m=i-k/\k<=i/\r2 3=r 3/\r2 6=r 6/\r2 7 = .int .i64 k/\h3=h/\y∉L.take k) ?_
   (m:=i) ⟨0,rfl,Nat.zero_le _,rfl,rfl,by rw [g7];rfl,rfl,by simp⟩
 rintro m r2 h3 ⟨k,rfl,hk,k3,k6,k7,rfl,hn⟩ X HX
 rw [g3]at k3
 rw [g6]at k6
 subst e1
 unfold E4
 simp only [bRpC,k6,k7]
 refine bv (fun hlt=>?_) (fun hge=>?_)
 . have hlt':k<i:=by omega
   obtain ⟨t,ht⟩:∃x,L[k]?=some x:=⟨_,List.getElem?_eq_getElem (by omega)⟩
   obtain ⟨b',o',e1',y0⟩:=Sees.int sv ht
   cases e1'
   have htk:L.take (k+1)=L.take k++[t]:=by rw [List.take_add_one,ht];rfl
   unfold Dx
   simp (disch:=decide) only [bRpC,k3,k6,k7,Vb (Int.natCast_nonneg k) (show (k:Int)<L.length by omega),Vb (Int.natCast_nonneg i) (show (i:Int)<L.length by omega),Nat.mul_one,z0,y0]
   cases hb:(t==y)with
   |true=>
     try simp only [bRpC]
     refine H2 ?_ _ (by simp only [bRpC])
     have:t=y:=by simpa using hb
     rw [<- this]
     exact List.mem_of_getElem? (i:=k) (by rw [List.getElem?_take,if_pos hlt',ht])
   |false=>
     try simp only [bRpC]
     unfold Bi
     simp (disch:=first|decide|omega) only [bRpC,k7]
     refine HX (i-(k+1)) _ _ (by omega) ⟨k+1,rfl,hlt',by simp (disch:=decide) only [bRpC,k3,g3],by simp (disch:=decide) only [bRpC,k6,g6],by simp only [bRpC]<;>rfl,rfl,?_⟩
     rw [htk,List.mem_append]
     rintro (q|q)
     . exact hn q
     . simp at q
       rw [q]at hb
       simp at hb
 . obtain rfl:k=i:=by omega
   exact H1 hn _ (by simp (disch:=decide) only [bRpC,k3,g3]) (by simp (disch:=decide) only [bRpC,k6,g6])
theorem fq {α:Type} {L:List α} {i:Nat} {x:α} (hx:L[i]?=some x):L.take (i+1)=L.take i++[x]:=by rw [List.take_add_one,hx];rfl
theorem xx {α:Type} {L:List α} {i:Nat} {x:α} (hx:L[i]?=some x) (h1:(L.take i).Nodup) (h2:x∉L.take i):(L.take (i+1)).Nodup:=by
 rw [fq hx]
 exact List.nodup_append.2 ⟨h1,by simp,fun a ha b hb=>by simp at hb;subst hb;exact fun e=>h2 (e▸ha)⟩
theorem uw {α:Type} {L:List α} {i:Nat} {x:α} (hx:L[i]?=some x) (h2:x∈L.take i):¬L.Nodup:=by
 intro h
 have:(L.take (i+1)).Nodup:=h.sublist (List.take_sublist _ _)
 rw [fq hx]at this
 exact (List.nodup_append.1 this).2.2 x h2 x (by simp) rfl
theorem av0 {G h:Hp} {v:Value} {L:List Int} (sv:Sees icC G h v L) (hL:L.length<=10000) (R:Bool->Prop) {h0:Hp} (h0l:h0.le h) (r:Rg) (g3:r 3=v)
   (H1:L.length<=512->(∀b∈L,ax b 1 1000000000=true)->L.Nodup->R true) (H2:L.length>512\/(∃b∈L,ax b 1 1000000000=false)\/¬L.Nodup->R false):
   V6 G (retK P_ G [.tmp 2] fun u h'=>(∃b,u = .bool b/\R b)/\h0.le h') r h:=by
 obtain ⟨sa,cap,hve⟩:=sv.len
 unfold V6
 simp only [bRpC,g3,hve]
 by_cases hlen:L.length<=512
 rotate_left
 . have e:decide ((L.length:Int)>512)=true:=by rw [decide_eq_true_iff];omega
   simp only [bRpC,e]
   exact ⟨⟨_,rfl,H2 (.inl (by omega))⟩,h0l⟩
 have e:decide ((L.length:Int)>512)=false:=by rw [decide_eq_false_iff_not];omega
 simp only [bRpC,e]
 unfold aw8
 refine di (fun m r2 h3=>∃i:Nat,m=L.length-i/\i<=L.length/\r2 3=v/\r2 6 = .int .i64 i/\h3=h/\(∀b∈L.take i,ax b 1 1000000000=true)/\(L.take i).Nodup) ?_
   (m:=L.length) ⟨0,rfl,Nat.zero_le _,by simp (disch:=decide) only [bRpC,g3,hve],by simp only [bRpC]<;>rfl,rfl,by simp,by simp⟩
 rintro m r2 h3 ⟨i,rfl,hi,k3,k6,rfl,hw,hnd⟩ X HX
 unfold aw6
 simp only [bRpC,k3,hve,k6]
 refine bv (fun hlt=>?_) (fun hge=>?_)
 rotate_left
 . obtain rfl:i=L.length:=by omega
   rw [List.take_of_length_le (Nat.le_refl _)]at hw hnd
   try simp (disch:=first|decide|omega) only [bRpC,Nat.reduceAdd,Nat.reduceMul]
   unfold aw7
   simp only [bRpC]
   exact ⟨⟨_,rfl,H1 hlen hw hnd⟩,h0l⟩
 have hlt':i<L.length:=by omega
 obtain ⟨y,hy⟩:∃x,L[i]?=some x:=⟨_,List.getElem?_eq_getElem hlt'⟩
 rw [hve]at sv
 obtain ⟨b,o,rfl,z0⟩:=Sees.int sv hy
 unfold Nj
 simp (disch:=decide) only [bRpC,k3,hve,k6,So (Int.natCast_nonneg i) (show (i:Int)<L.length by omega),Nat.mul_one,z0]
 refine (gm (n:=y) (a:=1) (b:=1000000000)).mono ?_
 rintro _ _ ⟨rfl,rfl⟩
 cases hb:ax y 1 1000000000 with
 |false=>
   try simp only [bRpC]
   exact ⟨⟨_,rfl,H2 (.inr (.inl ⟨y,List.mem_of_getElem? hy,hb⟩))⟩,h0l⟩
 |true=>
   try simp only [bRpC]
   unfold Nh
   refine av1 sv hy (by omega) _ (by simp (disch:=decide) only [bRpC,k3,hve]) (by simp (disch:=decide) only [bRpC,k6]) (by simp only [bRpC]) (fun hn r' j3 j6=>?_) (fun hm r' j2=>?_)
   . simp only [jw,if_true,gg,i8]
     unfold Ni
     have j6':r' 6 = .int .i64 i:=j6.trans (by simp (disch:=decide) only [bRpC,k6])
     simp (disch:=first|decide|omega) only [bRpC,j6']
     refine HX (L.length-(i+1)) _ _ (by omega) ⟨i+1,rfl,hlt',?_,by simp only [bRpC]<;>rfl,rfl,?_,xx hy hnd hn⟩
     . simp (disch:=decide) only [bRpC,j3,k3]
     . rw [fq hy]
       intro c hc
       rcases List.mem_append.1 hc with hc|hc
       . exact hw c hc
       . simp at hc;rw [hc];exact hb
   . simp only [bRpC,j2]
     exact ⟨⟨_,rfl,H2 (.inr (.inr (uw hy hm)))⟩,h0l⟩
def bRpD:=jq bC (jq (jq (jq (jq @Jd @cf133) (jq @I4 @Xq)) (jq (jq @Tg @fa26_2p) (jq @Vo @Xk))) (jq (jq (jq @Ii @Pc) (jq @ld24 @ld24p)) (jq (jq @zi @t6) (jq @ld3p (jq @ln168p @ln24)))))
theorem al5 {C:Conf} {L:List (Cell × List Int)} (h:∀s∈L,(s.2.length:Int)<=C.ht) (ht:C.ht<=8):(L.flatMap Prod.snd).length<=8*L.length:=by
 induction L with
 |nil=>simp
 |cons s L ih=>
   have h1:=h s (.head _)
   have h2:=ih fun t ht=>h t (.tail _ ht)
   rw [List.flatMap_cons,List.length_append,List.length_cons]
   omega
theorem ad6 {G h:Hp} {v:Value} {C:Conf} (hv:CV G h v C) (ht:C.ht<=8) (hL:C.bl.length<=100000000000000) (hP:C.po.length<=100000000000000) (hR:C.ro.length<=100000000000000):
   al P_ G 86 #[v] h (fun u h'=>(∃b,u = .bool b/\(b=true↔Wl C))/\h'=h):=by
 obtain ⟨ab,cb,ap,cp,ar,cr,az,cs,rfl,ca⟩:=hv
 refine al.assume fun d=>quietly (enter86 (by simp) ?_)
 unfold S86
 simp only [bRpD]
 intro x hx gx
 generalize e1:Hp.set h x _=h1
 obtain ⟨l1,d1,b1⟩:=boxed e1 hx d gx
 refine di (fun m r h3=>∃(i:Nat) (lp:Hp) (v3:Value),m=C.st.length-i/\i<=C.st.length/\i<=257/\r 1 = .pointer (some ⟨x,0,none⟩)/\r 3=v3/\r 4 = .int .i64 i/\
    (∀s∈C.st.take i,si C s.1=true/\(s.2.length:Int)<=C.ht)/\((C.st.take i).map Prod.fst).Nodup/\Slc icC 3 lp v3 ((C.st.take i).flatMap Prod.snd)/\Sep [lp,h1] h3/\Dis G h3) ?_
   (m:=C.st.length) ⟨0,noHp,_,rfl,Nat.zero_le _,Nat.zero_le _,by simp (disch:=decide) only [bRpD],by simp (disch:=decide) only [bRpD]<;>rfl,by simp only [bRpD]<;>rfl,by simp,by simp,Slc.nil,Sep.one.none,d1⟩
 rintro m r h3 ⟨i,lp,v3,rfl,hi,hi2,g1,g3,g4,hok,hnd,o3,s3,d3⟩ X HX
 have l3:h1.le h3:=s3.in 1 rfl
 have cx:∀k,af G h3 ⟨x,k,none⟩=_:=fun k=>aj (ai (l3 _ _ b1))
 have ca3:=ca.up (l1.trans l3) d3
 have hfl:=al5 (C:=C) (fun s hs=>(hok s hs).2) ht
 rw [List.length_take,Nat.min_eq_left hi]at hfl
 unfold X9
 simp only [bRpD,g1,g4,cx]
 refine bv (fun hlt=>?_) (fun hge=>?_)
 rotate_left
 . obtain rfl:i=C.st.length:=by omega
   rw [List.take_of_length_le (Nat.le_refl _)]at hok hnd o3 hfl
   try simp (disch:=first|decide|omega) only [bRpD,Nat.reduceAdd,Nat.reduceMul]
   refine av0 (v:=v3) (o3.sees (by decide) s3.hd) (by omega) (fun b=>b=true↔Wl C) (l1.trans l3) _ (by simp (disch:=decide) only [bRpD,g3]) (fun h1 h2 h3=>?_) (fun hbad=>?_)
   . exact ⟨fun _=>⟨hi2,hok,hnd,h1,h2,h3⟩,fun _=>rfl⟩
   . refine ⟨fun e=>absurd e (by decide),fun B=>?_⟩
     exfalso
     rcases hbad with hb|⟨b,hb1,hb2⟩|hb
     . have:=B.most;omega
     . have:=B.nums b hb1;rw [hb2]at this;cases this
     . exact hb B.once
 have hlt':i<C.st.length:=by omega
 obtain ⟨s,hs⟩:∃x,C.st[i]?=some x:=⟨_,List.getElem?_eq_getElem hlt'⟩
 have hsm:s∈C.st:=List.mem_of_getElem? hs
 obtain ⟨b,o,a,c,rfl,z0,z1,z2,z3⟩:=ca3.stk hs
 have no:∀{P:Prop},¬P->(false=true↔P):=fun h=>⟨fun e=>absurd e (by decide),fun p=>(h p).elim⟩
 unfold Gc
 by_cases h257:i<257
 rotate_left
 . have e:decide ((i:Int)>256)=true:=by rw [decide_eq_true_iff];omega
   simp (disch:=decide) only [bRpD,g4,e]
   exact ⟨⟨_,rfl,no fun B=>by have:=B.few;omega⟩,l1.trans l3⟩
 have e:decide ((i:Int)>256)=false:=by rw [decide_eq_false_iff_not];omega
 simp (disch:=decide) only [bRpD,g4,e,g1,cx,Sn (Int.natCast_nonneg i) hlt,z0,z1,z2]
 refine (K7 (c:=s.1) ca3.cv hL hP hR).mono ?_
 rintro _ _ ⟨rfl,rfl⟩
 cases hst:si C s.1 with
 |false=>
   try simp only [bRpD]
   exact ⟨⟨_,rfl,no fun B=>by have:=(B.each s hsm).1;rw [hst]at this;cases this⟩,l1.trans l3⟩
 |true=>
 try simp only [bRpD,g1,cx,Sn (Int.natCast_nonneg i) hlt,z2]
 by_cases hlen:(s.2.length:Int)<=C.ht
 rotate_left
 . have e:decide ((s.2.length:Int)>C.ht)=true:=by rw [decide_eq_true_iff];omega
   simp only [bRpD,e]
   exact ⟨⟨_,rfl,no fun B=>hlen (B.each s hsm).2⟩,l1.trans l3⟩
 have e:decide ((s.2.length:Int)>C.ht)=false:=by rw [decide_eq_false_iff_not];omega
 simp only [bRpD,e]
 unfold Gb
 refine av2 ca3 cx hs (by omega) _ (by simp (disch:=decide) only [bRpD,g1]) (by simp (disch:=decide) only [bRpD,g4]) (by simp only [bRpD]) (fun hn r' j1 j3 j4=>?_) (fun hm r' j2=>?_)
 . simp only [jw,if_true,gg,i8]
   have j1':r' 1 = .pointer (some ⟨x,0,none⟩):=j1.trans (by simp (disch:=decide) only [bRpD,g1])
   have j3':r' 3=v3:=j3.trans (by simp (disch:=decide) only [bRpD,g3])
   have j4':r' 4 = .int .i64 i:=j4.trans (by simp (disch:=decide) only [bRpD,g4])
   unfold Ga
   simp only [bRpD,j1',j3',j4',cx,ix24 (Int.natCast_nonneg i) hlt,z2]
   refine ez icC (by decide) Fe eoint (by decide) (by decide) s3 d3 o3 z3 (by omega) fun v' a' h' o' s' d'=>?_
   unfold Aa
   simp (disch:=first|decide|omega) only [bRpD,j4']
   refine HX (C.st.length-(i+1)) _ _ (by omega) ⟨i+1,a',v',rfl,hlt',by omega,by simp (disch:=decide) only [bRpD,j1'],by simp (disch:=decide) only [bRpD],by simp only [bRpD]<;>rfl,?_,?_,?_,s',d'⟩
   . rw [fq hs]
     intro t ht'
     rcases List.mem_append.1 ht' with q|q
     . exact hok t q
     . simp at q;rw [q];exact ⟨hst,hlen⟩
   . rw [fq hs,List.map_append]
     exact List.nodup_append.2 ⟨hnd,by simp,fun p hp q hq=>by simp at hq;subst hq;exact fun e=>hn (e▸hp)⟩
   . rw [fq hs,List.flatMap_append]
     simpa using o'
 . simp only [bRpD,j2]
   refine ⟨⟨_,rfl,no fun B=>?_⟩,l1.trans l3⟩
   refine uw (L:=C.st.map Prod.fst) (i:=i) (x:=s.1) (by rw [List.getElem?_map,hs];rfl) ?_ B.apart
   rw [<- List.map_take]
   exact hm
def bRpE:=jq bC (jq (jq (jq (jq @kg (jq @Jd @cf22)) (jq (jq @cf40 @cf81) (jq @cf82 @cf83))) (jq (jq @cf84 (jq @cf85 @cf86)) (jq (jq @I3 @Pv) (jq @Pu @Pt)))) (jq (jq (jq @I2 (jq @Xl @ld22)) (jq (jq @Xc @ld23) (jq @ld23p @ld26))) (jq (jq @zi (jq @ld28 @t6)) (jq (jq @ld30 @qw) (jq @ln22 @ln23)))))
structure Zk (C:Conf):Prop where
 nums:og C=true
 po8:C.po.length<=8
 ro8:C.ro.length<=8
 bl256:C.bl.length<=256
 blk:∀c∈C.bl,inB C c=true/\C.bl.count c<=1/\C.po.count c=0
 prt:∀c∈C.po,inB C c=true/\C.po.count c<=1/\rh C c=false/\lj C c=true
 fit:∀p∈C.ro,fi C p=true
 once:∀c∈C.ro.flatMap bz,(C.ro.flatMap bz).count c<=1
 bins:Wl C
theorem may_bl {G h:Hp} {C:Conf} {ab:Option Addr} {cb:Nat} {ap:Option Addr} {cp:Nat} {ar:Option Addr} {cr:Nat} {az:Option Addr} {cs:Nat} (ca:CA G h C ab cb ap cp ar cr az cs) {x:Nat}
   (cx:∀k,af G h ⟨x,k,none⟩=[Value.int .i64 C.w,.int .i64 C.h,.int .i64 C.ht,.slice ab C.bl.length cb,.slice ap C.po.length cp,.slice ar C.ro.length cr,.slice az C.st.length cs,.int .i64 C.un,.int .i64 C.ac,.int .i64 C.sp,.int .i64 C.tu,.int .i64 C.ho,.int .i64 C.qu,.int .i64 C.re,.int .i64 C.bu,.bool C.back][k]?) {KK:EK} (hL:C.bl.length<=256) (hP:C.po.length<=8) (r:Rg) (g1:r 1 = .pointer (some ⟨x,0,none⟩)) (g3:r 3 = .int .i64 0)
   (H1:(∀c∈C.bl,inB C c=true/\C.bl.count c<=1/\C.po.count c=0)->∀r':Rg,r' 1=r 1->KK (.exit 0) r' h)
   (H2:(∃c∈C.bl,¬(inB C c=true/\C.bl.count c<=1/\C.po.count c=0))->∀r':Rg,r' 2 = .bool false->KK .ret r' h):dl (Qf G) r h KK:=by
 refine di (fun m r2 h3=>∃i:Nat,m=C.bl.length-i/\i<=C.bl.length/\r2 1=r 1/\r2 3 = .int .i64 i/\h3=h/\(∀c∈C.bl.take i,inB C c=true/\C.bl.count c<=1/\C.po.count c=0)) ?_
   (m:=C.bl.length) ⟨0,rfl,Nat.zero_le _,rfl,by rw [g3];rfl,rfl,by simp⟩
 rintro m r2 h3 ⟨i,rfl,hi,k1,k3,rfl,hw⟩ X HX
 rw [g1]at k1
 unfold Qf
 simp only [bRpE,k1,cx,k3]
 refine bv (fun hlt=>?_) (fun hge=>?_)
 rotate_left
 . obtain rfl:i=C.bl.length:=by omega
   rw [List.take_of_length_le (Nat.le_refl _)]at hw
   exact H1 hw _ (by simp (disch:=decide) only [bRpE,k1,g1])
 have hlt':i<C.bl.length:=by omega
 obtain ⟨y,hy⟩:∃x,C.bl[i]?=some x:=⟨_,List.getElem?_eq_getElem hlt'⟩
 have hym:y∈C.bl:=List.mem_of_getElem? hy
 obtain ⟨b,o,rfl,z0,z1⟩:=Sees.cell ca.bl hy
 unfold Ge
 simp (disch:=decide) only [bRpE,k1,cx,k3,qe (Int.natCast_nonneg i) hlt,z0,z1]
 refine (Gu (c:=y) ca.cv).mono ?_
 rintro _ _ ⟨rfl,rfl⟩
 cases h1:inB C y with
 |false=>
   try simp only [bRpE]
   exact H2 ⟨y,hym,fun q=>by rw [h1]at q;exact absurd q.1 (by decide)⟩ _ (by simp only [bRpE])
 |true=>
 try simp only [bRpE,k1,cx,k3,qe (Int.natCast_nonneg i) hlt,z0,z1]
 refine (qm (c:=y) ca.bl (by omega)).mono ?_
 rintro _ _ ⟨rfl,rfl⟩
 try simp only [bRpE]
 by_cases h2:C.bl.count y<=1
 rotate_left
 . have e:decide ((C.bl.count y:Int)>1)=true:=by rw [decide_eq_true_iff];omega
   simp only [bRpE,e]
   exact H2 ⟨y,hym,fun q=>h2 q.2.1⟩ _ (by simp only [bRpE])
 have e:decide ((C.bl.count y:Int)>1)=false:=by rw [decide_eq_false_iff_not];omega
 try simp only [bRpE,e,k1,cx,k3,qe (Int.natCast_nonneg i) hlt,z0,z1]
 refine (qm (c:=y) ca.po (by omega)).mono ?_
 rintro _ _ ⟨rfl,rfl⟩
 try simp only [bRpE]
 by_cases h3:C.po.count y=0
 rotate_left
 . have e:decide ((C.po.count y:Int)>0)=true:=by rw [decide_eq_true_iff];omega
   simp only [bRpE,e]
   exact H2 ⟨y,hym,fun q=>h3 q.2.2⟩ _ (by simp only [bRpE])
 have e:decide ((C.po.count y:Int)>0)=false:=by rw [decide_eq_false_iff_not];omega
 simp only [bRpE,e]
 unfold Gd
 simp (disch:=first|decide|omega) only [bRpE,k3]
 refine HX (C.bl.length-(i+1)) _ _ (by omega) ⟨i+1,rfl,hlt',by simp (disch:=decide) only [bRpE,k1,g1],by simp only [bRpE]<;>rfl,rfl,?_⟩
 rw [fq hy]
 intro c hc
 rcases List.mem_append.1 hc with q|q
 . exact hw c q
 . simp at q;rw [q];exact ⟨h1,h2,h3⟩
theorem may_po {G h:Hp} {C:Conf} {ab:Option Addr} {cb:Nat} {ap:Option Addr} {cp:Nat} {ar:Option Addr} {cr:Nat} {az:Option Addr} {cs:Nat} (ca:CA G h C ab cb ap cp ar cr az cs) {x:Nat}
   (cx:∀k,af G h ⟨x,k,none⟩=[Value.int .i64 C.w,.int .i64 C.h,.int .i64 C.ht,.slice ab C.bl.length cb,.slice ap C.po.length cp,.slice ar C.ro.length cr,.slice az C.st.length cs,.int .i64 C.un,.int .i64 C.ac,.int .i64 C.sp,.int .i64 C.tu,.int .i64 C.ho,.int .i64 C.qu,.int .i64 C.re,.int .i64 C.bu,.bool C.back][k]?) {KK:EK} (hL:C.bl.length<=256) (hP:C.po.length<=8) (hR:C.ro.length<=8) (r:Rg) (g1:r 1 = .pointer (some ⟨x,0,none⟩)) (g4:r 4 = .int .i64 0)
   (H1:(∀c∈C.po,inB C c=true/\C.po.count c<=1/\rh C c=false/\lj C c=true)->∀r':Rg,r' 1=r 1->KK (.exit 2) r' h)
   (H2:(∃c∈C.po,¬(inB C c=true/\C.po.count c<=1/\rh C c=false/\lj C c=true))->∀r':Rg,r' 2 = .bool false->KK .ret r' h):dl (Qg G) r h KK:=by
 refine di (fun m r2 h3=>∃i:Nat,m=C.po.length-i/\i<=C.po.length/\r2 1=r 1/\r2 4 = .int .i64 i/\h3=h/\(∀c∈C.po.take i,inB C c=true/\C.po.count c<=1/\rh C c=false/\lj C c=true)) ?_
   (m:=C.po.length) ⟨0,rfl,Nat.zero_le _,rfl,by rw [g4];rfl,rfl,by simp⟩
 rintro m r2 h3 ⟨i,rfl,hi,k1,k4,rfl,hw⟩ X HX
 rw [g1]at k1
 unfold Qg
 simp only [bRpE,k1,cx,k4]
 refine bv (fun hlt=>?_) (fun hge=>?_)
 rotate_left
 . obtain rfl:i=C.po.length:=by omega
   rw [List.take_of_length_le (Nat.le_refl _)]at hw
   exact H1 hw _ (by simp (disch:=decide) only [bRpE,k1,g1])
 have hlt':i<C.po.length:=by omega
 obtain ⟨y,hy⟩:∃x,C.po[i]?=some x:=⟨_,List.getElem?_eq_getElem hlt'⟩
 have hym:y∈C.po:=List.mem_of_getElem? hy
 obtain ⟨b,o,rfl,z0,z1⟩:=Sees.cell ca.po hy
 unfold Gg
 simp (disch:=decide) only [bRpE,k1,cx,k4,qe (Int.natCast_nonneg i) hlt,z0,z1]
 refine (Gu (c:=y) ca.cv).mono ?_
 rintro _ _ ⟨rfl,rfl⟩
 cases h1:inB C y with
 |false=>
   try simp only [bRpE]
   exact H2 ⟨y,hym,fun q=>by rw [h1]at q;exact absurd q.1 (by decide)⟩ _ (by simp only [bRpE])
 |true=>
 try simp only [bRpE,k1,cx,k4,qe (Int.natCast_nonneg i) hlt,z0,z1]
 refine (qm (c:=y) ca.po (by omega)).mono ?_
 rintro _ _ ⟨rfl,rfl⟩
 try simp only [bRpE]
 by_cases h2:C.po.count y<=1
 rotate_left
 . have e:decide ((C.po.count y:Int)>1)=true:=by rw [decide_eq_true_iff];omega
   simp only [bRpE,e]
   exact H2 ⟨y,hym,fun q=>h2 q.2.1⟩ _ (by simp only [bRpE])
 have e:decide ((C.po.count y:Int)>1)=false:=by rw [decide_eq_false_iff_not];omega
 try simp only [bRpE,e,k1,cx,k4,qe (Int.natCast_nonneg i) hlt,z0,z1]
 refine (H0 (c:=y) ca.cv (by omega)).mono ?_
 rintro _ _ ⟨rfl,rfl⟩
 cases h3:rh C y with
 |true=>
   try simp only [bRpE]
   exact H2 ⟨y,hym,fun q=>by rw [h3]at q;exact absurd q.2.2.1 (by decide)⟩ _ (by simp only [bRpE])
 |false=>
 try simp only [bRpE,k1,cx,k4,qe (Int.natCast_nonneg i) hlt,z0,z1]
 refine (Cr (c:=y) ca.cv (by omega)).mono ?_
 rintro _ _ ⟨rfl,rfl⟩
 cases h4:lj C y with
 |false=>
   try simp only [bRpE]
   exact H2 ⟨y,hym,fun q=>by rw [h4]at q;exact absurd q.2.2.2 (by decide)⟩ _ (by simp only [bRpE])
 |true=>
 try simp only [bRpE]
 unfold Gf
 simp (disch:=first|decide|omega) only [bRpE,k4]
 refine HX (C.po.length-(i+1)) _ _ (by omega) ⟨i+1,rfl,hlt',by simp (disch:=decide) only [bRpE,k1,g1],by simp only [bRpE]<;>rfl,rfl,?_⟩
 rw [fq hy]
 intro c hc
 rcases List.mem_append.1 hc with q|q
 . exact hw c q
 . simp at q;rw [q];exact ⟨h1,h2,h3,h4⟩
theorem eocell:gc P_ 28 dr.n 16:=⟨by kernel_rfl,by kernel_rfl,by kernel_rfl⟩
theorem Iu (L:List Pose):(L.flatMap bz).length=2*L.length:=by
 induction L with
 |nil=>rfl
 |cons p L ih=>rw [List.flatMap_cons,List.length_append,ih,List.length_cons];simp [bz];omega
theorem may_ro {G h0:Hp} {C:Conf} {ab:Option Addr} {cb:Nat} {ap:Option Addr} {cp:Nat} {ar:Option Addr} {cr:Nat} {az:Option Addr} {cs:Nat} (ca:CA G h0 C ab cb ap cp ar cr az cs) {x:Nat} (d0:Dis G h0)
   (bx:h0 x=some (.cells #[C.w,C.h,C.ht,.slice ab C.bl.length cb,.slice ap C.po.length cp,.slice ar C.ro.length cr,.slice az C.st.length cs,C.un,C.ac,C.sp,C.tu,C.ho,C.qu,C.re,C.bu,.bool C.back] 26 (0,0)))
   {KK:EK} (hL:C.bl.length<=256) (hR:C.ro.length<=8) (r:Rg) (g1:r 1 = .pointer (some ⟨x,0,none⟩)) (g5:r 5 = .slice none 0 0) (g6:r 6 = .int .i64 0)
   (H1:(∀p∈C.ro,fi C p=true)->∀(r':Rg) h' lp,r' 1=r 1->h0.le h'->Dis G h'->lp.le h'->Slc dr 28 lp (r' 5) (C.ro.flatMap bz)->KK (.exit 4) r' h')
   (H2:(∃p∈C.ro,fi C p=false)->∀(r':Rg) h',h0.le h'->r' 2 = .bool false->KK .ret r' h'):dl (Wc G) r h0 KK:=by
 refine di (fun m r2 h3=>∃(i:Nat) (lp:Hp),m=C.ro.length-i/\i<=C.ro.length/\r2 1=r 1/\r2 6 = .int .i64 i/\(∀p∈C.ro.take i,fi C p=true)/\Slc dr 28 lp (r2 5) ((C.ro.take i).flatMap bz)/\Sep [lp,h0] h3/\Dis G h3) ?_
   (m:=C.ro.length) ⟨0,noHp,rfl,Nat.zero_le _,rfl,by rw [g6];rfl,by simp,by rw [g5];exact Slc.nil,Sep.one.none,d0⟩
 rintro m r2 h3 ⟨i,lp,rfl,hi,k1,k6,hw,o3,s3,d3⟩ X HX
 rw [g1]at k1
 have l3:h0.le h3:=s3.in 1 rfl
 have cx:∀k,af G h3 ⟨x,k,none⟩=_:=fun k=>aj (ai (l3 _ _ bx))
 have ca3:=ca.up l3 d3
 unfold Wc
 simp only [bRpE,k1,cx,k6]
 refine bv (fun hlt=>?_) (fun hge=>?_)
 rotate_left
 . obtain rfl:i=C.ro.length:=by omega
   rw [List.take_of_length_le (Nat.le_refl _)]at hw o3
   exact H1 hw _ _ lp (by simp (disch:=decide) only [bRpE,k1,g1]) l3 d3 s3.hd (by simp (disch:=decide) only [bRpE];exact o3)
 have hlt':i<C.ro.length:=by omega
 obtain ⟨y,hy⟩:∃x,C.ro[i]?=some x:=⟨_,List.getElem?_eq_getElem hlt'⟩
 have hym:y∈C.ro:=List.mem_of_getElem? hy
 obtain ⟨b,o,rfl,z0,z1,z2⟩:=Sees.pose ca3.ro hy
 unfold Jr
 simp (disch:=decide) only [bRpE,k1,cx,k6,ix23p (Int.natCast_nonneg i) hlt,z0,z1,z2]
 refine (vq (p:=y) ca3.cv (by omega)).mono ?_
 rintro _ h3 ⟨rfl,rfl⟩
 cases h1:fi C y with
 |false=>
   try simp only [bRpE]
   exact H2 ⟨y,hym,h1⟩ _ _ l3 (by simp only [bRpE])
 |true=>
 try simp only [bRpE]
 unfold Jp
 simp (disch:=decide) only [bRpE,k1,cx,k6,ix23 (Int.natCast_nonneg i) hlt,z0,z1,z2]
 refine (tw (p:=y)).mono ?_
 rintro _ _ ⟨b',rfl,hb,gb,rfl⟩
 generalize e4:Hp.set h3 b' _=h4
 obtain ⟨l4,d4,b4⟩:=boxed e4 hb d3 gb
 have hlen:=Iu (C.ro.take i)
 rw [List.length_take]at hlen
 have s4:Sep [lp,h0] h4:=s3.le l4
 try simp (disch:=first|decide|omega) only [bRpE,Nat.reduceAdd,Nat.reduceMul]
 refine ez dr (by decide) un22 eocell (by decide) (by decide) (M:=bz y) s4 d4 o3 (Sees.row b4 rfl (Nat.le_refl _)) (by rw [hlen,show (bz y).length=2 from rfl];omega) fun v' a' h' o' s' d'=>?_
 unfold Jq
 simp (disch:=first|decide|omega) only [bRpE,k6]
 refine HX (C.ro.length-(i+1)) _ _ (by omega) ⟨i+1,a',rfl,hlt',by simp (disch:=decide) only [bRpE,k1,g1],by simp only [bRpE]<;>rfl,?_,?_,s',d'⟩
 . rw [fq hy]
   intro c hc
   rcases List.mem_append.1 hc with q|q
   . exact hw c q
   . simp at q;rw [q];exact h1
 . simp (disch:=decide) only [bRpE]
   rw [fq hy,List.flatMap_append]
   simpa using o'
theorem aj5 {G h:Hp} {L:List Cell} {v:Value} (sv:Sees dr G h v L) (hL:L.length<=1000) {KK:EK} (r:Rg) (g5:r 5=v) (g7:r 7 = .int .i64 0)
   (H1:(∀c∈L,L.count c<=1)->∀r':Rg,r' 1=r 1->KK (.exit 6) r' h)
   (H2:(∃c∈L,¬L.count c<=1)->∀r':Rg,r' 2 = .bool false->KK .ret r' h):dl (Wd G) r h KK:=by
 obtain ⟨sa,cap,rfl⟩:=sv.len
 refine di (fun m r2 h3=>∃i:Nat,m=L.length-i/\i<=L.length/\r2 1=r 1/\r2 5=r 5/\r2 7 = .int .i64 i/\h3=h/\(∀c∈L.take i,L.count c<=1)) ?_
   (m:=L.length) ⟨0,rfl,Nat.zero_le _,rfl,rfl,by rw [g7];rfl,rfl,by simp⟩
 rintro m r2 h3 ⟨i,rfl,hi,k1,k5,k7,rfl,hw⟩ X HX
 rw [g5]at k5
 unfold Wd
 simp only [bRpE,k5,k7]
 refine bv (fun hlt=>?_) (fun hge=>?_)
 rotate_left
 . obtain rfl:i=L.length:=by omega
   rw [List.take_of_length_le (Nat.le_refl _)]at hw
   exact H1 hw _ (by simp (disch:=decide) only [bRpE,k1])
 have hlt':i<L.length:=by omega
 obtain ⟨y,hy⟩:∃x,L[i]?=some x:=⟨_,List.getElem?_eq_getElem hlt'⟩
 obtain ⟨b,o,rfl,z0,z1⟩:=Sees.cell sv hy
 unfold N1
 simp (disch:=decide) only [bRpE,k5,k7,ix22 (Int.natCast_nonneg i) hlt,z0,z1]
 refine (qm (c:=y) sv (by omega)).mono ?_
 rintro _ _ ⟨rfl,rfl⟩
 try simp only [bRpE]
 by_cases h2:L.count y<=1
 rotate_left
 . have e:decide ((L.count y:Int)>1)=true:=by rw [decide_eq_true_iff];omega
   simp only [bRpE,e]
   exact H2 ⟨y,List.mem_of_getElem? hy,h2⟩ _ (by simp only [bRpE])
 have e:decide ((L.count y:Int)>1)=false:=by rw [decide_eq_false_iff_not];omega
 simp only [bRpE,e]
 unfold N0
 simp (disch:=first|decide|omega) only [bRpE,k7]
 refine HX (L.length-(i+1)) _ _ (by omega) ⟨i+1,rfl,hlt',by simp (disch:=decide) only [bRpE,k1],by simp (disch:=decide) only [bRpE,k5,g5],by simp only [bRpE]<;>rfl,rfl,?_⟩
 rw [fq hy]
 intro c hc
 rcases List.mem_append.1 hc with q|q
 . exact hw c q
 . simp at q;rw [q];exact h2
theorem Lu {G h:Hp} {v:Value} {C:Conf} (hv:CV G h v C):
   al P_ G 38 #[v] h (fun u h'=>(∃b,u = .bool b/\(b=true↔Zk C))/\h'=h):=by
 obtain ⟨ab,cb,ap,cp,ar,cr,az,cs,rfl,ca⟩:=hv
 refine al.assume fun d=>quietly (enter38 (by simp) ?_)
 unfold S38
 simp only [bRpE]
 intro x hx gx
 generalize e1:Hp.set h x _=h1
 obtain ⟨l1,d1,b1⟩:=boxed e1 hx d gx
 have cx:∀k,af G h1 ⟨x,k,none⟩=_:=fun k=>aj (ai b1)
 have ca1:=ca.up l1 d1
 have no:∀{P:Prop},¬P->(false=true↔P):=fun h=>⟨fun e=>absurd e (by decide),fun p=>(h p).elim⟩
 try simp (disch:=first|decide|omega) only [bRpE,Nat.reduceAdd,Nat.reduceMul,cx]
 refine (O2 ca1.cv).mono ?_
 rintro _ _ ⟨rfl,rfl⟩
 cases hn:og C with
 |false=>
   try simp only [bRpE]
   exact ⟨⟨_,rfl,no fun M=>by have:=M.nums;rw [hn]at this;cases this⟩,l1⟩
 |true=>
 have hht:C.ht<=8:=by
   unfold og ax at hn
   simp only [Bool.and_eq_true,decide_eq_true_eq]at hn
   exact hn.2.2.1.2
 try simp only [bRpE,cx]
 by_cases hP:C.po.length<=8
 rotate_left
 . have e:decide ((C.po.length:Int)>8)=true:=by rw [decide_eq_true_iff];omega
   simp only [bRpE,e]
   exact ⟨⟨_,rfl,no fun M=>hP M.po8⟩,l1⟩
 have e:decide ((C.po.length:Int)>8)=false:=by rw [decide_eq_false_iff_not];omega
 try simp only [bRpE,e,cx]
 by_cases hR:C.ro.length<=8
 rotate_left
 . have e:decide ((C.ro.length:Int)>8)=true:=by rw [decide_eq_true_iff];omega
   simp only [bRpE,e]
   exact ⟨⟨_,rfl,no fun M=>hR M.ro8⟩,l1⟩
 have e:decide ((C.ro.length:Int)>8)=false:=by rw [decide_eq_false_iff_not];omega
 try simp only [bRpE,e,cx]
 by_cases hL:C.bl.length<=256
 rotate_left
 . have e:decide ((C.bl.length:Int)>256)=true:=by rw [decide_eq_true_iff];omega
   simp only [bRpE,e]
   exact ⟨⟨_,rfl,no fun M=>hL M.bl256⟩,l1⟩
 have e:decide ((C.bl.length:Int)>256)=false:=by rw [decide_eq_false_iff_not];omega
 simp only [bRpE,e]
 unfold aA5
 refine may_bl ca1 cx hL hP _ (by simp (disch:=decide) only [bRpE]) (by simp only [bRpE]) (fun hbl r' j1=>?_) (fun ⟨c,hc,hbad⟩ r' j2=>?_)
 rotate_left
 . simp only [bRpE,j2]
   exact ⟨⟨_,rfl,no fun M=>hbad (M.blk c hc)⟩,l1⟩
 simp only [jw,if_true,gg,i8]
 have j1':r' 1 = .pointer (some ⟨x,0,none⟩):=j1.trans (by simp (disch:=decide) only [bRpE])
 unfold aA4
 refine may_po ca1 cx hL hP hR _ (by simp (disch:=decide) only [bRpE,j1']) (by simp only [bRpE]) (fun hpo r'' j1=>?_) (fun ⟨c,hc,hbad⟩ r' j2=>?_)
 rotate_left
 . simp only [bRpE,j2]
   exact ⟨⟨_,rfl,no fun M=>hbad (M.prt c hc)⟩,l1⟩
 simp only [jw,if_true,gg,i8]
 have j1'':r'' 1 = .pointer (some ⟨x,0,none⟩):=j1.trans (by simp (disch:=decide) only [bRpE,j1'])
 unfold aA3
 refine may_ro ca1 d1 b1 hL hR _ (by simp (disch:=decide) only [bRpE,j1'']) (by simp (disch:=decide) only [bRpE]) (by simp only [bRpE]) (fun hro r3 h3 lp j1 l3 d3 llp o3=>?_) (fun ⟨p,hp,hbad⟩ r3 h3 l3 j2=>?_)
 rotate_left
 . simp only [bRpE,j2]
   exact ⟨⟨_,rfl,no fun M=>by have:=M.fit p hp;rw [hbad]at this;cases this⟩,l1.trans l3⟩
 simp only [jw,if_true,gg,i8]
 have j31:r3 1 = .pointer (some ⟨x,0,none⟩):=j1.trans (by simp (disch:=decide) only [bRpE,j1''])
 unfold aA2
 refine aj5 (o3.sees (by decide) llp) (by rw [Iu];omega) _ (by simp (disch:=decide) only [bRpE]) (by simp only [bRpE]) (fun hon r4 j1=>?_) (fun ⟨c,hc,hbad⟩ r4 j2=>?_)
 rotate_left
 . simp only [bRpE,j2]
   exact ⟨⟨_,rfl,no fun M=>hbad (M.once c hc)⟩,l1.trans l3⟩
 simp only [jw,if_true,gg,i8]
 have j41:r4 1 = .pointer (some ⟨x,0,none⟩):=j1.trans (by simp (disch:=decide) only [bRpE,j31])
 have cx3:∀k,af G h3 ⟨x,k,none⟩=_:=fun k=>aj (ai (l3 _ _ b1))
 unfold aA1
 simp only [bRpE,j41,cx3]
 refine (ad6 (ca1.up l3 d3).cv hht (by omega) (by omega) (by omega)).mono ?_
 rintro _ h3 ⟨⟨b,rfl,hb⟩,rfl⟩
 try simp (disch:=first|decide|omega) only [bRpE,Nat.reduceAdd,Nat.reduceMul]
 exact ⟨⟨_,rfl,hb.trans ⟨fun B=>⟨hn,hP,hR,hL,hbl,hpo,hro,hon,B⟩,fun M=>M.bins⟩⟩,l1.trans l3⟩
section
variable (G:Hp) (K:EK) (r:Rg) (h:Hp)
def md25:Nat->Hint
 |_=>mh false [] [] [] false
def Fa (G:Hp) (K:EK) (r:Rg) (h:Hp):Prop:=
 K .ret (u2 r 14 (r 5) 4 (r 5)) h
def S25:Prop:=
 o_ G (binOp .rem 3 (r 0) (r 1)) h fun v0 h0=>o_ G (binOp .lss 3 v0 (.int .i64 0)) h0 fun v1 h1=>
 cond v1
 (o_ G (binOp .add 3 v0 (r 1)) h1 fun v2 h2=>
 Fa G K (upd (u10 r 4 (.int .i64 0) 6 (r 0) 7 (r 1) 8 v0 5 v0 9 v0 10 v1 11 v0 12 (r 1) 13 v2) 5 v2) h2)
 (Fa G K (u7 r 4 (.int .i64 0) 6 (r 0) 7 (r 1) 8 v0 5 v0 9 v0 10 v1) h1)
theorem X4:Ent 15 25 [.tmp 4] S25:=ent_ (m:=md25) (c:=(Tryz.f25.body.getD .skip)) (fun _ _ _ _=>by kernel_rfl) Tryz.func25 rfl rfl rfl
def md37:Nat->Hint
 |_=>mh false [] [] [] false
def aA6 (G:Hp) (K:EK) (r:Rg) (h:Hp):Prop:=
 K .ret (u3 r 9 (r 4) 2 (r 4) 3 (.int .i64 0)) h
def S37:Prop:=
 o_ G (Instr.box 26 (r 0)) h fun v0 h0=>o_ G (Instr.loadAt 26 v0) h0 fun v1 h1=>
 c_ G 80 #[v1] h1 fun v2 h2=>
 opH P_ G (xEq .eql 68 (.tmp 0) (.const .nilFunc) v2 (.pointer none)) h2 fun v3 h3=>
 (fun q=>cond v3
 (K .ret (u2 q 2 (.pointer none) 3 (.int .i64 5)) h3)
 (aA6 G K q h3))
 (u8 r 1 v0 2 (.pointer none) 3 (.int .i64 0) 5 v1 6 v2 4 v2 7 v2 8 v3)
theorem enter37:Ent 10 37 [.tmp 2,.tmp 3] S37:=ent_ (m:=md37) (c:=(Tryz.f37.body.getD .skip)) (fun _ _ _ _=>by kernel_rfl) Tryz.func37 rfl rfl rfl
def md155:Nat->Hint
 |3=>mh false [0,1,3,0,0,16,48,112,248,511,1023,2047,4095] [n_,n_,m_,n_,n_,n_,n_,m_,n_,n_,n_,n_,.store] (fs 13) false
 |4=>mh false [0,1,3,0,0,16,48,112,248,511,1023,2047,4095] [n_,n_,m_,n_,n_,n_,n_,m_,n_,n_,n_,n_,.store] (fs 13) false
 |_=>mh false [] [] [] false
def Ym:Prop:=
 p_ (Instr.fieldAt 30 (r 5) 0) h fun v8 h8=>
 p_ (Instr.fieldAt 28 v8 0) h8 fun v9 h9=>
 w_ G h (Instr.loadAt 3 v9) h9 fun v10 h10=>
 p_ (Instr.indexAt 245 (.pointer (some ⟨0,0,none⟩)) (r 2)) h10 fun v11 h11=>
 p_ (Instr.fieldAt 28 v11 0) h11 fun v12 h12=>
 w_ G h (Instr.loadAt 3 v12) h12 fun v13 h13=>
 p_ (binOp .mul 3 (r 3) v13) h13 fun v14 h14=>
 p_ (binOp .add 3 v10 v14) h14 fun v15 h15=>
 p_ (Instr.fieldAt 30 (r 5) 0) h15 fun v16 h16=>
 p_ (Instr.fieldAt 28 v16 0) h16 fun v17 h17=>
 opH P_ G (su (Instr.storeAt 3 v17 v15)) h17 fun v18 h18=>
 p_ (Instr.fieldAt 30 (r 5) 0) h18 fun v19 h19=>
 p_ (Instr.fieldAt 28 v19 1) h19 fun v20 h20=>
 w_ G h18 (Instr.loadAt 3 v20) h20 fun v21 h21=>
 p_ (Instr.indexAt 245 (.pointer (some ⟨0,0,none⟩)) (r 2)) h21 fun v22 h22=>
 p_ (Instr.fieldAt 28 v22 1) h22 fun v23 h23=>
 w_ G h18 (Instr.loadAt 3 v23) h23 fun v24 h24=>
 p_ (binOp .mul 3 (r 3) v24) h24 fun v25 h25=>
 p_ (binOp .add 3 v21 v25) h25 fun v26 h26=>
 p_ (Instr.fieldAt 30 (r 5) 0) h26 fun v27 h27=>
 p_ (Instr.fieldAt 28 v27 1) h27 fun v28 h28=>
 opH P_ G (su (Instr.storeAt 3 v28 v26)) h28 fun v29 h29=>o_ G (Instr.loadAt 30 (r 5)) h29 fun v30 h30=>
 opH P_ G (su (Instr.storeAt 30 (r 8) v30)) h30 fun v31 h31=>
 K .ret (u6 (u10 (u10 r 19 v8 20 v9 21 v10 22 (r 3) 23 (r 2) 24 v11 25 v12 26 v13 27 v14 28 v15) 29 v16 30 v17 31 v19 32 v20 33 v21 34 (r 3) 35 (r 2) 36 v22 37 v23 38 v24) 39 v25 40 v26 41 v27 42 v28 43 v30 9 (.bool true)) h31
def S155:Prop:=
 o_ G (Instr.box 30 (r 1)) h fun v0 h0=>o_ G (Instr.alloc 30 true (.tuple #[])) h0 fun v1 h1=>
 c_ G 129 #[(r 3),(.int .i64 0),(.int .i64 16)] h1 fun v2 h2=>o_ G (Op.unary .not v2) h2 fun v3 h3=>g_ v3 false (fun K1=>K1 (r 2) h3) h3 fun v4 h4=>g_ v3 false (c_ G 129 #[v4,(.int .i64 0),(.int .i64 3)] h4) h4 fun v5 h5=>g_ v3 false (o_ G (Op.unary .not v5) h5) h5 fun v6 h6=>
 opH P_ G (bj v3 (.bool true) v6) h6 fun v7 h7=>
 cond v7
 (o_ G (Instr.build 30 #[]) h7 fun v32 h32=>
 opH P_ G (su (Instr.storeAt 30 v1 v32)) h32 fun v33 h33=>
 K .ret (u3 (u10 r 5 v0 8 v1 9 (.bool false) 10 (r 3) 11 v2 12 v3 13 v3 14 v4 15 v5 16 v6) 17 v7 18 v32 9 (.bool false)) h33)
 (Ym G K (upd (u10 r 5 v0 8 v1 9 (.bool false) 10 (r 3) 11 v2 12 v3 13 v3 14 v4 15 v5 16 v6) 17 v7) h7)
theorem ap9:Ent 44 155 [.cell 8 30,.tmp 9] S155:=ent_ (m:=md155) (c:=(Tryz.f155.body.getD .skip)) (fun _ _ _ _=>by kernel_rfl) Tryz.func155 rfl rfl rfl
def md89:Nat->Hint
 |_=>mh false [] [] [] false
def Qa:Prop:=
 o_ G (Instr.fieldAt 30 (r 3) 0) h fun v7 h7=>o_ G (Instr.loadAt 28 v7) h7 fun v8 h8=>o_ G (Instr.fieldAt 30 (r 3) 0) h8 fun v9 h9=>o_ G (Instr.fieldAt 28 v9 0) h9 fun v10 h10=>o_ G (Instr.loadAt 3 v10) h10 fun v11 h11=>o_ G (Instr.fieldAt 28 (r 5) 0) h11 fun v12 h12=>o_ G (Instr.loadAt 3 v12) h12 fun v13 h13=>o_ G (binOp .add 3 v11 v13) h13 fun v14 h14=>o_ G (Instr.fieldAt 30 (r 3) 0) h14 fun v15 h15=>o_ G (Instr.fieldAt 28 v15 1) h15 fun v16 h16=>o_ G (Instr.loadAt 3 v16) h16 fun v17 h17=>o_ G (Instr.fieldAt 28 (r 5) 1) h17 fun v18 h18=>o_ G (Instr.loadAt 3 v18) h18 fun v19 h19=>o_ G (binOp .add 3 v17 v19) h19 fun v20 h20=>o_ G (Instr.build 28 #[(0,v14),(1,v20)]) h20 fun v21 h21=>o_ G (Instr.buildSlice 22 2 #[(0,v8),(1,v21)]) h21 fun v22 h22=>
 K .ret (u7 (u10 r 12 v7 13 v8 14 v9 15 v10 16 v11 17 v12 18 v13 19 v14 20 v15 21 v16) 22 v17 23 v18 24 v19 25 v20 26 v21 27 v22 4 v22) h22
def S89:Prop:=
 o_ G (Instr.box 30 (r 1)) h fun v0 h0=>o_ G (Instr.indexAt 245 (.pointer (some ⟨0,0,none⟩)) (.int .i64 1)) h0 fun v1 h1=>o_ G (Instr.loadAt 28 v1) h1 fun v2 h2=>o_ G (Instr.alloc 28 true (.tuple #[])) h2 fun v3 h3=>
 opH P_ G (su (Instr.storeAt 28 v3 v2)) h3 fun v4 h4=>o_ G (Instr.fieldAt 30 v0 1) h4 fun v5 h5=>o_ G (Instr.loadAt 4 v5) h5 fun v6 h6=>
 cond v6
 (o_ G (Instr.indexAt 245 (.pointer (some ⟨0,0,none⟩)) (.int .i64 2)) h6 fun v23 h23=>o_ G (Instr.loadAt 28 v23) h23 fun v24 h24=>
 opH P_ G (su (Instr.storeAt 28 v3 v24)) h24 fun v25 h25=>
 Qa G K (u9 r 3 v0 4 (.slice none 0 0) 6 v1 7 v2 5 v3 8 v5 9 v6 10 v23 11 v24) h25)
 (Qa G K (u7 r 3 v0 4 (.slice none 0 0) 6 v1 7 v2 5 v3 8 v5 9 v6) h6)
theorem enter89:Ent 28 89 [.tmp 4] S89:=ent_ (m:=md89) (c:=(Tryz.f89.body.getD .skip)) (fun _ _ _ _=>by kernel_rfl) Tryz.func89 rfl rfl rfl
def md61:Nat->Hint
 |_=>mh false [] [] [] false
def S61:Prop:=
 o_ G (Instr.box 30 (r 1)) h fun v0 h0=>o_ G (Instr.loadAt 30 v0) h0 fun v1 h1=>
 c_ G 89 #[(r 0),v1] h1 fun v2 h2=>o_ G (Instr.indexAt 22 v2 (.int .i64 0)) h2 fun v3 h3=>o_ G (Instr.loadAt 28 v3) h3 fun v4 h4=>
 c_ G 62 #[(r 0),v4] h4 fun v5 h5=>g_ v5 true (fun K1=>K1 (r 0) h5) h5 fun v6 h6=>g_ v5 true (fun K1=>K1 v2 h6) h6 fun v7 h7=>g_ v5 true (o_ G (Instr.indexAt 22 v7 (.int .i64 1)) h7) h7 fun v8 h8=>g_ v5 true (o_ G (Instr.loadAt 28 v8) h8) h8 fun v9 h9=>g_ v5 true (c_ G 62 #[v6,v9] h9) h9 fun v10 h10=>
 opH P_ G (bj v5 v10 (.bool false)) h10 fun v11 h11=>
 K .ret (u9 (u10 r 3 v0 4 (.bool false) 6 (r 0) 7 v1 8 v2 5 v2 9 (r 0) 10 v2 11 v3 12 v4) 13 v5 14 v5 15 v6 16 v7 17 v8 18 v9 19 v10 20 v11 4 v11) h11
theorem enter61:Ent 21 61 [.tmp 4] S61:=ent_ (m:=md61) (c:=(Tryz.f61.body.getD .skip)) (fun _ _ _ _=>by kernel_rfl) Tryz.func61 rfl rfl rfl
def md149:Nat->Hint
 |_=>mh false [] [] [] false
def S149:Prop:=
 o_ G (Instr.box 68 (r 0)) h fun v0 h0=>o_ G (Instr.box 30 (r 1)) h0 fun v1 h1=>
 K .ret (u5 r 2 v0 3 v1 4 .nilFunc 5 (.func (.func 165) #[] #[v0,v1]) 4 (.func (.func 165) #[] #[v0,v1])) h1
theorem aq4:Ent 6 149 [.tmp 4] S149:=ent_ (m:=md149) (c:=(Tryz.f149.body.getD .skip)) (fun _ _ _ _=>by kernel_rfl) Tryz.func149 rfl rfl rfl
def md78:Nat->Hint
 |_=>mh false [] [] [] false
def S78:Prop:=
 o_ G (Instr.box 48 (r 1)) h fun v0 h0=>o_ G (Instr.loadAt 48 v0) h0 fun v1 h1=>
 c_ G 127 #[(r 0),v1] h1 fun v2 h2=>o_ G (Instr.extract v2 0) h2 fun v3 h3=>o_ G (Instr.extract v2 1) h3 fun v4 h4=>
 K .ret (u2 (u10 r 3 v0 4 (.bool false) 8 (r 0) 9 v1 10 v2 7 v2 11 v3 12 v4 5 v3 6 v4) 13 v4 4 v4) h4
theorem enter78:Ent 14 78 [.tmp 4] S78:=ent_ (m:=md78) (c:=(Tryz.f78.body.getD .skip)) (fun _ _ _ _=>by kernel_rfl) Tryz.func78 rfl rfl rfl
def md74:Nat->Hint
 |_=>mh false [] [] [] false
def S74:Prop:=
 o_ G (Instr.box 26 (r 0)) h fun v0 h0=>o_ G (Instr.loadAt 26 v0) h0 fun v1 h1=>
 c_ G 80 #[v1] h1 fun v2 h2=>
 opH P_ G (xEq .neq 68 (.tmp 0) (.const .nilFunc) v2 (.pointer none)) h2 fun v3 h3=>
 K .ret (u6 r 1 v0 2 (.bool false) 3 v1 4 v2 5 v3 2 v3) h3
theorem enter74:Ent 6 74 [.tmp 2] S74:=ent_ (m:=md74) (c:=(Tryz.f74.body.getD .skip)) (fun _ _ _ _=>by kernel_rfl) Tryz.func74 rfl rfl rfl
def md62:Nat->Hint
 |_=>mh false [] [] [] false
def S62:Prop:=
 o_ G (Instr.box 28 (r 1)) h fun v0 h0=>o_ G (Instr.loadAt 28 v0) h0 fun v1 h1=>
 c_ G 88 #[(r 0),v1] h1 fun v2 h2=>o_ G (binOp .geq 3 v2 (.int .i64 0)) h2 fun v3 h3=>g_ v3 true (fun K1=>K1 (r 0) h3) h3 fun v4 h4=>g_ v3 true (opH P_ G (xNil v4) h4) h4 fun v5 h5=>g_ v3 true (o_ G (Instr.fieldAt 215 v5 2) h5) h5 fun v6 h6=>g_ v3 true (o_ G (Instr.loadAt 168 v6) h6) h6 fun v7 h7=>g_ v3 true (fun K1=>K1 v2 h7) h7 fun v8 h8=>g_ v3 true (o_ G (Instr.indexAt 168 v7 v8) h8) h8 fun v9 h9=>g_ v3 true (o_ G (Instr.loadAt 3 v9) h9) h9 fun v10 h10=>g_ v3 true (opH P_ G (xEq .neq 3 (.tmp 0) (.const .nilFunc) v10 (.int .i64 (-1))) h10) h10 fun v11 h11=>
 opH P_ G (bj v3 v11 (.bool false)) h11 fun v12 h12=>
 K .ret (u9 (u10 r 3 v0 4 (.bool false) 6 (r 0) 7 v1 8 v2 5 v2 9 v2 10 v3 11 v3 12 v4) 13 v5 14 v6 15 v7 16 v8 17 v9 18 v10 19 v11 20 v12 4 v12) h12
theorem enter62:Ent 21 62 [.tmp 4] S62:=ent_ (m:=md62) (c:=(Tryz.f62.body.getD .skip)) (fun _ _ _ _=>by kernel_rfl) Tryz.func62 rfl rfl rfl
def md158:Nat->Hint
 |_=>mh false [] [] [] false
def S158:Prop:=
 o_ G (Instr.box 28 (r 1)) h fun v0 h0=>o_ G (Instr.loadAt 28 v0) h0 fun v1 h1=>
 c_ G 88 #[(r 0),v1] h1 fun v2 h2=>o_ G (binOp .geq 3 v2 (.int .i64 0)) h2 fun v3 h3=>g_ v3 true (fun K1=>K1 (r 0) h3) h3 fun v4 h4=>g_ v3 true (opH P_ G (xNil v4) h4) h4 fun v5 h5=>g_ v3 true (o_ G (Instr.fieldAt 215 v5 2) h5) h5 fun v6 h6=>g_ v3 true (o_ G (Instr.loadAt 168 v6) h6) h6 fun v7 h7=>g_ v3 true (fun K1=>K1 v2 h7) h7 fun v8 h8=>g_ v3 true (o_ G (Instr.indexAt 168 v7 v8) h8) h8 fun v9 h9=>g_ v3 true (o_ G (Instr.loadAt 3 v9) h9) h9 fun v10 h10=>g_ v3 true (opH P_ G (xEq .eql 3 (.tmp 0) (.const .nilFunc) v10 (.int .i64 0)) h10) h10 fun v11 h11=>
 opH P_ G (bj v3 v11 (.bool false)) h11 fun v12 h12=>
 K .ret (u9 (u10 r 3 v0 4 (.bool false) 6 (r 0) 7 v1 8 v2 5 v2 9 v2 10 v3 11 v3 12 v4) 13 v5 14 v6 15 v7 16 v8 17 v9 18 v10 19 v11 20 v12 4 v12) h12
theorem ap6:Ent 21 158 [.tmp 4] S158:=ent_ (m:=md158) (c:=(Tryz.f158.body.getD .skip)) (fun _ _ _ _=>by kernel_rfl) Tryz.func158 rfl rfl rfl
def md88:Nat->Hint
 |1=>⟨false,[0,1,3,7,15,7,39,103,231,487,1023,2047,4095,8191,16383,32767,16383,81919,212991,475135,999423,2097151,4194303,8388607],[.pureN,.pureM,.pureN,.pureN,.pureM,.pureN,.pureN,.pureN,.pureM,.pureN,.eff,.pureN,.pureN,.pureN,.pureN,.pureM,.pureN,.pureN,.pureN,.pureM,.pureN,.eff,.pureN,.pureN],[.pureN,.pureM,.pureN,.pureN,.pureM,.pureN,.pureN,.pureN,.pureM,.pureN,.eff,.pureN,.pureN,.pureN,.pureN,.late,.pureN,.pureN,.pureN,.late,.pureN,.eff,.pureN,.pureN],[false,false,false,false,false,false,false,false,false,false,false,false,false,false,false,false,false,false,false,false,false,false,false,false],false⟩
 |3=>mh false [0,1,0,4,12,28,63,0,128,511,1023] [n_,m_,n_,n_,n_,m_,n_,n_,m_,n_,n_] (fs 11) false
 |_=>mh false [] [] [] false
def aw3:Prop:=
 p_ (Instr.fieldAt 28 (r 3) 1) h fun v22 h22=>
 w_ G h (Instr.loadAt 3 v22) h22 fun v23 h23=>
 bm P_ noHp noHp (xNil (r 0)) h23 fun v24 h24=>
 p_ (Instr.fieldAt 215 v24 0) h24 fun v25 h25=>
 w_ G h (Instr.loadAt 3 v25) h25 fun v26 h26=>
 p_ (binOp .mul 3 v23 v26) h26 fun v27 h27=>
 p_ (Instr.fieldAt 28 (r 3) 0) h27 fun v28 h28=>
 w_ G h (Instr.loadAt 3 v28) h28 fun v29 h29=>
 p_ (binOp .add 3 v27 v29) h29 fun v30 h30=>
 K .ret (upd (u10 r 29 v22 30 v23 31 (r 0) 32 v24 33 v25 34 v26 35 v27 36 v28 37 v29 38 v30) 4 v30) h30
def S88:Prop:=
 o_ G (Instr.box 28 (r 1)) h fun v0 h0=>
 bm P_ G h0 (xEq .eql 68 (.tmp 0) (.const .nilFunc) (r 0) (.pointer none)) h0 fun v1 h1=>g_ v1 false (p_ (Instr.fieldAt 28 v0 0) h1) h1 fun v2 h2=>g_ v1 false (w_ G h0 (Instr.loadAt 3 v2) h2) h2 fun v3 h3=>g_ v1 false (fun K1=>K1 (r 0) h3) h3 fun v4 h4=>g_ v1 false (bm P_ noHp noHp (xNil v4) h4) h4 fun v5 h5=>g_ v1 false (p_ (Instr.fieldAt 215 v5 0) h5) h5 fun v6 h6=>g_ v1 false (w_ G h0 (Instr.loadAt 3 v6) h6) h6 fun v7 h7=>g_ v1 false (p_ (binOp .sub 3 v7 (.int .i64 1)) h7) h7 fun v8 h8=>g_ v1 false (c_ G 129 #[v3,(.int .i64 0),v8] h8) h8 fun v9 h9=>g_ v1 false (p_ (Op.unary .not v9) h9) h9 fun v10 h10=>
 bm P_ noHp noHp (bj v1 (.bool true) v10) h10 fun v11 h11=>g_ v11 false (p_ (Instr.fieldAt 28 v0 1) h11) h11 fun v12 h12=>g_ v11 false (w_ G h12 (Instr.loadAt 3 v12) h12) h12 fun v13 h13=>g_ v11 false (fun K1=>K1 (r 0) h13) h13 fun v14 h14=>g_ v11 false (bm P_ noHp noHp (xNil v14) h14) h14 fun v15 h15=>g_ v11 false (p_ (Instr.fieldAt 215 v15 1) h15) h15 fun v16 h16=>g_ v11 false (w_ G h16 (Instr.loadAt 3 v16) h16) h16 fun v17 h17=>g_ v11 false (p_ (binOp .sub 3 v17 (.int .i64 1)) h17) h17 fun v18 h18=>g_ v11 false (c_ G 129 #[v13,(.int .i64 0),v18] h18) h18 fun v19 h19=>g_ v11 false (p_ (Op.unary .not v19) h19) h19 fun v20 h20=>
 bm P_ noHp noHp (bj v11 (.bool true) v20) h20 fun v21 h21=>
 (fun q=>cond v21
 (K .ret (upd q 4 (.int .i64 (-1))) h21)
 (aw3 G K q h21))
 (u6 (u10 (u10 r 3 v0 4 (.int .i64 0) 5 (r 0) 6 v1 7 v1 8 v2 9 v3 10 v4 11 v5 12 v6) 13 v7 14 v8 15 v9 16 v10 17 v11 18 v11 19 v12 20 v13 21 v14 22 v15) 23 v16 24 v17 25 v18 26 v19 27 v20 28 v21)
theorem enter88:Ent 39 88 [.tmp 4] S88:=ent_ (m:=md88) (c:=(Tryz.f88.body.getD .skip)) (fun _ _ _ _=>by kernel_rfl) Tryz.func88 rfl rfl rfl
def md80:Nat->Hint
 |_=>mh false [] [] [] false
def ax2 (G:Hp) (K:EK) (r:Rg) (h:Hp):Prop:=
 K .ret (u2 r 68 (r 5) 2 (r 5)) h
def ax3:Prop:=
 o_ G (Instr.loadAt 26 (r 1)) h fun v29 h29=>
 c_ G 130 #[v29] h29 fun v30 h30=>o_ G (Instr.extract v30 0) h30 fun v31 h31=>o_ G (Instr.extract v30 1) h31 fun v32 h32=>o_ G (Op.unary .not v32) h32 fun v33 h33=>g_ v33 false (fun K1=>K1 v31 h33) h33 fun v34 h34=>g_ v33 false (o_ G (Instr.fieldAt 26 (r 1) 5) h34) h34 fun v35 h35=>g_ v33 false (o_ G (Instr.loadAt 23 v35) h35) h35 fun v36 h36=>g_ v33 false (c_ G 131 #[v34,v36] h36) h36 fun v37 h37=>g_ v33 false (o_ G (Op.unary .not v37) h37) h37 fun v38 h38=>
 opH P_ G (bj v33 (.bool true) v38) h38 fun v39 h39=>g_ v39 false (fun K1=>K1 v31 h39) h39 fun v40 h40=>g_ v39 false (o_ G (Instr.fieldAt 26 (r 1) 6) h40) h40 fun v41 h41=>g_ v39 false (o_ G (Instr.loadAt 24 v41) h41) h41 fun v42 h42=>g_ v39 false (o_ G (Instr.fieldAt 26 (r 1) 2) h42) h42 fun v43 h43=>g_ v39 false (o_ G (Instr.loadAt 3 v43) h43) h43 fun v44 h44=>g_ v39 false (c_ G 132 #[v40,v42,v44] h44) h44 fun v45 h45=>g_ v39 false (o_ G (Op.unary .not v45) h45) h45 fun v46 h46=>
 opH P_ G (bj v39 (.bool true) v46) h46 fun v47 h47=>
 (fun q=>cond v47
 (K .ret (upd q 2 (.pointer none)) h47)
 (ax2 G K q h47))
 (u5 (u10 (u10 r 46 v29 47 v30 45 v30 48 v31 49 v32 5 v31 6 v32 50 v32 51 v33 52 v33) 53 v34 54 v35 55 v36 56 v37 57 v38 58 v39 59 v39 60 v40 61 v41 62 v42) 63 v43 64 v44 65 v45 66 v46 67 v47)
def ax4:Prop:=
 o_ G (Instr.fieldAt 26 (r 1) 2) h fun v15 h15=>o_ G (Instr.loadAt 3 v15) h15 fun v16 h16=>
 c_ G 129 #[v16,(.int .i64 1),(.int .i64 8)] h16 fun v17 h17=>o_ G (Op.unary .not v17) h17 fun v18 h18=>g_ v18 false (o_ G (Instr.fieldAt 26 (r 1) 12) h18) h18 fun v19 h19=>g_ v18 false (o_ G (Instr.loadAt 3 v19) h19) h19 fun v20 h20=>g_ v18 false (c_ G 129 #[v20,(.int .i64 1),(.int .i64 16)] h20) h20 fun v21 h21=>g_ v18 false (o_ G (Op.unary .not v21) h21) h21 fun v22 h22=>
 opH P_ G (bj v18 (.bool true) v22) h22 fun v23 h23=>g_ v23 false (o_ G (Instr.fieldAt 26 (r 1) 14) h23) h23 fun v24 h24=>g_ v23 false (o_ G (Instr.loadAt 3 v24) h24) h24 fun v25 h25=>g_ v23 false (c_ G 129 #[v25,(.int .i64 1),(.int .i64 1048576)] h25) h25 fun v26 h26=>g_ v23 false (o_ G (Op.unary .not v26) h26) h26 fun v27 h27=>
 opH P_ G (bj v23 (.bool true) v27) h27 fun v28 h28=>
 (fun q=>cond v28
 (K .ret (upd q 2 (.pointer none)) h28)
 (ax3 G K q h28))
 (u6 (u10 r 29 v15 30 v16 31 v17 32 v18 33 v18 34 v19 35 v20 36 v21 37 v22 38 v23) 39 v23 40 v24 41 v25 42 v26 43 v27 44 v28)
def Nn:Prop:=
 o_ G (binOp .add 3 (r 21) (.int .i64 1)) h fun v49 h49=>
 K .normal (u2 r 28 v49 21 v49) h49
def Np:Prop:=
 o_ G (Instr.indexAt 168 (r 19) (r 21)) h fun v50 h50=>o_ G (Instr.loadAt 3 v50) h50 fun v51 h51=>
 c_ G 129 #[v51,(.int .i64 1),(.int .i64 1000)] h51 fun v52 h52=>o_ G (Op.unary .not v52) h52 fun v53 h53=>
 (fun q=>cond v53
 (K .ret (upd q 2 (.pointer none)) h53)
 (Nn G K q h53))
 (u6 r 23 v50 24 v51 4 v51 25 v51 26 v52 27 v53)
def ax1 (r:Rg) (h:Hp) (K:EK):Prop:=
 o_ G (binOp .lss 3 (r 21) (r 20)) h fun v48 h48=>
 cond v48
 (Np G K (upd r 22 v48) h48)
 (K (.exit 0) (upd r 22 v48) h48)
def S80:Prop:=
 o_ G (Instr.box 26 (r 0)) h fun v0 h0=>o_ G (Instr.fieldAt 26 v0 7) h0 fun v1 h1=>o_ G (Instr.loadAt 3 v1) h1 fun v2 h2=>o_ G (Instr.fieldAt 26 v0 8) h2 fun v3 h3=>o_ G (Instr.loadAt 3 v3) h3 fun v4 h4=>o_ G (Instr.fieldAt 26 v0 9) h4 fun v5 h5=>o_ G (Instr.loadAt 3 v5) h5 fun v6 h6=>o_ G (Instr.fieldAt 26 v0 10) h6 fun v7 h7=>o_ G (Instr.loadAt 3 v7) h7 fun v8 h8=>o_ G (Instr.fieldAt 26 v0 11) h8 fun v9 h9=>o_ G (Instr.loadAt 3 v9) h9 fun v10 h10=>o_ G (Instr.fieldAt 26 v0 13) h10 fun v11 h11=>o_ G (Instr.loadAt 3 v11) h11 fun v12 h12=>o_ G (Instr.buildSlice 168 6 #[(0,v2),(1,v4),(2,v6),(3,v8),(4,v10),(5,v12)]) h12 fun v13 h13=>o_ G (Builtin.len_ #[168] 3 #[v13]) h13 fun v14 h14=>
 dl (ax1 G) (u7 (u10 r 1 v0 2 (.pointer none) 7 v1 8 v2 9 v3 10 v4 11 v5 12 v6 13 v7 14 v8) 15 v9 16 v10 17 v11 18 v12 19 v13 20 v14 21 (.int .i64 0)) h14 (bo 0 (ci (ax4 G K) K))
theorem enter80:Ent 69 80 [.tmp 2] S80:=ent_ (m:=md80) (c:=(Tryz.f80.body.getD .skip)) (fun _ _ _ _=>by kernel_rfl) Tryz.func80 rfl rfl rfl
def md129:Nat->Hint
 |_=>mh false [] [] [] false
def S129:Prop:=
 o_ G (binOp .geq 3 (r 0) (r 1)) h fun v0 h0=>g_ v0 true (fun K1=>K1 (r 0) h0) h0 fun v1 h1=>g_ v0 true (fun K1=>K1 (r 2) h1) h1 fun v2 h2=>g_ v0 true (o_ G (binOp .leq 3 v1 v2) h2) h2 fun v3 h3=>
 opH P_ G (bj v0 v3 (.bool false)) h3 fun v4 h4=>
 K .ret (u10 r 6 (.bool false) 7 (r 0) 8 (r 1) 9 v0 10 v0 11 v1 12 v2 13 v3 14 v4 6 v4) h4
theorem ar8:Ent 15 129 [.tmp 6] S129:=ent_ (m:=md129) (c:=(Tryz.f129.body.getD .skip)) (fun _ _ _ _=>by kernel_rfl) Tryz.func129 rfl rfl rfl
def md165:Nat->Hint
 |_=>mh false [] [] [] false
def Qm:Prop:=
 o_ G (Instr.loadAt 30 (r 2)) h fun v8 h8=>o_ G (Instr.fieldAt 30 (r 2) 0) h8 fun v9 h9=>o_ G (Instr.loadAt 28 v9) h9 fun v10 h10=>o_ G (Instr.fieldAt 30 (r 2) 1) h10 fun v11 h11=>o_ G (Instr.loadAt 4 v11) h11 fun v12 h12=>o_ G (Op.unary .not v12) h12 fun v13 h13=>o_ G (Instr.build 30 #[(0,v10),(1,v13)]) h13 fun v14 h14=>o_ G (Instr.build 48 #[(0,(.int .i64 2)),(3,v8),(4,v14)]) h14 fun v15 h15=>o_ G (Instr.alloc 48 true (.tuple #[])) h15 fun v16 h16=>
 opH P_ G (su (Instr.storeAt 48 v16 v15)) h16 fun v17 h17=>o_ G (Instr.loadAt 68 (r 1)) h17 fun v18 h18=>o_ G (Instr.loadAt 48 v16) h18 fun v19 h19=>
 c_ G 78 #[v18,v19] h19 fun v20 h20=>
 cond v20
 (o_ G (Instr.loadAt 178 (r 3)) h20 fun v21 h21=>o_ G (Instr.loadAt 48 v16) h21 fun v22 h22=>
 opH P_ G (ij v21 #[v22]) h22 fun v23 h23=>
 K .normal (u5 (u10 r 18 v8 19 v9 20 v10 21 v11 22 v12 23 v13 24 v14 25 v15 5 v16 26 v18) 27 v19 28 v20 29 v21 30 v22 31 v23) h23)
 (K .normal (u2 (u10 r 18 v8 19 v9 20 v10 21 v11 22 v12 23 v13 24 v14 25 v15 5 v16 26 v18) 27 v19 28 v20) h20)
def Qo (r:Rg) (h:Hp) (K:EK):Prop:=
 o_ G (Instr.alloc 48 true (.tuple #[])) h fun v24 h24=>
 opH P_ G (su (Instr.storeAt 48 v24 (r 13))) h24 fun v25 h25=>
 K .normal (upd r 4 v24) h25
def Qn (r:Rg) (h:Hp) (K:EK):Prop:=
 o_ G (Instr.loadAt 178 (r 3)) h fun v26 h26=>o_ G (Instr.loadAt 48 (r 4)) h26 fun v27 h27=>
 opH P_ G (ij v26 #[v27]) h27 fun v28 h28=>o_ G (Op.unary .not v28) h28 fun v29 h29=>
 cond v29
 (K .ret (u4 r 14 v26 15 v27 16 v28 17 v29) h29)
 (K .normal (u4 r 14 v26 15 v27 16 v28 17 v29) h29)
def Yi:Prop:=
 o_ G (Instr.loadAt 68 (r 1)) h fun v5 h5=>o_ G (Instr.loadAt 30 (r 2)) h5 fun v6 h6=>
 c_ G 166 #[v5,v6] h6 fun v7 h7=>
 Kz P_ G 1 (Qo G) (Qn G) (setR 32 #[13]) v7 (u3 r 10 v5 11 v6 12 v7) h7 (bo 0 (ci (Qm G K) K))
def S165:Prop:=
 o_ G (Instr.box 178 (r 0)) h fun v0 h0=>o_ G (Instr.loadAt 68 (r 1)) h0 fun v1 h1=>o_ G (Instr.loadAt 30 (r 2)) h1 fun v2 h2=>
 c_ G 61 #[v1,v2] h2 fun v3 h3=>o_ G (Op.unary .not v3) h3 fun v4 h4=>
 cond v4
 (K .ret (u5 r 3 v0 6 v1 7 v2 8 v3 9 v4) h4)
 (Yi G K (u5 r 3 v0 6 v1 7 v2 8 v3 9 v4) h4)
theorem ap4:Ent 32 165 [] S165:=ent_ (m:=md165) (c:=(Tryz.f165.body.getD .skip)) (fun _ _ _ _=>by kernel_rfl) Tryz.func165 rfl rfl rfl
def md166:Nat->Hint
 |_=>mh false [] [] [] false
def S166:Prop:=
 o_ G (Instr.box 68 (r 0)) h fun v0 h0=>o_ G (Instr.box 30 (r 1)) h0 fun v1 h1=>
 K .ret (u5 r 2 v0 3 v1 4 .nilFunc 5 (.func (.func 182) #[] #[v0,v1]) 4 (.func (.func 182) #[] #[v0,v1])) h1
theorem ap3:Ent 6 166 [.tmp 4] S166:=ent_ (m:=md166) (c:=(Tryz.f166.body.getD .skip)) (fun _ _ _ _=>by kernel_rfl) Tryz.func166 rfl rfl rfl
def md127:Nat->Hint
 |17=>mh false [0,0,2,6,14,30,62,30,254,510,31,2047] [n_,n_,m_,n_,n_,n_,m_,m_,m_,n_,n_,n_] (fs 12) false
 |26=>mh false [0,0,2,0,8,24,0,64,192,448,1016,2046,1,8191] [n_,n_,m_,n_,n_,m_,n_,n_,m_,n_,n_,m_,n_,n_] (fs 14) false
 |29=>mh false [0,0,2,7,0,16,0,64,240,15,1023] [n_,n_,m_,e_,n_,m_,n_,m_,m_,n_,n_] [false,false,false,true,false,false,false,false,false,false,false] true
 |_=>mh false [] [] [] false
def Ax (G:Hp) (K:EK) (r:Rg) (h:Hp):Prop:=
 K .ret (u2 r 4 (.slice none 0 0) 5 (.bool false)) h
def Q1:Prop:=
 p_ (Instr.fieldAt 48 (r 3) 2) h fun v24 h24=>
 w_ G h (Instr.loadAt 3 v24) h24 fun v25 h25=>
 p_ (binOp .geq 3 v25 (.int .i64 1)) h25 fun v26 h26=>g_ v26 true (p_ (Instr.fieldAt 48 (r 3) 4) h26) h26 fun v27 h27=>g_ v26 true (w_ G h (Instr.loadAt 30 v27) h27) h27 fun v28 h28=>g_ v26 true (w_ G h (Instr.loadAt 30 (r 7)) h28) h28 fun v29 h29=>g_ v26 true (bm P_ G h (xEq .eql 30 (.tmp 0) (.tmp 0) v28 v29) h29) h29 fun v30 h30=>
 bm P_ noHp noHp (bj v26 v30 (.bool false)) h30 fun v31 h31=>
 K .ret (u2 (u10 r 68 (r 6) 69 v24 70 v25 71 v26 72 v26 73 v27 74 v28 75 v29 76 v30 77 v31) 4 (r 6) 5 v31) h31
def Kj:Prop:=
 o_ G (binOp .add 3 (r 8) (.int .i64 1)) h fun v35 h35=>
 K .normal (u3 r 42 (r 8) 43 v35 8 v35) h35
def Ki:Prop:=
 o_ G (Instr.loadAt 30 (r 9)) h fun v51 h51=>
 c_ G 89 #[(r 0),v51] h51 fun v52 h52=>o_ G (Builtin.append_ #[22,22] 22 #[(r 6),v52]) h52 fun v53 h53=>o_ G (Instr.loadAt 30 (r 9)) h53 fun v54 h54=>
 opH P_ G (su (Instr.storeAt 30 (r 7) v54)) h54 fun v55 h55=>
 Kj G K (u7 r 62 (r 6) 63 (r 0) 64 v51 65 v52 66 v53 6 v53 67 v54) h55
def Kk:Prop:=
 o_ G (Instr.fieldAt 48 (r 3) 3) h fun v36 h36=>o_ G (Instr.loadAt 30 v36) h36 fun v37 h37=>o_ G (Instr.fieldAt 48 (r 3) 1) h37 fun v38 h38=>o_ G (Instr.loadAt 3 v38) h38 fun v39 h39=>
 c_ G 155 #[(r 0),v37,v39,(r 8)] h39 fun v40 h40=>o_ G (Instr.extract v40 0) h40 fun v41 h41=>o_ G (Instr.extract v40 1) h41 fun v42 h42=>o_ G (Instr.alloc 30 true (.tuple #[])) h42 fun v43 h43=>
 opH P_ G (su (Instr.storeAt 30 v43 v41)) h43 fun v44 h44=>o_ G (Op.unary .not v42) h44 fun v45 h45=>g_ v45 false (fun K1=>K1 (r 0) h45) h45 fun v46 h46=>g_ v45 false (o_ G (Instr.loadAt 30 v43) h46) h46 fun v47 h47=>g_ v45 false (c_ G 61 #[v46,v47] h47) h47 fun v48 h48=>g_ v45 false (o_ G (Op.unary .not v48) h48) h48 fun v49 h49=>
 opH P_ G (bj v45 (.bool true) v49) h49 fun v50 h50=>
 (fun q=>cond v50
 (K .ret (u2 q 4 (.slice none 0 0) 5 (.bool false)) h50)
 (Ki G K q h50))
 (u10 (u10 r 45 (r 0) 46 v36 47 v37 48 v38 49 v39 50 (r 8) 51 v40 44 v40 52 v41 53 v42) 9 v43 10 v42 54 v42 55 v45 56 v45 57 v46 58 v47 59 v48 60 v49 61 v50)
def Qx (r:Rg) (h:Hp) (K:EK):Prop:=
 o_ G (Instr.fieldAt 48 (r 3) 2) h fun v32 h32=>o_ G (Instr.loadAt 3 v32) h32 fun v33 h33=>o_ G (binOp .leq 3 (r 8) v33) h33 fun v34 h34=>
 cond v34
 (Kk G K (u4 r 38 (r 8) 39 v32 40 v33 41 v34) h34)
 (K (.exit 1) (u4 r 38 (r 8) 39 v32 40 v33 41 v34) h34)
def Qz:Prop:=
 p_ (Instr.fieldAt 48 (r 3) 4) h fun v62 h62=>
 w_ G h (Instr.loadAt 30 v62) h62 fun v63 h63=>
 p_ (Instr.fieldAt 48 (r 3) 3) h63 fun v64 h64=>
 p_ (Instr.fieldAt 30 v64 0) h64 fun v65 h65=>
 w_ G h (Instr.loadAt 28 v65) h65 fun v66 h66=>
 p_ (Instr.fieldAt 48 (r 3) 3) h66 fun v67 h67=>
 p_ (Instr.fieldAt 30 v67 1) h67 fun v68 h68=>
 w_ G h (Instr.loadAt 4 v68) h68 fun v69 h69=>
 p_ (Op.unary .not v69) h69 fun v70 h70=>
 p_ (Instr.build 30 #[(0,v66),(1,v70)]) h70 fun v71 h71=>
 bm P_ G h (xEq .eql 30 (.tmp 0) (.tmp 0) v63 v71) h71 fun v72 h72=>
 K .ret (u4 (u10 r 95 (r 11) 96 v62 97 v63 98 v64 99 v65 100 v66 101 v67 102 v68 103 v69 104 v70) 105 v71 106 v72 4 (r 11) 5 v72) h72
def D8:Prop:=
 o_ G (binOp .add 3 (r 86) (.int .i64 1)) h fun v74 h74=>
 K .normal (u2 r 94 v74 86 v74) h74
def D9:Prop:=
 o_ G (Instr.indexAt 22 (r 84) (r 86)) h fun v75 h75=>o_ G (Instr.loadAt 28 v75) h75 fun v76 h76=>o_ G (Instr.alloc 28 true (.tuple #[])) h76 fun v77 h77=>
 opH P_ G (su (Instr.storeAt 28 v77 v76)) h77 fun v78 h78=>o_ G (Instr.loadAt 28 v77) h78 fun v79 h79=>
 c_ G 62 #[(r 0),v79] h79 fun v80 h80=>o_ G (Op.unary .not v80) h80 fun v81 h81=>
 (fun q=>cond v81
 (K .ret (u2 q 4 (.slice none 0 0) 5 (.bool false)) h81)
 (D8 G K q h81))
 (u7 r 88 v75 89 v76 13 v77 90 (r 0) 91 v79 92 v80 93 v81)
def Kl (r:Rg) (h:Hp) (K:EK):Prop:=
 o_ G (binOp .lss 3 (r 86) (r 85)) h fun v73 h73=>
 cond v73
 (D9 G K (upd r 87 v73) h73)
 (K (.exit 3) (upd r 87 v73) h73)
def Ad:Prop:=
 cond (r 107)
 (∃q83:Hp,q83.le h/\
 p_ (Instr.fieldAt 48 (r 3) 3) h fun v84 h84=>
 w_ G q83 (Instr.loadAt 30 v84) h84 fun v85 h85=>
 c_ G 89 #[(r 0),v85] h85 fun v86 h86=>q83.le h86/\
 p_ (Instr.fieldAt 48 (r 3) 4) h86 fun v87 h87=>
 w_ G q83 (Instr.loadAt 30 v87) h87 fun v88 h88=>
 p_ (Instr.fieldAt 48 (r 3) 3) h88 fun v89 h89=>
 w_ G q83 (Instr.loadAt 30 v89) h89 fun v90 h90=>
 bm P_ G q83 (xEq .eql 30 (.tmp 0) (.tmp 0) v88 v90) h90 fun v91 h91=>
 K .ret (upd (u10 r 110 (r 0) 111 v84 112 v85 113 v86 114 v87 115 v88 116 v89 117 v90 118 v91 4 v86) 5 v91) h91)
 (Ax G K r h)
def Q2:Prop:=
 o_ G (Instr.fieldAt 48 (r 3) 0) h fun v17 h17=>o_ G (Instr.loadAt 3 v17) h17 fun v18 h18=>
 opH P_ G (xEq .eql 3 (.tmp 0) (.const .nilFunc) v18 (.int .i64 1)) h18 fun v19 h19=>
 cond v19
 (o_ G (Instr.fieldAt 48 (r 3) 3) h19 fun v20 h20=>o_ G (Instr.loadAt 30 v20) h20 fun v21 h21=>o_ G (Instr.alloc 30 true (.tuple #[])) h21 fun v22 h22=>
 opH P_ G (su (Instr.storeAt 30 v22 v21)) h22 fun v23 h23=>
 dl (Qx G) (u9 r 32 v17 33 v18 35 v19 34 v19 6 (.slice none 0 0) 36 v20 37 v21 7 v22 8 (.int .i64 0)) h23 (bo 1 (ci (Q1 G K) (bo 0 (ci (Ax G K) K)))))
 (opH P_ G (xEq .eql 3 (.tmp 0) (.const .nilFunc) v18 (.int .i64 2)) h19 fun v56 h56=>
 cond v56
 (o_ G (Instr.fieldAt 48 (r 3) 3) h56 fun v57 h57=>o_ G (Instr.fieldAt 30 v57 0) h57 fun v58 h58=>o_ G (Instr.loadAt 28 v58) h58 fun v59 h59=>
 c_ G 156 #[v59] h59 fun v60 h60=>o_ G (Builtin.len_ #[22] 3 #[v60]) h60 fun v61 h61=>
 dl (Kl G) (u4 (u10 r 32 v17 33 v18 35 v19 34 v19 79 v56 78 v56 80 v57 81 v58 82 v59 83 v60) 11 v60 84 v60 85 v61 86 (.int .i64 0)) h61 (bo 3 (ci (Qz G K) (bo 0 (ci (Ax G K) K)))))
 (opH P_ G (xEq .eql 3 (.tmp 0) (.const .nilFunc) v18 (.int .i64 3)) h56 fun v82 h82=>
 cond v82
 (Ad G K (u8 r 32 v17 33 v18 35 v19 34 v19 79 v56 78 v56 108 v82 107 v82) h82)
 (opH P_ G (xEq .eql 3 (.tmp 0) (.const .nilFunc) v18 (.int .i64 4)) h82 fun v92 h92=>
 Ad G K (u10 r 32 v17 33 v18 35 v19 34 v19 79 v56 78 v56 108 v82 107 v82 109 v92 107 v92) h92)))
def Y5:Prop:=
 o_ G (Instr.fieldAt 48 (r 3) 0) h fun v5 h5=>o_ G (Instr.loadAt 3 v5) h5 fun v6 h6=>
 opH P_ G (xEq .neq 3 (.tmp 0) (.const .nilFunc) v6 (.int .i64 1)) h6 fun v7 h7=>g_ v7 true (o_ G (Instr.fieldAt 48 (r 3) 1) h7) h7 fun v8 h8=>g_ v7 true (o_ G (Instr.loadAt 3 v8) h8) h8 fun v9 h9=>g_ v7 true (opH P_ G (xEq .neq 3 (.tmp 0) (.const .nilFunc) v9 (.int .i64 0)) h9) h9 fun v10 h10=>g_ v7 true (fun K1=>K1 v10 h10) h10 fun v11 h11=>g_ v11 false (o_ G (Instr.fieldAt 48 (r 3) 2) h11) h11 fun v12 h12=>g_ v11 false (o_ G (Instr.loadAt 3 v12) h12) h12 fun v13 h13=>g_ v11 false (opH P_ G (xEq .neq 3 (.tmp 0) (.const .nilFunc) v13 (.int .i64 0)) h13) h13 fun v14 h14=>g_ v7 true (opH P_ G (bj v11 (.bool true) v14) h14) h14 fun v15 h15=>
 opH P_ G (bj v7 v15 (.bool false)) h15 fun v16 h16=>
 (fun q=>cond v16
 (K .ret (u2 q 4 (.slice none 0 0) 5 (.bool false)) h16)
 (Q2 G K q h16))
 (u3 (u10 r 19 v5 20 v6 21 v7 22 v7 23 v8 24 v9 25 v10 26 v11 27 v12 28 v13) 29 v14 30 v15 31 v16)
def S127:Prop:=
 o_ G (Instr.box 48 (r 1)) h fun v0 h0=>o_ G (Instr.fieldAt 48 v0 3) h0 fun v1 h1=>o_ G (Instr.loadAt 30 v1) h1 fun v2 h2=>
 c_ G 61 #[(r 0),v2] h2 fun v3 h3=>o_ G (Op.unary .not v3) h3 fun v4 h4=>
 (fun q=>cond v4
 (K .ret (u2 q 4 (.slice none 0 0) 5 (.bool false)) h4)
 (Y5 G K q h4))
 (u8 r 3 v0 4 (.slice none 0 0) 5 (.bool false) 14 (r 0) 15 v1 16 v2 17 v3 18 v4)
theorem as0:Ent 119 127 [.tmp 4,.tmp 5] S127:=ent_ (m:=md127) (c:=(Tryz.f127.body.getD .skip)) (fun _ _ _ _=>by kernel_rfl) Tryz.func127 rfl rfl rfl
def md130:Nat->Hint
 |3=>mh false [0,1,0,4,0,16,0,64,240,496,1023,2047,4095] [n_,m_,n_,m_,n_,m_,n_,m_,n_,e_,n_,.alloc,n_] [false,false,false,false,false,false,false,false,false,true,false,false,false] true
 |5=>⟨false,[0,1,3,0,8,31,63,0],[.pureN,.pureM,.eff,.pureN,.pureM,.eff,.pureM,.pureN],[.pureN,.pureM,.eff,.pureN,.pureM,.eff,.late,.pureN],[false,false,true,false,false,false,false,false],true⟩
 |14=>mh false [0,1,3,7,0,0,0,64,192,480,992,2047,4095] [n_,n_,n_,m_,n_,n_,n_,m_,m_,n_,n_,n_,.store] (fs 13) false
 |_=>mh false [] [] [] false
def Y1 (G:Hp) (K:EK) (r:Rg) (h:Hp):Prop:=
 K .ret (u3 r 104 (r 4) 2 (r 4) 3 (.bool true)) h
def wz:Prop:=
 o_ G (binOp .add 3 (r 61) (.int .i64 1)) h fun v53 h53=>
 K .normal (u2 r 103 v53 61 v53) h53
def Kg:Prop:=
 o_ G (Instr.indexAt 90 (r 5) (r 8)) h fun v66 h66=>
 opH P_ G (su (Instr.storeAt 4 v66 (.bool true))) h66 fun v67 h67=>
 opH P_ G (xNil (r 4)) h67 fun v68 h68=>o_ G (Instr.fieldAt 215 v68 2) h68 fun v69 h69=>o_ G (Instr.loadAt 168 v69) h69 fun v70 h70=>o_ G (Instr.indexAt 168 v70 (r 8)) h70 fun v71 h71=>
 opH P_ G (su (Instr.storeAt 3 v71 (.int .i64 (-1)))) h71 fun v72 h72=>o_ G (Instr.fieldAt 26 (r 1) 3) h72 fun v73 h73=>o_ G (Instr.loadAt 22 v73) h73 fun v74 h74=>o_ G (Builtin.len_ #[22] 3 #[v74]) h74 fun v75 h75=>o_ G (binOp .geq 3 (r 6) v75) h75 fun v76 h76=>
 cond v76
 (bm P_ noHp noHp (xNil (r 4)) h76 fun v77 h77=>
 p_ (Instr.fieldAt 215 v77 2) h77 fun v78 h78=>
 w_ G h76 (Instr.loadAt 168 v78) h78 fun v79 h79=>
 p_ (Instr.fieldAt 26 (r 1) 3) h79 fun v80 h80=>
 w_ G h76 (Instr.loadAt 22 v80) h80 fun v81 h81=>
 w_ G h76 (Builtin.len_ #[22] 3 #[v81]) h81 fun v82 h82=>
 p_ (binOp .sub 3 (r 6) v82) h82 fun v83 h83=>
 p_ (binOp .add 3 v83 (.int .i64 1)) h83 fun v84 h84=>
 p_ (Instr.indexAt 168 v79 (r 8)) h84 fun v85 h85=>
 opH P_ G (su (Instr.storeAt 3 v85 v84)) h85 fun v86 h86=>
 wz G K (u6 (u10 (u10 r 77 (r 5) 78 (r 8) 79 v66 80 (r 4) 81 v68 82 v69 83 v70 84 (r 8) 85 v71 86 (r 6)) 87 v73 88 v74 89 v75 90 v76 91 (r 4) 92 v77 93 v78 94 v79 95 (r 8) 96 (r 6)) 97 v80 98 v81 99 v82 100 v83 101 v84 102 v85) h86)
 (wz G K (u4 (u10 r 77 (r 5) 78 (r 8) 79 v66 80 (r 4) 81 v68 82 v69 83 v70 84 (r 8) 85 v71 86 (r 6)) 87 v73 88 v74 89 v75 90 v76) h76)
def Kh:Prop:=
 o_ G (Instr.indexAt 22 (r 59) (r 61)) h fun v54 h54=>o_ G (Instr.loadAt 28 v54) h54 fun v55 h55=>o_ G (Instr.alloc 28 true (.tuple #[])) h55 fun v56 h56=>
 opH P_ G (su (Instr.storeAt 28 v56 v55)) h56 fun v57 h57=>o_ G (Instr.loadAt 28 v56) h57 fun v58 h58=>
 c_ G 88 #[(r 4),v58] h58 fun v59 h59=>o_ G (binOp .lss 3 v59 (.int .i64 0)) h59 fun v60 h60=>g_ v60 false (fun K1=>K1 (r 5) h60) h60 fun v61 h61=>g_ v60 false (fun K1=>K1 v59 h61) h61 fun v62 h62=>g_ v60 false (o_ G (Instr.indexAt 90 v61 v62) h62) h62 fun v63 h63=>g_ v60 false (o_ G (Instr.loadAt 4 v63) h63) h63 fun v64 h64=>
 opH P_ G (bj v60 (.bool true) v64) h64 fun v65 h65=>
 (fun q=>cond v65
 (K .ret (u2 q 2 (.pointer none) 3 (.bool false)) h65)
 (Kg G K q h65))
 (u7 (u10 r 63 (r 61) 64 v54 65 v55 7 v56 6 (r 61) 66 (r 4) 67 v58 68 v59 8 v59 69 v59) 70 v60 71 v60 72 v61 73 v62 74 v63 75 v64 76 v65)
def Qw (r:Rg) (h:Hp) (K:EK):Prop:=
 o_ G (binOp .lss 3 (r 61) (r 60)) h fun v52 h52=>
 cond v52
 (Kh G K (upd r 62 v52) h52)
 (K (.exit 0) (upd r 62 v52) h52)
def Y2:Prop:=
 ∃q25:Hp,q25.le h/\
 p_ (Instr.fieldAt 26 (r 1) 0) h fun v26 h26=>
 w_ G q25 (Instr.loadAt 3 v26) h26 fun v27 h27=>
 p_ (Instr.fieldAt 26 (r 1) 1) h27 fun v28 h28=>
 w_ G q25 (Instr.loadAt 3 v28) h28 fun v29 h29=>
 p_ (Instr.fieldAt 26 (r 1) 0) h29 fun v30 h30=>
 w_ G q25 (Instr.loadAt 3 v30) h30 fun v31 h31=>
 p_ (Instr.fieldAt 26 (r 1) 1) h31 fun v32 h32=>
 w_ G q25 (Instr.loadAt 3 v32) h32 fun v33 h33=>
 p_ (binOp .mul 3 v31 v33) h33 fun v34 h34=>o_ G (Instr.makeSlice 168 v34 v34) h34 fun v35 h35=>q25.le h35/\
 p_ (Instr.build 215 #[(0,v27),(1,v29),(2,v35)]) h35 fun v36 h36=>o_ G (Instr.box 215 v36) h36 fun v37 h37=>o_ G (Instr.fieldAt 26 (r 1) 0) h37 fun v38 h38=>o_ G (Instr.loadAt 3 v38) h38 fun v39 h39=>o_ G (Instr.fieldAt 26 (r 1) 1) h39 fun v40 h40=>o_ G (Instr.loadAt 3 v40) h40 fun v41 h41=>o_ G (binOp .mul 3 v39 v41) h41 fun v42 h42=>o_ G (Instr.makeSlice 90 v42 v42) h42 fun v43 h43=>
 ∃q44:Hp,q44.le h43/\
 p_ (Instr.fieldAt 26 (r 1) 3) h43 fun v45 h45=>
 w_ G q44 (Instr.loadAt 22 v45) h45 fun v46 h46=>
 c_ G 157 #[v46] h46 fun v47 h47=>q44.le h47/\
 p_ (Instr.fieldAt 26 (r 1) 4) h47 fun v48 h48=>
 w_ G q44 (Instr.loadAt 22 v48) h48 fun v49 h49=>o_ G (Builtin.append_ #[22,22] 22 #[v47,v49]) h49 fun v50 h50=>
 w_ G h50 (Builtin.len_ #[22] 3 #[v50]) h50 fun v51 h51=>
 dl (Qw G) (u8 (u10 (u10 r 36 v26 37 v27 38 v28 39 v29 40 v30 41 v31 42 v32 43 v33 44 v34 45 v35) 46 v36 47 v37 4 v37 48 v38 49 v39 50 v40 51 v41 52 v42 53 v43 5 v43) 54 v45 55 v46 56 v47 57 v48 58 v49 59 v50 60 v51 61 (.int .i64 0)) h51 (bo 0 (ci (Y1 G K) K))
def S130:Prop:=
 o_ G (Instr.box 26 (r 0)) h fun v0 h0=>o_ G (Instr.fieldAt 26 v0 0) h0 fun v1 h1=>o_ G (Instr.loadAt 3 v1) h1 fun v2 h2=>
 c_ G 129 #[v2,(.int .i64 1),(.int .i64 16)] h2 fun v3 h3=>o_ G (Op.unary .not v3) h3 fun v4 h4=>g_ v4 false (o_ G (Instr.fieldAt 26 v0 1) h4) h4 fun v5 h5=>g_ v4 false (o_ G (Instr.loadAt 3 v5) h5) h5 fun v6 h6=>g_ v4 false (c_ G 129 #[v6,(.int .i64 1),(.int .i64 16)] h6) h6 fun v7 h7=>g_ v4 false (o_ G (Op.unary .not v7) h7) h7 fun v8 h8=>
 opH P_ G (bj v4 (.bool true) v8) h8 fun v9 h9=>g_ v9 false (o_ G (Instr.fieldAt 26 v0 4) h9) h9 fun v10 h10=>g_ v9 false (o_ G (Instr.loadAt 22 v10) h10) h10 fun v11 h11=>g_ v9 false (o_ G (Builtin.len_ #[22] 3 #[v11]) h11) h11 fun v12 h12=>g_ v9 false (o_ G (binOp .gtr 3 v12 (.int .i64 8)) h12) h12 fun v13 h13=>
 opH P_ G (bj v9 (.bool true) v13) h13 fun v14 h14=>g_ v14 false (o_ G (Instr.fieldAt 26 v0 3) h14) h14 fun v15 h15=>g_ v14 false (o_ G (Instr.loadAt 22 v15) h15) h15 fun v16 h16=>g_ v14 false (o_ G (Builtin.len_ #[22] 3 #[v16]) h16) h16 fun v17 h17=>g_ v14 false (o_ G (Instr.fieldAt 26 v0 0) h17) h17 fun v18 h18=>g_ v14 false (o_ G (Instr.loadAt 3 v18) h18) h18 fun v19 h19=>g_ v14 false (o_ G (Instr.fieldAt 26 v0 1) h19) h19 fun v20 h20=>g_ v14 false (o_ G (Instr.loadAt 3 v20) h20) h20 fun v21 h21=>g_ v14 false (o_ G (binOp .mul 3 v19 v21) h21) h21 fun v22 h22=>g_ v14 false (o_ G (binOp .gtr 3 v17 v22) h22) h22 fun v23 h23=>
 opH P_ G (bj v14 (.bool true) v23) h23 fun v24 h24=>
 (fun q=>cond v24
 (K .ret (u2 q 2 (.pointer none) 3 (.bool false)) h24)
 (Y2 G K q h24))
 (u10 (u10 (u10 r 1 v0 2 (.pointer none) 3 (.bool false) 9 v1 10 v2 11 v3 12 v4 13 v4 14 v5 15 v6) 16 v7 17 v8 18 v9 19 v9 20 v10 21 v11 22 v12 23 v13 24 v14 25 v14) 26 v15 27 v16 28 v17 29 v18 30 v19 31 v20 32 v21 33 v22 34 v23 35 v24)
theorem ar7:Ent 105 130 [.tmp 2,.tmp 3] S130:=ent_ (m:=md130) (c:=(Tryz.f130.body.getD .skip)) (fun _ _ _ _=>by kernel_rfl) Tryz.func130 rfl rfl rfl
def md131:Nat->Hint
 |6=>mh false [0,0,2,6,14,31,0,0,128,384,896,1984,4095,8191,0,32767] [n_,n_,n_,n_,m_,n_,n_,n_,n_,n_,m_,n_,n_,n_,.alloc,.store] (fs 16) false
 |_=>mh false [] [] [] false
def Yy (G:Hp) (K:EK) (r:Rg) (h:Hp):Prop:=
 K .ret (upd r 4 (.bool true)) h
def Kd:Prop:=
 o_ G (binOp .add 3 (r 81) (.int .i64 1)) h fun v13 h13=>
 K .normal (u2 r 124 v13 81 v13) h13
def Ac:Prop:=
 o_ G (binOp .add 3 (r 93) (.int .i64 1)) h fun v25 h25=>
 K .normal (u2 r 123 v25 93 v25) h25
def Ab:Prop:=
 o_ G (Instr.indexAt 90 (r 7) (r 12)) h fun v43 h43=>
 opH P_ G (su (Instr.storeAt 4 v43 (.bool true))) h43 fun v44 h44=>
 opH P_ G (xNil (r 0)) h44 fun v45 h45=>o_ G (Instr.fieldAt 215 v45 2) h45 fun v46 h46=>o_ G (Instr.loadAt 168 v46) h46 fun v47 h47=>o_ G (Instr.indexAt 168 v47 (r 12)) h47 fun v48 h48=>
 opH P_ G (su (Instr.storeAt 3 v48 (.int .i64 (-2)))) h48 fun v49 h49=>
 Ac G K (u9 r 114 (r 7) 115 (r 12) 116 v43 117 (r 0) 118 v45 119 v46 120 v47 121 (r 12) 122 v48) h49
def Bp:Prop:=
 o_ G (Instr.indexAt 22 (r 91) (r 93)) h fun v26 h26=>o_ G (Instr.loadAt 28 v26) h26 fun v27 h27=>o_ G (Instr.alloc 28 true (.tuple #[])) h27 fun v28 h28=>
 opH P_ G (su (Instr.storeAt 28 v28 v27)) h28 fun v29 h29=>o_ G (Instr.loadAt 28 v28) h29 fun v30 h30=>
 c_ G 88 #[(r 0),v30] h30 fun v31 h31=>o_ G (Instr.indexAt 90 (r 7) v31) h31 fun v32 h32=>o_ G (Instr.loadAt 4 v32) h32 fun v33 h33=>g_ v33 false (fun K1=>K1 (r 0) h33) h33 fun v34 h34=>g_ v33 false (opH P_ G (xNil v34) h34) h34 fun v35 h35=>g_ v33 false (o_ G (Instr.fieldAt 215 v35 2) h35) h35 fun v36 h36=>g_ v33 false (o_ G (Instr.loadAt 168 v36) h36) h36 fun v37 h37=>g_ v33 false (fun K1=>K1 v31 h37) h37 fun v38 h38=>g_ v33 false (o_ G (Instr.indexAt 168 v37 v38) h38) h38 fun v39 h39=>g_ v33 false (o_ G (Instr.loadAt 3 v39) h39) h39 fun v40 h40=>g_ v33 false (o_ G (binOp .gtr 3 v40 (.int .i64 0)) h40) h40 fun v41 h41=>
 opH P_ G (bj v33 (.bool true) v41) h41 fun v42 h42=>
 (fun q=>cond v42
 (K .ret (upd q 4 (.bool false)) h42)
 (Ab G K q h42))
 (upd (u10 (u10 r 95 v26 96 v27 11 v28 97 (r 0) 98 v30 99 v31 12 v31 100 (r 7) 101 v31 102 v32) 103 v33 104 v33 105 v34 106 v35 107 v36 108 v37 109 v38 110 v39 111 v40 112 v41) 113 v42)
def Cb (r:Rg) (h:Hp) (K:EK):Prop:=
 o_ G (binOp .lss 3 (r 93) (r 92)) h fun v24 h24=>
 cond v24
 (Bp G K (upd r 94 v24) h24)
 (K (.exit 4) (upd r 94 v24) h24)
def Kc:Prop:=
 o_ G (Instr.loadAt 30 (r 9)) h fun v21 h21=>
 c_ G 89 #[(r 0),v21] h21 fun v22 h22=>o_ G (Builtin.len_ #[22] 3 #[v22]) h22 fun v23 h23=>
 dl (Cb G) (u5 r 89 (r 0) 90 v21 91 v22 92 v23 93 (.int .i64 0)) h23 (bo 4 (bo 3 (ci (Kd G K) K)))
def Ke:Prop:=
 o_ G (Instr.indexAt 23 (r 79) (r 81)) h fun v14 h14=>o_ G (Instr.loadAt 30 v14) h14 fun v15 h15=>o_ G (Instr.alloc 30 true (.tuple #[])) h15 fun v16 h16=>
 opH P_ G (su (Instr.storeAt 30 v16 v15)) h16 fun v17 h17=>o_ G (Instr.loadAt 30 v16) h17 fun v18 h18=>
 c_ G 61 #[(r 0),v18] h18 fun v19 h19=>o_ G (Op.unary .not v19) h19 fun v20 h20=>
 (fun q=>cond v20
 (K .ret (upd q 4 (.bool false)) h20)
 (Kc G K q h20))
 (u7 r 83 v14 84 v15 9 v16 85 (r 0) 86 v18 87 v19 88 v20)
def Yx (r:Rg) (h:Hp) (K:EK):Prop:=
 o_ G (binOp .lss 3 (r 81) (r 80)) h fun v12 h12=>
 cond v12
 (Ke G K (upd r 82 v12) h12)
 (K (.exit 2) (upd r 82 v12) h12)
def Yz:Prop:=
 opH P_ G (xNil (r 0)) h fun v6 h6=>o_ G (Instr.fieldAt 215 v6 2) h6 fun v7 h7=>o_ G (Instr.loadAt 168 v7) h7 fun v8 h8=>o_ G (Builtin.len_ #[168] 3 #[v8]) h8 fun v9 h9=>o_ G (Instr.makeSlice 90 v9 v9) h9 fun v10 h10=>o_ G (Builtin.len_ #[23] 3 #[(r 1)]) h10 fun v11 h11=>
 dl (Yx G) (u10 r 73 (r 0) 74 v6 75 v7 76 v8 77 v9 78 v10 7 v10 79 (r 1) 80 v11 81 (.int .i64 0)) h11 (bo 2 (ci (Yy G K) K))
def rr:Prop:=
 o_ G (binOp .add 3 (r 21) (.int .i64 1)) h fun v51 h51=>
 K .normal (u2 r 72 v51 21 v51) h51
def D5:Prop:=
 opH P_ G (xNil (r 0)) h fun v86 h86=>o_ G (Instr.fieldAt 215 v86 2) h86 fun v87 h87=>o_ G (Instr.loadAt 168 v87) h87 fun v88 h88=>o_ G (Instr.indexAt 168 v88 (r 5)) h88 fun v89 h89=>
 opH P_ G (su (Instr.storeAt 3 v89 (.int .i64 (-2)))) h89 fun v90 h90=>
 rr G K (u6 r 66 (r 0) 67 v86 68 v87 69 v88 70 (r 5) 71 v89) h90
def D6:Prop:=
 opH P_ G (xNil (r 0)) h fun v80 h80=>o_ G (Instr.fieldAt 215 v80 2) h80 fun v81 h81=>o_ G (Instr.loadAt 168 v81) h81 fun v82 h82=>o_ G (Instr.indexAt 168 v82 (r 5)) h82 fun v83 h83=>o_ G (Instr.loadAt 3 v83) h83 fun v84 h84=>o_ G (binOp .gtr 3 v84 (.int .i64 0)) h84 fun v85 h85=>
 (fun q=>cond v85
 (K .ret (upd q 4 (.bool false)) h85)
 (D5 G K q h85))
 (u8 r 58 (r 0) 59 v80 60 v81 61 v82 62 (r 5) 63 v83 64 v84 65 v85)
def D7:Prop:=
 bm P_ noHp noHp (xNil (r 0)) h fun v52 h52=>
 p_ (Instr.fieldAt 215 v52 0) h52 fun v53 h53=>
 w_ G h (Instr.loadAt 3 v53) h53 fun v54 h54=>
 p_ (binOp .rem 3 (r 21) v54) h54 fun v55 h55=>
 bm P_ noHp noHp (xNil (r 0)) h55 fun v56 h56=>
 p_ (Instr.fieldAt 215 v56 0) h56 fun v57 h57=>
 w_ G h (Instr.loadAt 3 v57) h57 fun v58 h58=>
 p_ (binOp .quo 3 (r 21) v58) h58 fun v59 h59=>
 p_ (Instr.build 28 #[(0,v55),(1,v59)]) h59 fun v60 h60=>
 p_ (Instr.build 30 #[(0,v60)]) h60 fun v61 h61=>o_ G (Instr.alloc 30 true (.tuple #[])) h61 fun v62 h62=>
 opH P_ G (su (Instr.storeAt 30 v62 v61)) h62 fun v63 h63=>
 opH P_ G (xNil (r 0)) h63 fun v64 h64=>o_ G (Instr.fieldAt 215 v64 2) h64 fun v65 h65=>o_ G (Instr.loadAt 168 v65) h65 fun v66 h66=>o_ G (Instr.indexAt 168 v66 (r 21)) h66 fun v67 h67=>o_ G (Instr.loadAt 3 v67) h67 fun v68 h68=>
 opH P_ G (xEq .eql 3 (.tmp 0) (.const .nilFunc) v68 (.int .i64 (-1))) h68 fun v69 h69=>g_ v69 false (fun K1=>K1 (r 0) h69) h69 fun v70 h70=>g_ v69 false (o_ G (Instr.loadAt 30 v62) h70) h70 fun v71 h71=>g_ v69 false (c_ G 61 #[v70,v71] h71) h71 fun v72 h72=>
 opH P_ G (bj v69 (.bool true) v72) h72 fun v73 h73=>g_ v73 false (fun K1=>K1 (r 0) h73) h73 fun v74 h74=>g_ v73 false (o_ G (Instr.fieldAt 30 v62 0) h74) h74 fun v75 h75=>g_ v73 false (o_ G (Instr.loadAt 28 v75) h75) h75 fun v76 h76=>g_ v73 false (o_ G (Instr.build 30 #[(0,v76),(1,(.bool true))]) h76) h76 fun v77 h77=>g_ v73 false (c_ G 61 #[v74,v77] h77) h77 fun v78 h78=>
 opH P_ G (bj v73 (.bool true) v78) h78 fun v79 h79=>
 (fun q=>cond v79
 (rr G K q h79)
 (D6 G K q h79))
 (u7 (u10 (u10 (u10 r 23 (r 21) 5 (r 21) 24 (r 21) 25 (r 0) 26 v52 27 v53 28 v54 29 v55 30 (r 21) 31 (r 0)) 32 v56 33 v57 34 v58 35 v59 36 v60 37 v61 6 v62 38 (r 0) 39 v64 40 v65) 41 v66 42 (r 21) 43 v67 44 v68 45 v69 46 v69 47 v70 48 v71 49 v72 50 v73) 51 v73 52 v74 53 v75 54 v76 55 v77 56 v78 57 v79)
def Kf (r:Rg) (h:Hp) (K:EK):Prop:=
 o_ G (binOp .lss 3 (r 21) (r 20)) h fun v50 h50=>
 cond v50
 (D7 G K (upd r 22 v50) h50)
 (K (.exit 0) (upd r 22 v50) h50)
def Y0:Prop:=
 opH P_ G (xNil (r 0)) h fun v2 h2=>o_ G (Instr.fieldAt 215 v2 2) h2 fun v3 h3=>o_ G (Instr.loadAt 168 v3) h3 fun v4 h4=>o_ G (Builtin.len_ #[168] 3 #[v4]) h4 fun v5 h5=>
 dl (Kf G) (u6 r 16 (r 0) 17 v2 18 v3 19 v4 20 v5 21 (.int .i64 0)) h5 (bo 0 (ci (Yz G K) K))
def S131:Prop:=
 o_ G (Builtin.len_ #[23] 3 #[(r 1)]) h fun v0 h0=>o_ G (binOp .gtr 3 v0 (.int .i64 8)) h0 fun v1 h1=>
 (fun q=>cond v1
 (K .ret (upd q 4 (.bool false)) h1)
 (Y0 G K q h1))
 (u4 r 4 (.bool false) 13 (r 1) 14 v0 15 v1)
theorem ar6:Ent 125 131 [.tmp 4] S131:=ent_ (m:=md131) (c:=(Tryz.f131.body.getD .skip)) (fun _ _ _ _=>by kernel_rfl) Tryz.func131 rfl rfl rfl
def md132:Nat->Hint
 |_=>mh false [] [] [] false
def Yw (G:Hp) (K:EK) (r:Rg) (h:Hp):Prop:=
 K .ret (upd r 6 (.bool true)) h
def Ka:Prop:=
 o_ G (binOp .add 3 (r 22) (.int .i64 1)) h fun v8 h8=>
 K .normal (u2 r 77 v8 22 v8) h8
def Bn:Prop:=
 o_ G (binOp .add 3 (r 56) (.int .i64 1)) h fun v40 h40=>
 K .normal (u2 r 76 v40 56 v40) h40
def Bm:Prop:=
 opH P_ G (su (Instr.mapUpdate 269 (r 8) (r 12) (.int .i64 1))) h fun v54 h54=>
 Bn G K (u2 r 74 (r 8) 75 (r 12)) h54
def Bo:Prop:=
 o_ G (Instr.indexAt 168 (r 54) (r 56)) h fun v41 h41=>o_ G (Instr.loadAt 3 v41) h41 fun v42 h42=>
 c_ G 129 #[v42,(.int .i64 1),(.int .i64 1000000000)] h42 fun v43 h43=>o_ G (Op.unary .not v43) h43 fun v44 h44=>g_ v44 false (fun K1=>K1 (r 8) h44) h44 fun v45 h45=>g_ v44 false (fun K1=>K1 v42 h45) h45 fun v46 h46=>g_ v44 false (o_ G (Instr.lookup 269 v45 v46 false) h46) h46 fun v47 h47=>g_ v44 false (o_ G (binOp .gtr 3 v47 (.int .i64 0)) h47) h47 fun v48 h48=>
 opH P_ G (bj v44 (.bool true) v48) h48 fun v49 h49=>g_ v49 false (fun K1=>K1 (r 8) h49) h49 fun v50 h50=>g_ v49 false (o_ G (Builtin.len_ #[269] 3 #[v50]) h50) h50 fun v51 h51=>g_ v49 false (opH P_ G (xEq .eql 3 (.tmp 0) (.const .nilFunc) v51 (.int .i64 512)) h51) h51 fun v52 h52=>
 opH P_ G (bj v49 (.bool true) v52) h52 fun v53 h53=>
 (fun q=>cond v53
 (K .ret (upd q 6 (.bool false)) h53)
 (Bm G K q h53))
 (u7 (u10 r 58 v41 59 v42 12 v42 60 v42 61 v43 62 v44 63 v44 64 v45 65 v46 66 v47) 67 v48 68 v49 69 v49 70 v50 71 v51 72 v52 73 v53)
def Ca (r:Rg) (h:Hp) (K:EK):Prop:=
 o_ G (binOp .lss 3 (r 56) (r 55)) h fun v39 h39=>
 cond v39
 (Bo G K (upd r 57 v39) h39)
 (K (.exit 2) (upd r 57 v39) h39)
def J9:Prop:=
 o_ G (Instr.fieldAt 234 (r 10) 0) h fun v31 h31=>o_ G (Instr.loadAt 28 v31) h31 fun v32 h32=>
 c_ G 88 #[(r 0),v32] h32 fun v33 h33=>o_ G (Instr.indexAt 90 (r 7) v33) h33 fun v34 h34=>
 opH P_ G (su (Instr.storeAt 4 v34 (.bool true))) h34 fun v35 h35=>o_ G (Instr.fieldAt 234 (r 10) 1) h35 fun v36 h36=>o_ G (Instr.loadAt 168 v36) h36 fun v37 h37=>o_ G (Builtin.len_ #[168] 3 #[v37]) h37 fun v38 h38=>
 dl (Ca G) (u10 r 47 (r 7) 48 (r 0) 49 v31 50 v32 51 v33 52 v34 53 v36 54 v37 55 v38 56 (.int .i64 0)) h38 (bo 2 (bo 1 (ci (Ka G K) K)))
def Kb:Prop:=
 o_ G (Instr.indexAt 24 (r 20) (r 22)) h fun v9 h9=>o_ G (Instr.loadAt 234 v9) h9 fun v10 h10=>o_ G (Instr.alloc 234 true (.tuple #[])) h10 fun v11 h11=>
 opH P_ G (su (Instr.storeAt 234 v11 v10)) h11 fun v12 h12=>o_ G (Instr.fieldAt 234 v11 0) h12 fun v13 h13=>o_ G (Instr.loadAt 28 v13) h13 fun v14 h14=>
 c_ G 158 #[(r 0),v14] h14 fun v15 h15=>o_ G (Op.unary .not v15) h15 fun v16 h16=>g_ v16 false (fun K1=>K1 (r 7) h16) h16 fun v17 h17=>g_ v16 false (fun K1=>K1 (r 0) h17) h17 fun v18 h18=>g_ v16 false (o_ G (Instr.fieldAt 234 v11 0) h18) h18 fun v19 h19=>g_ v16 false (o_ G (Instr.loadAt 28 v19) h19) h19 fun v20 h20=>g_ v16 false (c_ G 88 #[v18,v20] h20) h20 fun v21 h21=>g_ v16 false (o_ G (Instr.indexAt 90 v17 v21) h21) h21 fun v22 h22=>g_ v16 false (o_ G (Instr.loadAt 4 v22) h22) h22 fun v23 h23=>
 opH P_ G (bj v16 (.bool true) v23) h23 fun v24 h24=>g_ v24 false (o_ G (Instr.fieldAt 234 v11 1) h24) h24 fun v25 h25=>g_ v24 false (o_ G (Instr.loadAt 168 v25) h25) h25 fun v26 h26=>g_ v24 false (o_ G (Builtin.len_ #[168] 3 #[v26]) h26) h26 fun v27 h27=>g_ v24 false (fun K1=>K1 (r 2) h27) h27 fun v28 h28=>g_ v24 false (o_ G (binOp .gtr 3 v27 v28) h28) h28 fun v29 h29=>
 opH P_ G (bj v24 (.bool true) v29) h29 fun v30 h30=>
 (fun q=>cond v30
 (K .ret (upd q 6 (.bool false)) h30)
 (J9 G K q h30))
 (u4 (u10 (u10 r 24 v9 25 v10 10 v11 26 (r 0) 27 v13 28 v14 29 v15 30 v16 31 v16 32 v17) 33 v18 34 v19 35 v20 36 v21 37 v22 38 v23 39 v24 40 v24 41 v25 42 v26) 43 v27 44 v28 45 v29 46 v30)
def Yv (r:Rg) (h:Hp) (K:EK):Prop:=
 o_ G (binOp .lss 3 (r 22) (r 21)) h fun v7 h7=>
 cond v7
 (Kb G K (upd r 23 v7) h7)
 (K (.exit 0) (upd r 23 v7) h7)
def S132:Prop:=
 opH P_ G (xNil (r 0)) h fun v0 h0=>o_ G (Instr.fieldAt 215 v0 2) h0 fun v1 h1=>o_ G (Instr.loadAt 168 v1) h1 fun v2 h2=>o_ G (Builtin.len_ #[168] 3 #[v2]) h2 fun v3 h3=>o_ G (Instr.makeSlice 90 v3 v3) h3 fun v4 h4=>o_ G (Instr.makeMap 269 none) h4 fun v5 h5=>o_ G (Builtin.len_ #[24] 3 #[(r 1)]) h5 fun v6 h6=>
 dl (Yv G) (u3 (u10 r 6 (.bool false) 13 (r 0) 14 v0 15 v1 16 v2 17 v3 18 v4 7 v4 19 v5 8 v5) 20 (r 1) 21 v6 22 (.int .i64 0)) h6 (bo 0 (ci (Yw G K) K))
theorem ar5:Ent 78 132 [.tmp 6] S132:=ent_ (m:=md132) (c:=(Tryz.f132.body.getD .skip)) (fun _ _ _ _=>by kernel_rfl) Tryz.func132 rfl rfl rfl
def md182:Nat->Hint
 |_=>mh false [] [] [] false
def B5:Prop:=
 o_ G (binOp .add 3 (r 8) (.int .i64 1)) h fun v1 h1=>
 K .normal (u2 r 37 v1 8 v1) h1
def Bk:Prop:=
 o_ G (binOp .add 3 (r 5) (.int .i64 1)) h fun v2 h2=>
 K .normal (u3 r 11 (r 5) 12 v2 5 v2) h2
def Bj:Prop:=
 o_ G (Instr.loadAt 30 (r 2)) h fun v16 h16=>o_ G (Instr.loadAt 30 (r 6)) h16 fun v17 h17=>o_ G (Instr.build 48 #[(0,(.int .i64 1)),(1,(r 4)),(2,(r 5)),(3,v16),(4,v17)]) h17 fun v18 h18=>
 opH P_ G (ij (r 0) #[v18]) h18 fun v19 h19=>o_ G (Op.unary .not v19) h19 fun v20 h20=>
 (fun q=>cond v20
 (K .ret q h20)
 (Bk G K q h20))
 (u8 r 29 (r 0) 30 (r 4) 31 (r 5) 32 v16 33 v17 34 v18 35 v19 36 v20)
def Jw (r:Rg) (h:Hp) (K:EK):Prop:=
 o_ G (Instr.loadAt 68 (r 1)) h fun v3 h3=>o_ G (Instr.loadAt 30 (r 2)) h3 fun v4 h4=>
 c_ G 155 #[v3,v4,(r 4),(r 5)] h4 fun v5 h5=>o_ G (Instr.extract v5 0) h5 fun v6 h6=>o_ G (Instr.extract v5 1) h6 fun v7 h7=>o_ G (Instr.alloc 30 true (.tuple #[])) h7 fun v8 h8=>
 opH P_ G (su (Instr.storeAt 30 v8 v6)) h8 fun v9 h9=>o_ G (Op.unary .not v7) h9 fun v10 h10=>g_ v10 false (o_ G (Instr.loadAt 68 (r 1)) h10) h10 fun v11 h11=>g_ v10 false (o_ G (Instr.loadAt 30 v8) h11) h11 fun v12 h12=>g_ v10 false (c_ G 61 #[v11,v12] h12) h12 fun v13 h13=>g_ v10 false (o_ G (Op.unary .not v13) h13) h13 fun v14 h14=>
 opH P_ G (bj v10 (.bool true) v14) h14 fun v15 h15=>
 (fun q=>cond v15
 (K (.exit 1) q h15)
 (Bj G K q h15))
 (u8 (u10 r 14 v3 15 v4 16 (r 4) 17 (r 5) 18 v5 13 v5 19 v6 20 v7 6 v8 7 v7) 21 v7 22 v10 23 v10 24 v11 25 v12 26 v13 27 v14 28 v15)
def Jx:Prop:=
 dl (Jw G) (u3 r 10 (r 8) 4 (r 8) 5 (.int .i64 1)) h (bo 2 (bo 1 (ci (B5 G K) K)))
def Ye (r:Rg) (h:Hp) (K:EK):Prop:=
 o_ G (binOp .lss 3 (r 8) (.int .i64 4)) h fun v0 h0=>
 cond v0
 (Jx G K (upd r 9 v0) h0)
 (K (.exit 0) (upd r 9 v0) h0)
def S182:Prop:=
 dl (Ye G) (upd r 8 (.int .i64 0)) h (bo 0 (qg K))
theorem ap0:Ent 38 182 [] S182:=ent_ (m:=md182) (c:=(Tryz.f182.body.getD .skip)) (fun _ _ _ _=>by kernel_rfl) Tryz.func182 rfl rfl rfl
def md156:Nat->Hint
 |_=>mh false [] [] [] false
def S156:Prop:=
 o_ G (Instr.box 28 (r 0)) h fun v0 h0=>o_ G (Instr.loadAt 28 v0) h0 fun v1 h1=>o_ G (Instr.fieldAt 28 v0 0) h1 fun v2 h2=>o_ G (Instr.loadAt 3 v2) h2 fun v3 h3=>o_ G (binOp .add 3 v3 (.int .i64 1)) h3 fun v4 h4=>o_ G (Instr.fieldAt 28 v0 1) h4 fun v5 h5=>o_ G (Instr.loadAt 3 v5) h5 fun v6 h6=>o_ G (Instr.build 28 #[(0,v4),(1,v6)]) h6 fun v7 h7=>o_ G (Instr.fieldAt 28 v0 0) h7 fun v8 h8=>o_ G (Instr.loadAt 3 v8) h8 fun v9 h9=>o_ G (Instr.fieldAt 28 v0 1) h9 fun v10 h10=>o_ G (Instr.loadAt 3 v10) h10 fun v11 h11=>o_ G (binOp .add 3 v11 (.int .i64 1)) h11 fun v12 h12=>o_ G (Instr.build 28 #[(0,v9),(1,v12)]) h12 fun v13 h13=>o_ G (Instr.fieldAt 28 v0 0) h13 fun v14 h14=>o_ G (Instr.loadAt 3 v14) h14 fun v15 h15=>o_ G (binOp .add 3 v15 (.int .i64 1)) h15 fun v16 h16=>o_ G (Instr.fieldAt 28 v0 1) h16 fun v17 h17=>o_ G (Instr.loadAt 3 v17) h17 fun v18 h18=>o_ G (binOp .add 3 v18 (.int .i64 1)) h18 fun v19 h19=>o_ G (Instr.build 28 #[(0,v16),(1,v19)]) h19 fun v20 h20=>o_ G (Instr.buildSlice 22 4 #[(0,v1),(1,v7),(2,v13),(3,v20)]) h20 fun v21 h21=>
 K .ret (u4 (u10 (u10 r 1 v0 2 (.slice none 0 0) 3 v1 4 v2 5 v3 6 v4 7 v5 8 v6 9 v7 10 v8) 11 v9 12 v10 13 v11 14 v12 15 v13 16 v14 17 v15 18 v16 19 v17 20 v18) 21 v19 22 v20 23 v21 2 v21) h21
theorem ap8:Ent 24 156 [.tmp 2] S156:=ent_ (m:=md156) (c:=(Tryz.f156.body.getD .skip)) (fun _ _ _ _=>by kernel_rfl) Tryz.func156 rfl rfl rfl
def md157:Nat->Hint
 |_=>mh false [] [] [] false
def Yk:Prop:=
 o_ G (Builtin.len_ #[22] 3 #[(r 0)]) h fun v2 h2=>o_ G (Instr.makeSlice 22 v2 v2) h2 fun v3 h3=>o_ G (Builtin.copy_ #[22,22] 3 #[v3,(r 0)]) h3 fun v4 h4=>
 K .ret (u9 r 7 (r 0) 8 v2 9 v3 3 v3 10 v3 11 (r 0) 12 v4 13 v3 2 v3) h4
def S157:Prop:=
 o_ G (Builtin.len_ #[22] 3 #[(r 0)]) h fun v0 h0=>
 opH P_ G (xEq .eql 3 (.tmp 0) (.const .nilFunc) v0 (.int .i64 0)) h0 fun v1 h1=>
 (fun q=>cond v1
 (K .ret (upd q 2 (.slice none 0 0)) h1)
 (Yk G K q h1))
 (u4 r 2 (.slice none 0 0) 4 (r 0) 5 v0 6 v1)
theorem ap7:Ent 14 157 [.tmp 2] S157:=ent_ (m:=md157) (c:=(Tryz.f157.body.getD .skip)) (fun _ _ _ _=>by kernel_rfl) Tryz.func157 rfl rfl rfl
end
def bRpF:=jq bC (jq (jq (jq (jq @Bool.true_and (jq @al28 @Ds)) (jq (jq @rq @ue) (jq @vg @Jc))) (jq (jq @T3 (jq @cf88 @eq68sp)) (jq (jq @Th @am8) (jq @Dh @zr)))) (jq (jq (jq @Xj (jq @Bv @Xi)) (jq (jq @tk @Ex) (jq @Ii @ld28))) (jq (jq @ld3 (jq @ld3p @ld4)) (jq (jq @ld @ir) (jq @Lo @true_and)))))
theorem un81:P_.underlying 245=some (.array 4 28):=by kernel_rfl
theorem ix81 {G h:Hp} {a:Addr} {k:IntKind} {i:Int} {K:VK} (h1:0<=i) (h2:i<(4:Nat)):wpH P_ G (Instr.indexAt 245 (.pointer (some a)) (.int k i)) h K=K (.pointer (some (a.add (i.toNat*2)))) h:=Er un81 sz28 h1 h2
theorem Xe {G h:Hp} {a:Addr} {k:IntKind} {i:Int} {K:Value->Prop} (h1:0<=i) (h2:i<(4:Nat)):pw P_ G h (Instr.indexAt 245 (.pointer (some a)) (.int k i)) K=K (.pointer (some (a.add (i.toNat*2)))):=Io un81 sz28 h1 h2
def Fh:List Value:=[.int .i64 0,.int .i64 (-1),.int .i64 1,.int .i64 0,.int .i64 0,.int .i64 1,.int .i64 (-1),.int .i64 0]
def iq (G:Hp):Prop:=∃e f,G 0=some (.cells Fh.toArray e f)
theorem iq.cell {G h:Hp} (s:iq G) (d:Dis G h) (k:Nat):af G h ⟨0,k,none⟩=Fh[k]?:=by
 obtain ⟨e,f,s⟩:=s
 rw [T4 d s rfl]
 simp [wb]
theorem iq.free {G h:Hp} (s:iq G) (d:Dis G h):h 0=none:=by
 obtain ⟨e,f,s⟩:=s
 cases q:h 0 with
 |none=>rfl
 |some o=>rw [d _ _ q]at s;cases s
theorem iq.under {G h a:Hp} (s:iq G) (d:Dis G h) (l:a.le h):iq (under G h a):=by
 have h0:=s.free d
 obtain ⟨e,f,s⟩:=s
 refine ⟨e,f,?_⟩
 unfold HL.under HL.look
 rw [l.none h0,h0]
 simpa using s
def ku {α:Type} (w h:Nat) (f:Nat->Nat->α):List α:=(List.range (w*h)).map fun n=>f (n % w) (n / w)
theorem er {α:Type} {w h:Nat} {f:Nat->Nat->α}:(ku w h f).length=w*h:=by simp [ku]
theorem vd {α:Type} {w h:Nat} {f:Nat->Nat->α} {x y:Nat} (hx:x<w) (hy:y<h):(ku w h f)[y*w+x]?=some (f x y):=by
 have hlt:y*w+x<w*h:=by
   have:(y+1)*w<=h*w:=Nat.mul_le_mul_right _ hy
   rw [Nat.succ_mul]at this
   rw [Nat.mul_comm w h];omega
 unfold ku
 rw [List.getElem?_map,List.getElem?_range hlt,Option.map_some]
 rw [Nat.mul_comm y w,Nat.mul_add_mod,Nat.mod_eq_of_lt hx,Nat.mul_add_div (by omega),Nat.div_eq_of_lt hx,Nat.add_zero]
theorem ve {α:Type} {w h:Nat} {f:Nat->Nat->α} {n:Nat} (hn:n<w*h):(ku w h f)[n]?=some (f (n % w) (n / w)):=by
 unfold ku
 rw [List.getElem?_map,List.getElem?_range hn,Option.map_some]
theorem Ms {α:Type} {w h:Nat} {f:Nat->Nat->α} {x y:Nat} {v:α} (hx:x<w):(ku w h f).set (y*w+x) v=ku w h (fun a b=>if a=x/\b=y then v else f a b):=by
 apply List.ext_getElem?
 intro n
 rw [List.getElem?_set]
 by_cases hn:n<w*h
 . rw [ve hn,ve hn,er]
   have hw:0<w:=by omega
   by_cases e:y*w+x=n
   . subst e
     rw [if_pos rfl,if_pos hn,Nat.mul_comm y w,Nat.mul_add_mod,Nat.mod_eq_of_lt hx,Nat.mul_add_div hw,Nat.div_eq_of_lt hx,Nat.add_zero]
     simp
   . rw [if_neg e,if_neg]
     rintro ⟨e1,e2⟩
     apply e
     rw [<- e1,<- e2,Nat.mul_comm]
     exact Nat.div_add_mod n w
 . rw [List.getElem?_eq_none (by rw [er];omega),List.getElem?_eq_none (by rw [er];omega)]
   split
   . rw [if_neg (by rw [er];omega)]
   . rfl
structure GS (G h:Hp) (g:Value) (w k:Nat) (f:Nat->Nat->Int):Prop where
 ex:∃gp kb,g = .pointer (some ⟨gp,0,none⟩)/\(∀j,j<3->af G h ⟨gp,j,none⟩=[Value.int .i64 w,.int .i64 k,.slice (some ⟨kb,0,none⟩) (w*k) (w*k)][j]?)/\(∀n x,(ku w k f)[n]?=some x->af G h ⟨kb,n,none⟩=some (.int .i64 x))
 w1:1<=w
 w2:w<=16
 k1:1<=k
 k2:k<=16
theorem GS.up {G h h':Hp} {g:Value} {w k:Nat} {f:Nat->Nat->Int} (s:GS G h g w k f) (l:h.le h') (d:Dis G h'):GS G h' g w k f:=by
 obtain ⟨⟨gp,kb,e,h1,h2⟩,a,b,c,e2⟩:=s
 refine ⟨⟨gp,kb,e,fun j hj=>?_,fun n x hx=>ng l d (h2 n x hx)⟩,a,b,c,e2⟩
 have:=h1 j hj
 rw [List.getElem?_eq_getElem (by simpa using hj)]at this ⊢
 exact ng l d this
def inW (w k:Nat) (c:Cell):Bool:=ax c.1 0 (w-1)&&ax c.2 0 (k-1)
def numI (w k:Nat) (c:Cell):Int:=if inW w k c=true then c.2*w+c.1 else -1
def fAt (f:Nat->Nat->Int) (c:Cell):Int:=f c.1.toNat c.2.toNat
def oc (w k:Nat) (f:Nat->Nat->Int) (c:Cell):Bool:=inW w k c && !(fAt f c == -1)
theorem jc {w k:Nat} {c:Cell}:inW w k c=true↔0<=c.1/\c.1<w/\0<=c.2/\c.2<k:=by
 unfold inW ax
 simp only [Bool.and_eq_true,decide_eq_true_eq]
 omega
theorem ju {G h:Hp} {n a b:Int}:al P_ G 129 #[n,a,b] h (fun u h'=>u = .bool (ax n a b)/\h'=h):=by
 refine quietly (ar8 (by simp) ?_)
 unfold S129
 simp only [bRpF]
 unfold ax
 cases hc:decide (n>=a)with
 |false=>simp only [bRpF,hc];exact ⟨rfl,Hp.le.refl h⟩
 |true=>simp only [bRpF,hc];exact Hp.le.refl h
theorem nn {G h:Hp} {g:Value} {w k:Nat} {f:Nat->Nat->Int} {c:Cell} (s:GS G h g w k f):al P_ G 88 #[g,uc c] h (fun u h'=>u = .int .i64 (numI w k c)/\h'=h):=by
 have s0:=s
 obtain ⟨⟨gp,kb,rfl,g1,g2⟩,w1,w2,k1,k2⟩:=s
 refine al.assume fun d=>quietly (enter88 (by simp) ?_)
 unfold S88
 simp only [bRpF]
 intro x hx gx
 generalize e1:Hp.set h x _=h1
 obtain ⟨l1,d1,b1⟩:=boxed e1 hx d gx
 have cx:∀j,af G h1 ⟨x,j,none⟩=_:=fun j=>aj (ai b1)
 have y0:af G h1 ⟨gp,0,none⟩=some (.int .i64 w):=ng l1 d1 (g1 0 (by decide))
 have y1:af G h1 ⟨gp,1,none⟩=some (.int .i64 k):=ng l1 d1 (g1 1 (by decide))
 try simp (disch:=first|decide|omega) only [bRpF,cx,y0,y1]
 try rw [kf (by omega) (by omega)]
 refine (ju (n:=c.1) (a:=0) (b:=(w:Int)-1)).mono ?_
 rintro _ _ ⟨rfl,rfl⟩
 unfold numI inW
 cases h1:ax c.1 0 ((w:Int)-1)with
 |false=>try simp only [bRpF];exact ⟨by simp,l1⟩
 |true=>
 try simp (disch:=first|decide|omega) only [bRpF,cx,y0,y1]
 try rw [kf (by omega) (by omega)]
 refine (ju (n:=c.2) (a:=0) (b:=(k:Int)-1)).mono ?_
 rintro _ _ ⟨rfl,rfl⟩
 cases h2:ax c.2 0 ((k:Int)-1)with
 |false=>try simp only [bRpF];exact ⟨by simp,l1⟩
 |true=>
 unfold ax at h1 h2
 simp only [Bool.and_eq_true,decide_eq_true_eq]at h1 h2
 have hm:0<=c.2*(w:Int)/\c.2*(w:Int)<=15*16:=⟨Int.mul_nonneg (by omega) (by omega),Int.mul_le_mul (by omega) (by omega) (by omega) (by omega)⟩
 try simp only [bRpF]
 unfold aw3
 try simp (disch:=first|decide|omega) only [bRpF,cx,y0,y1]
 try rw [kf (x:=c.2*(w:Int)) (by omega) (by omega)]
 try rw [kf (by omega) (by omega)]
 first|exact l1|exact ⟨by simp,l1⟩
theorem GS.kind {G h:Hp} {g:Value} {w k:Nat} {f:Nat->Nat->Int} (s:GS G h g w k f) {c:Cell} (hc:inW w k c=true):
   ∃gp kb,g = .pointer (some ⟨gp,0,none⟩)/\af G h ⟨gp,2,none⟩=some (.slice (some ⟨kb,0,none⟩) (w*k) (w*k))/\af G h ⟨kb,(numI w k c).toNat,none⟩=some (.int .i64 (fAt f c))/\0<=numI w k c/\numI w k c<((w*k:Nat):Int):=by
 obtain ⟨⟨gp,kb,rfl,g1,g2⟩,w1,w2,k1,k2⟩:=s
 obtain ⟨a1,a2,a3,a4⟩:=jc.1 hc
 have hn:numI w k c=((c.2.toNat*w+c.1.toNat:Nat):Int):=by
   unfold numI
   rw [if_pos hc]
   rw [Int.natCast_add,Int.natCast_mul,Int.toNat_of_nonneg a1,Int.toNat_of_nonneg a3]
 refine ⟨gp,kb,rfl,g1 2 (by decide),?_,by omega,?_⟩
 . rw [hn,Int.toNat_natCast]
   exact g2 _ _ (vd (by omega) (by omega))
 . rw [hn]
   have:(c.2.toNat+1)*w<=k*w:=Nat.mul_le_mul_right _ (by omega)
   rw [Nat.succ_mul]at this
   rw [Nat.mul_comm w k]
   omega
theorem Ia {w k:Nat} {c:Cell} (h:inW w k c=false):numI w k c = -1:=by unfold numI;rw [h];rfl
theorem ix57k {G h:Hp} {kb n:Nat} {i:Int} {K:VK} (h1:0<=i) (h2:i<(n:Int)):wpH P_ G (Instr.indexAt 168 (.slice (some ⟨kb,0,none⟩) n n) (.int .i64 i)) h K=K (.pointer (some ⟨kb,i.toNat,none⟩)) h:=by
 rw [So h1 h2];simp only [nt,Nat.zero_add,Nat.mul_one]
theorem Ai {G h:Hp} {g:Value} {w k:Nat} {f:Nat->Nat->Int} {c:Cell} (s:GS G h g w k f):al P_ G 62 #[g,uc c] h (fun u h'=>u = .bool (oc w k f c)/\h'=h):=by
 refine al.assume fun d=>quietly (enter62 (by simp) ?_)
 unfold S62
 simp only [bRpF]
 intro x hx gx
 generalize e1:Hp.set h x _=h1
 obtain ⟨l1,d1,b1⟩:=boxed e1 hx d gx
 have cx:∀j,af G h1 ⟨x,j,none⟩=_:=fun j=>aj (ai b1)
 try simp (disch:=first|decide|omega) only [bRpF,Nat.reduceAdd,Nat.reduceMul,cx]
 refine (nn (c:=c) (s.up l1 d1)).mono ?_
 rintro _ _ ⟨rfl,rfl⟩
 unfold oc
 cases hc:inW w k c with
 |false=>
   try simp only [bRpF,Ia hc,show decide ((-1:Int)>=0)=false from rfl]
   first|exact l1|exact ⟨by simp,l1⟩
 |true=>
   obtain ⟨gp,kb,rfl,z2,zk,n0,n1⟩:=(s.up l1 d1).kind hc
   try simp only [bRpF,show decide (numI w k c>=0)=true from decide_eq_true n0,z2,ix57k n0 n1,zk]
   first|exact l1|exact ⟨by simp [bne],l1⟩
theorem Oq {G h:Hp} {g:Value} {w k:Nat} {f:Nat->Nat->Int} {c:Cell} (s:GS G h g w k f):al P_ G 158 #[g,uc c] h (fun u h'=>u = .bool (inW w k c&&(fAt f c==0))/\h'=h):=by
 refine al.assume fun d=>quietly (ap6 (by simp) ?_)
 unfold S158
 simp only [bRpF]
 intro x hx gx
 generalize e1:Hp.set h x _=h1
 obtain ⟨l1,d1,b1⟩:=boxed e1 hx d gx
 have cx:∀j,af G h1 ⟨x,j,none⟩=_:=fun j=>aj (ai b1)
 try simp (disch:=first|decide|omega) only [bRpF,Nat.reduceAdd,Nat.reduceMul,cx]
 refine (nn (c:=c) (s.up l1 d1)).mono ?_
 rintro _ _ ⟨rfl,rfl⟩
 cases hc:inW w k c with
 |false=>
   try simp only [bRpF,Ia hc,show decide ((-1:Int)>=0)=false from rfl]
   first|exact l1|exact ⟨by simp,l1⟩
 |true=>
   obtain ⟨gp,kb,rfl,z2,zk,n0,n1⟩:=(s.up l1 d1).kind hc
   try simp only [bRpF,show decide (numI w k c>=0)=true from decide_eq_true n0,z2,ix57k n0 n1,zk]
   first|exact l1|exact ⟨by simp,l1⟩
def Bd (x:Int):Prop := -9223372036854775808<=x/\x<=9223372036854775807
def PB (p:Pose):Prop:=Bd p.x/\Bd p.y
theorem mq {G h:Hp} {g:Value} {p:Pose} (st:iq G) (hp:PB p):al P_ G 89 #[g,ja p] h (fun u h'=>∃b,u = .slice (some ⟨b,0,none⟩) 2 2/\h b=none/\G b=none/\h'=h.set b (.cells #[p.x,p.y,(east p).1,(east p).2] 28 (0,0))):=by
 obtain ⟨⟨p1,p2⟩,p3,p4⟩:=hp
 refine al.assume fun d=>al.less (enter89 (by simp) (R:=fun u h'=>∃b,u = .slice (some ⟨b,0,none⟩) 2 2/\h b=none/\G b=none/\(h.set b (.cells #[p.x,p.y,(east p).1,(east p).2] 28 (0,0))).le h') ?_) ?_
 rotate_left
 . rintro v h' ⟨b,e,h1,h2,h3⟩
   exact ⟨_,h3,b,e,h1,h2,rfl⟩
 unfold S89
 simp only [bRpF]
 intro x hx gx
 generalize e1:Hp.set h x _=h1
 obtain ⟨l1,d1,b1⟩:=boxed e1 hx d gx
 have c0:=fun j=>st.cell d1 j
 try simp (disch:=first|decide|exact aq|exact ao|omega|rfl) only [bRpF,Nat.reduceAdd,ix81 (by decide:(0:Int)<=1) (by decide:(1:Int)<(4:Nat)),Int.toNat_one,Nat.one_mul,c0,Fh]
 intro y hy gy
 generalize e2:Hp.set h1 y _=h2
 obtain ⟨l2,d2,b2⟩:=boxed e2 hy d1 gy
 have cx:∀j,af G h2 ⟨x,j,none⟩=_:=fun j=>aj (ai (l2 _ _ b1))
 have cy:∀j,af G h2 ⟨y,j,none⟩=_:=fun j=>aj (ai b2)
 have L:=l1.trans l2
 try simp only [bRpF,cx]
 unfold east wr
 cases hd:p.d with
 |false=>
   try simp only [bRpF]
   unfold Qa
   try simp (disch:=first|decide|omega) only [bRpF,cx,cy]
   rw [show (p.y+0:Int)=p.y by omega]
   intro b hb gb
   exact ⟨b,rfl,L.none hb,gb,L.both⟩
 |true=>
   have c2:=fun j=>st.cell d2 j
   try simp only [bRpF,Nat.reduceAdd,Nat.reduceMul,ix81 (by decide:(0:Int)<=2) (by decide:(2:Int)<(4:Nat)),show Int.toNat 2=2 from rfl,c2,Fh]
   rw [qs sz28 b2 (by simp [ly]) (by simp) (by simp [ly,js])]
   have nxy:x≠y:=gf b1 hy
   generalize e3:Hp.set h2 y _=h3
   have cx3:∀j,af G h3 ⟨x,j,none⟩=[Value.int .i64 p.x,.int .i64 p.y,.bool p.d][j]?:=fun j=>by rw [<- e3,am nxy];exact cx j
   have cy3:∀j,af G h3 ⟨y,j,none⟩=[Value.int .i64 0,.int .i64 1][j]?:=fun j=>by rw [<- e3,aj (ai ag)];first|rfl|simp [putL,ly]
   have L3:h.le h3:=by
     rw [<- e3]
     exact L.set (l1.none hy)
   unfold Qa
   try simp (disch:=first|decide|omega) only [bRpF,cx3,cy3]
   rw [show (p.x+0:Int)=p.x by omega]
   intro b hb gb
   exact ⟨b,rfl,L3.none hb,gb,L3.both⟩
def bRpG:=jq bC (jq (jq @Bool.true_and (jq @cf62 @cf89)) (jq @ld28 (jq @ld30 @true_and)))
def dg (w k:Nat) (f:Nat->Nat->Int) (p:Pose):Bool:=oc w k f (p.x,p.y)&&oc w k f (east p)
theorem nw {G h:Hp} {g:Value} {w k:Nat} {f:Nat->Nat->Int} {p:Pose} (s:GS G h g w k f) (st:iq G) (hp:PB p):al P_ G 61 #[g,ja p] h (fun u h'=>u = .bool (dg w k f p)/\h'=h):=by
 refine al.assume fun d=>quietly (enter61 (by simp) ?_)
 unfold S61
 simp only [bRpG]
 intro x hx gx
 generalize e1:Hp.set h x _=h1
 obtain ⟨l1,d1,b1⟩:=boxed e1 hx d gx
 have cx:∀j,af G h1 ⟨x,j,none⟩=_:=fun j=>aj (ai b1)
 try simp (disch:=first|decide|omega) only [bRpG,Nat.reduceAdd,Nat.reduceMul,cx]
 refine (mq (g:=g) (p:=p) st hp).mono ?_
 rintro _ _ ⟨b,rfl,hb,gb,rfl⟩
 generalize e3:Hp.set h1 b _=h3
 obtain ⟨l3,d3,b3⟩:=boxed e3 hb d1 gb
 have L:=l1.trans l3
 have cb3:∀k,af G h3 ⟨b,k,none⟩=_:=fun k=>aj (ai b3)
 try simp only [bRpG,cb3,ix22 (by decide:(0:Int)<=0) (by decide:(0:Int)<(2:Nat)),Int.toNat_zero,Nat.zero_mul]
 refine (Ai (c:=(p.x,p.y)) (s.up L d3)).mono ?_
 rintro _ _ ⟨rfl,rfl⟩
 unfold dg
 cases hc:oc w k f (p.x,p.y)with
 |false=>simp only [bRpG,hc];exact ⟨rfl,L⟩
 |true=>
 try simp only [bRpG,Nat.reduceAdd,cb3,ix22 (by decide:(0:Int)<=1) (by decide:(1:Int)<(2:Nat)),Int.toNat_one,Nat.one_mul]
 refine (Ai (c:=east p) (s.up L d3)).mono ?_
 rintro _ _ ⟨rfl,rfl⟩
 try simp only [bRpG]
 first|exact L|exact ⟨by simp,L⟩
theorem Rw {α:Type} (c:Cod α) (hn:c.n=1) {L:List α} {i:Nat} {x:α} {v:Value} (hv:c.enc x=[v]) (hi:i<L.length):(c.rows L).set i v=c.rows (L.set i x):=by
 have h:=c.rows_put (t:=[]) (x:=x) hi
 rw [List.append_nil,List.append_nil,hn,Nat.mul_one,hv]at h
 rw [<- h,vu _ _ _ (by rw [c.rows_length,hn];simp;omega)]
 rw [List.set_eq_take_append_cons_drop,if_pos (by rw [c.rows_length,hn];omega)]
 simp
theorem rl {α:Type} (c:Cod α) (hn:c.n=1) {L:List α} {i:Nat} {x:α} {v:Value} (hv:c.enc x=[v]) (hx:L[i]?=some x):(c.rows L)[i]?=some v:=by
 have h:=c.rows_get (t:=[]) (j:=0) hx (by omega)
 rw [List.append_nil,hn,Nat.mul_one,Nat.add_zero,hv]at h
 exact h
structure GO (a:Hp) (gp kb:Nat) (w k:Nat) (f:Nat->Nat->Int):Prop where
 hd:a gp=some (.cells #[w,k,.slice (some ⟨kb,0,none⟩) (w*k) (w*k)] 215 (0,0))
 row:a kb=some (.cells (icC.rows (ku w k f)).toArray 3 (0,0))
 w1:1<=w
 w2:w<=16
 k1:1<=k
 k2:k<=16
theorem GO.ne {a:Hp} {gp kb w k:Nat} {f:Nat->Nat->Int} (g:GO a gp kb w k f):gp≠kb:=fun e=>by
 have h1:=g.hd
 have h2:=g.row
 rw [e,h2]at h1
 simp at h1
theorem GO.le {a h:Hp} {gp kb w k:Nat} {f:Nat->Nat->Int} (g:GO a gp kb w k f) (l:a.le h):GO h gp kb w k f:=⟨l _ _ g.hd,l _ _ g.row,g.w1,g.w2,g.k1,g.k2⟩
theorem GO.gs {G a:Hp} {gp kb w k:Nat} {f:Nat->Nat->Int} (g:GO a gp kb w k f):GS G a (.pointer (some ⟨gp,0,none⟩)) w k f:=
 ⟨⟨gp,kb,rfl,fun j hj=>aj (ai g.hd),fun n x hx=>by rw [aj (ai g.row)];exact rl icC rfl rfl hx⟩,g.w1,g.w2,g.k1,g.k2⟩
theorem GO.put {a:Hp} {gp kb w k:Nat} {f:Nat->Nat->Int} (g:GO a gp kb w k f) {x y:Nat} {v:Int} (hx:x<w) (hy:y<k):
   GO (a.set kb (.cells ((icC.rows (ku w k f)).set (y*w+x) (.int .i64 v)).toArray 3 (0,0))) gp kb w k (fun p q=>if p=x/\q=y then v else f p q):=by
 refine ⟨by rw [au g.ne];exact g.hd,?_,g.w1,g.w2,g.k1,g.k2⟩
 rw [ag,Rw icC rfl (x:=v) rfl,Ms hx]
 rw [er]
 have:(y+1)*w<=k*w:=Nat.mul_le_mul_right _ hy
 rw [Nat.succ_mul]at this
 rw [Nat.mul_comm w k];omega
def MK (a:Hp) (mb w k:Nat) (f:Nat->Nat->Bool):Prop:=a mb=some (.cells (bcC.rows (ku w k f)).toArray 4 (0,0))
theorem MK.put {a:Hp} {mb w k:Nat} {f:Nat->Nat->Bool} (g:MK a mb w k f) {x y:Nat} {v:Bool} (hx:x<w) (hy:y<k):
   MK (a.set mb (.cells ((bcC.rows (ku w k f)).set (y*w+x) (.bool v)).toArray 4 (0,0))) mb w k (fun p q=>if p=x/\q=y then v else f p q):=by
 unfold MK
 rw [ag,Rw bcC rfl (x:=v) rfl,Ms hx]
 rw [er]
 have:(y+1)*w<=k*w:=Nat.mul_le_mul_right _ hy
 rw [Nat.succ_mul]at this
 rw [Nat.mul_comm w k];omega
theorem uv {w k:Nat} {c:Cell} (hc:inW w k c=true):numI w k c=((c.2.toNat*w+c.1.toNat:Nat):Int)/\c.1.toNat<w/\c.2.toNat<k/\c.2.toNat*w+c.1.toNat<w*k:=by
 obtain ⟨a1,a2,a3,a4⟩:=jc.1 hc
 refine ⟨?_,by omega,by omega,?_⟩
 . unfold numI
   rw [if_pos hc]
   rw [Int.natCast_add,Int.natCast_mul,Int.toNat_of_nonneg a1,Int.toNat_of_nonneg a3]
 . have:(c.2.toNat+1)*w<=k*w:=Nat.mul_le_mul_right _ (by omega)
   rw [Nat.succ_mul]at this
   rw [Nat.mul_comm w k];omega
def kd (T:List Cell) (nb:Nat) (x y:Nat):Int:=if ((x:Int),(y:Int))∈T then (if T.idxOf ((x:Int),(y:Int))<nb then -1 else (T.idxOf ((x:Int),(y:Int)):Int)-nb+1)else 0
def i9 (T:List Cell) (x y:Nat):Bool:=decide (((x:Int),(y:Int))∈T)
theorem kd_snoc {T:List Cell} {nb:Nat} {c:Cell} (hc:c∉T) (h1:0<=c.1) (h2:0<=c.2):kd (T++[c]) nb=fun p q=>if p=c.1.toNat/\q=c.2.toNat then (if T.length<nb then -1 else (T.length:Int)-nb+1)else kd T nb p q:=by
 funext p q
 unfold kd
 by_cases hpq:p=c.1.toNat/\q=c.2.toNat
 . have e:((p:Int),(q:Int))=c:=by rw [hpq.1,hpq.2,Int.toNat_of_nonneg h1,Int.toNat_of_nonneg h2]
   rw [if_pos hpq,e,if_pos (by simp),List.idxOf_append,if_neg hc,List.idxOf_cons_self,Nat.zero_add]
 . have e:((p:Int),(q:Int))≠c:=fun e=>hpq (by rw [<- e];simp)
   rw [if_neg hpq]
   by_cases hm:((p:Int),(q:Int))∈T
   . rw [if_pos (by simp [hm]),if_pos hm,List.idxOf_append,if_pos hm]
   . rw [if_neg (by simp [hm,e]),if_neg hm]
theorem Ef {T:List Cell} {c:Cell} (h1:0<=c.1) (h2:0<=c.2):i9 (T++[c])=fun p q=>if p=c.1.toNat/\q=c.2.toNat then true else i9 T p q:=by
 funext p q
 unfold i9
 by_cases hpq:p=c.1.toNat/\q=c.2.toNat
 . have e:((p:Int),(q:Int))=c:=by rw [hpq.1,hpq.2,Int.toNat_of_nonneg h1,Int.toNat_of_nonneg h2]
   rw [if_pos hpq,e];simp
 . have e:((p:Int),(q:Int))≠c:=fun e=>hpq (by rw [<- e];simp)
   rw [if_neg hpq]
   simp [e]
def bRpH:=jq bC (jq (jq (jq (jq @List.length_nil.{0} @al28) (jq @rq @cf88)) (jq (jq @Dh @am7) (jq @I3 (jq @Pv @Ii)))) (jq (jq (jq @Pc @ld22) (jq @Xc (jq @ld28 @ld4))) (jq (jq @ln22 @ln22p) (jq @ld (jq @ir @Lo)))))
theorem Ml {G h:Hp} {v:Value} {L:List Cell} (sv:Sees dr G h v L) (hL:L.length<=1000):al P_ G 157 #[v] h (fun u h'=>∃b,Slc dr 28 b u L/\Sep [b,h] h'/\Dis G h'):=by
 obtain ⟨sa,cap,rfl⟩:=sv.len
 refine al.assume fun d=>ap7 (by simp) ?_
 unfold S157
 simp only [bRpH]
 by_cases hL0:L=[]
 . subst hL0
   try simp only [bRpH,List.length_nil,show (((0:Nat):Int)==0)=true from rfl]
   exact ⟨noHp,Slc.nil,Sep.one.none,d⟩
 . have hpos:=List.length_pos_iff.2 hL0
   have e:((L.length:Int)==0)=false:=by
     have:(L.length:Int)≠0:=by omega
     simpa using this
   try simp only [bRpH,e]
   unfold Yk
   try simp (disch:=decide) only [bRpH]
   rw [wg dr (0,0) (by decide) un22 eocell (by kernel_rfl) (by omega) (by omega)]
   intro x hx gx
   have d1:=d.set (o := .cells (dr.rows (List.replicate L.length (0,0))).toArray 28 (0,0)) gx
   rw [Ty dr (by decide) un22 eocell (L:=L) ag (by simp) (sv.up (b8 hx) d1) hL0 rfl,set_set]
   try simp (disch:=first|decide|omega) only [bRpH,Nat.reduceAdd,Nat.reduceMul]
   exact ⟨noHp.set x _,⟨some x,_,[],rfl,by rw [ag,List.append_nil],by rw [List.append_nil,dr.rows_length]⟩,Sep.one.new hx,d.set gx⟩
structure Ra (C:Conf):Prop where
 w:ax C.w 1 16=true
 h:ax C.h 1 16=true
 po8:C.po.length<=8
 few:(C.bl.length:Int)<=C.w*C.h
 all:∀c∈C.bl++C.po,inW C.w.toNat C.h.toNat c=true
 once:(C.bl++C.po).Nodup
theorem Eo {G h:Hp} {mb n:Nat} {i:Nat} {K:VK} (h2:i<n):wpH P_ G (Instr.indexAt 90 (.slice (some ⟨mb,0,none⟩) n n) (.int .i64 (i:Int))) h K=K (.pointer (some ⟨mb,i,none⟩)) h:=by
 rw [ix90 (by omega) (by omega)];simp only [nt,Nat.zero_add,Nat.mul_one,Int.toNat_natCast]
theorem Mq {G h:Hp} {kb n:Nat} {i:Nat} {K:VK} (h2:i<n):wpH P_ G (Instr.indexAt 168 (.slice (some ⟨kb,0,none⟩) n n) (.int .i64 (i:Int))) h K=K (.pointer (some ⟨kb,i,none⟩)) h:=by
 rw [So (by omega) (by omega)];simp only [nt,Nat.zero_add,Nat.mul_one,Int.toNat_natCast]
theorem ix57np {G h:Hp} {kb n:Nat} {i:Nat} {K:Value->Prop} (h2:i<n):pw P_ G h (Instr.indexAt 168 (.slice (some ⟨kb,0,none⟩) n n) (.int .i64 (i:Int))) K=K (.pointer (some ⟨kb,i,none⟩)):=by
 rw [Vb (by omega) (by omega)];simp only [nt,Nat.zero_add,Nat.mul_one,Int.toNat_natCast]
theorem U3 {G a h:Hp} {mb w k:Nat} {f:Nat->Nat->Bool} (m:MK a mb w k f) (l:a.le h) {x y:Nat} (hx:x<w) (hy:y<k):af G h ⟨mb,y*w+x,none⟩=some (.bool (f x y)):=by
 rw [aj (ai (l _ _ m))]
 exact rl bcC rfl rfl (vd hx hy)
theorem ab1 {G h1:Hp} {C:Conf} {ab:Option Addr} {cb:Nat} {x gp kb mb w k:Nat} {ip:Hp} {iv:Value} {T:List Cell} {KK:EK}
   (cx0:∀h3,h1.le h3->Dis G h3->af G h3 ⟨x,3,none⟩=some (.slice ab C.bl.length cb)) (hT:T.length<=1000) (hB:C.bl.length<=1000) (o:Slc dr 28 ip iv T) (hk:1<=w/\w<=16/\1<=k/\k<=16)
   (r:Rg) (h:Hp) (ga ma:Hp) (g1:r 1 = .pointer (some ⟨x,0,none⟩)) (g4:r 4 = .pointer (some ⟨gp,0,none⟩)) (g5:r 5 = .slice (some ⟨mb,0,none⟩) (w*k) (w*k)) (g59:r 59=iv) (g60:r 60 = .int .i64 T.length) (g61:r 61 = .int .i64 0)
   (go:GO ga gp kb w k (kd [] C.bl.length)) (mk:MK ma mb w k (i9 [])) (s:Sep [ga,ma,ip,h1] h) (d:Dis G h)
   (H1:(∀c∈T,inW w k c=true)->T.Nodup->∀(r':Rg) h' ga',r' 4=r 4->GO ga' gp kb w k (kd T C.bl.length)->Sep [ga',h1] h'->Dis G h'->KK (.exit 0) r' h')
   (H2:¬((∀c∈T,inW w k c=true)/\T.Nodup)->∀(r':Rg) h',r' 2 = .pointer none->r' 3 = .bool false->h1.le h'->Dis G h'->KK .ret r' h'):dl (Qw G) r h KK:=by
 obtain ⟨sa,cap,rfl,hcap⟩:=o.len (by decide)
 refine di (fun m r2 h3=>∃(i:Nat) (ga ma:Hp),m=T.length-i/\i<=T.length/\r2 1=r 1/\r2 4=r 4/\r2 5=r 5/\r2 59=r 59/\r2 60=r 60/\r2 61 = .int .i64 i/\(∀c∈T.take i,inW w k c=true)/\(T.take i).Nodup/\
    GO ga gp kb w k (kd (T.take i) C.bl.length)/\MK ma mb w k (i9 (T.take i))/\Sep [ga,ma,ip,h1] h3/\Dis G h3) ?_
   (m:=T.length) ⟨0,ga,ma,rfl,Nat.zero_le _,rfl,rfl,rfl,rfl,rfl,by rw [g61];rfl,by simp,by simp,by simpa using go,by simpa using mk,s,d⟩
 rintro m r2 h3 ⟨i,ga,ma,rfl,hi,q1,q4,q5,q59,q60,q61,hin,hnd,go,mk,s3,d3⟩ X HX
 rw [g1]at q1
 rw [g4]at q4
 rw [g5]at q5
 rw [g59]at q59
 rw [g60]at q60
 unfold Qw
 simp only [bRpH,q60,q61]
 refine bv (fun hlt=>?_) (fun hge=>?_)
 rotate_left
 . obtain rfl:i=T.length:=by omega
   rw [List.take_of_length_le (Nat.le_refl _)]at hin hnd go
   exact H1 hin hnd _ _ ga (by simp (disch:=decide) only [bRpH,q4,g4]) go ((s3.pick 3 rfl rfl).swap.take 2 rfl) d3
 have hlt':i<T.length:=by omega
 obtain ⟨y,hy⟩:∃x,T[i]?=some x:=⟨_,List.getElem?_eq_getElem hlt'⟩
 obtain ⟨b,ofs,rfl,z0,z1⟩:=Sees.cell (G:=G) (o.sees (by decide) (s3.in 2 rfl)) hy
 unfold Kh
 simp (disch:=first|decide|exact aq|exact ao|omega|rfl) only [bRpH,q59,q61,ix22 (Int.natCast_nonneg i) hlt,z0,z1]
 intro t ht gt
 have s4:=s3.past (o := .cells #[y.1,y.2] 28 (0,0)) ht
 have d4:=d3.set (o := .cells #[y.1,y.2] 28 (0,0)) gt
 try simp only [bRpH,q4]
 generalize Hp.set h3 t _=h4 at s4 d4 ⊢
 refine (nn (c:=y) ((go.gs (G:=G)).up s4.hd d4)).mono ?_
 rintro _ h4 ⟨rfl,rfl⟩
 have hyT:y∈T:=List.mem_of_getElem? hy
 cases hc:inW w k y with
 |false=>
   try simp only [bRpH,Ia hc,show decide ((-1:Int)<0)=true from rfl]
   refine H2 (fun q=>?_) _ _ (by simp (disch:=decide) only [bRpH]) (by simp only [bRpH]) (s4.in 3 rfl) d4
   have:=q.1 y hyT
   rw [hc]at this;cases this
 |true=>
 obtain ⟨hn,hx,hyk,hlt2⟩:=uv hc
 have hxy:((y.1.toNat:Int),(y.2.toNat:Int))=y:=by
   obtain ⟨a1,a2,a3,a4⟩:=jc.1 hc
   rw [Int.toNat_of_nonneg a1,Int.toNat_of_nonneg a3]
 obtain ⟨a1,a2,a3,a4⟩:=jc.1 hc
 have mg:=U3 (G:=G) mk (s4.in 1 rfl) hx hyk
 rw [show i9 (T.take i) y.1.toNat y.2.toNat=decide (y∈T.take i)by unfold i9;rw [hxy]]at mg
 rw [hn]
 generalize hnn:y.2.toNat*w+y.1.toNat=n at hn hlt2 mg
 try simp only [bRpH,show decide ((n:Int)<0)=false from decide_eq_false (by omega),q5,Eo hlt2,mg]
 by_cases hmem:y∈T.take i
 . try simp only [bRpH,decide_eq_true hmem]
   exact H2 (fun q=>uw hy hmem q.2) _ _ (by simp (disch:=decide) only [bRpH]) (by simp only [bRpH]) (s4.in 3 rfl) d4
 try simp only [bRpH,decide_eq_false hmem]
 unfold Kg
 have mb4:=s4.at 1 rfl mk
 try simp (disch:=decide) only [bRpH,q5,Eo hlt2]
 rw [dh sz4 rfl mb4 (by rw [bcC.rows_length,er];simp [bcC];exact hlt2)]
 have s5:=(s4.pick 1 rfl rfl).put (o := .cells ((bcC.rows (ku w k (i9 (T.take i)))).set n (.bool true)).toArray 4 (0,0)) mk
 have d5:Dis G (h4.set mb (.cells ((bcC.rows (ku w k (i9 (T.take i)))).set n (.bool true)).toArray 4 (0,0))):=d4.set (d4 _ _ mb4)
 generalize Hp.set h4 mb _=h5 at s5 d5 ⊢
 have g5h:=s5.at 1 rfl go.hd
 have cg5:∀j,af G h5 ⟨gp,j,none⟩=_:=fun j=>aj (ai g5h)
 try simp only [bRpH,q4,cg5,Mq hlt2]
 have kb5:=s5.at 1 rfl go.row
 rw [dh sz3 rfl kb5 (by rw [icC.rows_length,er];simp [icC];exact hlt2)]
 have go6:=go.put (v := -1) hx hyk
 rw [hnn]at go6
 have s6:=(s5.pick 1 rfl rfl).put (o := .cells ((icC.rows (ku w k (kd (T.take i) C.bl.length))).set n (.int .i64 (-1))).toArray 3 (0,0)) go.row
 have d6:Dis G (h5.set kb (.cells ((icC.rows (ku w k (kd (T.take i) C.bl.length))).set n (.int .i64 (-1))).toArray 3 (0,0))):=d5.set (d5 _ _ kb5)
 generalize Hp.set h5 kb _=h6 at s6 d6 ⊢
 have c3:=cx0 h6 (s6.in 3 rfl) d6
 have mk6:=mk.put (v:=true) hx hyk
 rw [hnn]at mk6
 have htl:(T.take i).length=i:=by rw [List.length_take];omega
 have next:∀(r3:Rg) h7 ga7,r3 1=r2 1->r3 4=r2 4->r3 5=r2 5->r3 59=r2 59->r3 60=r2 60->r3 61=r2 61->GO ga7 gp kb w k (kd (T.take (i+1)) C.bl.length)->Sep [ga7,ma.set mb (.cells ((bcC.rows (ku w k (i9 (T.take i)))).set n (.bool true)).toArray 4 (0,0)),ip,h1] h7->Dis G h7->wz G (ci X KK) r3 h7:=by
   intro r3 h7 ga7 w1 w4 w5 w59 w60 w61 go7 s7 d7
   unfold wz
   have w61':=w61.trans q61
   simp (disch:=first|decide|omega) only [bRpH,w61']
   refine HX (T.length-(i+1)) _ _ (by omega) ⟨i+1,ga7,_,rfl,hlt',by simp (disch:=decide) only [bRpH,w1,q1,g1],by simp (disch:=decide) only [bRpH,w4,q4,g4],by simp (disch:=decide) only [bRpH,w5,q5,g5],by simp (disch:=decide) only [bRpH,w59,q59,g59],by simp (disch:=decide) only [bRpH,w60,q60,g60],by simp only [bRpH]<;>rfl,?_,xx hy hnd hmem,go7,?_,s7,d7⟩
   . rw [fq hy]
     intro c hc'
     rcases List.mem_append.1 hc' with q|q
     . exact hin c q
     . simp at q;rw [q];exact hc
   . rw [fq hy,Ef a1 a3]
     exact mk6
 have kds:=kd_snoc (nb:=C.bl.length) hmem a1 a3
 rw [<- fq hy,htl]at kds
 try simp (disch:=first|decide|omega) only [bRpH,q1,c3,q61]
 by_cases hib:i<C.bl.length
 . have e:decide ((i:Int)>=(C.bl.length:Int))=false:=decide_eq_false (by omega)
   try simp only [bRpH,e]
   refine next _ _ _ (by simp (disch:=decide) only [bRpH,q1]) (by simp (disch:=decide) only [bRpH,q4]) (by simp (disch:=decide) only [bRpH,q5]) (by simp (disch:=decide) only [bRpH,q59]) (by simp (disch:=decide) only [bRpH,q60]) (by simp (disch:=decide) only [bRpH,q61]) ?_ (s6.swap.swap) d6
   rw [kds,if_pos hib]
   exact go6
 . have e:decide ((i:Int)>=(C.bl.length:Int))=true:=decide_eq_true (by omega)
   have g6h:=s6.at 0 rfl go6.hd
   have cg6:∀j,af G h6 ⟨gp,j,none⟩=_:=fun j=>aj (ai g6h)
   try simp only [bRpH,e,q4,cg6,q1,c3,ix57np hlt2]
   have kb6:=s6.at 0 rfl go6.row
   rw [dh sz3 rfl kb6 (by rw [icC.rows_length,er];simp [icC];exact hlt2)]
   have go7:=go6.put (v:=(i:Int)-C.bl.length+1) hx hyk
   rw [hnn]at go7
   have s7:=s6.put (o := .cells ((icC.rows (ku w k fun p q=>if p=y.1.toNat/\q=y.2.toNat then -1 else kd (T.take i) C.bl.length p q)).set n (.int .i64 ((i:Int)-C.bl.length+1))).toArray 3 (0,0)) go6.row
   refine next _ _ _ (by simp (disch:=decide) only [bRpH,q1]) (by simp (disch:=decide) only [bRpH,q4]) (by simp (disch:=decide) only [bRpH,q5]) (by simp (disch:=decide) only [bRpH,q59]) (by simp (disch:=decide) only [bRpH,q60]) (by simp (disch:=decide) only [bRpH,q61]) ?_ s7 (d6.set (d6 _ _ kb6))
   rw [kds,if_neg hib]
   have e2:(fun p q=>if p=y.1.toNat/\q=y.2.toNat then (i:Int)-C.bl.length+1 else if p=y.1.toNat/\q=y.2.toNat then -1 else kd (T.take i) C.bl.length p q)=fun p q=>if p=y.1.toNat/\q=y.2.toNat then (i:Int)-C.bl.length+1 else kd (T.take i) C.bl.length p q:=by
     funext p q
     by_cases h:p=y.1.toNat/\q=y.2.toNat<;>simp [h]
   rw [<- e2]
   exact go7
def bRpJ:=jq bC (jq (jq (jq (jq @P4 @kg) (jq @vg (jq @T3 @cf157))) (jq (jq @Bz @Xp) (jq @E0 (jq @Xm @I3)))) (jq (jq (jq @Pv @Pu) (jq @Pt (jq @ld22 @Xc))) (jq (jq @ld3 @ld3p) (jq @ln22 (jq @ln22p @jy)))))
theorem ua {α:Type} {w k:Nat} {d:α}:ku w k (fun _ _=>d)=List.replicate (w*k) d:=by
 apply List.ext_getElem?
 intro n
 by_cases hn:n<w*k
 . rw [ve hn,List.getElem?_replicate,if_pos hn]
 . rw [List.getElem?_eq_none (by rw [er];omega),List.getElem?_eq_none (by simp;omega)]
theorem kd_nil {nb:Nat}:kd [] nb=fun _ _=>0:=by funext x y;simp [kd]
theorem Hr:i9 []=fun _ _=>false:=by funext x y;simp [i9]
theorem eobool:gc P_ 4 bcC.n 1:=⟨by kernel_rfl,by kernel_rfl,by kernel_rfl⟩
def LaidR (G h:Hp) (C:Conf) (u:Value) (h':Hp):Prop:=h.le h'/\Dis G h'/\
    ((Ra C/\∃ga gp kb,u = .tuple #[.pointer (some ⟨gp,0,none⟩),.bool true]/\GO ga gp kb C.w.toNat C.h.toNat (kd (C.bl++C.po) C.bl.length)/\Sep [ga,h] h')\/(¬Ra C/\u = .tuple #[.pointer none,.bool false]))
theorem ab0 {G h:Hp} {v:Value} {C:Conf} (hv:CV G h v C):al P_ G 130 #[v] h (LaidR G h C):=by
 obtain ⟨ab,cb,ap,cp,ar,cr,az,cs,rfl,ca⟩:=hv
 refine al.assume fun d=>ar7 (by simp) ?_
 unfold S130
 simp (disch:=decide) only [bRpJ]
 intro x hx gx
 have s1:=Sep.one.past (h:=h) (o := .cells #[C.w,C.h,C.ht,.slice ab C.bl.length cb,.slice ap C.po.length cp,.slice ar C.ro.length cr,.slice az C.st.length cs,C.un,C.ac,C.sp,C.tu,C.ho,C.qu,C.re,C.bu,.bool C.back] 26 (0,0)) hx
 generalize e1:Hp.set h x _=h1 at s1
 obtain ⟨l1,d1,b1⟩:=boxed e1 hx d gx
 have cx:∀j,af G h1 ⟨x,j,none⟩=_:=fun j=>aj (ai b1)
 try simp (disch:=first|decide|omega) only [bRpJ,Nat.reduceAdd,Nat.reduceMul,cx]
 refine (ju (n:=C.w) (a:=1) (b:=16)).mono ?_
 rintro _ _ ⟨rfl,rfl⟩
 cases hw:ax C.w 1 16 with
 |false=>
   try simp only [bRpJ]
   exact ⟨l1,d1,.inr ⟨fun q=>absurd (q.w.symm.trans hw) (by decide),rfl⟩⟩
 |true=>
 try simp only [bRpJ,cx]
 refine (ju (n:=C.h) (a:=1) (b:=16)).mono ?_
 rintro _ h1 ⟨rfl,rfl⟩
 cases hk:ax C.h 1 16 with
 |false=>
   try simp only [bRpJ]
   exact ⟨l1,d1,.inr ⟨fun q=>absurd (q.h.symm.trans hk) (by decide),rfl⟩⟩
 |true=>
 have hw':=hw
 have hk':=hk
 unfold ax at hw' hk'
 simp only [Bool.and_eq_true,decide_eq_true_eq]at hw' hk'
 obtain ⟨w,hwn⟩:∃w:Nat,C.w=w:=⟨C.w.toNat,by omega⟩
 obtain ⟨k,hkn⟩:∃k:Nat,C.h=k:=⟨C.h.toNat,by omega⟩
 try simp only [bRpJ,cx]
 by_cases hP:C.po.length<=8
 rotate_left
 . try simp only [bRpJ,show decide ((C.po.length:Int)>8)=true from decide_eq_true (by omega)]
   exact ⟨l1,d1,.inr ⟨fun q=>hP q.po8,rfl⟩⟩
 have hm:C.w*C.h=((w*k:Nat):Int):=by rw [hwn,hkn,Int.natCast_mul]
 have hm2:w*k<=16*16:=Nat.mul_le_mul (by omega) (by omega)
 have hwr:IntKind.i64.wrap (C.w*C.h)=((w*k:Nat):Int):=by rw [hm,kf (by omega) (by omega)]
 try simp only [bRpJ,show decide ((C.po.length:Int)>8)=false from decide_eq_false (by omega),cx,hwr]
 by_cases hB:C.bl.length<=w*k
 rotate_left
 . try simp only [bRpJ,show decide ((C.bl.length:Int)>((w*k:Nat):Int))=true from decide_eq_true (by omega)]
   exact ⟨l1,d1,.inr ⟨fun q=>hB (by have:=q.few;rw [hm]at this;omega),rfl⟩⟩
 try simp only [bRpJ,show decide ((C.bl.length:Int)>((w*k:Nat):Int))=false from decide_eq_false (by omega)]
 unfold Y2
 refine ⟨h1,Hp.le.refl _,?_⟩
 try simp (disch:=decide) only [bRpJ,cx,hwr]
 rw [wg icC 0 (by decide) Fe eoint (by kernel_rfl) (by omega) (by omega)]
 intro kb hkb gkb
 refine ⟨b8 hkb,?_⟩
 try simp only [bRpJ]
 intro gp hgp ggp
 have s2:=(Sep.one.new (o := .cells (icC.rows (List.replicate (w*k) 0)).toArray 3 (0,0)) hkb).grow (o := .cells #[C.w,C.h,.slice (some ⟨kb,0,none⟩) (w*k) (w*k)] 215 (0,0)) hgp
 have d2:=(d1.set (o := .cells (icC.rows (List.replicate (w*k) 0)).toArray 3 (0,0)) gkb).set (o := .cells #[C.w,C.h,.slice (some ⟨kb,0,none⟩) (w*k) (w*k)] 215 (0,0)) ggp
 have ngk:kb≠gp:=je hgp
 have go0:GO ((noHp.set kb (.cells (icC.rows (List.replicate (w*k) 0)).toArray 3 (0,0))).set gp (.cells #[C.w,C.h,.slice (some ⟨kb,0,none⟩) (w*k) (w*k)] 215 (0,0))) gp kb w k (kd [] C.bl.length):=
   ⟨by rw [ag,hwn,hkn],by rw [au ngk,ag,kd_nil,ua],by omega,by omega,by omega,by omega⟩
 generalize (noHp.set kb (.cells (icC.rows (List.replicate (w*k) 0)).toArray 3 (0,0))).set gp (.cells #[C.w,C.h,.slice (some ⟨kb,0,none⟩) (w*k) (w*k)] 215 (0,0))=ga at s2 go0
 generalize Hp.set (Hp.set h1 kb _) gp _=h2 at s2 d2 ⊢
 have cx2:∀j,af G h2 ⟨x,j,none⟩=_:=fun j=>aj (ai (s2.in 1 rfl _ _ b1))
 try simp only [bRpJ,cx2,hwr]
 rw [wg bcC false (by decide) un90 eobool (by kernel_rfl) (by omega) (by omega)]
 intro mb hmb gmb
 have s3:=s2.new (o := .cells (bcC.rows (List.replicate (w*k) false)).toArray 4 (0,0)) hmb
 have d3:=d2.set (o := .cells (bcC.rows (List.replicate (w*k) false)).toArray 4 (0,0)) gmb
 have mk0:MK (noHp.set mb (.cells (bcC.rows (List.replicate (w*k) false)).toArray 4 (0,0))) mb w k (i9 []):=by
   unfold MK;rw [ag,Hr,ua]
 generalize noHp.set mb (.cells (bcC.rows (List.replicate (w*k) false)).toArray 4 (0,0))=ma at s3 mk0
 generalize Hp.set h2 mb _=h3 at s3 d3 ⊢
 have l3:h1.le h3:=s3.in 2 rfl
 have cx3:∀j,af G h3 ⟨x,j,none⟩=_:=fun j=>aj (ai (l3 _ _ b1))
 have ca3:=ca.up (l1.trans l3) d3
 refine ⟨h3,Hp.le.refl _,?_⟩
 try simp only [bRpJ,cx3]
 refine (Ml ca3.bl (by omega)).mono ?_
 rintro v4 h4 ⟨ip,o4,s4,d4⟩
 refine ⟨s4.in 1 rfl,?_⟩
 try simp (disch:=first|decide|omega) only [bRpJ,Nat.reduceAdd,Nat.reduceMul,cx3]
 refine ez dr (by decide) un22 eocell (by decide) (by decide) s4 d4 o4 (ca3.po.up (s4.in 1 rfl) d4) (by omega) fun v5 ip5 h5 o5 s5 d5=>?_
 have s6:=(s5.split s3).pick 2 rfl rfl
 have s7:Sep [ga,ma,ip5,h1] h5:=s6.pick 2 rfl rfl |>.swap
 obtain ⟨sa5,cp5,rfl,_⟩:=o5.len (by decide)
 try simp only [bRpJ]
 refine ab1 (C:=C) (ab:=ab) (cb:=cb) (x:=x) (T:=C.bl++C.po) (fun h6 l6 d6=>by rw [aj (ai (l6 _ _ b1))];rfl) (by rw [List.length_append];omega) (by omega) o5 ⟨by omega,by omega,by omega,by omega⟩ _ _ ga ma
   (by simp (disch:=decide) only [bRpJ]) (by simp (disch:=decide) only [bRpJ]) (by simp (disch:=decide) only [bRpJ]) (by simp (disch:=decide) only [bRpJ]) (by simp (disch:=decide) only [bRpJ]) (by simp only [bRpJ]) go0 mk0 s7 d5 (fun hin hnd r' h' ga' j4 go' s' d'=>?_) (fun hbad r' h' j2 j3 l' d'=>?_)
 . simp only [jw,if_true,i8]
   have j4':r' 4 = .pointer (some ⟨gp,0,none⟩):=j4.trans (by simp (disch:=decide) only [bRpJ])
   unfold Y1
   simp (disch:=decide) only [bRpJ,j4']
   refine ⟨l1.trans (s'.in 1 rfl),d',.inl ⟨⟨hw,hk,hP,by rw [hm];omega,by rw [hwn,hkn];exact hin,hnd⟩,ga',gp,kb,rfl,by rw [hwn,hkn];exact go',?_⟩⟩
   exact (s'.swap.cut l1).swap
 . simp only [bRpJ,j2,j3]
   exact ⟨l1.trans l',d',.inr ⟨fun q=>hbad ⟨by have:=q.all;rw [hwn,hkn]at this;exact this,q.once⟩,rfl⟩⟩
def bRpK:=jq bC (jq (jq (jq (jq @al30 @ad9) (jq @Dr @bd30_0p)) (jq (jq @kg @av5) (jq @av4 (jq @cf61 @Th)))) (jq (jq (jq @Dh @tk) (jq @Ii (jq @ld28 @ld3))) (jq (jq @ld30 @ld3p) (jq @ld (jq @ir @A0)))))
theorem Sx {α:Type} {w k:Nat} {f f':Nat->Nat->α} (h:∀x y,x<w->y<k->f x y=f' x y):ku w k f=ku w k f':=by
 apply List.ext_getElem?
 intro n
 by_cases hn:n<w*k
 . rw [ve hn,ve hn,h]
   . exact Nat.mod_lt _ (by
       rcases Nat.eq_zero_or_pos w with e|e
       . rw [e]at hn;simp at hn
       . exact e)
   . exact Nat.div_lt_of_lt_mul hn
 . rw [List.getElem?_eq_none (by rw [er];omega),List.getElem?_eq_none (by rw [er];omega)]
theorem GO.congr {a:Hp} {gp kb w k:Nat} {f f':Nat->Nat->Int} (g:GO a gp kb w k f) (h:∀x y,x<w->y<k->f x y=f' x y):GO a gp kb w k f':=
 ⟨g.hd,by rw [<- Sx h];exact g.row,g.w1,g.w2,g.k1,g.k2⟩
theorem yz {w k:Nat} {f f':Nat->Nat->Int} (h:∀x y,x<w->y<k->(f x y = -1↔f' x y = -1)) (c:Cell):oc w k f c=oc w k f' c:=by
 unfold oc
 cases hc:inW w k c with
 |false=>rfl
 |true=>
   obtain ⟨a1,a2,a3,a4⟩:=jc.1 hc
   have:=h c.1.toNat c.2.toNat (by omega) (by omega)
   simp only [Bool.true_and,fAt]
   congr 1
   rw [Bool.eq_iff_iff]
   simpa using this
theorem zn {w k:Nat} {f f':Nat->Nat->Int} (h:∀x y,x<w->y<k->(f x y = -1↔f' x y = -1)) (p:Pose):dg w k f p=dg w k f' p:=by
 unfold dg;rw [yz h,yz h]
def vc (w k:Nat) (f:Nat->Nat->Int) (x y:Nat):Bool:=(f x y == -1)||(dg w k f ⟨x,y,false⟩||dg w k f ⟨x,y,true⟩)
def f1 (w k:Nat) (f:Nat->Nat->Int) (x y:Nat):Int:=if vc w k f x y=true then f x y else -2
def fN (w k:Nat) (f:Nat->Nat->Int) (n x y:Nat):Int:=if y*w+x<n then f1 w k f x y else f x y
theorem Xy {w k:Nat} {f:Nat->Nat->Int} (x y:Nat):f1 w k f x y = -1↔f x y = -1:=by
 unfold f1
 by_cases h:vc w k f x y=true
 . rw [if_pos h]
 . rw [if_neg h]
   constructor
   . intro e;omega
   . intro e
     exfalso
     apply h
     unfold vc
     simp [e]
theorem fN_open {w k:Nat} {f:Nat->Nat->Int} {n:Nat} (x y:Nat):fN w k f n x y = -1↔f x y = -1:=by
 unfold fN
 split
 . exact Xy x y
 . exact Iff.rfl
theorem cellN {w n x y:Nat} (hw:0<w) (hx:x<w):y*w+x=n↔x=n % w/\y=n / w:=by
 constructor
 . intro e
   subst e
   rw [Nat.mul_comm y w,Nat.mul_add_mod,Nat.mod_eq_of_lt hx,Nat.mul_add_div hw,Nat.div_eq_of_lt hx]
   simp
 . rintro ⟨rfl,rfl⟩
   rw [Nat.mul_comm]
   exact Nat.div_add_mod n w
theorem robots1 {G:Hp} {gp kb w k:Nat} {f:Nat->Nat->Int} {KK:EK} (st:iq G) (r:Rg) (h:Hp) (g0:r 0 = .pointer (some ⟨gp,0,none⟩)) (g20:r 20 = .int .i64 ((w*k:Nat):Int)) (g21:r 21 = .int .i64 0)
   (go:GO h gp kb w k f) (d:Dis G h)
   (H1:(∀x y,x<w->y<k->vc w k f x y=false->f x y<=0)->∀(r':Rg) h',r' 0=r 0->r' 1=r 1->GO h' gp kb w k (f1 w k f)->Dis G h'->KK (.exit 0) r' h')
   (H2:(∃x y,x<w/\y<k/\vc w k f x y=false/\0<f x y)->∀(r':Rg) h',r' 4 = .bool false->Dis G h'->KK .ret r' h'):dl (Kf G) r h KK:=by
 refine di (fun m r2 h3=>∃n:Nat,m=w*k-n/\n<=w*k/\r2 0=r 0/\r2 1=r 1/\r2 20=r 20/\r2 21 = .int .i64 n/\(∀x y,x<w->y<k->y*w+x<n->vc w k f x y=false->f x y<=0)/\GO h3 gp kb w k (fN w k f n)/\Dis G h3) ?_
   (m:=w*k) ⟨0,rfl,Nat.zero_le _,rfl,rfl,rfl,by rw [g21];rfl,fun x y _ _ h=>absurd h (by omega),go.congr fun x y _ _=>by simp [fN],d⟩
 rintro m r2 h3 ⟨n,rfl,hn,q0,q1,q20,q21,hok,go,d3⟩ X HX
 rw [g0]at q0
 rw [g20]at q20
 have hw0:0<w:=go.w1
 have hw2:=go.w2
 have hk2:=go.k2
 have hm2:w*k<=16*16:=Nat.mul_le_mul go.w2 go.k2
 unfold Kf
 simp only [bRpK,q20,q21]
 refine bv (fun hlt=>?_) (fun hge=>?_)
 rotate_left
 . obtain rfl:n=w*k:=by omega
   refine H1 (fun x y hx hy=>hok x y hx hy ?_) _ _ (by simp (disch:=decide) only [bRpK,q0,g0]) (by simp (disch:=decide) only [bRpK,q1]) (go.congr fun x y hx hy=>?_) d3
   . have:=(vd (f:=f) hx hy);have:=(List.getElem?_eq_some_iff.1 this).1;rwa [er]at this
   . unfold fN
     rw [if_pos]
     have:=(vd (f:=f) hx hy);have:=(List.getElem?_eq_some_iff.1 this).1;rwa [er]at this
 have hlt':n<w*k:=by omega
 have hx:n % w<w:=Nat.mod_lt _ hw0
 have hy:n / w<k:=Nat.div_lt_of_lt_mul hlt'
 have hnn:n / w*w+n % w=n:=by rw [Nat.mul_comm];exact Nat.div_add_mod n w
 have cg:∀j,af G h3 ⟨gp,j,none⟩=_:=fun j=>aj (ai go.hd)
 have kn:af G h3 ⟨kb,n,none⟩=some (.int .i64 (f (n % w) (n / w))):=by
   rw [aj (ai go.row)]
   refine rl icC rfl rfl ?_
   rw [ve hlt']
   unfold fN
   rw [hnn,if_neg (by omega)]
 have tm:(n:Int).tmod (w:Int)=((n % w:Nat):Int):=rfl
 have td:(n:Int).tdiv (w:Int)=((n / w:Nat):Int):=rfl
 have hcell:∀x y,x<w->(y*w+x=n↔x=n % w/\y=n / w):=fun x y h=>cellN hw0 h
 generalize n % w=cx at*
 generalize n / w=cy at*
 unfold D7
 simp (disch:=first|decide|exact aq|exact ao|omega|rfl) only [bRpK,q0,q21,cg,tm,td]
 intro t ht gt
 try rw [A0]
 have go4:GO (h3.set t (.cells #[cx,cy,.bool false] 30 (0,0))) gp kb w k (fN w k f n):=go.le (b8 ht)
 have d4:=d3.set (o := .cells #[cx,cy,.bool false] 30 (0,0)) gt
 have bt:(h3.set t (.cells #[cx,cy,.bool false] 30 (0,0))) t=some (.cells #[cx,cy,.bool false] 30 (0,0)):=ag
 have kn4:=ng (b8 (o := .cells #[cx,cy,.bool false] 30 (0,0)) ht) d4 kn
 generalize h3.set t (.cells #[cx,cy,.bool false] 30 (0,0))=h4 at*
 have cg4:∀j,af G h4 ⟨gp,j,none⟩=_:=fun j=>aj (ai go4.hd)
 have ct:∀j,af G h4 ⟨t,j,none⟩=_:=fun j=>aj (ai bt)
 try simp only [bRpK,q0,q21,cg4,Mq hlt',kn4]
 have next:∀(r3:Rg) h5,r3 0=r2 0->r3 1=r2 1->r3 20=r2 20->r3 21=r2 21->(vc w k f cx cy=false->f cx cy<=0)->GO h5 gp kb w k (fN w k f (n+1))->Dis G h5->rr G (ci X KK) r3 h5:=by
   intro r3 h5 w0 w1 w20 w21 hk go5 d5
   unfold rr
   have w21':=w21.trans q21
   simp (disch:=first|decide|omega) only [bRpK,w21']
   refine HX (w*k-(n+1)) _ _ (by omega) ⟨n+1,rfl,hlt',by simp (disch:=decide) only [bRpK,w0,q0,g0],by simp (disch:=decide) only [bRpK,w1,q1],by simp (disch:=decide) only [bRpK,w20,q20,g20],by simp only [bRpK]<;>rfl,fun x y hx' hy' hlt2 hkp=>?_,go5,d5⟩
   by_cases e:y*w+x=n
   . obtain ⟨rfl,rfl⟩:=(hcell x y hx').1 e
     exact hk hkp
   . exact hok x y hx' hy' (by omega) hkp
 have keeps:vc w k f cx cy=true->GO h4 gp kb w k (fN w k f (n+1)):=fun hkp=>go4.congr fun x y hx' hy'=>by
   unfold fN
   by_cases e:y*w+x=n
   . obtain ⟨rfl,rfl⟩:=(hcell x y hx').1 e
     rw [e,if_neg (by omega),if_pos (by omega)]
     unfold f1
     rw [if_pos hkp]
   . by_cases e2:y*w+x<n
     . rw [if_pos e2,if_pos (by omega)]
     . rw [if_neg e2,if_neg (by omega)]
 have fcong:∀p,dg w k (fN w k f n) p=dg w k f p:=zn fun x y _ _=>fN_open x y
 have hfp:∀b,PB ⟨(cx:Int),(cy:Int),b⟩:=fun b=>⟨⟨by show -9223372036854775808<=(cx:Int);omega,by show (cx:Int)<=9223372036854775807;omega⟩,⟨by show -9223372036854775808<=(cy:Int);omega,by show (cy:Int)<=9223372036854775807;omega⟩⟩
 have kcase:vc w k f cx cy=((f cx cy == -1)||(dg w k f ⟨cx,cy,false⟩||dg w k f ⟨cx,cy,true⟩)):=rfl
 cases hb:(f cx cy == -1)with
 |true=>
   try simp only [bRpK]
   exact next _ _ (by simp (disch:=decide) only [bRpK,q0]) (by simp (disch:=decide) only [bRpK,q1]) (by simp (disch:=decide) only [bRpK,q20]) (by simp (disch:=decide) only [bRpK,q21]) (fun h=>by rw [kcase,hb]at h;simp at h) (keeps (by rw [kcase,hb];rfl)) d4
 |false=>
 try simp only [bRpK,ct]
 refine (nw (p:=⟨(cx:Int),(cy:Int),false⟩) (go4.gs (G:=G)) st (hfp _)).mono ?_
 rintro _ h4 ⟨rfl,rfl⟩
 rw [fcong]
 cases hf1:dg w k f ⟨(cx:Int),(cy:Int),false⟩with
 |true=>
   try simp only [bRpK]
   exact next _ _ (by simp (disch:=decide) only [bRpK,q0]) (by simp (disch:=decide) only [bRpK,q1]) (by simp (disch:=decide) only [bRpK,q20]) (by simp (disch:=decide) only [bRpK,q21]) (fun h=>by rw [kcase,hb,hf1]at h;simp at h) (keeps (by rw [kcase,hb,hf1];rfl)) d4
 |false=>
 try simp only [bRpK,ct,q0]
 refine (nw (p:=⟨(cx:Int),(cy:Int),true⟩) (go4.gs (G:=G)) st (hfp _)).mono ?_
 rintro _ h4 ⟨rfl,rfl⟩
 rw [fcong]
 cases hf2:dg w k f ⟨(cx:Int),(cy:Int),true⟩with
 |true=>
   try simp only [bRpK]
   exact next _ _ (by simp (disch:=decide) only [bRpK,q0]) (by simp (disch:=decide) only [bRpK,q1]) (by simp (disch:=decide) only [bRpK,q20]) (by simp (disch:=decide) only [bRpK,q21]) (fun h=>by rw [kcase,hb,hf1,hf2]at h;simp at h) (keeps (by rw [kcase,hb,hf1,hf2];rfl)) d4
 |false=>
 have hkf:vc w k f cx cy=false:=by rw [kcase,hb,hf1,hf2];rfl
 try simp only [bRpK]
 unfold D6
 try simp (disch:=decide) only [bRpK,q0,cg4,Mq hlt',kn4]
 by_cases hpos:f cx cy>0
 . try simp only [bRpK,decide_eq_true hpos]
   exact H2 ⟨cx,cy,hx,hy,hkf,hpos⟩ _ _ (by simp only [bRpK]) d4
 try simp only [bRpK,decide_eq_false hpos]
 unfold D5
 try simp (disch:=decide) only [bRpK,q0,cg4,Mq hlt']
 have kb4:=go4.row
 rw [dh sz3 rfl kb4 (by rw [icC.rows_length,er];simp [icC];exact hlt')]
 have go5:=go4.put (v := -2) hx hy
 rw [hnn]at go5
 refine next _ _ (by simp (disch:=decide) only [bRpK,q0]) (by simp (disch:=decide) only [bRpK,q1]) (by simp (disch:=decide) only [bRpK,q20]) (by simp (disch:=decide) only [bRpK,q21]) (fun _=>by omega) (go5.congr fun x y hx' hy'=>?_) (d4.set (d4 _ _ kb4))
 unfold fN
 by_cases e:y*w+x=n
 . obtain ⟨rfl,rfl⟩:=(hcell x y hx').1 e
   rw [if_pos ⟨rfl,rfl⟩,if_pos (by omega)]
   unfold f1
   rw [hkf]
   rfl
 . rw [if_neg (fun q=>e ((hcell x y hx').2 q))]
   by_cases e2:y*w+x<n
   . rw [if_pos e2,if_pos (by omega)]
   . rw [if_neg e2,if_neg (by omega)]
end Go.Proofs.YtfflipnhffknnaaGreatDoor
end

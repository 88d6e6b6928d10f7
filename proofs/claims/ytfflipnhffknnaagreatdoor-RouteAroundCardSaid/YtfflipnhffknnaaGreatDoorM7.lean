/- Texts of the proof, one behind the other. -/
import Derived.Test.YtfflipnhffknnaaGreatDoorM6
import Derived.Test.YtfflipnhffknnaaGreatDoorM4
import Derived.Test.YtfflipnhffknnaaGreatDoorH2
import Derived.Test.YtfflipnhffknnaaGreatDoorH3
import Derived.Test.YtfflipnhffknnaaGreatDoorRows
import Derived.Test.YtfflipnhffknnaaGreatDoorTie
import Derived.JoinedOf
import Derived.Handed
import Derived.LaidMore
import Derived.LaidHandle
import Derived.LaidLaws
import Derived.MakeChecks
set_option linter.unusedSimpArgs false
set_option linter.unusedVariables false
set_option maxRecDepth 100000
set_option linter.defProp false
section
namespace Go.Proofs.YtfflipnhffknnaaGreatDoor.Rv
open Go Go.HL Go.Proofs.Resv
def cj:=jq (jq (jq @Gs (jq @B2 @cf137)) (jq @cf138 (jq @cf139 @ac0))) (jq (jq @ab9 (jq @ab8 @ix114p)) (jq @ld3p (jq @ln114 @true_and)))
set_option maxHeartbeats 4000000 in
theorem Ol {G h a w:Hp} {R:List Hp} {tp b:Nat} {T:Tb} {r:Int} {v:Value} {l:List Want} (tb:Tab 188 a tp T) (sp:HL.Sep (a::w::R) h) (sv:Sees I6 G w v l) (g:ij T) (fw:Few T b) (hb:b+l.length≤50000):
   aj P_ G 92 #[.pointer (some ⟨tp,0,none⟩),.int .i64 r,v] h (fun u h'=>u = .int .i64 (jb T r l).1∧∃a',Tab 188 a' tp (jb T r l).2∧HL.Sep (a'::w::R) h'∧Dis G h'):=by
 obtain ⟨sa,cap,rfl⟩:=sv.len
 refine aj.assume fun d=>enter92 (by simp) ?_
 unfold S92
 simp only [bC,cj]
 refine bf (fun hr=>?_) (fun hr=>?_)
 · try simp (disch:=first|decide|omega) only [bC,cj,Nat.reduceAdd,Nat.reduceMul]
   have e:jb T r l=(1,T):=by unfold jb;rw [if_pos hr]
   rw [e]
   exact ⟨rfl,a,tb,sp,d⟩
 unfold an7
 generalize hKK:retK P_ G _ _=KK
 -- are they ticks?
 refine b8 (fun m q h3=>∃i:Nat,m=l.length-i∧i≤l.length∧q 0 = .pointer (some ⟨tp,0,none⟩)∧q 1 = .int .i64 r∧q 2 = .slice sa l.length cap∧q 7 = .int .i64 i∧HL.Sep (a::w::R) h3∧Dis G h3∧(l.take i).all (li T.length)=true) ?_
   (m:=l.length) ⟨0,rfl,Nat.zero_le _,by simp (disch:=decide) only [bC,cj],by simp (disch:=decide) only [bC,cj],by simp (disch:=decide) only [bC,cj],by simp only [bC,cj]<;>rfl,sp,d,rfl⟩
 rintro m q h3 ⟨i,rfl,hi,q0,q1,q2,q7,s3,d3,hv⟩ X HX
 unfold U1
 simp only [bC,cj,q2,q7]
 refine bf (fun hlt=>?_) (fun hge=>?_)
 · obtain ⟨x,hx⟩:∃x,l[i]?=some x:=⟨_,List.getElem?_eq_getElem (by omega)⟩
   obtain ⟨bb,of,rfl,z0,z1,z2⟩:=Sees.want (sv.up (s3.in 1 rfl) d3) hx
   unfold D9
   simp (disch:=first|decide|omega) only [bC,cj,q0,q2,q7,Jt (Int.natCast_nonneg i) hlt,z0,z1,z2]
   refine (Q3 (c:=x.c) (tb.see (s3.in 0 rfl))).mono ?_
   rintro _ h3 ⟨rfl,rfl⟩
   have bad:∀r1:Rg,r1 6 = .int .i64 1→li T.length x=false→KK .ret r1 h3:=fun r1 h6 hf=>by
     rw [← hKK]
     have e:jb T r l=(1,T):=by unfold jb;rw [if_neg hr,if_neg (by rw [Eu hx hf];decide)]
     simp only [bC,cj,h6,e]
     exact ⟨a,tb,s3,d3⟩
   have go:∀(K0:Exit→Rg→Hp→Prop) (r1:Rg),(∀k,k≤7→r1 k=q k)→li T.length x=true→ww G (bo X K0) r1 h3:=fun K0 r1 hk ht=>by
     unfold ww
     simp (disch:=first|decide|omega) only [bC,cj,hk 7 (by decide),q7]
     exact HX (l.length-(i+1)) _ _ (by omega) ⟨i+1,rfl,by omega,by simp (disch:=decide) only [bC,cj,hk 0 (by decide),q0],by simp (disch:=decide) only [bC,cj,hk 1 (by decide),q1],by simp (disch:=decide) only [bC,cj,hk 2 (by decide),q2],by simp only [bC,cj]<;>rfl,s3,d3,by rw [B5 hx,hv,ht];rfl⟩
   cases e1:inT T.length x.c with
   |false=>
     try simp only [bC,cj,dw]
     exact bad _ (by simp only [bC,cj]) (by unfold li;rw [e1];rfl)
   |true=>
   try simp (disch:=first|decide|omega) only [bC,cj,q2,q7,Jt (Int.natCast_nonneg i) hlt,z0,z1,z2]
   by_cases e2:x.f<0
   · try simp only [bC,cj,decide_eq_true e2,dw]
     exact bad _ (by simp only [bC,cj]) (by unfold li;rw [decide_eq_false (show ¬0≤x.f by omega)];simp)
   try simp (disch:=first|decide|omega) only [bC,cj,decide_eq_false e2,q2,q7,Jt (Int.natCast_nonneg i) hlt,z0,z1,z2]
   by_cases e3:x.f≥x.t
   · try simp only [bC,cj,decide_eq_true e3,dw]
     exact bad _ (by simp only [bC,cj]) (by unfold li;rw [decide_eq_false (show ¬x.f<x.t by omega)];simp)
   try simp (disch:=first|decide|omega) only [bC,cj,decide_eq_false e3,q2,q7,Jt (Int.natCast_nonneg i) hlt,z0,z1,z2]
   refine bf (fun e4=>?_) (fun e4=>?_)
   · exact bad _ (by simp only [bC,cj]) (by unfold li;rw [decide_eq_false (show ¬x.t≤FV by simp only [FV];omega)];simp)
   · exact go _ _ (fun k hk=>by simp (disch:=omega) only [ao]) (pf.2 ⟨rn.1 e1,by omega,by omega,by simp only [FV];omega⟩)
 -- are they free?
 obtain rfl:i=l.length:=by omega
 rw [List.take_of_length_le (Nat.le_refl _)]at hv
 clear HX
 try simp (disch:=first|decide|omega) only [bC,cj,Nat.reduceAdd,Nat.reduceMul]
 unfold an6
 refine b8 (fun m q' h3=>∃i:Nat,m=l.length-i∧i≤l.length∧q' 0 = .pointer (some ⟨tp,0,none⟩)∧q' 1 = .int .i64 r∧q' 2 = .slice sa l.length cap∧q' 8 = .int .i64 i∧HL.Sep (a::w::R) h3∧Dis G h3∧(l.take i).all (qa T r)=true) ?_
   (m:=l.length) ⟨0,rfl,Nat.zero_le _,by simp (disch:=decide) only [bC,cj,q0],by simp (disch:=decide) only [bC,cj,q1],by simp (disch:=decide) only [bC,cj,q2],by simp only [bC,cj]<;>rfl,s3,d3,rfl⟩
 clear q0 q1 q2 q7 s3 d3
 clear q h3
 rintro m q h3 ⟨i,rfl,hi,q0,q1,q2,q8,s3,d3,hf⟩ X HX
 unfold an2
 simp only [bC,cj,q2,q8]
 refine bf (fun hlt=>?_) (fun hge=>?_)
 · obtain ⟨x,hx⟩:∃x,l[i]?=some x:=⟨_,List.getElem?_eq_getElem (by omega)⟩
   obtain ⟨bb,of,rfl,z0,z1,z2⟩:=Sees.want (sv.up (s3.in 1 rfl) d3) hx
   obtain ⟨⟨c0,c1⟩,f0,f1,f2⟩:=pf.1 (List.all_eq_true.1 hv x (List.mem_of_getElem? hx))
   unfold Kc
   simp (disch:=first|decide|omega) only [bC,cj,q0,q1,q2,q8,Jt (Int.natCast_nonneg i) hlt,z0,z1,z2]
   refine (Zp (r:=r) (f:=x.f) (t:=x.t) (tb.see (s3.in 0 rfl)) c0 (mj c0 c1) (by have:=sj fw x.c;omega)).mono ?_
   rintro _ h3 ⟨rfl,rfl⟩
   cases e1:lg (rowT T x.c) r x.f x.t with
   |false=>
     try simp only [bC,cj]
     rw [← hKK]
     have e:jb T r l=(18,T):=by unfold jb;rw [if_neg hr,if_pos hv,if_neg (by rw [Eu hx (by unfold qa;exact e1)];decide)]
     simp only [bC,cj,e]
     exact ⟨a,tb,s3,d3⟩
   |true=>
     try simp only [bC,cj]
     unfold G4
     simp (disch:=first|decide|omega) only [bC,cj,q8]
     exact HX (l.length-(i+1)) _ _ (by omega) ⟨i+1,rfl,by omega,by simp (disch:=decide) only [bC,cj,q0],by simp (disch:=decide) only [bC,cj,q1],by simp (disch:=decide) only [bC,cj,q2],by simp only [bC,cj]<;>rfl,s3,d3,by rw [B5 hx,hf];unfold qa;rw [e1];rfl⟩
 -- they are put
 obtain rfl:i=l.length:=by omega
 rw [List.take_of_length_le (Nat.le_refl _)]at hf
 clear HX
 try simp (disch:=first|decide|omega) only [bC,cj,Nat.reduceAdd,Nat.reduceMul]
 unfold an5
 refine b8 (fun m q' h3=>∃(i:Nat) (a':Hp),m=l.length-i∧i≤l.length∧q' 0 = .pointer (some ⟨tp,0,none⟩)∧q' 1 = .int .i64 r∧q' 2 = .slice sa l.length cap∧q' 9 = .int .i64 i∧Tab 188 a' tp (rk r T (l.take i))∧HL.Sep (a'::w::R) h3∧Dis G h3) ?_
   (m:=l.length) ⟨0,a,rfl,Nat.zero_le _,by simp (disch:=decide) only [bC,cj,q0],by simp (disch:=decide) only [bC,cj,q1],by simp (disch:=decide) only [bC,cj,q2],by simp only [bC,cj]<;>rfl,tb,s3,d3⟩
 clear q0 q1 q2 q8 s3 d3
 clear q h3
 rintro m q h3 ⟨i,a3,rfl,hi,q0,q1,q2,q9,t3,s3,d3⟩ X HX
 unfold an3
 simp only [bC,cj,q2,q9]
 refine bf (fun hlt=>?_) (fun hge=>?_)
 · obtain ⟨x,hx⟩:∃x,l[i]?=some x:=⟨_,List.getElem?_eq_getElem (by omega)⟩
   obtain ⟨bb,of,rfl,z0,z1,z2⟩:=Sees.want (sv.up (s3.in 1 rfl) d3) hx
   obtain ⟨⟨c0,c1⟩,f0,f1,f2⟩:=pf.1 (List.all_eq_true.1 hv x (List.mem_of_getElem? hx))
   have sub:∀u∈l.take i,u∈l:=fun u hu=>List.mem_of_mem_take hu
   obtain ⟨g3,fw3,l3,k3⟩:=Fo (by omega:0≤r) (l:=l.take i) g fw (List.all_eq_true.2 fun u hu=>List.all_eq_true.1 hv u (sub u hu)) (List.all_eq_true.2 fun u hu=>List.all_eq_true.1 hf u (sub u hu))
   unfold Ke
   simp (disch:=first|decide|omega) only [bC,cj,q0,q1,q2,q9,Jt (Int.natCast_nonneg i) hlt,z0,z1,z2]
   have hlen:(rowT (rk r T (l.take i)) x.c).length≤50000:=by
     have h5:=sj fw3 x.c
     rw [List.length_take]at h5
     omega
   refine (Wx (r:=r) t3 s3 c0 (mj c0 (by rw [l3];exact c1)) (qk g3 x.c) hlen f0 f1 f2).mono ?_
   rintro _ h5 ⟨rfl,a5,t5,s5,d5⟩
   unfold Kd
   simp (disch:=first|decide|omega) only [bC,cj,q9]
   refine HX (l.length-(i+1)) _ _ (by omega) ⟨i+1,a5,rfl,by omega,by simp (disch:=decide) only [bC,cj,q0],by simp (disch:=decide) only [bC,cj,q1],by simp (disch:=decide) only [bC,cj,q2],by simp only [bC,cj]<;>rfl,?_,s5,d5⟩
   rw [Jc hx]
   exact t5
 obtain rfl:i=l.length:=by omega
 rw [List.take_of_length_le (Nat.le_refl _)]at t3
 try simp (disch:=first|decide|omega) only [bC,cj,Nat.reduceAdd,Nat.reduceMul]
 unfold an4
 have e:jb T r l=(0,rk r T l):=by unfold jb;rw [if_neg hr,if_pos hv,if_pos hf]
 rw [← hKK]
 simp only [bC,cj,e]
 exact ⟨a3,t3,s3,d3⟩
end Go.Proofs.YtfflipnhffknnaaGreatDoor.Rv
end

section
namespace Go.Proofs.YtfflipnhffknnaaGreatDoor
open Go Go.HL Go.Proofs.Resv Go.Proofs.Srch
def i8:=jq (jq (jq (jq @al97 @Qq) (jq @Sk (jq @bne_self_eq_false.{0} @Ya))) (jq (jq @al9 (jq @cf24 @cf25)) (jq @cf50 (jq @cf91 @cf92)))) (jq (jq (jq @Uo (jq @Aa @C5)) (jq @fa97_0 (jq @fa97_1 @fa97_2))) (jq (jq @fa97_3 (jq @ld3 @ld97)) (jq @ln77 (jq @W2 @st97w))))
structure Hold where
 r:Int
 c:Int
 f:Int
 t:Int
def Ju:Cod Hold:=⟨4,fun s=>[.int .i64 s.r,.int .i64 s.c,.int .i64 s.f,.int .i64 s.t],fun _=>rfl,fun _ v hv=>by simp at hv;rcases hv with rfl|rfl|rfl|rfl<;>rfl⟩
def Qx (x:Hold):Prop:=Bd x.r∧Bd x.c∧Bd x.f∧Bd x.t

def wg (n:Nat) (T:Tb) (x:Hold):Tb:=(jb T (x.r % 5) [⟨x.c % (n:Int),x.f,x.t⟩]).2
def tabL (n:Nat) (l:List Hold):Tb:=(l.take 40).foldl (wg n) (List.replicate n [])

theorem zz {n:Nat}:∀(l:List Hold) (T:Tb) (b:Nat),ij T→Few T b→ij (l.foldl (wg n) T)∧Few (l.foldl (wg n) T) (b+l.length)∧(l.foldl (wg n) T).length=T.length
 |[],T,b,g,f=>⟨g,f,rfl⟩
 |x::l,T,b,g,f=>by
   obtain ⟨g1,f1,l1⟩:=X5 (r:=x.r % 5) (l:=[⟨x.c % (n:Int),x.f,x.t⟩]) g f
   obtain ⟨g2,f2,l2⟩:=zz l (wg n T x) (b+1) g1 f1
   rw [List.foldl_cons]
   refine ⟨g2,fun L hL=>?_,l2.trans l1⟩
   have:=f2 L hL
   rw [List.length_cons]
   omega
theorem tab_ok (n:Nat) (l:List Hold):ij (tabL n l)∧Few (tabL n l) 100∧(tabL n l).length=n:=by
 obtain ⟨g,f,e⟩:=zz (n:=n) (l.take 40) (List.replicate n []) 0 qw (fun L hL=>by rw [List.eq_of_mem_replicate hL];exact Nat.le_refl _)
 refine ⟨g,fun L hL=>?_,e.trans (List.length_replicate ..)⟩
 have:=f L hL
 rw [List.length_take]at this
 omega
theorem N2 {n:Nat} {l:List Hold} {i:Nat} {x:Hold} (hx:l[i]?=some x):(l.take (i+1)).foldl (wg n) (List.replicate n [])=wg n ((l.take i).foldl (wg n) (List.replicate n [])) x:=by
 rw [List.take_add_one,hx,List.foldl_append]
 rfl

theorem Sees.hold {G h:Hp} {sa:Option Addr} {cap n:Nat} {L:List Hold} (s:Sees Ju G h (.slice sa n cap) L) {i:Nat} {x:Hold} (hx:L[i]?=some x):
   ∃b o,sa=some ⟨b,o,none⟩∧aa G h ⟨b,o+i*4,none⟩=some (.int .i64 x.r)∧aa G h ⟨b,o+i*4+1,none⟩=some (.int .i64 x.c)∧aa G h ⟨b,o+i*4+2,none⟩=some (.int .i64 x.f)∧aa G h ⟨b,o+i*4+3,none⟩=some (.int .i64 x.t):=by
 obtain ⟨s',c',e,_,hc|⟨b,o,rfl,hc⟩⟩:=s
 · rw [hc]at hx;cases hx
 · cases e
   exact ⟨b,o,rfl,hc i x hx 0 (by decide),hc i x hx 1 (by decide),hc i x hx 2 (by decide),hc i x hx 3 (by decide)⟩

abbrev holdO (x:Hold):Obj := .cells #[.int .i64 x.r,.int .i64 x.c,.int .i64 x.f,.int .i64 x.t] 97 (0,0)
theorem Ff {G:Hp} {xb:Nat} {w:Want} {ty:TypeId}:Sees Rv.I6 G (noHp.set xb (.cells #[.int .i64 w.c,.int .i64 w.f,.int .i64 w.t] ty (0,0))) (.slice (some ⟨xb,0,none⟩) 1 1) [w]:=by
 have o:Slc Rv.I6 ty (noHp.set xb (.cells #[.int .i64 w.c,.int .i64 w.f,.int .i64 w.t] ty (0,0))) (.slice (some ⟨xb,0,none⟩) 1 1) [w]:=⟨some xb,1,[],rfl,by rw [af];rfl,rfl⟩
 exact o.see (by decide) (Hp.le.refl _)

set_option maxHeartbeats 8000000 in
theorem N1 {G h:Hp} {v lv:Value} {C:Conf} {l:List Hold} (hv:CV G h v C) (sm:SmO C) (hl:xj Ju G lv l) (hb:∀x∈l,Qx x):
   aj P_ G 42 #[v,lv] h (fun u h'=>∃a1 a2 t1 t2,u = .tuple #[.pointer (some ⟨t1,0,none⟩),.pointer (some ⟨t2,0,none⟩),.bool true]∧
     Rv.Tab 124 a1 t1 (tabL (C.w*C.h).toNat l)∧Rv.Tab 188 a2 t2 (tabL (C.w*C.h).toNat l)∧HL.Sep [a1,a2,h] h'∧Dis G h'):=by
 obtain ⟨ab,cb,ap,cp,ar,cr,az,cs,rfl,ca⟩:=hv
 obtain ⟨n1,n2,n3,n4⟩:=Oa sm
 refine aj.assume fun d=>enter42 (by simp) ?_
 unfold S42
 simp (disch:=first|decide|omega) only [bC,i8]
 intro xc hxc gxc
 have s0:=(HL.Sep.one (h:=h)).past (o := .cells #[.int .i64 C.w,.int .i64 C.h,.int .i64 C.ht,.slice ab C.bl.length cb,.slice ap C.po.length cp,.slice ar C.ro.length cr,.slice az C.st.length cs,.int .i64 C.un,.int .i64 C.ac,.int .i64 C.sp,.int .i64 C.tu,.int .i64 C.ho,.int .i64 C.qu,.int .i64 C.re,.int .i64 C.bu,.bool C.back] 26 (0,0)) hxc
 generalize e1:Hp.set h xc _=h1 at*
 obtain ⟨l1,d1,bc1⟩:=boxed e1 hxc d gxc
 have cc:∀{h':Hp},h1.le h'→∀k,aa G h' ⟨xc,k,none⟩=_:=fun l k=>ai (ag (l _ _ bc1))
 try simp (disch:=first|decide|omega) only [bC,i8,Nat.reduceAdd,Nat.reduceMul,cc (Hp.le.refl _)]
 first|rw [n3]|rw [← n4]
 generalize hn:(C.w*C.h).toNat=n at*
 refine (Rv.qr (n:=n) (by omega) (by omega)).mono ?_
 rintro _ h2 ⟨a1,t1,rfl,tab1,s2,d2⟩
 try simp (disch:=first|decide|omega) only [bC,i8,cc (s2.in 1 rfl)]
 first|rw [n3]|rw [← n4]
 refine (Rv.Wz (n:=n) (by omega) (by omega)).mono ?_
 rintro _ h3 ⟨a2,t2,rfl,tab2,s3,d3⟩
 try simp (disch:=first|decide|omega) only [bC,i8,Nat.reduceAdd,Nat.reduceMul]
 have s4:HL.Sep [a1,a2,h1] h3:=(HL.Sep.open (L:=[a1,h1]) (R:=[a2]) s3.swap s2).sel [0,2,1] (by decide) rfl
 unfold aq5
 generalize hKK:retK P_ G _ _=KK
 obtain ⟨la,lc,rfl,_⟩:=(hl h d).len
 refine b8 (fun m p h'=>∃(i:Nat) (a1 a2:Hp),m=40-i∧i≤40∧i≤l.length∧p 1 = .slice la l.length lc∧p 2 = .pointer (some ⟨xc,0,none⟩)∧p 7 = .pointer (some ⟨t1,0,none⟩)∧p 9 = .pointer (some ⟨t2,0,none⟩)∧p 10 = .int .i64 i∧
   Rv.Tab 124 a1 t1 ((l.take i).foldl (wg n) (List.replicate n []))∧Rv.Tab 188 a2 t2 ((l.take i).foldl (wg n) (List.replicate n []))∧HL.Sep [a1,a2,h1] h'∧Dis G h') ?_ (m:=40)
   ⟨0,a1,a2,rfl,by omega,by omega,by simp (disch:=decide) only [bC,i8],by simp (disch:=decide) only [bC,i8],by simp (disch:=decide) only [bC,i8],by simp (disch:=decide) only [bC,i8],by simp only [bC,i8];rfl,tab1,tab2,s4,d3⟩
 clear tab1 tab2 s4 d3 s3 d2 s2
 rintro m p h4 ⟨i,a1,a2,rfl,hi,hil,g1,g2,g7,g9,g10,tab1,tab2,s,d4⟩ X hX
 obtain ⟨gT,fT,lT⟩:=zz (n:=n) (l.take i) (List.replicate n []) 0 qw (fun L hL=>by rw [List.eq_of_mem_replicate hL];exact Nat.le_refl _)
 rw [List.length_replicate]at lT
 generalize hT:(l.take i).foldl (wg n) (List.replicate n [])=T at*
 have fin:¬(i<l.length∧i<40)→T=tabL n l:=fun hh=>by
   rw [← hT]
   unfold tabL
   by_cases h40:i=40
   · rw [h40]
   · have:i=l.length:=by omega
     rw [this,List.take_length,List.take_of_length_le (by omega)]
 unfold aq4
 simp only [bC,i8,g10,g1]
 have go:¬(i<l.length∧i<40)→∀r':Rg,r' 7 = .pointer (some ⟨t1,0,none⟩)→r' 9 = .pointer (some ⟨t2,0,none⟩)→bk 0 (bo (S2 G KK) KK) (.exit 0) r' h4:=fun hh r' e7 e9=>by
   try simp only [bC,i8]
   unfold S2
   rw [← hKK]
   try simp (disch:=decide) only [bC,i8,e7,e9]
   have s5:=((s.sel (L':=[h1,a1,a2]) [2,0,1] (by decide) rfl).cut l1).sel (L':=[a1,a2,h]) [1,2,0] (by decide) rfl
   refine ⟨a1,a2,t1,t2,rfl,?_,?_,s5,d4⟩
   · rw [← fin hh];exact tab1
   · rw [← fin hh];exact tab2
 by_cases q1:(i:Int)<l.length
 rotate_left
 · try simp only [bC,i8,jg q1,dw]
   exact go (by omega) _ (by simp (disch:=decide) only [bC,i8,g7]) (by simp (disch:=decide) only [bC,i8,g9])
 by_cases q2:(i:Int)<40
 rotate_left
 · try simp only [bC,i8,jk q1,jg q2]
   exact go (by omega) _ (by simp (disch:=decide) only [bC,i8,g7]) (by simp (disch:=decide) only [bC,i8,g9])
 try simp only [bC,i8,jk q1,jk q2]
 obtain ⟨y,hy⟩:∃y,l[i]?=some y:=⟨_,List.getElem?_eq_getElem (by omega)⟩
 have hyb:=hb y (List.mem_of_getElem? hy)
 obtain ⟨b,o,rfl,c0,c1,c2,c3⟩:=Sees.hold (hl h4 d4) hy
 unfold Kx
 simp -implicitDefEqProofs (maxSteps:=2000000) (disch:=first|decide|with_reducible exact Nat.ne_of_beq_eq_false rfl|exact au|exact am|omega|rfl|(simp;done)|fail) only [bC,i8,g1,g10,ix77 (Int.natCast_nonneg i) q1,c0,c1,c2,c3]
 intro x hx gx
 try simp (disch:=first|decide|omega) only [bC,i8,Nat.reduceAdd,Nat.reduceMul]
 generalize e5:Hp.set h4 x _=h5 at*
 obtain ⟨l5,d5,bx5⟩:=boxed e5 hx d4 gx
 have s5:=s.past (o:=holdO y) hx
 rw [e5]at s5
 have cx5:∀k,aa G h5 ⟨x,k,none⟩=_:=fun k=>ai (ag bx5)
 try simp (disch:=first|decide|omega) only [bC,i8,Nat.reduceAdd,Nat.reduceMul,cx5]
 refine (ua (a:=y.r) (n:=5) hyb.1 (by decide) (by decide)).mono ?_
 rintro _ h5 ⟨rfl,rfl⟩
 have yr0:=Int.emod_nonneg y.r (by decide:(5:Int)≠0)
 try simp (disch:=first|decide|omega) only [bC,i8,Nat.reduceAdd,Nat.reduceMul]
 rw [bv sz3 rfl bx5 (by simp)]
 try simp only [bC,i8]
 rw [← e5,set_set]
 generalize e6:Hp.set h4 x _=h6
 obtain ⟨l6,d6,bx6⟩:=boxed e6 hx d4 gx
 have s6:=s.past (o := .cells #[.int .i64 (y.r % 5),.int .i64 y.c,.int .i64 y.f,.int .i64 y.t] 97 (0,0)) hx
 rw [show h4.set x (.cells #[.int .i64 (y.r % 5),.int .i64 y.c,.int .i64 y.f,.int .i64 y.t] 97 (0,0))=h6 from e6]at s6
 have cx6:∀k,aa G h6 ⟨x,k,none⟩=_:=fun k=>ai (ag bx6)
 try simp (disch:=first|decide|omega) only [bC,i8,cx6,g2,cc (s6.in 2 rfl)]
 first|rw [n3]|rw [← n4]
 refine (ua (a:=y.c) (n:=(n:Int)) hyb.2.1 (by omega) (by omega)).mono ?_
 rintro _ h6 ⟨rfl,rfl⟩
 try simp (disch:=first|decide|omega) only [bC,i8,Nat.reduceAdd,Nat.reduceMul]
 rw [bv sz3 rfl bx6 (by simp)]
 try simp only [bC,i8]
 rw [← e6,set_set]
 generalize e7:Hp.set h4 x _=h7
 obtain ⟨l7,d7,bx7⟩:=boxed e7 hx d4 gx
 have s7:=s.new (o := .cells #[.int .i64 (y.r % 5),.int .i64 (y.c % (n:Int)),.int .i64 y.f,.int .i64 y.t] 97 (0,0)) hx
 rw [show h4.set x (.cells #[.int .i64 (y.r % 5),.int .i64 (y.c % (n:Int)),.int .i64 y.f,.int .i64 y.t] 97 (0,0))=h7 from e7]at s7
 intro w hw gw
 have s8:=(s7.new (o := .cells #[.int .i64 (y.c % (n:Int)),.int .i64 y.f,.int .i64 y.t] 75 (0,0)) hw)
 have d8:=d7.set (o := .cells #[.int .i64 (y.c % (n:Int)),.int .i64 y.f,.int .i64 y.t] 75 (0,0)) gw
 generalize Hp.set h7 w _=h8 at s8 d8 ⊢
 rw [g7]
 refine (Rv.Sd (r:=y.r % 5) (l:=[⟨y.c % (n:Int),y.f,y.t⟩]) tab1 (s8.sel [2,0,1,3,4] (by decide) rfl) (Ff (w:=⟨y.c % (n:Int),y.f,y.t⟩)) gT fT (by simp;omega)).mono ?_
 rintro _ h9 ⟨rfl,a1',tab1',s9,d9⟩
 have cx9:∀k,aa G h9 ⟨x,k,none⟩=_:=fun k=>ai (ag (s9.at 2 rfl af))
 try simp only [bC,i8,cx9]
 intro w2 hw2 gw2
 have s10:=(s9.new (o := .cells #[.int .i64 (y.c % (n:Int)),.int .i64 y.f,.int .i64 y.t] 186 (0,0)) hw2)
 have d10:=d9.set (o := .cells #[.int .i64 (y.c % (n:Int)),.int .i64 y.f,.int .i64 y.t] 186 (0,0)) gw2
 generalize Hp.set h9 w2 _=h10 at s10 d10 ⊢
 rw [g9]
 refine (Rv.Ol (r:=y.r % 5) (l:=[⟨y.c % (n:Int),y.f,y.t⟩]) tab2 (s10.sel [4,0,1,5] (by decide) rfl) (Ff (w:=⟨y.c % (n:Int),y.f,y.t⟩)) gT fT (by simp;omega)).mono ?_
 rintro _ h11 ⟨rfl,a2',tab2',s11,d11⟩
 try simp only [bC,i8]
 unfold Kw
 try simp (disch:=first|decide|omega) only [bC,i8,g10]
 refine hX (40-(i+1)) _ _ (by omega) ⟨i+1,a1',a2',rfl,by omega,by omega,by simp (disch:=decide) only [bC,i8,g1],by simp (disch:=decide) only [bC,i8,g2],by simp (disch:=decide) only [bC,i8,g7],by simp (disch:=decide) only [bC,i8,g9],by simp only [bC,i8];rfl,?_,?_,s11.sel [2,0,3] (by decide) rfl,d11⟩
 · rw [N2 hy,hT];exact tab1'
 · rw [N2 hy,hT];exact tab2'
def gn:=jq (jq (jq (jq @Yd @jw) (jq @qf (jq @bne_self_eq_false.{0} @cf21))) (jq (jq @cf23 @cf24) (jq @cf25 (jq @cf27 @cf28)))) (jq (jq (jq @cf42 @ex2) (jq @Aa (jq @C5 @R4))) (jq (jq @ld26 @O9) (jq @ld3 (jq @za @ln40))))
theorem sub1 {n:Nat} (h:0<n):((n:Int)-1)=((n-1:Nat):Int):=by omega

set_option maxHeartbeats 2000000 in
theorem Ym {G h:Hp} {M1 M2:List Move} {s1 s2:Option Addr} {c1 c2:Nat} {t:Int} (v1:Sees jv G h (.slice s1 M1.length c1) M1) (v2:Sees jv G h (.slice s2 M2.length c2) M2) (b1:M1.length≤110000) (b2:M2.length≤110000) (hle:wt t M2≤wt t M1)
   (aw:∀{h:Hp} {K:VK},(∀h',K (.bool true) h')→aj P_ G 23 #[] h K) (r:Rg) (g16:r 16 = .slice s1 M1.length c1) (g18:r 18 = .slice s2 M2.length c2) (g3:r 3 = .int .i64 t) {K:EK} (H:∀r' h',r' 10 = .bool true→K .ret r' h'):S7 G K r h:=by
 have k5:∀r:Rg,r 20 = .int .i64 (wt t M1)→r 21 = .int .i64 (wt t M2)→Ni G K r h:=fun r e20 e21=>by
   unfold Ni
   simp only [bC,gn,e20,e21,jk hle]
   refine aw fun h'=>?_
   try simp (disch:=first|decide|omega) only [bC,gn,Nat.reduceAdd,Nat.reduceMul]
   exact H _ _ (by simp only [bC,gn])
 have k4:∀r:Rg,r 20 = .int .i64 (wt t M1)→r 21 = .int .i64 t→r 18 = .slice s2 M2.length c2→Nj G K r h:=fun r e20 e21 e18=>by
   unfold Nj
   simp (disch:=first|decide|omega) only [bC,gn,e18]
   by_cases hM:M2=[]
   · have e0:¬((M2.length:Int)>0):=by rw [hM];simp
     rw [jg e0]
     try simp only [bC,gn]
     exact k5 _ (by simp (disch:=decide) only [bC,gn,e20]) (by simp (disch:=decide) only [bC,gn,e21];rw [hM];rfl)
   · have hl:=List.length_pos_iff.2 hM
     obtain ⟨b,o,rfl,x⟩:=Qa v2 t hM
     rw [jk (show (M2.length:Int)>0 by omega)]
     try simp only [bC,gn,e18,sub1 hl,ix40 (Int.natCast_nonneg (M2.length-1)) (show ((M2.length-1:Nat):Int)<M2.length by omega),x]
     exact k5 _ (by simp (disch:=decide) only [bC,gn,e20]) (by simp only [bC,gn])
 unfold S7
 simp (disch:=first|decide|omega) only [bC,gn,g16]
 by_cases hM:M1=[]
 · have e0:¬((M1.length:Int)>0):=by rw [hM];simp
   rw [jg e0]
   try simp only [bC,gn]
   exact k4 _ (by simp (disch:=decide) only [bC,gn,g3];rw [hM];rfl) (by simp (disch:=decide) only [bC,gn,g3]) (by simp (disch:=decide) only [bC,gn,g18])
 · have hl:=List.length_pos_iff.2 hM
   obtain ⟨b,o,rfl,x⟩:=Qa v1 t hM
   rw [jk (show (M1.length:Int)>0 by omega)]
   try simp only [bC,gn,g16,sub1 hl,ix40 (Int.natCast_nonneg (M1.length-1)) (show ((M1.length-1:Nat):Int)<M1.length by omega),x]
   exact k4 _ (by simp only [bC,gn]) (by simp (disch:=decide) only [bC,gn,g3]) (by simp (disch:=decide) only [bC,gn,g18])

set_option maxHeartbeats 8000000 in
theorem Qt {G:Hp} {v:Value} {C:Conf} {p g:Pose} {a0:Int} {lv:Value} {l:List Hold} (pp:PB p) (pg:PB g) (ba:Bd a0) (hl:xj Ju G lv l) (hlb:∀x∈l,Qx x) (st:jn G) (hv:CV G noHp v C) (fit:Fit0 C) (hro:∀p∈C.ro,PB p):
   aj P_ G 15 #[v,lv,ld p,.int .i64 a0,ld g] noHp (fun u _=>u = .bool true):=by
 have hv0:=hv
 obtain ⟨ab,cb,ap,cp,ar,cr,az,cs,rfl,ca⟩:=hv
 refine aj.assume fun d=>enter15 (by simp) ?_
 unfold S15
 simp only [bC,gn]
 intro xc hxc gxc x1 hx1 gx1 x2 hx2 gx2
 generalize e1:Hp.set noHp xc _=h1 at*
 obtain ⟨l1,d1,q1⟩:=boxed e1 hxc d gxc
 generalize e2:Hp.set h1 x1 _=h2 at*
 obtain ⟨l2,d2,q2⟩:=boxed e2 hx1 d1 gx1
 generalize e3:Hp.set h2 x2 _=hz at*
 obtain ⟨l3,dz,q3⟩:=boxed e3 hx2 d2 gx2
 have L:=l1.trans (l2.trans (l3))
 have bc:=l3 _ _ (l2 _ _ (q1))
 have b1:=l3 _ _ (q2)
 have b2:=q3
 have cc:∀{h':Hp},hz.le h'→∀k,aa G h' ⟨xc,k,none⟩=_:=fun l k=>ai (ag (l _ _ bc))
 have c1:∀{h':Hp},hz.le h'→∀k,aa G h' ⟨x1,k,none⟩=_:=fun l k=>ai (ag (l _ _ b1))
 have c2:∀{h':Hp},hz.le h'→∀k,aa G h' ⟨x2,k,none⟩=_:=fun l k=>ai (ag (l _ _ b2))
 have ca0:=ca.up L dz
 have lz:=Hp.le.refl hz
 have aw:∀{h:Hp} {K:VK},(∀h',K (.bool true) h')→aj P_ G 23 #[] h K:=fun hK=>(awake12 st).mono fun u h' e=>by rw [e.1];exact hK h'
 try simp only [bC,gn,cc lz]
 refine (small12 ca0.cv).mono ?_
 rintro _ hz ⟨⟨b,rfl,hb⟩,rfl⟩
 cases b with
 |false=>
   try simp only [bC,gn,dw]
   exact aw fun h'=>by simp only [bC,gn]
 |true=>
 have sm:=hb rfl
 have mk:dr C:=Fv.2 sm.may
 obtain ⟨n1,n2,n3,n4⟩:=Oa sm
 try simp only [bC,gn]
 unfold as4
 try simp (disch:=decide) only [bC,gn]
 refine (ua (a:=a0) (n:=1048576) ba (by decide) (by decide)).mono ?_
 rintro _ hz ⟨rfl,rfl⟩
 have at_0:=Int.emod_nonneg a0 (by decide:(1048576:Int)≠0)
 have at_1:=Int.emod_lt_of_pos a0 (by decide:(0:Int)<1048576)
 generalize a0 % 1048576=at_ at at_0 at_1 ⊢
 try simp (disch:=decide) only [bC,gn,cc lz]
 refine (N1 ca0.cv sm hl hlb).mono ?_
 rintro _ h4 ⟨a1,a2,t1,t2,rfl,tab1,tab2,s4,d4⟩
 have l4:=s4.in 2 rfl
 obtain ⟨gT,fT,lT⟩:=tab_ok (C.w*C.h).toNat l
 have tvT:∀{h':Hp},h4.le h'→Dis G h'→TabV G h' (.pointer (some ⟨t1,0,none⟩)) (some (tabL (C.w*C.h).toNat l)):=fun l d=>⟨t1,rfl,(tab1.see (s4.in 0 rfl)).up l d,gT,fT⟩
 try simp (disch:=first|decide|exact au|exact am|omega|rfl) only [bC,gn,cc l4]
 first|rw [n3]|rw [← n4]
 generalize hn:(C.w*C.h).toNat=n at*
 refine (Rv.qr (n:=n) (by omega) (by omega)).mono ?_
 rintro _ t5 ⟨ta5,tp5,rfl,tab5,st5,dt5⟩
 have lt5:=st5.in 1 rfl
 have tv5:∀{h':Hp},t5.le h'→Dis G h'→TabV G h' (.pointer (some ⟨tp5,0,none⟩)) (some (List.replicate n [])):=fun l d=>⟨tp5,rfl,(tab5.see (st5.in 0 rfl)).up l d,qw,Py⟩
 try simp (disch:=first|decide|omega) only [bC,gn]
 unfold as3
 have l5:hz.le t5:=l4.trans lt5
 try simp -implicitDefEqProofs (maxSteps:=2000000) (disch:=first|decide|with_reducible exact Nat.ne_of_beq_eq_false rfl|exact au|exact am|omega|rfl|(simp;done)|fail) only [bC,gn,cc l5]
 refine (zd (ca0.up l5 dt5).cv fit).mono ?_
 rintro u6 k6 ⟨⟨_,_,_,_,_,_,_,_,co6⟩,dk6⟩
 have lk6:t5.le k6:=co6.sep.in 4 rfl
 refine ⟨lk6,?_⟩
 try simp only [bC,gn,c1 l5,c2 l5]
 refine (J2 (To:=some (tabL n l)) (p:=p) (gp:=g) (rb:=4) (t:=at_) (any:=true) mk (co6.cv (Hp.le.refl _)) st hro fit sm.bu (tvT (lt5.trans lk6) dk6) pp pg).mono ?_
 rintro _ m6 ⟨ip6,vs6,rfl,sl6,ll6,sm6,dm6⟩
 have lm6:t5.le m6:=lk6.trans (sm6.in 1 rfl)
 have la6:hz.le m6:=l5.trans lm6
 try simp only [bC,gn,cc la6]
 refine (zd (ca0.up la6 dm6).cv fit).mono ?_
 rintro u7 k7 ⟨⟨_,_,_,_,_,_,_,_,co7⟩,dk7⟩
 have lk7:m6.le k7:=co7.sep.in 4 rfl
 refine ⟨lk7,?_⟩
 try simp only [bC,gn,c1 la6,c2 la6]
 refine (J2 (To:=some (List.replicate n [])) (p:=p) (gp:=g) (rb:=4) (t:=at_) (any:=true) mk (co7.cv (Hp.le.refl _)) st hro fit sm.bu (tv5 (lm6.trans lk7) dk7) pp pg).mono ?_
 rintro _ m7 ⟨ip7,vs7,rfl,sl7,ll7,sm7,dm7⟩
 have lm7:m6.le m7:=lk7.trans (sm7.in 1 rfl)
 have seeA:Sees jv G m7 vs6 _:=sl6.sees (by decide) ((sm6.in 0 rfl).trans lm7)
 have seeB:Sees jv G m7 vs7 _:=sl7.sees (by decide) (sm7.in 0 rfl)
 cases hA:nc C (some (tabL n l)) 4 p at_ g true with
 |no e=>
   have he:(e != 0)=true:=by
     rcases Px mk gT hA with rfl|rfl|rfl|rfl<;>rfl
   try simp only [bC,gn,show outE (Res.no (M:=Move) e)=e from rfl,he,dw]
   exact aw fun h'=>by simp only [bC,gn]
 |ok M1=>
   rw [hA]at seeA ll6
   rcases Md mk gT n4 lT hA with hB|⟨M2,hB,hle⟩
   · rw [hB]
     try simp only [bC,gn,show outE (Res.ok M1)=0 from rfl,show outE (Res.no (M:=Move) 7)=7 from rfl,show ((0:Int) != 0)=false from rfl,show ((7:Int) != 0)=true from rfl,show ((7:Int)==7)=true from rfl]
     exact aw fun h'=>by simp only [bC,gn]
   · rw [hB]at seeB ll7 ⊢
     obtain ⟨sA,cA,rfl⟩:=seeA.len
     obtain ⟨sB,cB,rfl⟩:=seeB.len
     try simp only [bC,gn,show outE (Res.ok M1)=0 from rfl,show outE (Res.ok M2)=0 from rfl,show ((0:Int) != 0)=false from rfl]
     exact Ym (t:=at_) (M1:=M1) (M2:=M2) seeA seeB ll6 ll7 hle aw _ (by simp (disch:=decide) only [bC,gn];rfl) (by simp (disch:=decide) only [bC,gn];rfl) (by simp (disch:=decide) only [bC,gn]) fun r' h' e=>by simp only [bC,gn,e]
end Go.Proofs.YtfflipnhffknnaaGreatDoor
end

section
namespace Go.Proofs.YtfflipnhffknnaaGreatDoor
open Go Go.HL Go.ChangeShapes Go.WideShapes Go.RowKit
theorem Ze:ownKnob P_.godebug=none:=by kernel_rfl
theorem Zz:laidOutB P_=true:=by kernel_rfl
theorem Z8:P_.globalNamed "skep/grid.steps" = some 0:=by kernel_rfl
theorem tSteps:(P_.globals[0]?).map (·.type)=some 245:=by kernel_rfl

abbrev Jq:List (String × DataW Unit):=[("skep/grid.steps",Rows.laid_skep_grid_steps)]

theorem al1 (os:Os) (args:Array Value):laidMetH P_ Jq ((World.doorLaid P_ 400 os).forCall (fun _ _=>0) ⟨#[],args,[]⟩).memory:=
 laidMetH_of_parts3 (fuel:=8) (laidMet_of_run' 8 (by kernel_rfl) (by kernel_rfl)) (by kernel_rfl) (by kernel_rfl)

theorem Qd {H:Type} {enc:TypeId × Value→H} {P:Program} {w:World} {base:Nat} {spare:Nat→Bool} {held:Bool} {e:TypeId} {fuel:Nat} {cs:List Value} {y:DataW H × List MemPlace} {tos:List (TypeId × Nat)} (ht:fm P e=some tos)
   (h:DataW.trod enc P w base spare held fuel e cs=some y):cs.length=P.cellsOf e∧∃(xs:List (DataW H × List MemPlace)) (m:Nat),y=(.agg (xs.map (·.1)),xs.flatMap (·.2))∧xs.length=tos.length∧∀(i:Nat) (t o:Nat),tos[i]?=some (t,o)→DataW.trod enc P w base spare held m t ((cs.drop o).take (P.cellsOf t))=xs[i]?:=by
 unfold fm at ht
 split at ht
 · rename_i fs hfs
   obtain ⟨xs,n,_,h0,h1,h2,h3⟩:=DataW.trod_struct hfs h
   simp only [Option.some.injEq]at ht
   subst ht
   refine ⟨h1,xs,n,h0,by simp [h2],fun i t o hi=>?_⟩
   rw [List.getElem?_map,Array.getElem?_toList]at hi
   cases q:fs[i]? with
   |none=>rw [q]at hi;cases hi
   |some f=>
     rw [q]at hi
     simp only [Option.map_some,Option.some.injEq,Prod.mk.injEq]at hi
     obtain ⟨rfl,rfl⟩:=hi
     exact h3 i f q
 · cases ht

theorem un3i:P_.underlying 3=some (.int .i64):=by kernel_rfl
theorem c3:P_.cellsOf 3=1:=by kernel_rfl
theorem c28:P_.cellsOf 28=2:=by kernel_rfl
theorem c81:P_.cellsOf 245=8:=by kernel_rfl
theorem sf28:fm P_ 28=some [(3,0),(3,1)]:=by kernel_rfl

theorem Aw {H:Type} {enc:TypeId × Value→H} {w:World} {base:Nat} {spare:Nat→Bool} {held:Bool} {m:Nat} {cs:List Value} {x:DataW H × List MemPlace} {a b:Int}
   (h:DataW.trod enc P_ w base spare held m 28 cs=some x) (e:x.1 = .agg [.lit (.int .i64 a),.lit (.int .i64 b)]):cs=[.int .i64 a,.int .i64 b]:=by
 obtain ⟨hl,xs,n,rfl,hxl,d⟩:=Qd sf28 h
 rw [c28]at hl
 match cs,hl,xs,hxl with
 |[v0,v1],_,[x0,x1],_=>
 have h0:=d 0 3 0 rfl
 have h1:=d 1 3 1 rfl
 rw [c3]at h0 h1
 obtain ⟨k0,e0,f0,_⟩:=DataW.trod_int un3i (show DataW.trod _ _ _ _ _ _ n 3 _=some x0 from h0)
 obtain ⟨k1,e1,f1,_⟩:=DataW.trod_int un3i (show DataW.trod _ _ _ _ _ _ n 3 _=some x1 from h1)
 simp at e0 e1
 subst e0 e1 f0 f1
 simp at e
 obtain ⟨rfl,rfl⟩:=e
 rfl

theorem len8 {α:Type} {L:List α} (h:L.length=8):∃a b c d e f g i,L=[a,b,c,d,e,f,g,i]:=by
 match L,h with
 |[a,b,c,d,e,f,g,i],_=>exact ⟨a,b,c,d,e,f,g,i,rfl⟩

theorem of_laid {W:World} (h:laidMetH P_ Jq W):jn (ground W):=by
 rw [MakeChecks.laidMetH_plain _ _ _ (by kernel_rfl)]at h
 obtain ⟨ps,⟨g0,t0,cs0,f0,p0,q0,hg0,ht0,hv0,hd0,_,_⟩,_,_⟩:=h
 obtain rfl:=Option.some.inj (Z8.symm.trans hg0)
 obtain rfl:=Option.some.inj (tSteps.symm.trans ht0)
 obtain ⟨xs,m,rfl,hx,hl,hxl,hel⟩:=DataW.trod_array un81 hd0
 rw [c81]at hl
 rw [c28]at hel
 simp only [Prod.mk.injEq]at hx
 obtain ⟨hx,_⟩:=hx
 have hobj:∃e f,W.heap[0]?=some (.cells cs0 e f):=by
   unfold World.var? at hv0
   rw [Z8]at hv0
   simp only [Option.bind_some]at hv0
   split at hv0
   · rename_i c e f hc
     cases hv0
     exact ⟨e,f,hc⟩
   · cases hv0
 obtain ⟨e,f,hobj⟩:=hobj
 refine ⟨e,f,?_⟩
 show W.heap[0]?=_
 rw [hobj]
 match xs,hxl with
 |[x0,x1,x2,x3],_=>
 have h0:=hel 0 (by decide)
 have h1:=hel 1 (by decide)
 have h2:=hel 2 (by decide)
 have h3:=hel 3 (by decide)
 unfold Rows.laid_skep_grid_steps at hx
 simp only [List.map_cons,List.map_nil,DataW.agg.injEq,List.cons.injEq]at hx
 have k0:=Aw (show DataW.trod _ _ _ _ _ _ m 28 _=some x0 from h0) hx.1.symm
 have k1:=Aw (show DataW.trod _ _ _ _ _ _ m 28 _=some x1 from h1) hx.2.1.symm
 have k2:=Aw (show DataW.trod _ _ _ _ _ _ m 28 _=some x2 from h2) hx.2.2.1.symm
 have k3:=Aw (show DataW.trod _ _ _ _ _ _ m 28 _=some x3 from h3) hx.2.2.2.1.symm
 obtain ⟨cs⟩:=cs0
 obtain ⟨a0,a1,a2,a3,a4,a5,a6,a7,rfl⟩:=len8 hl
 simp at k0 k1 k2 k3
 obtain ⟨rfl,rfl⟩:=k0
 obtain ⟨rfl,rfl⟩:=k1
 obtain ⟨rfl,rfl⟩:=k2
 obtain ⟨rfl,rfl⟩:=k3
 rfl
section
theorem wb {H:Type} {P:Program} {ts:List TypeId} {ds:List (DataW H)} (h:(DataW.weightsEach P ts ds).all (· ≤ reachBytes)=true) {j:Nat} {t:TypeId} {d:DataW H} (ht:ts[j]?=some t) (hd:ds[j]?=some d):py P t d:=fun n hn=>by
 simpa using List.all_eq_true.1 h n (DataW.weights_mem_each ht hd n hn)

theorem vu {P:Program} {w:World} {r:Reach} {base:Nat} {t:TypeId} {v:Value} {tos:List (TypeId × Nat)} (ht:fm P t=some tos) (hv:Value.okWide P w r base t v):∃cs:Array Value,v = .agg cs:=by
 unfold fm at ht
 split at ht
 · rename_i fs hfs
   obtain ⟨cs,rfl,_⟩:=okWide_struct hfs hv
   exact ⟨cs,rfl⟩
 · cases ht

theorem sf30:fm P_ 30=some [(28,0),(4,2)]:=by kernel_rfl
theorem sf95:fm P_ 234=some [(28,0),(168,2)]:=by kernel_rfl
theorem sf26:fm P_ 26=some [(3,0),(3,1),(3,2),(22,3),(22,4),(23,5),(24,6),(3,7),(3,8),(3,9),(3,10),(3,11),(3,12),(3,13),(3,14),(4,15)]:=by kernel_rfl
theorem un4b:P_.underlying 4=some .bool:=by kernel_rfl
theorem c4:P_.cellsOf 4=1:=by kernel_rfl
theorem c22:P_.cellsOf 22=1:=by kernel_rfl
theorem c23:P_.cellsOf 23=1:=by kernel_rfl
theorem c24:P_.cellsOf 24=1:=by kernel_rfl
theorem c26:P_.cellsOf 26=16:=by kernel_rfl
theorem c30:P_.cellsOf 30=3:=by kernel_rfl
theorem c57:P_.cellsOf 168=1:=by kernel_rfl
theorem c95:P_.cellsOf 234=3:=by kernel_rfl

section
variable {H:Type} {enc:TypeId × Value→H} {w:World} {base:Nat} {spare:Nat→Bool} {held:Bool}

theorem len2 {α:Type} {L:List α} (h:L.length=2):∃a b,L=[a,b]:=by
 match L,h with
 |[a,b],_=>exact ⟨a,b,rfl⟩
theorem len3 {α:Type} {L:List α} (h:L.length=3):∃a b c,L=[a,b,c]:=by
 match L,h with
 |[a,b,c],_=>exact ⟨a,b,c,rfl⟩

theorem Bv {m:Nat} {cs:List Value} {y:DataW H × List MemPlace} (h:DataW.trod enc P_ w base spare held m 28 cs=some y):∃c:Cell,cs=df.enc c∧Bd c.1∧Bd c.2:=by
 obtain ⟨hl,d⟩:=Ab sf28 h
 rw [c28]at hl
 obtain ⟨v0,v1,rfl⟩:=len2 hl
 obtain ⟨m0,z0,e0⟩:=d 0 _ _ rfl
 obtain ⟨m1,z1,e1⟩:=d 1 _ _ rfl
 rw [c3]at e0 e1
 obtain ⟨x0,f0,b0⟩:=jr un3i e0
 obtain ⟨x1,f1,b1⟩:=jr un3i e1
 simp at f0 f1
 subst f0 f1
 exact ⟨(x0,x1),rfl,b0,b1⟩
theorem Ou {m:Nat} {cs:List Value} {y:DataW H × List MemPlace} (h:DataW.trod enc P_ w base spare held m 30 cs=some y):∃p:Pose,cs=vn.enc p∧PB p:=by
 obtain ⟨hl,d⟩:=Ab sf30 h
 rw [c30]at hl
 obtain ⟨v0,v1,v2,rfl⟩:=len3 hl
 obtain ⟨m0,z0,e0⟩:=d 0 _ _ rfl
 obtain ⟨m1,z1,e1⟩:=d 1 _ _ rfl
 rw [c28]at e0
 rw [c4]at e1
 obtain ⟨c,f0,b0⟩:=Bv e0
 obtain ⟨b,f1⟩:=Qe un4b e1
 simp [df]at f0 f1
 obtain ⟨rfl,rfl⟩:=f0
 subst f1
 exact ⟨⟨c.1,c.2,b⟩,rfl,b0⟩

def RawOk (G:Hp) (r:Raw):Prop:=∃L:List Int,r.n=L.length∧Room L.length 8∧∀h,Dis G h→Sees icC G h (.slice r.a r.n r.c) L

theorem Az {n bytes:Nat} (h:n*bytes≤reachBytes) (hb:bytes≤40):Room n bytes:=by
 unfold Room
 rw [show reachBytes=140737488351232 from rfl]at h
 rw [Nat.add_mul,Nat.mul_assoc]
 have:192*bytes≤7680:=by omega
 omega

theorem raw_dec {m:Nat} {cs:List Value} {y:DataW H × List MemPlace} (h:DataW.trod enc P_ w base spare held m 234 cs=some y) (hw:py P_ 234 y.1):∃r:Raw,cs=rawC.enc r∧RawOk (ground w) r:=by
 obtain ⟨hl,d⟩:=D0 sf95 h hw
 rw [c95]at hl
 obtain ⟨v0,v1,v2,rfl⟩:=len3 hl
 obtain ⟨m0,z0,e0,_⟩:=d 0 _ _ rfl
 obtain ⟨m1,z1,e1,w1⟩:=d 1 _ _ rfl
 rw [c28]at e0
 rw [c57]at e1
 obtain ⟨c,f0,b0⟩:=Bv e0
 obtain ⟨a,n,cap,L,f1,hL,hs,hg,_⟩:=qz icC (fun _=>True) E2 c3 (by decide) (fun _ _ _ h _=>let ⟨x,e,_⟩:=jr un3i h;⟨x,e,trivial⟩) e1 w1
 simp [df]at f0 f1
 obtain ⟨rfl,rfl⟩:=f0
 subst f1
 rw [show P_.bytesOf 3=8 by kernel_rfl]at hs
 subst hL
 exact ⟨⟨c.1,c.2,a,L.length,cap⟩,rfl,L,rfl,Az hs (by decide),hg⟩

theorem len16 {α:Type} {L:List α} (h:L.length=16):∃a b c d e f g i j k l m n o p q,L=[a,b,c,d,e,f,g,i,j,k,l,m,n,o,p,q]:=by
 match L,h with
 |[a,b,c,d,e,f,g,i,j,k,l,m,n,o,p,q],_=>exact ⟨a,b,c,d,e,f,g,i,j,k,l,m,n,o,p,q,rfl⟩

theorem al6 {m:Nat} {cs:List Value} {y:DataW H × List MemPlace} (h:DataW.trod enc P_ w base spare held m 26 cs=some y) (hw:py P_ 26 y.1):
   ∃C:Conf,(∀h,Dis (ground w) h→CV (ground w) h (.agg cs.toArray) C)∧Fit0 C∧∀p∈C.ro,PB p:=by
 obtain ⟨hl,d⟩:=D0 sf26 h hw
 rw [c26]at hl
 obtain ⟨v0,v1,v2,v3,v4,v5,v6,v7,v8,v9,v10,v11,v12,v13,v14,v15,rfl⟩:=len16 hl
 obtain ⟨_,_,e0,_⟩:=d 0 _ _ rfl
 obtain ⟨_,_,e1,_⟩:=d 1 _ _ rfl
 obtain ⟨_,_,e2,_⟩:=d 2 _ _ rfl
 obtain ⟨_,_,e3,w3⟩:=d 3 _ _ rfl
 obtain ⟨_,_,e4,w4⟩:=d 4 _ _ rfl
 obtain ⟨_,_,e5,w5⟩:=d 5 _ _ rfl
 obtain ⟨_,_,e6,w6⟩:=d 6 _ _ rfl
 obtain ⟨_,_,e7,_⟩:=d 7 _ _ rfl
 obtain ⟨_,_,e8,_⟩:=d 8 _ _ rfl
 obtain ⟨_,_,e9,_⟩:=d 9 _ _ rfl
 obtain ⟨_,_,e10,_⟩:=d 10 _ _ rfl
 obtain ⟨_,_,e11,_⟩:=d 11 _ _ rfl
 obtain ⟨_,_,e12,_⟩:=d 12 _ _ rfl
 obtain ⟨_,_,e13,_⟩:=d 13 _ _ rfl
 obtain ⟨_,_,e14,_⟩:=d 14 _ _ rfl
 obtain ⟨_,_,e15,_⟩:=d 15 _ _ rfl
 simp only [c3,c4,c22,c23,c24]at e0 e1 e2 e3 e4 e5 e6 e7 e8 e9 e10 e11 e12 e13 e14 e15
 obtain ⟨x0,f0,_⟩:=jr un3i e0
 obtain ⟨x1,f1,_⟩:=jr un3i e1
 obtain ⟨x2,f2,_⟩:=jr un3i e2
 obtain ⟨ab,nb,cb,B,f3,hB,sB,gB,_⟩:=qz df (fun _=>True) un22 c28 (by decide) (fun _ _ _ h _=>let ⟨x,e,_⟩:=Bv h;⟨x,e,trivial⟩) e3 w3
 obtain ⟨ap,np,cp,PO,f4,hP,sP,gP,_⟩:=qz df (fun _=>True) un22 c28 (by decide) (fun _ _ _ h _=>let ⟨x,e,_⟩:=Bv h;⟨x,e,trivial⟩) e4 w4
 obtain ⟨ar,nr,cr,R,f5,hR,sR,gR,qR⟩:=qz vn PB un23 c30 (by decide) (fun _ _ _ h _=>Ou h) e5 w5
 obtain ⟨az,nz,cz,Z,f6,hZ,sZ,gZ,qZ⟩:=qz rawC (RawOk (ground w)) un24 c95 (by decide) (fun _ _ _ h hw=>raw_dec h hw) e6 w6
 obtain ⟨x7,f7,_⟩:=jr un3i e7
 obtain ⟨x8,f8,_⟩:=jr un3i e8
 obtain ⟨x9,f9,_⟩:=jr un3i e9
 obtain ⟨x10,f10,_⟩:=jr un3i e10
 obtain ⟨x11,f11,_⟩:=jr un3i e11
 obtain ⟨x12,f12,_⟩:=jr un3i e12
 obtain ⟨x13,f13,_⟩:=jr un3i e13
 obtain ⟨x14,f14,_⟩:=jr un3i e14
 obtain ⟨x15,f15⟩:=Qe un4b e15
 simp at f0 f1 f2 f3 f4 f5 f6 f7 f8 f9 f10 f11 f12 f13 f14 f15
 subst f0 f1 f2 f3 f4 f5 f6 f7 f8 f9 f10 f11 f12 f13 f14 f15
 subst hB hP hR hZ
 rw [show P_.bytesOf 28=16 by kernel_rfl]at sB sP
 rw [show P_.bytesOf 30=24 by kernel_rfl]at sR
 rw [show P_.bytesOf 234=40 by kernel_rfl]at sZ
 obtain ⟨S,hS,qS⟩:=Eo (Q:=fun i (s:Cell × List Int)=>∀r,Z[i]?=some r→(r.x,r.y)=s.1∧r.n=s.2.length∧Room s.2.length 8∧∀h,Dis (ground w) h→Sees icC (ground w) h (.slice r.a s.2.length r.c) s.2) Z.length (fun i hi=>by
   obtain ⟨L,e,rm,se⟩:=qZ _ (List.getElem_mem hi)
   refine ⟨((Z[i].x,Z[i].y),L),fun r hr=>?_⟩
   rw [List.getElem?_eq_getElem hi]at hr
   cases hr
   exact ⟨rfl,e,rm,fun h d=>by rw [← e];exact se h d⟩)
 refine ⟨⟨x0,x1,x2,B,PO,R,S,x7,x8,x9,x10,x11,x12,x13,x14,x15⟩,fun h d=>⟨ab,cb,ap,cp,ar,cr,az,cz,by simp only [Qg,hS],gB h d,gP h d,gR h d,Z,by show Sees rawC _ h (.slice az S.length cz) Z;rw [hS];exact gZ h d,fun i r s hr hs=>?_⟩,⟨Az sB (by decide),Az sP (by decide),Az sR (by decide),by show Room S.length 40;rw [hS];exact Az sZ (by decide),fun s hs=>?_⟩,qR⟩
 · obtain ⟨a,b,c,e⟩:=qS i s hs r hr
   exact ⟨a,b,e h d⟩
 · obtain ⟨i,hi⟩:=List.getElem?_of_mem hs
   have hi2:i<Z.length:=by rw [← hS];exact (List.getElem?_eq_some_iff.1 hi).1
   exact (qS i s hi _ (List.getElem?_eq_getElem hi2)).2.2.1

theorem Ov {r:Reach} {b0:Nat} {v:Value} {d:DataW H} {ps:List MemPlace} (k:Value.okWide P_ w r b0 30 v) (h:DataW.Trod enc P_ w base spare held 30 v d ps):∃p:Pose,v=ld p∧PB p:=by
 obtain ⟨cs,rfl⟩:=vu sf30 k
 obtain ⟨m,h⟩:=h
 obtain ⟨c,e,b⟩:=Ou (cs:=cs.toList) h
 exact ⟨c,by rw [← Array.toArray_toList (xs:=cs),e];rfl,b⟩
theorem int_arg {r:Reach} {b0:Nat} {v:Value} {d:DataW H} {ps:List MemPlace} (k:Value.okWide P_ w r b0 3 v) (h:DataW.Trod enc P_ w base spare held 3 v d ps):∃n:Int,v = .int .i64 n∧Bd n:=by
 obtain ⟨n,rfl,rfl,rfl,wf⟩:=open_int un3i k h
 exact ⟨n,rfl,by simpa [Lit.wf,IntKind.min,IntKind.max,IntKind.signed,IntKind.bits,Bd]using wf⟩
theorem al7 {r:Reach} {b0:Nat} {v:Value} {d:DataW H} {ps:List MemPlace} (k:Value.okWide P_ w r b0 26 v) (h:DataW.Trod enc P_ w base spare held 26 v d ps) (hl:py P_ 26 d):
   ∃C:Conf,(∀h,Dis (ground w) h→CV (ground w) h v C)∧Fit0 C∧∀p∈C.ro,PB p:=by
 obtain ⟨cs,rfl⟩:=vu sf26 k
 obtain ⟨m,h⟩:=h
 obtain ⟨C,hC,f,hp⟩:=al6 (cs:=cs.toList) h hl
 exact ⟨C,fun h d=>by simpa using hC h d,f,hp⟩
end
end
end Go.Proofs.YtfflipnhffknnaaGreatDoor
end

section
namespace Go.Proofs.YtfflipnhffknnaaGreatDoor
open Go Go.HL Go.ChangeShapes Go.WideShapes Go.RowKit Go.Proofs.Resv
section
theorem chold:P_.cellsOf 97=4:=by kernel_rfl
theorem sfhold:fm P_ 97=some [(3,0),(3,1),(3,2),(3,3)]:=by kernel_rfl

section
variable {H:Type} {enc:TypeId × Value→H} {w:World} {base:Nat} {spare:Nat→Bool} {held:Bool}
theorem lenh4 {α:Type} {L:List α} (h:L.length=4):∃a b c d,L=[a,b,c,d]:=by
 match L,h with
 |[a,b,c,d],_=>exact ⟨a,b,c,d,rfl⟩

theorem Z3 {m:Nat} {cs:List Value} {y:DataW H × List MemPlace} (h:DataW.trod enc P_ w base spare held m 97 cs=some y):∃x:Hold,cs=Ju.enc x∧Qx x:=by
 obtain ⟨hl,d⟩:=Ab sfhold h
 rw [chold]at hl
 obtain ⟨v0,v1,v2,v3,rfl⟩:=lenh4 hl
 obtain ⟨m0,z0,e0⟩:=d 0 _ _ rfl
 obtain ⟨m1,z1,e1⟩:=d 1 _ _ rfl
 obtain ⟨m2,z2,e2⟩:=d 2 _ _ rfl
 obtain ⟨m3,z3,e3⟩:=d 3 _ _ rfl
 rw [c3]at e0 e1 e2 e3
 obtain ⟨x0,f0,b0⟩:=jr un3i e0
 obtain ⟨x1,f1,b1⟩:=jr un3i e1
 obtain ⟨x2,f2,b2⟩:=jr un3i e2
 obtain ⟨x3,f3,b3⟩:=jr un3i e3
 simp at f0 f1 f2 f3
 subst f0 f1 f2 f3
 exact ⟨⟨x0,x1,x2,x3⟩,rfl,b0,b1,b2,b3⟩

theorem Xn {r:Reach} {b0:Nat} {v:Value} {d:DataW H} {ps:List MemPlace} (k:Value.okWide P_ w r b0 77 v) (h:DataW.Trod enc P_ w base spare held 77 v d ps):∃l:List Hold,xj Ju (ground w) v l∧∀x∈l,Qx x:=by
 obtain ⟨a,len,cap,rfl⟩:=okWide_slice un77 k
 obtain ⟨m,h⟩:=h
 obtain ⟨a',len',cap',L,e,hl,_,hg,hq⟩:=X0 Ju Qx un77 chold (by decide) (fun _ _ _ h=>Z3 h) h
 simp [Value.cells]at e
 obtain ⟨rfl,rfl,rfl⟩:=e
 exact ⟨L,hg,hq⟩
end
end
end Go.Proofs.YtfflipnhffknnaaGreatDoor
end

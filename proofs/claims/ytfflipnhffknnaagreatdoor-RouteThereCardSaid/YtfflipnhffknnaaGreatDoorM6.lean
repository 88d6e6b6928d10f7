/- Texts of the proof, one behind the other. -/
import Derived.Test.YtfflipnhffknnaaGreatDoorM4
import Derived.Test.YtfflipnhffknnaaGreatDoorM1
import Derived.Test.YtfflipnhffknnaaGreatDoorM5
import Derived.Test.YtfflipnhffknnaaGreatDoorH2
import Derived.Test.YtfflipnhffknnaaGreatDoorH3
import Derived.Test.YtfflipnhffknnaaGreatDoorRows
import Derived.Test.YtfflipnhffknnaaGreatDoorTie
import Derived.JoinedOf
import Derived.Handed
import Derived.LaidMore
import Derived.LaidHandle
import Derived.LaidLaws
import Derived.MakeChecks
set_option linter.unusedVariables false
set_option linter.unusedSimpArgs false
set_option linter.unusedSectionVars false
set_option maxRecDepth 100000
set_option maxHeartbeats 8000000
set_option linter.defProp false
section
namespace Go.Proofs.Srch
open Go.Proofs.Resv
section
variable {P M:Type} [DecidableEq P] {E:Env P M}

structure Flat (E:Env P M) (D:Int):Prop where
 sp:∀p,E.ok p→E.spans p=[(0,FV)]
 wy:∀p,E.ok p→∀w∈E.ways p,w.2.2.2=[(0,FV)]∧1≤w.2.2.1∧w.2.2.1≤D∧E.ok w.2.1

theorem tt {t:Int} (h0:0≤t) (h1:t<FV):inside [((0:Int),FV)] t=some 0:=by
 unfold inside insB
 rw [List.findIdx?_cons]
 simp [h0,h1]

theorem T9 {a d:Int} (h0:0≤a) (hd:0≤d) (h:a+d<FV):sumI a d=a+d:=by
 unfold sumI cutI FV at*
 rw [if_neg (by omega)]
 omega
theorem sum_ge2 {a d:Int} (h0:0≤a) (hd:0≤d) (h:sumI a d<FV):sumI a d=a+d:=by
 unfold sumI cutI FV at*
 split at h
 · omega
 · rw [if_neg (by assumption)];omega

section
variable {by_:Int} {shM:M→M}

def Low (E:Env P M) (B:Int) (S:List (St P M)):Prop:=∀x∈S,x.s=(0,FV)∧E.ok x.p∧0≤x.a∧x.a≤B

theorem Low.up {B B':Int} {S:List (St P M)} (l:Low E B S) (h:B≤B'):Low E B' S:=fun x hx=>let ⟨a,b,c,d⟩:=l x hx;⟨a,b,c,Int.le_trans d h⟩

end

inductive Rch (E:Env P M) (p0:P):P→Int→Prop where
 |start:Rch E p0 p0 0
 |step {p:P} {n:Int} {w:M × P × Int × List Sp} (h:Rch E p0 p n) (hw:w∈E.ways p):Rch E p0 w.2.1 (n+w.2.2.1)

theorem Rch.ok {D:Int} (fl:Flat E D) {p0 p:P} {n:Int} (h:Rch E p0 p n) (ho:E.ok p0):E.ok p∧0≤n:=by
 induction h with
 |start=>exact ⟨ho,Int.le_refl _⟩
 |step h hw ih=>obtain ⟨_,e2,_,e4⟩:=fl.wy _ ih.1 _ hw;exact ⟨e4,by omega⟩
theorem Rch.pre {p0 p1:P} {w:M × P × Int × List Sp} (hw:w∈E.ways p0) (e:w.2.1=p1):∀{p:P} {n:Int},Rch E p1 p n→Rch E p0 p (w.2.2.1+n)
 |_,_,.start=>by subst e;have:=Rch.step (.start (E:=E) (p0:=p0)) hw;rw [Int.zero_add]at this;rw [Int.add_zero];exact this
 |_,_,.step h hv=>by have:=Rch.step (Rch.pre hw e h) hv;rw [← Int.add_assoc];exact this
theorem Rch.rev {D:Int} (fl:Flat E D) (rev:∀p,E.ok p→∀w∈E.ways p,∃v∈E.ways w.2.1,v.2.1=p∧v.2.2.1=w.2.2.1) {p0 p:P} {n:Int} (h:Rch E p0 p n) (ho:E.ok p0):Rch E p p0 n:=by
 induction h with
 |start=>exact .start
 |step h hw ih=>
   obtain ⟨v,hv,e1,e2⟩:=rev _ (h.ok fl ho).1 _ hw
   have:=Rch.pre hv e1 ih
   rw [e2,Int.add_comm]at this
   exact this

theorem rch_rc {D:Int} (fl:Flat E D) {p0:P} {t0:Int} (ho:E.ok p0) (h0:0≤t0) {p:P} {n:Int} (h:Rch E p0 p n):t0+n<FV→Rc E p0 t0 p 0 (t0+n):=by
 induction h with
 |start=>intro hb;rw [Int.add_zero]at *;exact .start (by rw [fl.sp _ ho];exact tt h0 hb)
 |@step p n w h hw ih=>
   intro hb
   obtain ⟨ok1,n0⟩:=h.ok fl ho
   obtain ⟨e1,e2,e3,e4⟩:=fl.wy _ ok1 _ hw
   have r:=ih (by omega)
   have es:=T9 (show 0≤t0+n by omega) (show 0≤w.2.2.1 by omega) (show t0+n+w.2.2.1<FV by omega)
   have:=Rc.step (s0:=(0,FV)) (s:=(0,FV)) (b:=t0+n) (j:=0) r (by rw [fl.sp _ ok1];rfl) hw (by rw [e1];exact .head _) (Int.le_refl _) (Int.le_refl _) (Int.le_refl _) (by show 0≤t0+n;omega) (by rw [es];show _≤FV;omega) (by rw [es];omega) (by rw [es,fl.sp _ e4];exact tt (by omega) (by omega))
   rw [es,Int.add_assoc]at this
   exact this

inductive Wk (E:Env P M) (p0:P) (t0:Int):List M→P→Nat→Int→Prop where
 |nil {i:Nat} (h:inside (E.spans p0) t0=some i):Wk E p0 t0 [] p0 i t0
 |snoc {l:List M} {p:P} {i j:Nat} {a:Int} {s0 s:Sp} {w:M × P × Int × List Sp} (h:Wk E p0 t0 l p i a) (h0:(E.spans p)[i]?=some s0) (ha1:s0.1≤a) (ha2:a<s0.2) (hw:w∈E.ways p) (hs:s∈w.2.2.2) (h1:s0.1≤s.1) (h2:s.2≤s0.2)
     (he:sumI (max a s.1) w.2.2.1≤s.2) (he2:sumI (max a s.1) w.2.2.1<FV) (hj:inside (E.spans w.2.1) (sumI (max a s.1) w.2.2.1)=some j):Wk E p0 t0 (l++[E.stamp w.1 (max a s.1) (sumI (max a s.1) w.2.2.1)]) w.2.1 j (sumI (max a s.1) w.2.2.1)

theorem Oh {S:List (St P M)} {k:Nat} {l:List (Nat × St P M)} (c:zv S k l):∃x l',S[k]?=some x∧l=(k,x)::l':=by
 cases c with
 |start h hb=>exact ⟨_,_,h,rfl⟩
 |step h hb c=>exact ⟨_,_,h,rfl⟩

theorem Xz (r:uj E) {p0:P} {t0 lo:Int} {z:M} {S:List (St P M)} (v:Inv E p0 t0 z lo S) {k:Nat} {l:List (Nat × St P M)} (c:zv S k l):∀{x:St P M},S[k]?=some x→Wk E p0 t0 (jz l).reverse x.p x.i x.a:=by
 induction c with
 |@start k x h hb=>
   intro x' h'
   rw [h]at h';cases h'
   have hxm:=List.mem_of_getElem? h
   obtain ⟨a1,a2,a3⟩:=v.at_ x hxm
   rcases v.by_ x hxm with ⟨_,e1,e2,_⟩|⟨y,h0,_⟩
   · have hin:=Ah (r.ris x.p) a1 a2 a3
     rw [e1,e2]at hin ⊢
     exact .nil hin
   · omega
 |@step k j x l h hb c ih=>
   intro x' h'
   rw [h]at h';cases h'
   have hxm:=List.mem_of_getElem? h
   obtain ⟨a1,a2,a3⟩:=v.at_ x hxm
   rcases v.by_ x hxm with ⟨e,_⟩|⟨y,h0,hy,hd,hlt,w,hw,s,hs,l1,l2,l3,l4,l5,l6,l7⟩
   · omega
   · rw [show x.b.toNat=j by omega]at hy
     obtain ⟨b1,b2,b3⟩:=v.at_ y (List.mem_of_getElem? hy)
     have ih:=ih hy
     have hin:=Ah (r.ris x.p) a1 a2 a3
     have:=Wk.snoc ih b1 b2 b3 hw hs l1 l2 (by rw [← l4];exact l5) (by rw [← l4];exact l6) (j:=x.i) (by rw [← l4,← l3];exact hin)
     rw [← l4,← l3,← l7]at this
     have e:(jz ((k,x)::l)).reverse=(jz l).reverse++[x.mv]:=by
       obtain ⟨x1,l',_,rfl⟩:=Oh c
       show (x.mv::jz ((j,x1)::l')).reverse=_
       rw [List.reverse_cons]
     rw [e]
     exact this

theorem path_wk (r:uj E) {p0:P} {t0 lo:Int} {z:M} {S:List (St P M)} (v:Inv E p0 t0 z lo S) {k:Nat} {x:St P M} (hk:S[k]?=some x):Wk E p0 t0 (path S S.length k []) x.p x.i x.a:=by
 obtain ⟨l,c,hl⟩:=Hb v hk
 rw [Da c _ _ hl,List.append_nil]
 exact Xz r v c hk

theorem O8 (r:uj E) {p0:P} {t0:Int} {l:List M} {p:P} {i:Nat} {a:Int} (h:Wk E p0 t0 l p i a):Rc E p0 t0 p i a:=by
 induction h with
 |nil h=>exact .start h
 |snoc h h0 ha1 ha2 hw hs h1 h2 he he2 hj ih=>exact .step ih h0 hw hs h1 h2 (by omega) (by omega) he he2 hj
end
theorem wt {r:Int}:∀{L:List Slot} {a x y:Int},Resv.Good L→0≤a→a≤x→x<y→y≤FV→(∀s∈L,s.r≠r→y≤s.f∨s.t≤x)→∃g∈dc r L a,g.1≤x∧y≤g.2
 |[],a,x,y,_,h0,h1,h2,h3,_=>by
   unfold dc
   rw [if_pos (by omega)]
   exact ⟨_,.head _,h1,h3⟩
 |s::L,a,x,y,g,h0,h1,h2,h3,h=>by
   have ok:=g.ok s (.head _)
   obtain ⟨o1,o2,o3,o4⟩:=ok
   unfold dc
   by_cases hr:s.r=r
   · rw [if_pos hr]
     exact wt g.tail h0 h1 h2 h3 fun u hu=>h u (.tail _ hu)
   · rw [if_neg hr]
     rcases h s (.head _) hr with h4|h4
     · rw [if_pos (by omega)]
       exact ⟨_,.head _,h1,h4⟩
     · obtain ⟨u,hu,e⟩:=wt (r:=r) g.tail (a:=s.t) (by omega) h4 h2 h3 fun u hu=>h u (.tail _ hu)
       split
       · exact ⟨u,.tail _ hu,e⟩
       · exact ⟨u,hu,e⟩

theorem Vb {T:Tb} (g:jv T) {r n a b:Int} (hn:inT T.length n=true) (h0:0≤a) (h1:a<b) (h2:b≤FV) (hf:pl (rowT T n) r a b=true):∃u∈je T r n,u.1≤a∧b≤u.2:=by
 unfold je
 rw [if_pos hn]
 exact wt (Gg g n) (Int.le_refl _) h0 h1 h2 (Vh.1 hf)
theorem L5 {T:Tb} {r:Int}:∀(N:List Int) (l:List Sp) (s:Sp),s∈N.foldl (fun l n=>mz l (je T r n)) l→(∃u∈l,u.1≤s.1∧s.2≤u.2)∧∀n∈N,∃u∈je T r n,u.1≤s.1∧s.2≤u.2
 |[],l,s,h=>⟨⟨s,h,Int.le_refl _,Int.le_refl _⟩,fun _ h=>by cases h⟩
 |n::N,l,s,h=>by
   rw [List.foldl_cons]at h
   obtain ⟨⟨u,hu,h1,h2⟩,h3⟩:=L5 N _ s h
   obtain ⟨x,hx,y,hy,rfl,_⟩:=yo.1 hu
   simp only at h1 h2
   refine ⟨⟨x,hx,by omega,by omega⟩,fun m hm=>?_⟩
   rcases List.mem_cons.1 hm with rfl|hm
   · exact ⟨y,hy,by omega,by omega⟩
   · exact h3 m hm
theorem Ma {T:Tb} {r a b:Int} (hab:a<b):∀(N:List Int) (l:List Sp),(∃u∈l,u.1≤a∧b≤u.2)→(∀n∈N,∃u∈je T r n,u.1≤a∧b≤u.2)→∃s∈N.foldl (fun l n=>mz l (je T r n)) l,s.1≤a∧b≤s.2
 |[],l,h,_=>h
 |n::N,l,⟨u,hu,h1,h2⟩,h=>by
   obtain ⟨v,hv,h3,h4⟩:=h n (.head _)
   rw [List.foldl_cons]
   exact Ma hab N _ ⟨(max u.1 v.1,min u.2 v.2),yo.2 ⟨u,hu,v,hv,rfl,by omega⟩,by simp only;omega,by simp only;omega⟩ fun m hm=>h m (.tail _ hm)

theorem Ve {T:Tb} {r:Int} {N:List Int} {s:Sp} (h:s∈ib T r N):∀n∈N,∃u∈je T r n,u.1≤s.1∧s.2≤u.2:=(L5 N _ s h).2
theorem L0 {T:Tb} {r a b:Int} {N:List Int} (h0:0≤a) (h1:a<b) (h2:b≤FV) (h:∀n∈N,∃u∈je T r n,u.1≤a∧b≤u.2):∃s∈ib T r N,s.1≤a∧b≤s.2:=
 Ma h1 N _ ⟨_,.head _,h0,h2⟩ h

theorem Td {T:Tb} (g:jv T) {r:Int} {N N':List Int} (hN:∀n∈N',n∈N) {s:Sp} (h:s∈ib T r N):∃s'∈ib T r N',s'.1≤s.1∧s.2≤s'.2:=by
 obtain ⟨b1,b2,b3⟩:=(so g r N).bd s h
 exact L0 b1 b2 b3 fun n hn=>Ve h n (hN n hn)
theorem Na {T:Tb} (g:jv T) {r a b:Int} {N:List Int} (h0:0≤a) (h1:a<b) (h2:b≤FV) (h:∀n∈N,inT T.length n=true∧pl (rowT T n) r a b=true):∃s∈ib T r N,s.1≤a∧b≤s.2:=
 L0 h0 h1 h2 fun n hn=>Vb g (h n hn).1 h0 h1 h2 (h n hn).2

theorem G3 {k:Nat} {r:Int}:∀{N:List Int},(∀n∈N,inT k n=true)→ib (List.replicate k []) r N=[(0,FV)]:=by
 intro N hN
 have key:∀(N:List Int),(∀n∈N,inT k n=true)→N.foldl (fun l n=>mz l (je (List.replicate k []) r n)) [((0:Int),FV)]=[(0,FV)]:=by
   intro N
   induction N with
   |nil=>intro _;rfl
   |cons n N ih=>
     intro h
     rw [List.foldl_cons]
     have hn:=h n (.head _)
     have e:je (List.replicate k []) r n=[(0,FV)]:=by
       unfold je
       rw [List.length_replicate,if_pos hn]
       obtain ⟨h0,h1⟩:=B8.1 hn
       have:=yc (T:=List.replicate k []) h0 (by rw [List.length_replicate];exact h1)
       rw [List.getElem?_replicate,if_pos (by omega)]at this
       rw [← Option.some.inj this]
       rfl
     rw [e]
     exact ih fun m hm=>h m (.tail _ hm)
 exact key N hN

def p7 (r:Int) (T U:Tb):Prop:=T.length=U.length∧∀n,others (rowT T n) r=others (rowT U n) r
theorem p7.refl {r:Int} {T:Tb}:p7 r T T:=⟨rfl,fun _=>rfl⟩
theorem p7.trans {r:Int} {T U V:Tb} (a:p7 r T U) (b:p7 r U V):p7 r T V:=⟨a.1.trans b.1,fun n=>(a.2 n).trans (b.2 n)⟩
theorem p7.gaps {r:Int} {T U:Tb} (a:p7 r T U) (n:Int):je T r n=je U r n:=by
 unfold je G2
 rw [a.1,← Bi,a.2,Bi]
theorem p7.free {r:Int} {T U:Tb} (a:p7 r T U) (N:List Int):ib T r N=ib U r N:=by
 unfold ib
 congr 1
 funext l n
 rw [a.gaps]
end Go.Proofs.Srch
end

section
namespace Go.Proofs.YtfflipnhffknnaaGreatDoor
open Go Go.HL

def ox (m:Move):List Cell:=if m.k=1 then (List.range (m.n.toNat+1)).flatMap (fun (i:Nat)=>bh (ci m.f m.d i))else if m.k=2 then dt (m.f.x,m.f.y)else bh m.f
def fh (C:Conf) (m:Move):List Cell:=if dv C m=true then kg (wC C) (kC C) (ox m)else []

theorem rway_eq {C:Conf} {m:Move} (hp:PB m.f) (hl:dv C m=true):ox m=wayL m:=by
 unfold ox wayL
 by_cases h1:m.k=1
 · rw [if_pos h1,if_pos h1]
   unfold dv at hl
   rw [Bool.and_eq_true,if_pos h1]at hl
   simp only [Bool.and_eq_true]at hl
   have hd:=bq.1 hl.2.2.1
   congr 1
   funext i
   rw [qa hp hd]
 · rw [if_neg h1,if_neg h1]
theorem T6 {C:Conf} (mk:df C) {m:Move} (hp:PB m.f):ij (wC C) (kC C) (f3C C) m=fh C m:=by
 unfold ij fh
 rw [Lh mk hp]
 cases hl:dv C m with
 |false=>rfl
 |true=>rw [if_pos rfl,if_pos rfl,rway_eq hp hl]
section
variable {C:Conf}

theorem tn {α:Type} {ok:Nat→Bool} {mk:Nat→α} {x:α}:∀{k n:Nat},x∈iu ok mk n k↔∃j,n≤j∧j<n+k∧x=mk j∧∀i,n≤i→i≤j→ok i=true
 |0,n=>by
   unfold iu
   simp only [List.not_mem_nil,false_iff]
   rintro ⟨j,h1,h2,_⟩
   omega
 |k+1,n=>by
   unfold iu
   cases hb:ok n with
   |false=>
     simp only [Bool.false_eq_true,if_false,List.not_mem_nil,false_iff]
     rintro ⟨j,h1,h2,_,h⟩
     have:=h n (Nat.le_refl _) h1
     rw [hb]at this;cases this
   |true=>
     simp only [if_true,List.mem_cons]
     rw [tn]
     constructor
     · rintro (rfl|⟨j,h1,h2,rfl,h⟩)
       · exact ⟨n,Nat.le_refl _,by omega,rfl,fun i a b=>by obtain rfl:i=n:=by omega
                                                           exact hb⟩
       · exact ⟨j,by omega,by omega,rfl,fun i a b=>by
           by_cases hi:i=n
           · subst hi;exact hb
           · exact h i (by omega) b⟩
     · rintro ⟨j,h1,h2,rfl,h⟩
       by_cases hj:j=n
       · subst hj;exact .inl rfl
       · exact .inr ⟨j,by omega,by omega,rfl,fun i a b=>h i (by omega) b⟩
theorem uq {α:Type} {D:Nat→List α} {x:α}:∀{k i:Nat},x∈j5 D i k↔∃j,i≤j∧j<i+k∧x∈D j
 |0,i=>by
   unfold j5
   simp only [List.not_mem_nil,false_iff]
   rintro ⟨j,h1,h2,_⟩
   omega
 |k+1,i=>by
   unfold j5
   rw [List.mem_append,uq]
   constructor
   · rintro (h|⟨j,h1,h2,h⟩)
     · exact ⟨i,Nat.le_refl _,by omega,h⟩
     · exact ⟨j,by omega,by omega,h⟩
   · rintro ⟨j,h1,h2,h⟩
     by_cases hj:j=i
     · subst hj;exact .inl h
     · exact .inr ⟨j,by omega,by omega,h⟩
theorem Le {p:Pose} {d:Nat} {x:Move} (h:x∈rrunD C p d):∃n,1≤n∧n<17∧x=mkR p d n∧dv C x=true:=by
 obtain ⟨n,h1,h2,rfl,h3⟩:=tn.1 h
 exact ⟨n,h1,by omega,rfl,h3 n h1 (Nat.le_refl _)⟩

theorem o6 {m:Move} (h:dv C m=true):ec C m.f=true:=by
 unfold dv at h
 exact (Bool.and_eq_true _ _▸h).1

theorem Nt {m:Move} (ha:m.a=0) (he:m.e=0):m∈og C m.f↔dv C m=true∧(m.k=1∨m.k=2):=by
 constructor
 · intro h
   unfold og at h
   split at h
   · rcases List.mem_append.1 h with h|h
     · obtain ⟨j,_,_,hj⟩:=uq.1 h
       obtain ⟨n,_,_,e1,e2⟩:=Le hj
       exact ⟨e2,.inl (by rw [e1];rfl)⟩
     · split at h
       · rename_i hl
         simp at h
         exact ⟨by rw [h];exact hl,.inr (by rw [h];rfl)⟩
       · cases h
   · cases h
 · rintro ⟨hl,hk⟩
   have hf:=o6 hl
   unfold og
   rw [if_pos hf]
   have hl0:=hl
   unfold dv at hl
   rw [hf,Bool.true_and]at hl
   rcases hk with hk|hk
   · rw [if_pos hk]at hl
     simp only [Bool.and_eq_true,decide_eq_true_eq]at hl
     obtain ⟨hn,hd,ht,hs⟩:=hl
     obtain ⟨n1,n2⟩:=bq.1 hn
     obtain ⟨d1,d2⟩:=bq.1 hd
     have ed:((m.d.toNat:Nat):Int)=m.d:=Int.toNat_of_nonneg d1
     have en:((m.n.toNat:Nat):Int)=m.n:=Int.toNat_of_nonneg (by omega)
     refine List.mem_append_left _ (uq.2 ⟨m.d.toNat,Nat.zero_le _,by omega,tn.2 ⟨m.n.toNat,by omega,by omega,?_,fun i h1 h2=>?_⟩⟩)
     · obtain ⟨k,d,n,f,t,a,e⟩:=m
       simp only at hk ha he ht ed en
       subst hk ha he ht
       simp only [mkR,ed,en]
     · unfold dv
       rw [show (mkR m.f m.d.toNat i).f=m.f from rfl,hf,Bool.true_and,if_pos (show (mkR m.f m.d.toNat i).k=1 from rfl)]
       simp only [Bool.and_eq_true,decide_eq_true_eq]
       refine ⟨bq.2 (show (1:Int)≤(i:Int)∧(i:Int)≤16 by omega),bq.2 (show (0:Int)≤((m.d.toNat:Nat):Int)∧((m.d.toNat:Nat):Int)≤3 by omega),rfl,?_⟩
       rw [List.all_eq_true]at hs ⊢
       intro j hj
       have hj:=List.mem_range.1 hj
       have hj2:j<i:=by simpa [mkR]using hj
       have:=hs j (List.mem_range.2 (by omega))
       unfold sk at this ⊢
       show ec C (ci m.f ((m.d.toNat:Nat):Int) ((j:Int)+1))=true
       rw [ed]
       exact this
   · rw [if_neg (by omega),if_pos hk]at hl
     simp only [Bool.and_eq_true,decide_eq_true_eq]at hl
     obtain ⟨_,hn,hd,ht⟩:=hl
     have e:m=jr m.f:=by
       obtain ⟨k,d,n,f,t,a,e⟩:=m
       simp only at hk ha he ht hn hd
       subst hk ha he ht hn hd
       rfl
     refine List.mem_append_right _ ?_
     rw [← e,if_pos hl0]
     simp
end
section
variable {C:Conf}

def ja (m:Move):Move:=⟨m.k,if m.k=1 then (m.d+2).tmod 4 else m.d,m.n,m.t,m.f,m.a,m.e⟩

theorem yj {p q:Pose} (h1:p.x=q.x) (h2:p.y=q.y) (h3:p.d=q.d):p=q:=by cases p;cases q;simp_all
theorem B7 (mk:df C) {c:Cell} (h:me C c=true):(0≤c.1∧c.1<wC C∧0≤c.2∧c.2<kC C)∧c.1<16∧c.2<16:=by
 obtain ⟨e1,e2,_,w2,_,k2⟩:=p8 mk.laid.w mk.laid.h
 unfold me inB at h
 simp only [Bool.and_eq_true,decide_eq_true_eq,ge_iff_le]at h
 omega
theorem wr_s {x:Int} (h : -100≤x∧x≤100):wr x=x:=F9 (by unfold Bd;omega)
theorem ov {p:Pose} {d n:Int} (hx:0≤p.x∧p.x<16) (hy:0≤p.y∧p.y<16) (hn:0≤n∧n≤16):
   (ci p d n).x=(if d=1 then p.x+n else if d=3 then p.x-n else p.x)∧(ci p d n).y=(if d=0 then p.y-n else if d=2 then p.y+n else p.y)∧(ci p d n).d=p.d:=by
 unfold ci
 rw [wr_s (x:=p.x+n) (by omega),wr_s (x:=p.x-n) (by omega),wr_s (x:=p.y-n) (by omega),wr_s (x:=p.y+n) (by omega)]
 exact ⟨rfl,rfl,rfl⟩
theorem Ou {p:Pose} {d n i:Int} (hx:0≤p.x∧p.x<16) (hy:0≤p.y∧p.y<16) (hd:0≤d∧d≤3) (hn:0≤n∧n≤16) (hi:0≤i∧i≤n) (tx:0≤(ci p d n).x∧(ci p d n).x<16) (ty:0≤(ci p d n).y∧(ci p d n).y<16):
   ci (ci p d n) ((d+2).tmod 4) i=ci p d (n-i):=by
 obtain ⟨a1,a2,a3⟩:=ov (d:=(d+2).tmod 4) (n:=i) tx ty (by omega)
 obtain ⟨b1,b2,b3⟩:=ov (d:=d) (n:=n) hx hy hn
 obtain ⟨c1,c2,c3⟩:=ov (d:=d) (n:=n-i) hx hy (by omega)
 have hd4:d=0∨d=1∨d=2∨d=3:=by omega
 refine yj ?_ ?_ (by rw [a3,b3,c3])
 · rw [a1,b1,c1]
   rcases hd4 with rfl|rfl|rfl|rfl<;>simp [show ((0:Int)+2).tmod 4=2 from rfl,show ((1:Int)+2).tmod 4=3 from rfl,show ((2:Int)+2).tmod 4=0 from rfl,show ((3:Int)+2).tmod 4=1 from rfl]<;>omega
 · rw [a2,b2,c2]
   rcases hd4 with rfl|rfl|rfl|rfl<;>simp [show ((0:Int)+2).tmod 4=2 from rfl,show ((1:Int)+2).tmod 4=3 from rfl,show ((2:Int)+2).tmod 4=0 from rfl,show ((3:Int)+2).tmod 4=1 from rfl]<;>omega

theorem H7 {w k:Nat} {W V:List Cell} (h:∀x,x∈W↔x∈V):kg w k W=kg w k V:=
 C2 (n:=numW w) oc oc fun x=>by rw [l8,l8,h]
theorem kv {L:List Cell} {a b c:Cell} (ha:a∈L) (hb:b∈L) (hc:c∈L) (ab:a≠b) (ac:a≠c) (bc:b≠c):3≤L.length:=by
 match L,ha,hb,hc with
 |[],ha,_,_=>cases ha
 |[x],ha,hb,_=>simp at ha hb;exact absurd (ha.trans hb.symm) ab
 |[x,y],ha,hb,hc=>
   simp at ha hb hc
   rcases ha with rfl|rfl<;>rcases hb with rfl|rfl<;>rcases hc with rfl|rfl<;>first|exact absurd rfl ab|exact absurd rfl ac|exact absurd rfl bc
 |x::y::z::L,_,_,_=>simp

theorem pm (mk:df C) {p:Pose} (h:ec C p=true):(0≤p.x∧p.x<16)∧(0≤p.y∧p.y<16):=by
 unfold ec at h
 rw [Bool.and_eq_true]at h
 have:=B7 mk h.1
 simp only at this
 omega
theorem C1 (mk:df C) {m:Move} (hl:dv C m=true) (h1:m.k=1):1≤m.n∧m.n≤16∧(0≤m.d∧m.d≤3)∧m.t=ci m.f m.d m.n∧∀i:Int,0≤i→i≤m.n→ec C (ci m.f m.d i)=true:=by
 have hf:=o6 hl
 unfold dv at hl
 rw [hf,Bool.true_and,if_pos h1]at hl
 simp only [Bool.and_eq_true,decide_eq_true_eq,List.all_eq_true,List.mem_range]at hl
 obtain ⟨hn,hd,ht,hs⟩:=hl
 obtain ⟨n1,n2⟩:=bq.1 hn
 refine ⟨n1,n2,bq.1 hd,ht,fun i h0 hi=>?_⟩
 by_cases hz:i=0
 · subst hz
   obtain ⟨fx,fy⟩:=pm mk hf
   obtain ⟨a1,a2,a3⟩:=ov (d:=m.d) (n:=0) fx fy (by omega)
   rw [show ci m.f m.d 0=m.f from yj (by rw [a1];simp) (by rw [a2];simp) a3]
   exact hf
 · have:=hs (i-1).toNat (by omega)
   unfold sk at this
   rw [show (((i-1).toNat:Nat):Int)+1=i by omega]at this
   exact this

theorem Yb (mk:df C) {m:Move} (hl:dv C m=true) (h1:m.k=1):dv C (ja m)=true∧fh C m=fh C (ja m)∧ec C m.t=true∧3≤(fh C m).length:=by
 obtain ⟨n1,n2,hd,ht,hs⟩:=C1 mk hl h1
 have hf:=o6 hl
 obtain ⟨fx,fy⟩:=pm mk hf
 have hft:ec C m.t=true:=by rw [ht];exact hs m.n (by omega) (Int.le_refl _)
 obtain ⟨tx,ty⟩:=pm mk hft
 have hbs:∀i:Int,0≤i→i≤m.n→ci m.t ((m.d+2).tmod 4) i=ci m.f m.d (m.n-i):=fun i h0 hi=>by
   have tx':=tx
   have ty':=ty
   rw [ht]at tx' ty'
   rw [ht]
   exact Ou fx fy hd (by omega) ⟨h0,hi⟩ tx' ty'
 have ed:(ja m).d=(m.d+2).tmod 4:=by unfold ja;simp only [if_pos h1]
 have hd':0≤(m.d+2).tmod 4∧(m.d+2).tmod 4≤3:=by
   have hd4:m.d=0∨m.d=1∨m.d=2∨m.d=3:=by omega
   rcases hd4 with e|e|e|e<;>rw [e]<;>decide
 have e0:ci m.f m.d (m.n-m.n)=m.f:=by
   rw [Int.sub_self]
   obtain ⟨a1,a2,a3⟩:=ov (d:=m.d) (n:=0) fx fy (by omega)
   exact yj (by rw [a1];simp) (by rw [a2];simp) a3
 have hlb:dv C (ja m)=true:=by
   unfold dv
   rw [if_pos (show (ja m).k=1 from h1),ed]
   simp only [Bool.and_eq_true,decide_eq_true_eq,List.all_eq_true,List.mem_range]
   refine ⟨hft,bq.2 ⟨n1,n2⟩,bq.2 hd',?_,fun i hi=>?_⟩
   · show m.f=ci m.t ((m.d+2).tmod 4) m.n
     rw [hbs m.n (by omega) (Int.le_refl _),e0]
   · have hi':i<m.n.toNat:=hi
     unfold sk
     rw [ed]
     show ec C (ci m.t _ ((i:Int)+1))=true
     rw [hbs _ (by omega) (by omega)]
     exact hs _ (by omega) (by omega)
 have mem1:∀x,x∈ox m↔∃i:Nat,i≤m.n.toNat∧x∈bh (ci m.f m.d i):=fun x=>by
   unfold ox
   rw [if_pos h1,List.mem_flatMap]
   constructor
   · rintro ⟨i,hi,hx⟩;exact ⟨i,by have:=List.mem_range.1 hi;omega,hx⟩
   · rintro ⟨i,hi,hx⟩;exact ⟨i,List.mem_range.2 (by omega),hx⟩
 have mem2:∀x,x∈ox (ja m)↔∃i:Nat,i≤m.n.toNat∧x∈bh (ci m.t ((m.d+2).tmod 4) i):=fun x=>by
   unfold ox
   rw [if_pos (show (ja m).k=1 from h1),ed,List.mem_flatMap]
   constructor
   · rintro ⟨i,hi,hx⟩;exact ⟨i,by have:i<m.n.toNat+1:=List.mem_range.1 hi;omega,hx⟩
   · rintro ⟨i,hi,hx⟩;exact ⟨i,List.mem_range.2 (show i<m.n.toNat+1 by omega),hx⟩
 refine ⟨hlb,?_,hft,?_⟩
 · unfold fh
   rw [if_pos hl,if_pos hlb]
   refine H7 fun x=>?_
   rw [mem1,mem2]
   constructor
   · rintro ⟨i,hi,hx⟩
     refine ⟨m.n.toNat-i,by omega,?_⟩
     rw [hbs _ (by omega) (by omega),show m.n-((m.n.toNat-i:Nat):Int)=(i:Int)by omega]
     exact hx
   · rintro ⟨i,hi,hx⟩
     refine ⟨m.n.toNat-i,by omega,?_⟩
     rw [hbs _ (by omega) (by omega)]at hx
     rw [show ((m.n.toNat-i:Nat):Int)=m.n-(i:Int)by omega]
     exact hx
 · unfold fh
   rw [if_pos hl]
   have hin:∀(i:Nat) (x:Cell),i≤m.n.toNat→x∈bh (ci m.f m.d i)→x∈kg (wC C) (kC C) (ox m):=fun i x hi hx=>by
     rw [l8]
     have hfi:=hs i (by omega) (by omega)
     unfold ec at hfi
     rw [Bool.and_eq_true]at hfi
     refine ⟨?_,(mem1 x).2 ⟨i,hi,hx⟩⟩
     simp only [bh,List.mem_cons,List.not_mem_nil,or_false]at hx
     rcases hx with rfl|rfl
     · exact (B7 mk hfi.1).1
     · exact (B7 mk hfi.2).1
   have z0:ci m.f m.d ((0:Nat):Int)=m.f:=by
     obtain ⟨a1,a2,a3⟩:=ov (d:=m.d) (n:=((0:Nat):Int)) fx fy (by omega)
     exact yj (by rw [a1];simp) (by rw [a2];simp) a3
   obtain ⟨a1,a2,a3⟩:=ov (d:=m.d) (n:=1) fx fy (by omega)
   have eA:east m.f=if m.f.d=true then (m.f.x,m.f.y+1)else (m.f.x+1,m.f.y):=by
     unfold east
     rw [wr_s (by omega),wr_s (by omega)]
   have h1f:=hs 1 (by omega) (by omega)
   obtain ⟨sx,sy⟩:=pm mk h1f
   have eB:east (ci m.f m.d 1)=if m.f.d=true then ((ci m.f m.d 1).x,(ci m.f m.d 1).y+1)else ((ci m.f m.d 1).x+1,(ci m.f m.d 1).y):=by
     unfold east
     rw [wr_s (by omega),wr_s (by omega),a3]
   have c0:(m.f.x,m.f.y)∈kg (wC C) (kC C) (ox m):=hin 0 _ (by omega) (by rw [z0];exact .head _)
   have c1:east m.f∈kg (wC C) (kC C) (ox m):=hin 0 _ (by omega) (by rw [z0];exact .tail _ (.head _))
   have c2:((ci m.f m.d 1).x,(ci m.f m.d 1).y)∈kg (wC C) (kC C) (ox m):=hin 1 _ (by omega) (.head _)
   have c3:east (ci m.f m.d 1)∈kg (wC C) (kC C) (ox m):=hin 1 _ (by omega) (.tail _ (.head _))
   rw [eA]at c1
   rw [eB]at c3
   rw [a1,a2]at c2 c3
   have hd4:m.d=0∨m.d=1∨m.d=2∨m.d=3:=by omega
   cases hdn:m.f.d with
   |false=>
     rw [hdn]at c1 c3
     simp only [Bool.false_eq_true,if_false]at c1 c3
     rcases hd4 with e|e|e|e<;>simp only [e]at c2 c3
     · exact kv c0 c1 c2 (by simp<;>omega) (by simp<;>omega) (by simp<;>omega)
     · exact kv c0 c1 c3 (by simp<;>omega) (by simp<;>omega) (by simp<;>omega)
     · exact kv c0 c1 c2 (by simp<;>omega) (by simp<;>omega) (by simp<;>omega)
     · exact kv c0 c1 c2 (by simp<;>omega) (by simp<;>omega) (by simp<;>omega)
   |true=>
     rw [hdn]at c1 c3
     simp only [if_true]at c1 c3
     rcases hd4 with e|e|e|e<;>simp only [e]at c2 c3
     · exact kv c0 c1 c2 (by simp<;>omega) (by simp<;>omega) (by simp<;>omega)
     · exact kv c0 c1 c2 (by simp<;>omega) (by simp<;>omega) (by simp<;>omega)
     · exact kv c0 c1 c3 (by simp<;>omega) (by simp<;>omega) (by simp<;>omega)
     · exact kv c0 c1 c2 (by simp<;>omega) (by simp<;>omega) (by simp<;>omega)

theorem Ty (mk:df C) {m:Move} (hl:dv C m=true) (h2:m.k=2):dv C (ja m)=true∧fh C m=fh C (ja m)∧ec C m.t=true∧3≤(fh C m).length:=by
 have h1:¬m.k=1:=by omega
 have hf:=o6 hl
 obtain ⟨fx,fy⟩:=pm mk hf
 have hl0:=hl
 unfold dv at hl0
 rw [hf,Bool.true_and,if_neg h1,if_pos h2]at hl0
 simp only [Bool.and_eq_true,decide_eq_true_eq,List.all_eq_true]at hl0
 obtain ⟨hs,hn,hd,ht⟩:=hl0
 have e1:dt (m.f.x,m.f.y)=[(m.f.x,m.f.y),(m.f.x+1,m.f.y),(m.f.x,m.f.y+1),(m.f.x+1,m.f.y+1)]:=by
   unfold dt
   simp only
   rw [wr_s (by omega),wr_s (by omega)]
 have hft:ec C m.t=true:=by
   rw [ht]
   unfold ec east vg
   simp only [Bool.and_eq_true]
   rw [e1]at hs
   refine ⟨hs _ (.head _),?_⟩
   cases hdn:m.f.d with
   |false=>simp only [Bool.not_false,if_true];rw [wr_s (by omega)];exact hs _ (.tail _ (.tail _ (.head _)))
   |true=>simp only [Bool.not_true,Bool.false_eq_true,if_false];rw [wr_s (by omega)];exact hs _ (.tail _ (.head _))
 have etx:m.t.x=m.f.x∧m.t.y=m.f.y:=by rw [ht];exact ⟨rfl,rfl⟩
 have hlb:dv C (ja m)=true:=by
   unfold dv
   rw [if_neg (show ¬(ja m).k=1 from h1),if_pos (show (ja m).k=2 from h2)]
   simp only [Bool.and_eq_true,decide_eq_true_eq,List.all_eq_true]
   refine ⟨hft,?_,hn,?_,?_⟩
   · show ∀x∈dt (m.t.x,m.t.y),_
     rw [etx.1,etx.2]
     exact hs
   · show (if m.k=1 then _ else m.d)=0
     rw [if_neg h1];exact hd
   · show m.f=vg m.t
     rw [ht]
     unfold vg
     simp
 refine ⟨hlb,?_,hft,?_⟩
 · unfold fh
   rw [if_pos hl,if_pos hlb]
   unfold ox
   rw [if_neg h1,if_pos h2,if_neg (show ¬(ja m).k=1 from h1),if_pos (show (ja m).k=2 from h2)]
   show _=kg _ _ (dt (m.t.x,m.t.y))
   rw [etx.1,etx.2]
 · unfold fh ox
   rw [if_pos hl,if_neg h1,if_pos h2]
   have hin:∀x∈dt (m.f.x,m.f.y),x∈kg (wC C) (kC C) (dt (m.f.x,m.f.y)):=fun x hx=>by
     rw [l8]
     exact ⟨(B7 mk (hs x hx)).1,hx⟩
   rw [e1]at hin ⊢
   exact kv (hin _ (.head _)) (hin _ (.tail _ (.head _))) (hin _ (.tail _ (.tail _ (.head _)))) (by simp;omega) (by simp;omega) (by simp;omega)

theorem Yc (mk:df C) {p:Pose} (hp:PB p) {m:Move} (h:m∈og C p):m.f=p∧MB m∧MB (ja m)∧(m.k=1∨m.k=2)∧(m.k=1→0≤m.d∧m.d≤3)∧dv C m=true∧dv C (ja m)=true∧fh C m=fh C (ja m)∧ec C m.t=true∧3≤(fh C m).length:=by
 have key:m.f=p∧dv C m=true∧(m.k=1∨m.k=2):=by
   unfold og at h
   split at h
   · rcases List.mem_append.1 h with h|h
     · obtain ⟨j,_,_,hj⟩:=uq.1 h
       obtain ⟨n,_,_,e1,e2⟩:=Le hj
       exact ⟨by rw [e1];rfl,e2,.inl (by rw [e1];rfl)⟩
     · split at h
       · rename_i hl
         simp at h
         exact ⟨by rw [h];rfl,by rw [h];exact hl,.inr (by rw [h];rfl)⟩
       · cases h
   · cases h
 obtain ⟨ef,hl,hk⟩:=key
 have hall:dv C (ja m)=true∧fh C m=fh C (ja m)∧ec C m.t=true∧3≤(fh C m).length:=by
   rcases hk with hk|hk
   · exact Yb mk hl hk
   · exact Ty mk hl hk
 have hn:Bd m.n:=by
   rcases hk with hk|hk
   · obtain ⟨n1,n2,_⟩:=C1 mk hl hk
     unfold Bd;omega
   · have hl0:=hl
     unfold dv at hl0
     rw [if_neg (by omega),if_pos hk]at hl0
     simp only [Bool.and_eq_true,decide_eq_true_eq]at hl0
     rw [hl0.2.2.1]
     unfold Bd;omega
 obtain ⟨tx,ty⟩:=pm mk hall.2.2.1
 refine ⟨ef,⟨hn,by rw [ef];exact hp⟩,⟨hn,⟨by show Bd m.t.x;unfold Bd;omega,by show Bd m.t.y;unfold Bd;omega⟩⟩,hk,fun hk1=>(C1 mk hl hk1).2.2.1,hl,hall.1,hall.2.1,hall.2.2.1,hall.2.2.2⟩
end
end Go.Proofs.YtfflipnhffknnaaGreatDoor
end

section
namespace Go.Proofs.YtfflipnhffknnaaGreatDoor
open Go Go.HL Go.Proofs.Resv Go.Proofs.Srch
section
abbrev envC (C:Conf) (T:Tb) (r:Int):Env Pose Move:=envE C (wC C) (kC C) (f3C C) T r
variable {C:Conf}

theorem pq (mk:df C) {T:Tb} (gt:jv T) {r:Int}:mu (envC C T r):=Wf (q:=⟨C,wC C,kC C,f3C C,T,r⟩) mk gt

theorem xv {T:Tb} {r:Int} {p:Pose} {w:Move × Pose × Int × List Sp} (h:w∈(envC C T r).ways p):∃m∈io (wC C) (kC C) (f3C C) p,w=wayE C (wC C) (kC C) (f3C C) T r m:=by
 obtain ⟨m,hm,rfl⟩:=List.mem_map.1 h
 exact ⟨m,hm,rfl⟩

theorem Py (mk:df C) {p:Pose} (h:ec C p=true):PB p:=by
 obtain ⟨a,b⟩:=pm mk h
 exact ⟨by unfold Bd;omega,by unfold Bd;omega⟩

theorem Nr (mk:df C) {p:Pose} {m:Move} (h:m∈io (wC C) (kC C) (f3C C) p):ec C p=true∧m∈og C p∧m.f=p∧MB m∧MB (ja m)∧(m.k=1∨m.k=2)∧(m.k=1→0≤m.d∧m.d≤3)∧dv C m=true∧dv C (ja m)=true∧fh C m=fh C (ja m)∧ec C m.t=true∧ij (wC C) (kC C) (f3C C) m=fh C m:=by
 have hf:ec C p=true:=by
   unfold io at h
   split at h
   · rename_i h1;rw [mr mk]at h1;exact h1
   · cases h
 have hp:=Py mk hf
 rw [La mk hp]at h
 obtain ⟨e1,e2,e3,e4,e5,e6,e7,e8,e9,_⟩:=Yc mk hp h
 exact ⟨hf,h,e1,e2,e3,e4,e5,e6,e7,e8,e9,T6 mk (by rw [e1];exact hp)⟩

theorem Bj (mk:df C) {p:Pose} (h:ec C p=true):∀c∈bh p,inW (wC C) (kC C) c=true:=fun c hc=>(lw (by rw [mr mk];exact h) c hc).1
theorem wk_of (mk:df C):C.w=(wC C:Int)∧C.h=(kC C:Int)∧1≤wC C∧wC C≤16∧1≤kC C∧kC C≤16:=by
 have hb:=(Df.1 mk).nums
 unfold lg at hb
 simp only [Bool.and_eq_true]at hb
 exact p8 (by simp_all) (by simp_all)
theorem Ns {w k:Nat} {f:Nat→Nat→Int} {p:Pose} {m:Move} (h:m∈io w k f p):m.a=0∧m.e=0:=by
 rcases (qk h).2 with ⟨d,n,_,_,_,_,rfl⟩|⟨_,rfl⟩<;>exact ⟨rfl,rfl⟩

theorem wr16 {x:Int} (h:0≤x∧x<16):wr x=x:=F9 (by unfold Bd;omega)
theorem Cq (mk:df C) {m:Move} (hl:dv C m=true) (hk:m.k=1∨m.k=2):∀c∈bh m.f,c∈fh C m:=by
 have hf:=o6 hl
 have hin:=Bj mk hf
 intro c hc
 have h0:=fu.1 (hin c hc)
 unfold fh
 rw [if_pos hl,l8]
 refine ⟨by omega,?_⟩
 unfold ox
 by_cases h1:m.k=1
 · rw [if_pos h1,List.mem_flatMap]
   refine ⟨0,by simp,?_⟩
   have e:ci m.f m.d ((0:Nat):Int)=m.f:=by
     obtain ⟨ha,hb⟩:=pm mk hf
     unfold ci
     simp [wr16 ha,wr16 hb]
   rw [e];exact hc
 · have h2:m.k=2:=by omega
   rw [if_neg h1,if_pos h2]
   rcases List.mem_cons.1 hc with rfl|hc
   · simp [dt]
   · rw [List.mem_singleton]at hc;subst hc
     unfold east dt
     split<;>simp

theorem Cr (mk:df C) {p:Pose} {m:Move} (h:m∈io (wC C) (kC C) (f3C C) p):(∀c∈bh p,c∈ij (wC C) (kC C) (f3C C) m)∧(∀c∈bh m.t,c∈ij (wC C) (kC C) (f3C C) m)∧∀c∈ij (wC C) (kC C) (f3C C) m,inW (wC C) (kC C) c=true:=by
 obtain ⟨hf,hr,e1,e2,e3,e4,e5,e6,e7,e8,e9,e10⟩:=Nr mk h
 rw [e10]
 refine ⟨fun c hc=>Cq mk e6 e4 c (by rw [e1];exact hc),fun c hc=>?_,fun c hc=>?_⟩
 · rw [e8]
   exact Cq mk e7 (by unfold ja;exact e4) c hc
 · unfold fh at hc
   rw [if_pos e6,l8]at hc
   exact fu.2 (by omega)

theorem za (mk:df C) {T:Tb} (gt:jv T) {r:Int}:uj (envC C T r):=by
 refine ⟨fun p=>so gt r _,fun p w hw=>?_,fun p w hw s hs=>?_⟩
 · obtain ⟨m,hm,rfl⟩:=xv hw
   exact so gt r _
 · obtain ⟨m,hm,rfl⟩:=xv hw
   obtain ⟨_,h2,_⟩:=Cr mk hm
   refine Td gt (fun n hn=>?_) hs
   obtain ⟨c,hc,rfl⟩:=List.mem_map.1 hn
   exact List.mem_map.2 ⟨c,h2 c hc,rfl⟩

theorem in_T (mk:df C) {n:Nat} (hn:(n:Int)=C.w*C.h) {c:Cell} (hc:inW (wC C) (kC C) c=true):inT n (numI (wC C) (kC C) c)=true:=by
 obtain ⟨e1,_,_,e4⟩:=qf hc
 obtain ⟨h1,h2,_⟩:=wk_of mk
 rw [B8,e1]
 have:((wC C*kC C:Nat):Int)=C.w*C.h:=by rw [h1,h2];simp
 omega

theorem Wg (mk:df C) {n:Nat} (hn:(n:Int)=C.w*C.h) {r:Int}:Flat (envC C (List.replicate n []) r) 16000:=by
 refine ⟨fun p hp=>?_,fun p hp w hw=>?_⟩
 · refine G3 fun x hx=>?_
   obtain ⟨c,hc,rfl⟩:=List.mem_map.1 hx
   exact in_T mk hn (Bj mk (by rw [← mr mk];exact hp) c hc)
 · obtain ⟨m,hm,rfl⟩:=xv hw
   obtain ⟨_,_,h3⟩:=Cr mk hm
   obtain ⟨l1,l2⟩:=Ll mk hm
   refine ⟨G3 fun x hx=>?_,l1,l2,?_⟩
   · obtain ⟨c,hc,rfl⟩:=List.mem_map.1 hx
     exact in_T mk hn (h3 c hc)
   · show bm (wC C) (kC C) (f3C C) m.t=true
     rw [mr mk]
     exact (Nr mk hm).2.2.2.2.2.2.2.2.2.2.1

theorem env_rev (mk:df C) {T:Tb} {r:Int}:∀p,(envC C T r).ok p→∀w∈(envC C T r).ways p,∃v∈(envC C T r).ways w.2.1,v.2.1=p∧v.2.2.1=w.2.2.1:=by
 intro p hp w hw
 obtain ⟨m,hm,rfl⟩:=xv hw
 obtain ⟨hf,hr,e1,e2,e3,e4,e5,e6,e7,e8,e9,e10⟩:=Nr mk hm
 have ez:=Ns hm
 have hb:ja m∈og C m.t:=(Nt (m:=ja m) ez.1 ez.2).2 ⟨e7,e4⟩
 refine ⟨wayE C (wC C) (kC C) (f3C C) T r (ja m),List.mem_map.2 ⟨_,?_,rfl⟩,e1,?_⟩
 · show ja m∈io (wC C) (kC C) (f3C C) m.t
   rw [La mk (Py mk e9)]
   exact hb
 · show ig C (ja m)=ig C m
   rfl
end
section
variable {C:Conf}

inductive Out (C:Conf) (T:Tb) (r:Int) (p:Pose) (t:Int) (gp:Pose) (any:Bool):Res Move→Prop where
 |ok {l:List Move} {q:Pose} {i:Nat} {a:Int} {s:Sp} (w:Wk (envC C T r) p t l q i a) (hs:((envC C T r).spans q)[i]?=some s) (h1:s.1≤a) (h2:a<s.2) (g:ix gp any q s=true)
     (best:∀p' i' t' s',Rc (envC C T r) p t p' i' t'→((envC C T r).spans p')[i']?=some s'→ix gp any p' s'=true→a≤t'):Out C T r p t gp any (.ok l)
 |route (h:(inside ((envC C T r).spans p) t).isSome=true) (none:∀p' i' t' s',Rc (envC C T r) p t p' i' t'→((envC C T r).spans p')[i']?=some s'→ix gp any p' s'=false):Out C T r p t gp any (.no 6)
 |budget:Out C T r p t gp any (.no 7)
 |taken (h:inside ((envC C T r).spans p) t=none):Out C T r p t gp any (.no 18)

theorem Md (mk:df C) {T:Tb} (gt:jv T) {r:Int} {p gp:Pose} {t:Int} {any:Bool} {n:Nat} (hp:bm (wC C) (kC C) (f3C C) p=true):Out C T r p t gp any (find (envC C T r) (ix gp any) p t zM n):=by
 have ris:=za mk gt (r:=r)
 rcases Vk (pq mk gt (r:=r)) ris (goal:=ix gp any) (t0:=t) (z:=zM) (p0:=p) hp n with ⟨h,h2⟩|⟨h0,⟨lo',S',k,x,h1,v,hk,hg,hb⟩|⟨h1,h2⟩|h1⟩
 · rw [h];exact .taken h2
 · rw [h1]
   obtain ⟨a1,a2,a3⟩:=v.at_ x (List.mem_of_getElem? hk)
   exact .ok (path_wk ris v hk) a1 a2 a3 hg hb
 · rw [h1];exact .route h0 h2
 · rw [h1];exact .budget

abbrev argsB (C:Conf) (T:Tb) (rb:Int) (p:Pose) (t:Int) (gp:Pose) (any:Bool):Prop:=(T.length:Int)≠C.w*C.h∨rb<0∨t<0∨t≥FV∨bm (wC C) (kC C) (f3C C) p=false∨aimB C gp any=false

theorem Mf {T:Tb} {rb t:Int} {p gp:Pose} {any:Bool} (h:¬argsB C T rb p t gp any):jt C (some T) rb p t gp any=find (envC C T rb) (ix gp any) p t zM C.bu.toNat:=by
 unfold jt
 exact if_neg h

def shM (by_:Int) (m:Move):Move:={ m with a:=m.a+by_,e:=m.e+by_ }
def Bk (t:Int) (l:List Move):Int:=match l.getLast? with
 |none=>t
 |some m=>m.e
theorem Tz {T:Tb} {r:Int} {p q:Pose} {t a:Int} {l:List Move} {i:Nat} (w:Wk (envC C T r) p t l q i a):a=Bk t l∧(l=[]→q=p):=by
 cases w with
 |nil h=>exact ⟨rfl,fun _=>rfl⟩
 |snoc h h0 ha1 ha2 hw hs h1 h2 he he2 hj=>exact ⟨by unfold Bk;rw [List.getLast?_append];rfl,fun e=>by simp at e⟩

theorem Pl (mk:df C) {T:Tb} (gt:jv T) {r:Int} {p0:Pose} {t0:Int} (h0:0≤t0) {p:Pose} {i:Nat} {t:Int} (h:Rc (envC C T r) p0 t0 p i t):∃n,Rch (envC C T r) p0 p n∧t0+n≤t∧0≤t:=by
 induction h with
 |start h=>exact ⟨0,.start,by omega,h0⟩
 |@step p i j t b s0 s w h h0' hw hs h1 h2 hb hb2 he he2 hj ih=>
   obtain ⟨n,r,hn,ht⟩:=ih
   have e2:=((pq mk gt).lasts _ w hw).1
   have:=sum_ge2 (show 0≤b by omega) (show 0≤w.2.2.1 by omega) he2
   exact ⟨_,.step r hw,by omega,by omega⟩

theorem Me (mk:df C) {n:Nat} (hn:(n:Int)=C.w*C.h) {t:Int} {p q:Pose} (hp:ec C p=true) (hq:ec C q=true) (h0:0≤t) (h1:t<FV)
   (hb1:jt C (some (List.replicate n [])) 2 p t q false ≠ .no 7) (hb2:jt C (some (List.replicate n [])) 2 q t p false ≠ .no 7):
   (jt C (some (List.replicate n [])) 2 p t q false = .no 6∧jt C (some (List.replicate n [])) 2 q t p false = .no 6∧p≠q)∨
   ∃l l',jt C (some (List.replicate n [])) 2 p t q false = .ok l∧jt C (some (List.replicate n [])) 2 q t p false = .ok l'∧Bk t l=Bk t l'∧(l=[]↔l'=[])∧(p=q→l=[]):=by
 have fp:bm (wC C) (kC C) (f3C C) p=true:=by rw [mr mk];exact hp
 have fq:bm (wC C) (kC C) (f3C C) q=true:=by rw [mr mk];exact hq
 have na:∀{x y:Pose},bm (wC C) (kC C) (f3C C) x=true→bm (wC C) (kC C) (f3C C) y=true→¬argsB C (List.replicate n []) 2 x t y false:=fun {x y} hx hy=>by
   rintro (h|h|h|h|h|h)
   · rw [List.length_replicate]at h;exact h hn
   · omega
   · omega
   · omega
   · rw [hx]at h;cases h
   · unfold aimB at h;rw [if_neg (by decide),hy]at h;cases h
 have g0:jv (List.replicate n ([]:List Slot)):=wq
 have fl:=Wg mk hn (r:=2)
 have rev:=env_rev mk (T:=List.replicate n []) (r:=2)
 rw [Mf (na fp fq)]at hb1 ⊢
 rw [Mf (na fq fp)]at hb2 ⊢
 have o1:=Md mk g0 (r:=2) (gp:=q) (t:=t) (any:=false) (n:=C.bu.toNat) fp
 have o2:=Md mk g0 (r:=2) (gp:=p) (t:=t) (any:=false) (n:=C.bu.toNat) fq
 have hin:∀{x:Pose},bm (wC C) (kC C) (f3C C) x=true→inside ((envC C (List.replicate n []) 2).spans x) t=some 0:=fun {x} hx=>by rw [fl.sp x hx];exact tt h0 h1
 have hsp:∀{x:Pose},bm (wC C) (kC C) (f3C C) x=true→((envC C (List.replicate n []) 2).spans x)[0]?=some (0,FV):=fun {x} hx=>by rw [fl.sp x hx];rfl
 have gg:∀(x:Pose),ix x false x (0,FV)=true:=fun x=>by unfold ix;simp
 have ge:∀{x y:Pose} {s:Sp},ix x false y s=true→y=x:=fun {x y s} h=>by
   unfold ix at h
   simp only [Bool.and_eq_true,Bool.or_eq_true,beq_iff_eq]at h
   rcases h.1 with ⟨⟨a,b⟩,c⟩|⟨a,_⟩
   · cases x;cases y;simp_all
   · cases a
 -- what can be reached there can be reached back,as early
 have back:∀{x y:Pose} {i:Nat} {a:Int},bm (wC C) (kC C) (f3C C) x=true→Rc (envC C (List.replicate n []) 2) x t y i a→a<FV→∃k,t+k≤a∧Rc (envC C (List.replicate n []) 2) y t x 0 (t+k):=fun {x y i a} hx h ha=>by
   obtain ⟨k,rc,hk,_⟩:=Pl mk g0 h0 h
   exact ⟨k,hk,rch_rc fl (rc.ok fl hx).1 h0 (rc.rev fl rev hx) (by omega)⟩
 generalize find (envC C (List.replicate n []) 2) (ix q false) p t zM C.bu.toNat=W at o1 hb1 ⊢
 generalize find (envC C (List.replicate n []) 2) (ix p false) q t zM C.bu.toNat=V at o2 hb2 ⊢
 cases o1 with
 |@ok l q1 i a s w hs a1 a2 g best=>
   have e1:=ge g
   subst e1
   have sb:=(pq mk g0 (r:=2)).pos _ s (List.mem_of_getElem? hs)
   obtain ⟨k,hk,rk⟩:=back fp (O8 (za mk g0) w) (by omega)
   cases o2 with
   |@ok l' q2 i' a' s' w' hs' a1' a2' g' best'=>
     have e2:=ge g'
     subst e2
     have sb':=(pq mk g0 (r:=2)).pos _ s' (List.mem_of_getElem? hs')
     obtain ⟨k',hk',rk'⟩:=back fq (O8 (za mk g0) w') (by omega)
     have b1:=best' _ _ _ _ rk (hsp fp) (gg _)
     have b2:=best _ _ _ _ rk' (hsp fq) (gg _)
     have ee:a=a':=by omega
     have hgt:∀{x y:Pose} {m:List Move} {j:Nat} {b:Int},Wk (envC C (List.replicate n []) 2) x t m y j b→(m=[]∧b=t)∨(m≠[]∧t<b):=fun {x y m j b} w=>by
       cases w with
       |nil _=>exact .inl ⟨rfl,rfl⟩
       |@snoc l p i j a s0 s w h z1 z2 z3 hw hs z4 z5 he he2 hj=>
         refine .inr ⟨by simp,?_⟩
         have:=(pq mk g0).lasts _ w hw
         obtain ⟨n1,r1,hn1,hn2⟩:=Pl mk g0 h0 (O8 (za mk g0) h)
         have hs0:=(pq mk g0 (r:=2)).pos _ s0 (List.mem_of_getElem? z1)
         have hnn:0≤n1:=by
           have:∀{x y:Pose} {n1:Int},Rch (envC C (List.replicate n []) 2) x y n1→0≤n1:=fun {x y n1} r=>by
             induction r with
             |start=>omega
             |step h hw ih=>have:=(pq mk g0).lasts _ _ hw;omega
           exact this r1
         have:=zy (show 0≤max a s.1 by omega) (by omega) he2
         omega
     refine .inr ⟨l,l',rfl,rfl,?_,?_,?_⟩
     · rw [← (Tz w).1,← (Tz w').1,ee]
     · rcases hgt w with ⟨x1,x2⟩|⟨x1,x2⟩<;>rcases hgt w' with ⟨y1,y2⟩|⟨y1,y2⟩
       · simp [x1,y1]
       · omega
       · omega
       · simp [x1,y1]
     · intro e
       subst e
       have:=best _ _ _ _ (.start (hin fp)) (hsp fp) (gg _)
       rcases hgt w with ⟨x1,x2⟩|⟨x1,x2⟩
       · exact x1
       · omega
   |route hh none=>have:=none _ _ _ _ rk (hsp fp);rw [gg]at this;cases this
   |budget=>exact absurd rfl hb2
   |taken hh=>rw [hin fq]at hh;cases hh
 |route hh none=>
   cases o2 with
   |@ok l' q2 i' a' s' w' hs' a1' a2' g' best'=>
     have e2:=ge g'
     subst e2
     have sb':=(pq mk g0 (r:=2)).pos _ s' (List.mem_of_getElem? hs')
     obtain ⟨k',hk',rk'⟩:=back fq (O8 (za mk g0) w') (by omega)
     have:=none _ _ _ _ rk' (hsp fq);rw [gg]at this;cases this
   |route hh' none'=>
     refine .inl ⟨rfl,rfl,fun e=>?_⟩
     subst e
     have:=none _ _ _ _ (.start (hin fp)) (hsp fp);rw [gg]at this;cases this
   |budget=>exact absurd rfl hb2
   |taken hh=>rw [hin fq]at hh;cases hh
 |budget=>exact absurd rfl hb1
 |taken hh=>rw [hin fp]at hh;cases hh
end
section
variable {C:Conf}

def FreeC (C:Conf) (T:Tb) (r:Int) (L:List Cell) (a b:Int):Prop:=∀c∈L,inT T.length (numI (wC C) (kC C) c)=true∧pl (rowT T (numI (wC C) (kC C) c)) r a b=true

theorem FreeC.span {T:Tb} (gt:jv T) {r a b:Int} {L:List Cell} (h:FreeC C T r L a b) (h0:0≤a) (h1:a<b) (h2:b≤FV):∃s∈ib T r (L.map (numI (wC C) (kC C))),s.1≤a∧b≤s.2:=
 Na gt h0 h1 h2 fun n hn=>by
   obtain ⟨c,hc,rfl⟩:=List.mem_map.1 hn
   exact h c hc
end
theorem Uc {C:Conf} (sm:SmO C):1≤C.w*C.h∧C.w*C.h≤36∧IntKind.i64.wrap (C.w*C.h)=(((C.w*C.h).toNat:Nat):Int)∧(((C.w*C.h).toNat:Nat):Int)=C.w*C.h:=by
 have hnb:1≤C.w∧1≤C.h:=by
   have hb:=sm.may.nums
   unfold lg aq at hb
   simp only [Bool.and_eq_true,decide_eq_true_eq]at hb
   omega
 obtain ⟨hw1,hh1⟩:=hnb
 have b2:C.w*C.h≤6*6:=Int.mul_le_mul sm.w sm.h (by omega) (by omega)
 have b1:1*1≤C.w*C.h:=Int.mul_le_mul hw1 hh1 (by omega) (by omega)
 refine ⟨by omega,by omega,?_,by omega⟩
 rw [ml (by omega) (by omega)];omega

theorem TabV.up {G h h':Hp} {vt:Value} {To:Option Tb} (t:TabV G h vt To) (l:h.le h') (d:Dis G h'):TabV G h' vt To:=by
 cases To with
 |none=>exact t
 |some T=>obtain ⟨tp,e,ts,x⟩:=t;exact ⟨tp,e,ts.up l d,x⟩

structure FindO (G:Hp) (h:Hp) (W:Res Move) (u:Value) (h':Hp):Prop where
 ex:∃ip vs,u = .tuple #[vs,.int .i64 (outE W)]∧Slc i7 48 ip vs (outL W)∧(outL W).length≤110000∧HL.Sep [ip,h] h'∧Dis G h'

theorem G7 {G h:Hp} {C:Conf} {v vt:Value} {To:Option Tb} {p gp:Pose} {rb t:Int} {any:Bool} (mk:df C) (hv:CV G h v C) (st:ir G) (hro:∀p∈C.ro,PB p) (fit:Fit0 C) (hbu:C.bu≤4000)
   (tv:TabV G h vt To) (hp:PB p) (hgp:PB gp):
   aj P_ G 27 #[v,vt,.int .i64 rb,jn p,.int .i64 t,.agg #[.int .i64 gp.x,.int .i64 gp.y,.bool gp.d,.bool any]] h (FindO G h (jt C To rb p t gp any)):=by
 refine (G6 hv st hro (by have:=fit.st;unfold Room at this;omega) (fun _=>hbu) tv hp hgp).mono ?_
 rintro u h' ⟨W,⟨ip,vs,e1,e2,e3,e4,e5⟩,⟨hno,_⟩|⟨_,rfl⟩⟩
 · exact absurd mk hno
 · exact ⟨ip,vs,e1,e2,e3,e4,e5⟩

theorem Mp {G h:Hp} {M:List Move} {sa:Option Addr} {cap:Nat} (s:Sees i7 G h (.slice sa M.length cap) M) (t:Int) (hM:M≠[]):∃b o,sa=some ⟨b,o,none⟩∧aa G h ⟨b,o+(M.length-1)*11+10,none⟩=some (.int .i64 (Bk t M)):=by
 have hl:=List.length_pos_iff.2 hM
 obtain ⟨m,hm⟩:∃m,M[M.length-1]?=some m:=⟨_,List.getElem?_eq_getElem (by omega)⟩
 obtain ⟨b,o,c,e1,x⟩:=s.get hm
 simp only [Value.slice.injEq]at e1
 obtain ⟨rfl,-,-⟩:=e1
 refine ⟨b,o,rfl,(x 10 (by decide)).trans ?_⟩
 unfold Bk
 rw [List.getLast?_eq_getElem?,hm]
 rfl
def dh:=jq bC (jq (jq (jq (jq @Bool.and_true (jq @List.length_nil.{0} @bd45_0p)) (jq @beq_self_eq_true.{0} (jq @bne_self_eq_false.{0} @cf21))) (jq (jq @cf22 (jq @cf23 @cf24)) (jq (jq @cf25 @cf27) (jq @cf28 @Qj)))) (jq (jq (jq @Aq (jq @Dt @fa48_6p)) (jq (jq @ld26 @Lj) (jq @ld3 @ld30))) (jq (jq @vk (jq @ld3p @ln40)) (jq (jq @ln40p @ne30p) (jq @ne4 @ne_eq.{1})))))
theorem sub1' {n:Nat} (h:0<n):((n:Int)-1)=((n-1:Nat):Int):=by omega
theorem K2 {p q:Pose}:(!(p.x==q.x&&p.y==q.y&&p.d==q.d))=decide (p≠q):=by rw [qc,decide_not]

theorem Kc {G h:Hp} {M1 M2:List Move} {s1 s2:Option Addr} {c1 c2 x1 x2:Nat} {t e:Int} {p g:Pose} (v1:Sees i7 G h (.slice s1 M1.length c1) M1) (v2:Sees i7 G h (.slice s2 M2.length c2) M2) (b1:M1.length≤110000) (b2:M2.length≤110000) (hle:Bk t M1=Bk t M2) (hiff:M1=[]↔M2=[]) (hpg:p=g→M1=[]∧e=0)
   (q1:h x1=some (.cells #[.int .i64 p.x,.int .i64 p.y,.bool p.d] 30 (0,0))) (q2:h x2=some (.cells #[.int .i64 g.x,.int .i64 g.y,.bool g.d] 30 (0,0)))
   (aw:∀{h:Hp} {K:VK},(∀h',K (.bool true) h')→aj P_ G 23 #[] h K) (r:Rg) (g5:r 5 = .pointer (some ⟨x1,0,none⟩)) (g6:r 6 = .pointer (some ⟨x2,0,none⟩)) (g11:r 11 = .slice s1 M1.length c1) (g12:r 12 = .int .i64 e) (g13:r 13 = .slice s2 M2.length c2) (g14:r 14 = .int .i64 e) {K:EK} (H:∀r' h',r' 8 = .bool true→K .ret r' h'):S6_k3 G K r h:=by
 have y1:∀k,aa G h ⟨x1,k,none⟩=_:=fun k=>ai (ag q1)
 have y2:∀k,aa G h ⟨x2,k,none⟩=_:=fun k=>ai (ag q2)
 unfold S6_k3
 simp only [dh,g11,g12,g13,g14,show (e != e)=false from bne_self_eq_false _]
 have ee:((M1.length:Int)==0)=((M2.length:Int)==0):=by
   rw [Bool.eq_iff_iff,beq_iff_eq,beq_iff_eq]
   have a1:(M1.length:Int)=0↔M1=[]:=by rw [← List.length_eq_zero_iff];omega
   have a2:(M2.length:Int)=0↔M2=[]:=by rw [← List.length_eq_zero_iff];omega
   rw [a1,a2,hiff]
 rw [ee,show (!((M2.length:Int)==0)==((M2.length:Int)==0))=false by simp]
 try simp only [dh]
 unfold S6_k4
 simp (disch:=decide) only [dh,g11]
 by_cases hM:M1=[]
 · have e0:((M1.length:Int)==0)=true:=by simp [hM]
   try simp only [dh,e0,fc,g5,g6,y1,y2,K2]
   by_cases hp:p=g
   · try simp only [dh,show decide (p≠g)=false from decide_eq_false (fun h=>h hp),g11,g12,e0,show (e==0)=true by simp [(hpg hp).2]]
     refine aw fun h'=>?_
     try simp (disch:=first|decide|omega) only [dh,Nat.reduceAdd,Nat.reduceMul]
     exact H _ _ (by simp only [dh])
   · try simp only [dh,show decide (p≠g)=true from decide_eq_true hp,fc]
     refine aw fun h'=>?_
     try simp (disch:=first|decide|omega) only [dh,Nat.reduceAdd,Nat.reduceMul]
     exact H _ _ (by simp only [dh])
 · have hl1:=List.length_pos_iff.2 hM
   have hl2:=List.length_pos_iff.2 (fun h=>hM (hiff.2 h))
   obtain ⟨b,o,rfl,z1⟩:=Mp v1 t hM
   obtain ⟨b',o',rfl,z2⟩:=Mp v2 t (fun h=>hM (hiff.2 h))
   have e0:((M1.length:Int)==0)=false:=by
     rw [beq_eq_false_iff_ne];omega
   have hp:p≠g:=fun h=>hM (hpg h).1
   try simp (disch:=first|decide|omega) only [dh,e0,g13,sub1' hl1,sub1' hl2,ix40p (Int.natCast_nonneg (M1.length-1)) (show ((M1.length-1:Nat):Int)<M1.length by omega),ix40p (Int.natCast_nonneg (M2.length-1)) (show ((M2.length-1:Nat):Int)<M2.length by omega),z1,z2,hle,g5,g6,y1,y2,K2,show decide (p≠g)=true from decide_eq_true hp,fc]
   refine aw fun h'=>?_
   try simp (disch:=first|decide|omega) only [dh,Nat.reduceAdd,Nat.reduceMul]
   exact H _ _ (by simp only [dh])

theorem Nb {G:Hp} {v:Value} {C:Conf} {p g:Pose} {a0:Int} (pp:PB p) (pg:PB g) (ba:Bd a0) (st:ir G) (hv:CV G noHp v C) (fit:Fit0 C) (hro:∀p∈C.ro,PB p):
   aj P_ G 6 #[v,jn p,jn g,.int .i64 a0] noHp (fun u _=>u = .bool true):=by
 have hv0:=hv
 obtain ⟨ab,cb,ap,cp,ar,cr,az,cs,rfl,ca⟩:=hv
 refine aj.assume fun d=>enter6 (by simp) ?_
 unfold S6
 simp only [dh]
 intro xc hxc gxc x1 hx1 gx1 x2 hx2 gx2
 generalize e1:Hp.set noHp xc _=h1 at*
 obtain ⟨l1,d1,q1⟩:=boxed e1 hxc d gxc
 generalize e2:Hp.set h1 x1 _=h2 at*
 obtain ⟨l2,d2,q2⟩:=boxed e2 hx1 d1 gx1
 generalize e3:Hp.set h2 x2 _=hz at*
 obtain ⟨l3,dz,q3⟩:=boxed e3 hx2 d2 gx2
 have L:=l1.trans (l2.trans (l3))
 have bc:=l3 _ _ (l2 _ _ (q1))
 have b1:=l3 _ _ (q2)
 have b2:=q3
 have cc:∀{h':Hp},hz.le h'→∀k,aa G h' ⟨xc,k,none⟩=_:=fun l k=>ai (ag (l _ _ bc))
 have c1:∀{h':Hp},hz.le h'→∀k,aa G h' ⟨x1,k,none⟩=_:=fun l k=>ai (ag (l _ _ b1))
 have c2:∀{h':Hp},hz.le h'→∀k,aa G h' ⟨x2,k,none⟩=_:=fun l k=>ai (ag (l _ _ b2))
 have ca0:=ca.up L dz
 have lz:=Hp.le.refl hz
 have aw:∀{h:Hp} {K:VK},(∀h',K (.bool true) h')→aj P_ G 23 #[] h K:=fun hK=>(awake12 st).mono fun u h' e=>by rw [e.1];exact hK h'
 have hbl:C.bl.length≤100000000000000:=by have:=fit.bl;unfold Room at this;omega
 try simp only [dh,cc lz]
 refine (small12 ca0.cv).mono ?_
 rintro _ hz ⟨⟨b,rfl,hb⟩,rfl⟩
 cases b with
 |false=>
   try simp only [dh,fc]
   exact aw fun h'=>by simp only [dh]
 |true=>
 have sm:=hb rfl
 have mk:df C:=Df.2 sm.may
 obtain ⟨n1,n2,n3,n4⟩:=Uc sm
 try simp only [dh,cc lz,c1 lz]
 refine (wo ca0.cv hbl).mono ?_
 rintro _ hz ⟨rfl,rfl⟩
 cases fp:ec C p with
 |false=>
   try simp only [dh,fc]
   exact aw fun h'=>by simp only [dh]
 |true=>
 try simp only [dh,cc lz,c2 lz]
 refine (wo ca0.cv hbl).mono ?_
 rintro _ hz ⟨rfl,rfl⟩
 cases fg:ec C g with
 |false=>
   try simp only [dh]
   exact aw fun h'=>by simp only [dh]
 |true=>
 try simp only [dh]
 unfold S6_k1
 try simp (disch:=first|decide|omega) only [dh]
 refine (Np (a:=a0) (n:=1099511627776) ba (by decide) (by decide)).mono ?_
 rintro _ hz ⟨rfl,rfl⟩
 have at_0:=Int.emod_nonneg a0 (by decide:(1099511627776:Int)≠0)
 have at_1:=Int.emod_lt_of_pos a0 (by decide:(0:Int)<1099511627776)
 generalize a0 % 1099511627776=at_ at at_0 at_1 ⊢
 try simp (disch:=first|decide|exact av|exact au|omega|rfl) only [dh,cc lz]
 first|rw [n3]|rw [← n4]
 generalize hn:(C.w*C.h).toNat=n at*
 refine (Rv.qj (n:=n) (by omega) (by omega)).mono ?_
 rintro _ t5 ⟨ta5,tp5,rfl,tab5,st5,dt5⟩
 have lt5:=st5.in 1 rfl
 have tv5:∀{h':Hp},t5.le h'→Dis G h'→TabV G h' (.pointer (some ⟨tp5,0,none⟩)) (some (List.replicate n [])):=fun l d=>⟨tp5,rfl,(tab5.see (st5.in 0 rfl)).up l d,wq,Mg⟩
 try simp (disch:=first|decide|omega) only [dh]
 unfold S6_k2
 try simp -implicitDefEqProofs (maxSteps:=2000000) (disch:=first|decide|with_reducible exact Nat.ne_of_beq_eq_false rfl|exact av|exact au|omega|rfl|(simp;done)|fail) only [dh,cc lt5]
 refine (vm (ca0.up lt5 dt5).cv fit).mono ?_
 rintro u6 k6 ⟨⟨_,_,_,_,_,_,_,_,co6⟩,dk6⟩
 have lk6:t5.le k6:=co6.sep.in 4 rfl
 refine ⟨lk6,?_⟩
 try simp only [dh,c1 lt5,c2 lt5]
 refine (G7 (To:=some (List.replicate n [])) (p:=p) (gp:=g) (rb:=2) (t:=at_) (any:=false) mk (co6.cv (Hp.le.refl _)) st hro fit sm.bu (tv5 lk6 dk6) pp pg).mono ?_
 rintro _ m6 ⟨ip6,vs6,rfl,sl6,ll6,sm6,dm6⟩
 have lm6:t5.le m6:=lk6.trans (sm6.in 1 rfl)
 have la6:hz.le m6:=lt5.trans lm6
 try simp only [dh,cc la6]
 refine (vm (ca0.up la6 dm6).cv fit).mono ?_
 rintro u7 k7 ⟨⟨_,_,_,_,_,_,_,_,co7⟩,dk7⟩
 have lk7:m6.le k7:=co7.sep.in 4 rfl
 refine ⟨lk7,?_⟩
 try simp only [dh,c1 la6,c2 la6]
 refine (G7 (To:=some (List.replicate n [])) (p:=g) (gp:=p) (rb:=2) (t:=at_) (any:=false) mk (co7.cv (Hp.le.refl _)) st hro fit sm.bu (tv5 (lm6.trans lk7) dk7) pg pp).mono ?_
 rintro _ m7 ⟨ip7,vs7,rfl,sl7,ll7,sm7,dm7⟩
 have lm7:m6.le m7:=lk7.trans (sm7.in 1 rfl)
 have q1':=(la6.trans lm7) _ _ b1
 have q2':=(la6.trans lm7) _ _ b2
 have seeA:Sees i7 G m7 vs6 _:=sl6.sees (by decide) ((sm6.in 0 rfl).trans lm7)
 have seeB:Sees i7 G m7 vs7 _:=sl7.sees (by decide) (sm7.in 0 rfl)
 obtain ⟨sA,cA,rfl⟩:=seeA.len
 obtain ⟨sB,cB,rfl⟩:=seeB.len
 by_cases hA7:jt C (some (List.replicate n [])) 2 p at_ g false = .no 7
 · rw [hA7]
   try simp only [dh,show outE (Res.no (M:=Move) 7)=7 from rfl,show ((7:Int)==7)=true from rfl,fc]
   exact aw fun h'=>by simp only [dh]
 by_cases hB7:jt C (some (List.replicate n [])) 2 g at_ p false = .no 7
 · rw [hB7]
   by_cases e7:outE (jt C (some (List.replicate n [])) 2 p at_ g false)=7
   · try simp only [dh,show (outE (jt C (some (List.replicate n [])) 2 p at_ g false)==7)=true by simp [e7],fc]
     exact aw fun h'=>by simp only [dh]
   · try simp only [dh,show (outE (jt C (some (List.replicate n [])) 2 p at_ g false)==7)=false by simp [e7],show outE (Res.no (M:=Move) 7)=7 from rfl,show ((7:Int)==7)=true from rfl]
     exact aw fun h'=>by simp only [dh]
 rcases Me mk n4 fp fg at_0 (by unfold FV;omega) hA7 hB7 with ⟨hA,hB,hne⟩|⟨M1,M2,hA,hB,hle,hiff,hpg⟩
 · rw [hA,hB]
   try simp only [dh,show outE (Res.no (M:=Move) 6)=6 from rfl,show ((6:Int)==7)=false from rfl]
   rw [hA]at seeA
   rw [hB]at seeB
   exact Kc (t:=at_) (e:=6) (p:=p) (g:=g) (M1:=[]) (M2:=[]) seeA seeB (by simp) (by simp) rfl Iff.rfl (fun h=>absurd h hne) q1' q2' aw _ (by simp (disch:=decide) only [dh]) (by simp (disch:=decide) only [dh]) (by simp (disch:=decide) only [dh];rfl) (by simp (disch:=decide) only [dh]) (by simp (disch:=decide) only [dh];rfl) (by simp (disch:=decide) only [dh]) fun r' h' e=>by simp only [dh,e]
 · rw [hA]at seeA ll6
   rw [hB]at seeB ll7
   rw [hA,hB]
   try simp only [dh,show outE (Res.ok M1)=0 from rfl,show outE (Res.ok M2)=0 from rfl,show ((0:Int)==7)=false from rfl]
   exact Kc (t:=at_) (e:=0) (p:=p) (g:=g) (M1:=M1) (M2:=M2) seeA seeB ll6 ll7 hle hiff (fun h=>⟨hpg h,rfl⟩) q1' q2' aw _ (by simp (disch:=decide) only [dh]) (by simp (disch:=decide) only [dh]) (by simp (disch:=decide) only [dh];rfl) (by simp (disch:=decide) only [dh]) (by simp (disch:=decide) only [dh];rfl) (by simp (disch:=decide) only [dh]) fun r' h' e=>by simp only [dh,e]
end Go.Proofs.YtfflipnhffknnaaGreatDoor
end

section
namespace Go.Proofs.YtfflipnhffknnaaGreatDoor
open Go Go.HL Go.ChangeShapes Go.WideShapes Go.RowKit
theorem Uq:ownKnob P_.godebug=none:=by kernel_rfl
theorem U5:laidOutB P_=true:=by kernel_rfl
theorem Vc:P_.globalNamed "skep/grid.steps" = some 0:=by kernel_rfl
theorem tSteps:(P_.globals[0]?).map (·.type)=some 245:=by kernel_rfl

abbrev Gv:List (String × DataW Unit):=[("skep/grid.steps",Rows.laid_skep_grid_steps)]

theorem Xs (os:Os) (args:Array Value):laidMetH P_ Gv ((World.doorLaid P_ 400 os).forCall (fun _ _=>0) ⟨#[],args,[]⟩).memory:=
 laidMetH_of_parts3 (fuel:=8) (laidMet_of_run' 8 (by kernel_rfl) (by kernel_rfl)) (by kernel_rfl) (by kernel_rfl)

theorem Ms {H:Type} {enc:TypeId × Value→H} {P:Program} {w:World} {base:Nat} {spare:Nat→Bool} {held:Bool} {e:TypeId} {fuel:Nat} {cs:List Value} {y:DataW H × List MemPlace} {tos:List (TypeId × Nat)} (ht:er P e=some tos)
   (h:DataW.trod enc P w base spare held fuel e cs=some y):cs.length=P.cellsOf e∧∃(xs:List (DataW H × List MemPlace)) (m:Nat),y=(.agg (xs.map (·.1)),xs.flatMap (·.2))∧xs.length=tos.length∧∀(i:Nat) (t o:Nat),tos[i]?=some (t,o)→DataW.trod enc P w base spare held m t ((cs.drop o).take (P.cellsOf t))=xs[i]?:=by
 unfold er at ht
 split at ht
 · rename_i fs hfs
   obtain ⟨xs,n,_,h0,h1,h2,h3⟩:=DataW.trod_struct hfs h
   simp only [Option.some.injEq]at ht
   subst ht
   refine ⟨h1,xs,n,h0,by simp [h2],fun i t o hi=>?_⟩
   rw [List.getElem?_map,Array.getElem?_toList]at hi
   cases q:fs[i]? with
   |none=>rw [q]at hi;cases hi
   |some f=>
     rw [q]at hi
     simp only [Option.map_some,Option.some.injEq,Prod.mk.injEq]at hi
     obtain ⟨rfl,rfl⟩:=hi
     exact h3 i f q
 · cases ht

theorem un3i:P_.underlying 3=some (.int .i64):=by kernel_rfl
theorem c3:P_.cellsOf 3=1:=by kernel_rfl
theorem c28:P_.cellsOf 28=2:=by kernel_rfl
theorem c81:P_.cellsOf 245=8:=by kernel_rfl
theorem sf28:er P_ 28=some [(3,0),(3,1)]:=by kernel_rfl

theorem xy {H:Type} {enc:TypeId × Value→H} {w:World} {base:Nat} {spare:Nat→Bool} {held:Bool} {m:Nat} {cs:List Value} {x:DataW H × List MemPlace} {a b:Int}
   (h:DataW.trod enc P_ w base spare held m 28 cs=some x) (e:x.1 = .agg [.lit (.int .i64 a),.lit (.int .i64 b)]):cs=[.int .i64 a,.int .i64 b]:=by
 obtain ⟨hl,xs,n,rfl,hxl,d⟩:=Ms sf28 h
 rw [c28]at hl
 match cs,hl,xs,hxl with
 |[v0,v1],_,[x0,x1],_=>
 have h0:=d 0 3 0 rfl
 have h1:=d 1 3 1 rfl
 rw [c3]at h0 h1
 obtain ⟨k0,e0,f0,_⟩:=DataW.trod_int un3i (show DataW.trod _ _ _ _ _ _ n 3 _=some x0 from h0)
 obtain ⟨k1,e1,f1,_⟩:=DataW.trod_int un3i (show DataW.trod _ _ _ _ _ _ n 3 _=some x1 from h1)
 simp at e0 e1
 subst e0 e1 f0 f1
 simp at e
 obtain ⟨rfl,rfl⟩:=e
 rfl

theorem len8 {α:Type} {L:List α} (h:L.length=8):∃a b c d e f g i,L=[a,b,c,d,e,f,g,i]:=by
 match L,h with
 |[a,b,c,d,e,f,g,i],_=>exact ⟨a,b,c,d,e,f,g,i,rfl⟩

theorem of_laid {W:World} (h:laidMetH P_ Gv W):ir (ground W):=by
 rw [MakeChecks.laidMetH_plain _ _ _ (by kernel_rfl)]at h
 obtain ⟨ps,⟨g0,t0,cs0,f0,p0,q0,hg0,ht0,hv0,hd0,_,_⟩,_,_⟩:=h
 obtain rfl:=Option.some.inj (Vc.symm.trans hg0)
 obtain rfl:=Option.some.inj (tSteps.symm.trans ht0)
 obtain ⟨xs,m,rfl,hx,hl,hxl,hel⟩:=DataW.trod_array un81 hd0
 rw [c81]at hl
 rw [c28]at hel
 simp only [Prod.mk.injEq]at hx
 obtain ⟨hx,_⟩:=hx
 have hobj:∃e f,W.heap[0]?=some (.cells cs0 e f):=by
   unfold World.var? at hv0
   rw [Vc]at hv0
   simp only [Option.bind_some]at hv0
   split at hv0
   · rename_i c e f hc
     cases hv0
     exact ⟨e,f,hc⟩
   · cases hv0
 obtain ⟨e,f,hobj⟩:=hobj
 refine ⟨e,f,?_⟩
 show W.heap[0]?=_
 rw [hobj]
 match xs,hxl with
 |[x0,x1,x2,x3],_=>
 have h0:=hel 0 (by decide)
 have h1:=hel 1 (by decide)
 have h2:=hel 2 (by decide)
 have h3:=hel 3 (by decide)
 unfold Rows.laid_skep_grid_steps at hx
 simp only [List.map_cons,List.map_nil,DataW.agg.injEq,List.cons.injEq]at hx
 have k0:=xy (show DataW.trod _ _ _ _ _ _ m 28 _=some x0 from h0) hx.1.symm
 have k1:=xy (show DataW.trod _ _ _ _ _ _ m 28 _=some x1 from h1) hx.2.1.symm
 have k2:=xy (show DataW.trod _ _ _ _ _ _ m 28 _=some x2 from h2) hx.2.2.1.symm
 have k3:=xy (show DataW.trod _ _ _ _ _ _ m 28 _=some x3 from h3) hx.2.2.2.1.symm
 obtain ⟨cs⟩:=cs0
 obtain ⟨a0,a1,a2,a3,a4,a5,a6,a7,rfl⟩:=len8 hl
 simp at k0 k1 k2 k3
 obtain ⟨rfl,rfl⟩:=k0
 obtain ⟨rfl,rfl⟩:=k1
 obtain ⟨rfl,rfl⟩:=k2
 obtain ⟨rfl,rfl⟩:=k3
 rfl
section
theorem yq {H:Type} {P:Program} {ts:List TypeId} {ds:List (DataW H)} (h:(DataW.weightsEach P ts ds).all (· ≤ reachBytes)=true) {j:Nat} {t:TypeId} {d:DataW H} (ht:ts[j]?=some t) (hd:ds[j]?=some d):n9 P t d:=fun n hn=>by
 simpa using List.all_eq_true.1 h n (DataW.weights_mem_each ht hd n hn)

theorem tj {P:Program} {w:World} {r:Reach} {base:Nat} {t:TypeId} {v:Value} {tos:List (TypeId × Nat)} (ht:er P t=some tos) (hv:Value.okWide P w r base t v):∃cs:Array Value,v = .agg cs:=by
 unfold er at ht
 split at ht
 · rename_i fs hfs
   obtain ⟨cs,rfl,_⟩:=okWide_struct hfs hv
   exact ⟨cs,rfl⟩
 · cases ht

theorem sf30:er P_ 30=some [(28,0),(4,2)]:=by kernel_rfl
theorem sf95:er P_ 234=some [(28,0),(168,2)]:=by kernel_rfl
theorem sf26:er P_ 26=some [(3,0),(3,1),(3,2),(22,3),(22,4),(23,5),(24,6),(3,7),(3,8),(3,9),(3,10),(3,11),(3,12),(3,13),(3,14),(4,15)]:=by kernel_rfl
theorem un4b:P_.underlying 4=some .bool:=by kernel_rfl
theorem c4:P_.cellsOf 4=1:=by kernel_rfl
theorem c22:P_.cellsOf 22=1:=by kernel_rfl
theorem c23:P_.cellsOf 23=1:=by kernel_rfl
theorem c24:P_.cellsOf 24=1:=by kernel_rfl
theorem c26:P_.cellsOf 26=16:=by kernel_rfl
theorem c30:P_.cellsOf 30=3:=by kernel_rfl
theorem c57:P_.cellsOf 168=1:=by kernel_rfl
theorem c95:P_.cellsOf 234=3:=by kernel_rfl

section
variable {H:Type} {enc:TypeId × Value→H} {w:World} {base:Nat} {spare:Nat→Bool} {held:Bool}

theorem len2 {α:Type} {L:List α} (h:L.length=2):∃a b,L=[a,b]:=by
 match L,h with
 |[a,b],_=>exact ⟨a,b,rfl⟩
theorem len3 {α:Type} {L:List α} (h:L.length=3):∃a b c,L=[a,b,c]:=by
 match L,h with
 |[a,b,c],_=>exact ⟨a,b,c,rfl⟩

theorem zc {m:Nat} {cs:List Value} {y:DataW H × List MemPlace} (h:DataW.trod enc P_ w base spare held m 28 cs=some y):∃c:Cell,cs=bv.enc c∧Bd c.1∧Bd c.2:=by
 obtain ⟨hl,d⟩:=Dy sf28 h
 rw [c28]at hl
 obtain ⟨v0,v1,rfl⟩:=len2 hl
 obtain ⟨m0,z0,e0⟩:=d 0 _ _ rfl
 obtain ⟨m1,z1,e1⟩:=d 1 _ _ rfl
 rw [c3]at e0 e1
 obtain ⟨x0,f0,b0⟩:=ka un3i e0
 obtain ⟨x1,f1,b1⟩:=ka un3i e1
 simp at f0 f1
 subst f0 f1
 exact ⟨(x0,x1),rfl,b0,b1⟩
theorem Kz {m:Nat} {cs:List Value} {y:DataW H × List MemPlace} (h:DataW.trod enc P_ w base spare held m 30 cs=some y):∃p:Pose,cs=tg.enc p∧PB p:=by
 obtain ⟨hl,d⟩:=Dy sf30 h
 rw [c30]at hl
 obtain ⟨v0,v1,v2,rfl⟩:=len3 hl
 obtain ⟨m0,z0,e0⟩:=d 0 _ _ rfl
 obtain ⟨m1,z1,e1⟩:=d 1 _ _ rfl
 rw [c28]at e0
 rw [c4]at e1
 obtain ⟨c,f0,b0⟩:=zc e0
 obtain ⟨b,f1⟩:=Mt un4b e1
 simp [bv]at f0 f1
 obtain ⟨rfl,rfl⟩:=f0
 subst f1
 exact ⟨⟨c.1,c.2,b⟩,rfl,b0⟩

def RawOk (G:Hp) (r:Raw):Prop:=∃L:List Int,r.n=L.length∧Room L.length 8∧∀h,Dis G h→Sees icC G h (.slice r.a r.n r.c) L

theorem yd {n bytes:Nat} (h:n*bytes≤reachBytes) (hb:bytes≤40):Room n bytes:=by
 unfold Room
 rw [show reachBytes=140737488351232 from rfl]at h
 rw [Nat.add_mul,Nat.mul_assoc]
 have:192*bytes≤7680:=by omega
 omega

theorem raw_dec {m:Nat} {cs:List Value} {y:DataW H × List MemPlace} (h:DataW.trod enc P_ w base spare held m 234 cs=some y) (hw:n9 P_ 234 y.1):∃r:Raw,cs=rawC.enc r∧RawOk (ground w) r:=by
 obtain ⟨hl,d⟩:=Bm sf95 h hw
 rw [c95]at hl
 obtain ⟨v0,v1,v2,rfl⟩:=len3 hl
 obtain ⟨m0,z0,e0,_⟩:=d 0 _ _ rfl
 obtain ⟨m1,z1,e1,w1⟩:=d 1 _ _ rfl
 rw [c28]at e0
 rw [c57]at e1
 obtain ⟨c,f0,b0⟩:=zc e0
 obtain ⟨a,n,cap,L,f1,hL,hs,hg,_⟩:=pd icC (fun _=>True) Cm c3 (by decide) (fun _ _ _ h _=>let ⟨x,e,_⟩:=ka un3i h;⟨x,e,trivial⟩) e1 w1
 simp [bv]at f0 f1
 obtain ⟨rfl,rfl⟩:=f0
 subst f1
 rw [show P_.bytesOf 3=8 by kernel_rfl]at hs
 subst hL
 exact ⟨⟨c.1,c.2,a,L.length,cap⟩,rfl,L,rfl,yd hs (by decide),hg⟩

theorem len16 {α:Type} {L:List α} (h:L.length=16):∃a b c d e f g i j k l m n o p q,L=[a,b,c,d,e,f,g,i,j,k,l,m,n,o,p,q]:=by
 match L,h with
 |[a,b,c,d,e,f,g,i,j,k,l,m,n,o,p,q],_=>exact ⟨a,b,c,d,e,f,g,i,j,k,l,m,n,o,p,q,rfl⟩

theorem Xx {m:Nat} {cs:List Value} {y:DataW H × List MemPlace} (h:DataW.trod enc P_ w base spare held m 26 cs=some y) (hw:n9 P_ 26 y.1):
   ∃C:Conf,(∀h,Dis (ground w) h→CV (ground w) h (.agg cs.toArray) C)∧Fit0 C∧∀p∈C.ro,PB p:=by
 obtain ⟨hl,d⟩:=Bm sf26 h hw
 rw [c26]at hl
 obtain ⟨v0,v1,v2,v3,v4,v5,v6,v7,v8,v9,v10,v11,v12,v13,v14,v15,rfl⟩:=len16 hl
 obtain ⟨_,_,e0,_⟩:=d 0 _ _ rfl
 obtain ⟨_,_,e1,_⟩:=d 1 _ _ rfl
 obtain ⟨_,_,e2,_⟩:=d 2 _ _ rfl
 obtain ⟨_,_,e3,w3⟩:=d 3 _ _ rfl
 obtain ⟨_,_,e4,w4⟩:=d 4 _ _ rfl
 obtain ⟨_,_,e5,w5⟩:=d 5 _ _ rfl
 obtain ⟨_,_,e6,w6⟩:=d 6 _ _ rfl
 obtain ⟨_,_,e7,_⟩:=d 7 _ _ rfl
 obtain ⟨_,_,e8,_⟩:=d 8 _ _ rfl
 obtain ⟨_,_,e9,_⟩:=d 9 _ _ rfl
 obtain ⟨_,_,e10,_⟩:=d 10 _ _ rfl
 obtain ⟨_,_,e11,_⟩:=d 11 _ _ rfl
 obtain ⟨_,_,e12,_⟩:=d 12 _ _ rfl
 obtain ⟨_,_,e13,_⟩:=d 13 _ _ rfl
 obtain ⟨_,_,e14,_⟩:=d 14 _ _ rfl
 obtain ⟨_,_,e15,_⟩:=d 15 _ _ rfl
 simp only [c3,c4,c22,c23,c24]at e0 e1 e2 e3 e4 e5 e6 e7 e8 e9 e10 e11 e12 e13 e14 e15
 obtain ⟨x0,f0,_⟩:=ka un3i e0
 obtain ⟨x1,f1,_⟩:=ka un3i e1
 obtain ⟨x2,f2,_⟩:=ka un3i e2
 obtain ⟨ab,nb,cb,B,f3,hB,sB,gB,_⟩:=pd bv (fun _=>True) un22 c28 (by decide) (fun _ _ _ h _=>let ⟨x,e,_⟩:=zc h;⟨x,e,trivial⟩) e3 w3
 obtain ⟨ap,np,cp,PO,f4,hP,sP,gP,_⟩:=pd bv (fun _=>True) un22 c28 (by decide) (fun _ _ _ h _=>let ⟨x,e,_⟩:=zc h;⟨x,e,trivial⟩) e4 w4
 obtain ⟨ar,nr,cr,R,f5,hR,sR,gR,qR⟩:=pd tg PB un23 c30 (by decide) (fun _ _ _ h _=>Kz h) e5 w5
 obtain ⟨az,nz,cz,Z,f6,hZ,sZ,gZ,qZ⟩:=pd rawC (RawOk (ground w)) un24 c95 (by decide) (fun _ _ _ h hw=>raw_dec h hw) e6 w6
 obtain ⟨x7,f7,_⟩:=ka un3i e7
 obtain ⟨x8,f8,_⟩:=ka un3i e8
 obtain ⟨x9,f9,_⟩:=ka un3i e9
 obtain ⟨x10,f10,_⟩:=ka un3i e10
 obtain ⟨x11,f11,_⟩:=ka un3i e11
 obtain ⟨x12,f12,_⟩:=ka un3i e12
 obtain ⟨x13,f13,_⟩:=ka un3i e13
 obtain ⟨x14,f14,_⟩:=ka un3i e14
 obtain ⟨x15,f15⟩:=Mt un4b e15
 simp at f0 f1 f2 f3 f4 f5 f6 f7 f8 f9 f10 f11 f12 f13 f14 f15
 subst f0 f1 f2 f3 f4 f5 f6 f7 f8 f9 f10 f11 f12 f13 f14 f15
 subst hB hP hR hZ
 rw [show P_.bytesOf 28=16 by kernel_rfl]at sB sP
 rw [show P_.bytesOf 30=24 by kernel_rfl]at sR
 rw [show P_.bytesOf 234=40 by kernel_rfl]at sZ
 obtain ⟨S,hS,qS⟩:=Ir (Q:=fun i (s:Cell × List Int)=>∀r,Z[i]?=some r→(r.x,r.y)=s.1∧r.n=s.2.length∧Room s.2.length 8∧∀h,Dis (ground w) h→Sees icC (ground w) h (.slice r.a s.2.length r.c) s.2) Z.length (fun i hi=>by
   obtain ⟨L,e,rm,se⟩:=qZ _ (List.getElem_mem hi)
   refine ⟨((Z[i].x,Z[i].y),L),fun r hr=>?_⟩
   rw [List.getElem?_eq_getElem hi]at hr
   cases hr
   exact ⟨rfl,e,rm,fun h d=>by rw [← e];exact se h d⟩)
 refine ⟨⟨x0,x1,x2,B,PO,R,S,x7,x8,x9,x10,x11,x12,x13,x14,x15⟩,fun h d=>⟨ab,cb,ap,cp,ar,cr,az,cz,by simp only [Mw,hS],gB h d,gP h d,gR h d,Z,by show Sees rawC _ h (.slice az S.length cz) Z;rw [hS];exact gZ h d,fun i r s hr hs=>?_⟩,⟨yd sB (by decide),yd sP (by decide),yd sR (by decide),by show Room S.length 40;rw [hS];exact yd sZ (by decide),fun s hs=>?_⟩,qR⟩
 · obtain ⟨a,b,c,e⟩:=qS i s hs r hr
   exact ⟨a,b,e h d⟩
 · obtain ⟨i,hi⟩:=List.getElem?_of_mem hs
   have hi2:i<Z.length:=by rw [← hS];exact (List.getElem?_eq_some_iff.1 hi).1
   exact (qS i s hi _ (List.getElem?_eq_getElem hi2)).2.2.1

theorem K3 {r:Reach} {b0:Nat} {v:Value} {d:DataW H} {ps:List MemPlace} (k:Value.okWide P_ w r b0 30 v) (h:DataW.Trod enc P_ w base spare held 30 v d ps):∃p:Pose,v=jn p∧PB p:=by
 obtain ⟨cs,rfl⟩:=tj sf30 k
 obtain ⟨m,h⟩:=h
 obtain ⟨c,e,b⟩:=Kz (cs:=cs.toList) h
 exact ⟨c,by rw [← Array.toArray_toList (xs:=cs),e];rfl,b⟩
theorem int_arg {r:Reach} {b0:Nat} {v:Value} {d:DataW H} {ps:List MemPlace} (k:Value.okWide P_ w r b0 3 v) (h:DataW.Trod enc P_ w base spare held 3 v d ps):∃n:Int,v = .int .i64 n∧Bd n:=by
 obtain ⟨n,rfl,rfl,rfl,wf⟩:=open_int un3i k h
 exact ⟨n,rfl,by simpa [Lit.wf,IntKind.min,IntKind.max,IntKind.signed,IntKind.bits,Bd]using wf⟩
theorem Xy {r:Reach} {b0:Nat} {v:Value} {d:DataW H} {ps:List MemPlace} (k:Value.okWide P_ w r b0 26 v) (h:DataW.Trod enc P_ w base spare held 26 v d ps) (hl:n9 P_ 26 d):
   ∃C:Conf,(∀h,Dis (ground w) h→CV (ground w) h v C)∧Fit0 C∧∀p∈C.ro,PB p:=by
 obtain ⟨cs,rfl⟩:=tj sf26 k
 obtain ⟨m,h⟩:=h
 obtain ⟨C,hC,f,hp⟩:=Xx (cs:=cs.toList) h hl
 exact ⟨C,fun h d=>by simpa using hC h d,f,hp⟩
end
end
end Go.Proofs.YtfflipnhffknnaaGreatDoor
end

/- Texts of the proof, one behind the other. -/
import Derived.Test.YtfflipnhffknnaaGreatDoorEM1
import Derived.Test.YtfflipnhffknnaaGreatDoorEM4
import Derived.Test.YtfflipnhffknnaaGreatDoorEM3
import Derived.Test.YtfflipnhffknnaaGreatDoorEH4
import Derived.Test.YtfflipnhffknnaaGreatDoorEH3
set_option linter.unusedVariables false
set_option linter.unusedSimpArgs false
set_option linter.unusedSectionVars false
set_option maxRecDepth 100000
set_option maxHeartbeats 4000000
set_option linter.defProp false
section
namespace Go.Proofs.Srch
open Go.Proofs.Resv
section
variable {P M:Type} [DecidableEq P]
inductive Rc (E:Env P M) (p0:P) (t0:Int):P->Nat->Int->Prop where
 |start {i:Nat} (h:inside (E.spans p0) t0=some i):Rc E p0 t0 p0 i t0
 |step {p:P} {i j:Nat} {t b:Int} {s0 s:Sp} {w:M × P × Int × List Sp} (h:Rc E p0 t0 p i t) (h0:(E.spans p)[i]?=some s0) (hw:w∈E.ways p) (hs:s∈w.2.2.2) (h1:s0.1<=s.1) (h2:s.2<=s0.2)
  (hb:t<=b) (hb2:s.1<=b) (he:sumI b w.2.2.1<=s.2) (he2:sumI b w.2.2.1<FV) (hj:inside (E.spans w.2.1) (sumI b w.2.2.1)=some j):Rc E p0 t0 w.2.1 j (sumI b w.2.2.1)
structure Ci (E:Env P M):Prop where
 ris:∀p,Ris (E.spans p)
 wris:∀p,∀w∈E.ways p,Ris w.2.2.2
 sub:∀p,∀w∈E.ways p,∀s∈w.2.2.2,∃s'∈E.spans w.2.1,s'.1<=s.1/\s.2<=s'.2
variable {E:Env P M}
theorem Ea {l:List Sp} (h:Ris l) {t:Int} {i:Nat} {s:Sp} (hs:l[i]?=some s) (h1:s.1<=t) (h2:t<s.2):inside l t=some i:=by
 unfold inside
 rw [List.findIdx?_eq_some_iff_getElem]
 obtain ⟨hi,rfl⟩:=List.getElem?_eq_some_iff.1 hs
 refine ⟨hi,by simp [insB,h1,h2],fun j hj=>?_⟩
 have:=List.pairwise_iff_getElem.1 h.pw j i (by omega) hi hj
 simp [insB]
 intro _
 omega
theorem ris_one {l:List Sp} (h:Ris l) {i j:Nat} {s u:Sp} (hs:l[i]?=some s) (hu:l[j]?=some u) {t:Int} (h1:s.1<=t) (h2:t<=s.2) (h3:u.1<=t) (h4:t<=u.2):i=j:=by
 obtain ⟨hi,rfl⟩:=List.getElem?_eq_some_iff.1 hs
 obtain ⟨hj,rfl⟩:=List.getElem?_eq_some_iff.1 hu
 rcases Nat.lt_trichotomy i j with h5|h5|h5
 . have:=List.pairwise_iff_getElem.1 h.pw i j hi hj h5;omega
 . exact h5
 . have:=List.pairwise_iff_getElem.1 h.pw j i hj hi h5;omega
theorem ag3 {a b d:Int} (h:a<=b):sumI a d<=sumI b d:=by
 unfold sumI cutI FV
 split<;>split<;>omega
theorem Uv (r:Ci E) {p:P} {w:M × P × Int × List Sp} (hw:w∈E.ways p) {s:Sp} (hs:s∈w.2.2.2) {e e':Int} {j:Nat} (hj:inside (E.spans w.2.1) e=some j) (h1:s.1<=e') (h2:e'<=e) (h3:e<=s.2):inside (E.spans w.2.1) e'=some j:=by
 obtain ⟨s',hs',h4,h5⟩:=r.sub p w hw s hs
 obtain ⟨i,hi,rfl⟩:=List.getElem_of_mem hs'
 obtain ⟨u,hu,h6,h7,_⟩:=E7 hj
 have:=ris_one (r.ris w.2.1) (List.getElem?_eq_getElem hi) hu (t:=e) (by omega) (by omega) h6 (by omega)
 subst this
 rw [List.getElem?_eq_getElem hi]at hu
 cases hu
 exact Ea (r.ris w.2.1) (List.getElem?_eq_getElem hi) (by omega) (by omega)
def Up (S S':List (St P M)):Prop:=∀x∈S,∃x'∈S',x'.p=x.p/\x'.i=x.i/\x'.a<=x.a/\(x.dn=true->x'=x)
theorem Up.refl (S:List (St P M)):Up S S:=fun x hx=>⟨x,hx,rfl,rfl,Int.le_refl _,fun _=>rfl⟩
theorem Up.trans {S S' S'':List (St P M)} (a:Up S S') (b:Up S' S''):Up S S'':=fun x hx=>by
 obtain ⟨y,hy,e1,e2,e3,e4⟩:=a x hx
 obtain ⟨z,hz,f1,f2,f3,f4⟩:=b y hy
 refine ⟨z,hz,f1.trans e1,f2.trans e2,by omega,fun hd=>?_⟩
 have:=e4 hd;subst this
 exact f4 hd
theorem Oc {p0:P} {t0 lo:Int} {z:M} {S:List (St P M)} (v:Inv E p0 t0 z lo S) {p:P} {t:Int} {m:M} {b:Int} (hlo:lo<=t):Up S (note E S p t m b)/\∀x∈note E S p t m b,x.dn=true->x∈S:=by
 unfold note
 split
 . unfold wz
   split
   . rename_i k hk
     obtain ⟨x,hx,e1,e2⟩:=sk hk
     simp only [hx]
     split
     . rename_i hlt
       have hkl:k<S.length:=(List.getElem?_eq_some_iff.1 hx).1
       have hxe:S[k]=x:=(List.getElem?_eq_some_iff.1 hx).2
       have hnd:x.dn=false:=by
        cases hd:x.dn with
        |false=>rfl
        |true=>have:=v.dn x (List.mem_of_getElem? hx) hd;omega
       refine ⟨fun y hy=>?_,fun y hy hd=>?_⟩
       . obtain ⟨j,hj,rfl⟩:=List.getElem_of_mem hy
         by_cases hjk:j=k
         . subst hjk
           rw [hxe]
           refine ⟨{ x with a:=t,mv:=m,b:=b },List.mem_of_getElem? (i:=j) (by rw [List.getElem?_set_self hkl]),rfl,rfl,Int.le_of_lt hlt,fun hd=>?_⟩
           rw [hnd]at hd;cases hd
         . exact ⟨_,List.mem_of_getElem? (by rw [List.getElem?_set_ne (Ne.symm hjk)];exact List.getElem?_eq_getElem hj),rfl,rfl,Int.le_refl _,fun _=>rfl⟩
       . rcases List.mem_or_eq_of_mem_set hy with h|rfl
         . exact h
         . rw [hnd]at hd;cases hd
     . exact ⟨.refl _,fun _ h _=>h⟩
   . refine ⟨fun y hy=>⟨y,List.mem_append_left _ hy,rfl,rfl,Int.le_refl _,fun _=>rfl⟩,fun y hy hd=>?_⟩
     rcases List.mem_append.1 hy with h|h
     . exact h
     . rw [List.mem_singleton]at h;subst h;cases hd
 . exact ⟨.refl _,fun _ h _=>h⟩
theorem Ri {S:List (St P M)} {p:P} {t:Int} {m:M} {b:Int} {j:Nat} (hj:inside (E.spans p) t=some j):∃y∈note E S p t m b,y.p=p/\y.i=j/\y.a<=t:=by
 unfold note
 rw [hj]
 simp only
 unfold wz
 cases hk:key S p j with
 |none=>exact ⟨_,List.mem_append_right _ (.head _),rfl,rfl,Int.le_refl _⟩
 |some k=>
  obtain ⟨x,hx,e1,e2⟩:=sk hk
  have hkl:k<S.length:=(List.getElem?_eq_some_iff.1 hx).1
  simp only [hx]
  split
  . exact ⟨{ x with a:=t,mv:=m,b:=b },List.mem_of_getElem? (i:=k) (by rw [List.getElem?_set_self hkl]),e1,e2,Int.le_refl _⟩
  . exact ⟨x,List.mem_of_getElem? hx,e1,e2,by omega⟩
def Ka (E:Env P M) (S:List (St P M)) (x:St P M) (w:M × P × Int × List Sp) (s:Sp):Prop:=
 x.s.1<=s.1->s.2<=x.s.2->sumI (max x.a s.1) w.2.2.1<=s.2->sumI (max x.a s.1) w.2.2.1<FV->∀j,inside (E.spans w.2.1) (sumI (max x.a s.1) w.2.2.1)=some j->∃y∈S,y.p=w.2.1/\y.i=j/\y.a<=sumI (max x.a s.1) w.2.2.1
theorem Ka.up {S S':List (St P M)} {x:St P M} {w:M × P × Int × List Sp} {s:Sp} (n:Ka E S x w s) (u:Up S S'):Ka E S' x w s:=fun h1 h2 h3 h4 j hj=>by
 obtain ⟨y,hy,e1,e2,e3⟩:=n h1 h2 h3 h4 j hj
 obtain ⟨z,hz,f1,f2,f3,_⟩:=u y hy
 exact ⟨z,hz,f1.trans e1,f2.trans e2,by omega⟩
structure Cl (E:Env P M) (p0:P) (t0:Int) (S:List (St P M)):Prop where
 start:∀i,inside (E.spans p0) t0=some i->∃x∈S,x.p=p0/\x.i=i/\x.a<=t0
 closed:∀x∈S,x.dn=true->∀w∈E.ways x.p,∀s∈w.2.2.2,Ka E S x w s
theorem step_up (ok:qf E) {p0:P} {t0:Int} {z:M} {S:List (St P M)} {x:St P M} {k:Nat} (v:Inv E p0 t0 z x.a S) (ha:0<=x.a) {w:M × P × Int × List Sp} (hw:w∈E.ways x.p) {s:Sp}:
 Up S (ii E x k w S s)/\(∀y∈ii E x k w S s,y.dn=true->y∈S)/\Ka E (ii E x k w S s) x w s:=by
 unfold ii
 split
 . rename_i h;exact ⟨.refl _,fun _ h _=>h,fun h1 h2=>by omega⟩
 . split
   . rename_i h;exact ⟨.refl _,fun _ h _=>h,fun h1 h2 h3 h4=>by omega⟩
   . rename_i h1 h2
     have h4:=Gl (show 0<=max x.a s.1 by omega) (ok.lasts _ w hw).1 (by omega)
     have:=Oc v (p:=w.2.1) (t:=sumI (max x.a s.1) w.2.2.1) (m:=E.stamp w.1 (max x.a s.1) (sumI (max x.a s.1) w.2.2.1)) (b:=k) (by omega)
     exact ⟨this.1,this.2,fun _ _ _ _ j hj=>Ri hj⟩
theorem af7 (ok:qf E) {p0:P} {t0:Int} {z:M} {x:St P M} {k:Nat} (hd:x.dn=true) (ha:0<=x.a) (hox:E.ok x.p) {w:M × P × Int × List Sp} (hw:w∈E.ways x.p):∀(l:List Sp) {S:List (St P M)},(∀s∈l,s∈w.2.2.2)->Inv E p0 t0 z x.a S->S[k]?=some x->
 Up S (l.foldl (ii E x k w) S)/\(∀y∈l.foldl (ii E x k w) S,y.dn=true->y∈S)/\∀s∈l,Ka E (l.foldl (ii E x k w) S) x w s
 |[],S,_,v,hx=>⟨.refl _,fun _ h _=>h,fun _ h=>by cases h⟩
 |s::l,S,hl,v,hx=>by
  obtain ⟨v1,h1⟩:=Gn ok v hx hd ha hox hw (hl s (.head _))
  obtain ⟨u1,d1,n1⟩:=step_up ok (k:=k) v ha hw (s:=s)
  obtain ⟨u2,d2,n2⟩:=af7 ok hd ha hox hw l (fun s hs=>hl s (.tail _ hs)) v1 h1
  refine ⟨u1.trans u2,fun y hy hyd=>d1 y (d2 y hy hyd) hyd,fun u hu=>?_⟩
  rcases List.mem_cons.1 hu with rfl|hu
  . exact n1.up u2
  . exact n2 u hu
theorem V7 (ok:qf E) {p0:P} {t0:Int} {z:M} {x:St P M} {k:Nat} (hd:x.dn=true) (ha:0<=x.a) (hox:E.ok x.p):∀(l:List (M × P × Int × List Sp)) {S:List (St P M)},(∀w∈l,w∈E.ways x.p)->Inv E p0 t0 z x.a S->S[k]?=some x->
 Up S (l.foldl (tc E x k) S)/\(∀y∈l.foldl (tc E x k) S,y.dn=true->y∈S)/\∀w∈l,∀s∈w.2.2.2,Ka E (l.foldl (tc E x k) S) x w s
 |[],S,_,v,hx=>⟨.refl _,fun _ h _=>h,fun _ h=>by cases h⟩
 |w::l,S,hl,v,hx=>by
  obtain ⟨v1,h1⟩:=Ns ok hd ha hox (hl w (.head _)) w.2.2.2 (fun _ h=>h) v hx
  obtain ⟨u1,d1,n1⟩:=af7 ok (k:=k) hd ha hox (hl w (.head _)) w.2.2.2 (fun _ h=>h) v hx
  obtain ⟨u2,d2,n2⟩:=V7 ok hd ha hox l (fun w hw=>hl w (.tail _ hw)) v1 h1
  refine ⟨u1.trans u2,fun y hy hyd=>d1 y (d2 y hy hyd) hyd,fun u hu=>?_⟩
  rcases List.mem_cons.1 hu with rfl|hu
  . exact fun s hs=>(n1 s hs).up u2
  . exact n2 u hu
theorem take_up {S:List (St P M)} {k:Nat} {x:St P M} (hx:S[k]?=some x) (hnd:x.dn=false):(∀y∈S,∃y'∈take S k x,y'.p=y.p/\y'.i=y.i/\y'.a<=y.a)/\∀y∈take S k x,y.dn=true->y∈S\/y={ x with dn:=true }:=by
 have hkl:k<S.length:=(List.getElem?_eq_some_iff.1 hx).1
 have hxe:S[k]=x:=(List.getElem?_eq_some_iff.1 hx).2
 unfold take
 refine ⟨fun y hy=>?_,fun y hy hd=>?_⟩
 . obtain ⟨j,hj,rfl⟩:=List.getElem_of_mem hy
   by_cases hjk:j=k
   . subst hjk
     rw [hxe]
     exact ⟨{ x with dn:=true },List.mem_of_getElem? (i:=j) (by rw [List.getElem?_set_self hkl]),rfl,rfl,Int.le_refl _⟩
   . exact ⟨_,List.mem_of_getElem? (by rw [List.getElem?_set_ne (Ne.symm hjk)];exact List.getElem?_eq_getElem hj),rfl,rfl,Int.le_refl _⟩
 . rcases List.mem_or_eq_of_mem_set hy with h|h
   . exact .inl h
   . exact .inr h
theorem ai1 (ok:qf E) {p0:P} {t0 lo:Int} {z:M} {S:List (St P M)} (v:Inv E p0 t0 z lo S) (c:Cl E p0 t0 S) {k:Nat} {x:St P M} (h:least E S=some (k,x)):
 Inv E p0 t0 z x.a (zc E { x with dn:=true } k (take S k x))/\Cl E p0 t0 (zc E { x with dn:=true } k (take S k x))/\
  (∀y∈zc E { x with dn:=true } k (take S k x),y.dn=true->y∈S\/y={ x with dn:=true }):=by
 obtain ⟨hx,hnd,_⟩:=sj h
 have hxm:=List.mem_of_getElem? hx
 obtain ⟨v1,h1⟩:=Gi v h
 have ha:0<=x.a:=by
  obtain ⟨e1,e2,e3⟩:=v.at_ x hxm
  have:=ok.pos x.p x.s (List.mem_of_getElem? e1)
  omega
 have hox:=v.ok x hxm
 obtain ⟨v2,_⟩:=Gd ok (x:={ x with dn:=true }) rfl ha hox (E.ways x.p) (fun _ h=>h) v1 h1
 obtain ⟨u2,d2,n2⟩:=V7 ok (x:={ x with dn:=true }) rfl ha hox (E.ways x.p) (fun _ h=>h) v1 h1
 obtain ⟨u1,d1⟩:=take_up hx hnd
 refine ⟨v2,⟨fun i hi=>?_,fun y hy hd w hw s hs=>?_⟩,fun y hy hd=>d1 y (d2 y hy hd) hd⟩
 . obtain ⟨y,hy,e1,e2,e3⟩:=c.start i hi
   obtain ⟨y1,hy1,f1,f2,f3⟩:=u1 y hy
   obtain ⟨y2,hy2,g1,g2,g3,_⟩:=u2 y1 hy1
   exact ⟨y2,hy2,by rw [g1,f1,e1],by rw [g2,f2,e2],by omega⟩
 . rcases d1 y (d2 y hy hd) hd with h3|rfl
   . intro q1 q2 q3 q4 j hj
     obtain ⟨u,hu,e1,e2,e3⟩:=c.closed y h3 hd w hw s hs q1 q2 q3 q4 j hj
     obtain ⟨y1,hy1,f1,f2,f3⟩:=u1 u hu
     obtain ⟨y2,hy2,g1,g2,g3,_⟩:=u2 y1 hy1
     exact ⟨y2,hy2,by rw [g1,f1,e1],by rw [g2,f2,e2],by omega⟩
   . exact n2 w hw s hs
theorem Q4 (ok:qf E) (r:Ci E) {p0:P} {t0 lo:Int} {z:M} {S:List (St P M)} (v:Inv E p0 t0 z lo S) (c:Cl E p0 t0 S) {p:P} {i:Nat} {t:Int} (h:Rc E p0 t0 p i t):
 (∃x∈S,x.p=p/\x.i=i/\x.dn=true/\x.a<=t)\/∃y∈S,y.dn=false/\y.a<=t:=by
 induction h with
 |@start i h=>
  obtain ⟨x,hx,e1,e2,e3⟩:=c.start i h
  cases hd:x.dn with
  |true=>exact .inl ⟨x,hx,e1,e2,hd,e3⟩
  |false=>exact .inr ⟨x,hx,hd,e3⟩
 |@step p i j t b s0 s w h h0 hw hs h1 h2 hb hb2 he he2 hj ih=>
  have hb0:0<=b:=by have:=(r.wris p w hw).bd s hs;omega
  have hlt:=Gl hb0 (ok.lasts _ w hw).1 he2
  rcases ih with ⟨x,hx,rfl,rfl,hd,e3⟩|⟨y,hy,hd,e⟩
  . have hxs:x.s=s0:=by have:=(v.at_ x hx).1;rw [h0]at this;exact (Option.some.inj this).symm
    have hm:sumI (max x.a s.1) w.2.2.1<=sumI b w.2.2.1:=ag3 (by omega)
    have hx0:0<=max x.a s.1:=by have:=(r.wris _ w hw).bd s hs;omega
    have hlt2:=Gl hx0 (ok.lasts _ w hw).1 (show sumI (max x.a s.1) w.2.2.1<FV by omega)
    have hj':=Uv r hw hs hj (e':=sumI (max x.a s.1) w.2.2.1) (by omega) hm he
    obtain ⟨y,hy,f1,f2,f3⟩:=c.closed x hx hd w hw s hs (by rw [hxs];exact h1) (by rw [hxs];exact h2) (by omega) (by omega) j hj'
    cases hd2:y.dn with
    |true=>exact .inl ⟨y,hy,f1,f2,hd2,by omega⟩
    |false=>exact .inr ⟨y,hy,hd2,by omega⟩
  . exact .inr ⟨y,hy,hd,by omega⟩
theorem Wh (ok:qf E) (r:Ci E) {p0:P} {t0:Int} {z:M} {goal:P->Sp->Bool}:∀(n:Nat) {lo:Int} {S:List (St P M)},Inv E p0 t0 z lo S->Cl E p0 t0 S->(∀x∈S,x.dn=true->goal x.p x.s=false)->
 (∃lo' S' k x f,run E goal n S = .ok (path S' f k [])/\S'.length=f/\Inv E p0 t0 z lo' S'/\S'[k]?=some x/\goal x.p x.s=true/\∀p i t s,Rc E p0 t0 p i t->(E.spans p)[i]?=some s->goal p s=true->x.a<=t)\/
 (run E goal n S = .no 6/\∀p i t s,Rc E p0 t0 p i t->(E.spans p)[i]?=some s->goal p s=false)\/run E goal n S = .no 7
 |0,lo,S,v,c,g => .inr (.inr rfl)
 |n+1,lo,S,v,c,g=>by
  unfold run
  cases h:least E S with
  |none=>
   refine .inr (.inl ⟨rfl,fun p i t s hr hs=>?_⟩)
   have hall:=Hi h
   rcases Q4 ok r v c hr with ⟨x,hx,rfl,rfl,hd,_⟩|⟨y,hy,hd,_⟩
   . have:=(v.at_ x hx).1
     rw [hs]at this
     rw [Option.some.inj this]
     exact g x hx hd
   . rw [hall y hy]at hd;cases hd
  |some q=>
   obtain ⟨k,x⟩:=q
   simp only
   obtain ⟨hx,hnd,hmin⟩:=sj h
   by_cases hg:goal x.p x.s=true
   . rw [if_pos hg]
     obtain ⟨v1,h1⟩:=Gi v h
     refine .inl ⟨_,take S k x,k,_,S.length,rfl,by simp [take],v1,h1,hg,fun p i t s hr hs hgs=>?_⟩
     rcases Q4 ok r v c hr with ⟨y,hy,rfl,rfl,hd,_⟩|⟨y,hy,hd,hle⟩
     . have:=(v.at_ y hy).1
       rw [hs]at this
       rw [Option.some.inj this,g y hy hd]at hgs
       cases hgs
     . have:=hmin y hy hd
       unfold ltK at this
       simp only [decide_eq_false_iff_not]at this
       simp only
       omega
   . rw [if_neg hg]
     obtain ⟨v2,c2,d2⟩:=ai1 ok v c h
     rcases Wh ok r n v2 c2 (fun y hy hd=>by
      rcases d2 y hy hd with h3|rfl
      . exact g y h3 hd
      . simpa using hg)with h|h|h
     . exact .inl h
     . exact .inr (.inl h)
     . exact .inr (.inr h)
theorem Zr (ok:qf E) {p0:P} {t0:Int} {z:M} (hok:E.ok p0):Inv E p0 t0 z t0 (note E [] p0 t0 z (-1))/\Cl E p0 t0 (note E [] p0 t0 z (-1))/\∀x∈note E [] p0 t0 z (-1),x.dn=false:=by
 refine ⟨He (Inv.start _ _ _ _) (Int.le_refl _) hok (.inl ⟨rfl,rfl,rfl,rfl⟩),⟨fun i hi=>Ri hi,fun x hx hd=>?_⟩,fun x hx=>?_⟩
 . have:=(Oc (Inv.start (E:=E) p0 t0 z t0) (p:=p0) (t:=t0) (m:=z) (b := -1) (Int.le_refl _)).2 x hx hd
   cases this
 . cases hd:x.dn with
   |false=>rfl
   |true=>
    have:=(Oc (Inv.start (E:=E) p0 t0 z t0) (p:=p0) (t:=t0) (m:=z) (b := -1) (Int.le_refl _)).2 x hx hd
    cases this
theorem an0 (ok:qf E) (r:Ci E) {p0:P} {t0:Int} {z:M} {goal:P->Sp->Bool} (hok:E.ok p0) (n:Nat):
 (find E goal p0 t0 z n = .no 18/\inside (E.spans p0) t0=none)\/((inside (E.spans p0) t0).isSome=true/\
 ((∃lo' S' k x,find E goal p0 t0 z n = .ok (path S' S'.length k [])/\Inv E p0 t0 z lo' S'/\S'[k]?=some x/\goal x.p x.s=true/\∀p i t s,Rc E p0 t0 p i t->(E.spans p)[i]?=some s->goal p s=true->x.a<=t)\/
 (find E goal p0 t0 z n = .no 6/\∀p i t s,Rc E p0 t0 p i t->(E.spans p)[i]?=some s->goal p s=false)\/find E goal p0 t0 z n = .no 7)):=by
 unfold find
 cases h:inside (E.spans p0) t0 with
 |none=>exact .inl ⟨rfl,rfl⟩
 |some i=>
  refine .inr ⟨rfl,?_⟩
  obtain ⟨v,c,d⟩:=Zr ok (t0:=t0) (z:=z) hok
  rcases Wh ok r (goal:=goal) n v c (fun x hx hd=>by rw [d x hx]at hd;cases hd)with ⟨lo',S',k,x,f,h1,rfl,h2⟩|h|h
  . exact .inl ⟨lo',S',k,x,h1,h2⟩
  . exact .inr (.inl h)
  . exact .inr (.inr h)
end
end Go.Proofs.Srch
end
section
namespace Go.Proofs.Wt
structure It where
 k:Int
 m:Int
 s:Int
 n:Int
def It.b4 (x y:It):Bool:=decide (x.k<y.k\/(x.k=y.k/\(x.m<y.m\/(x.m=y.m/\x.s<y.s))))
def It.lt (x y:It):Bool:=if x.b4 y=true then true else if y.b4 x=true then false else decide (x.n<y.n)
def nx (L:List It) (i j:Nat):List It:=match L[i]?,L[j]? with
 |some x,some y=>(L.set i y).set j x
 |_,_=>L
theorem df (L:List It) (i j:Nat):(nx L i j).length=L.length:=by
 unfold nx
 split<;>simp
def ra (L:List It) (i j:Nat):Bool:=match L[i]?,L[j]? with
 |some x,some y=>x.lt y
 |_,_=>false
def kc (L:List It) (i:Nat):List It:=if h:0<i/\ra L i ((i-1) / 2)=true then kc (nx L i ((i-1) / 2)) ((i-1) / 2)else L
 termination_by i
 decreasing_by omega
theorem ug (L:List It) (i:Nat):(kc L i).length=L.length:=by
 induction i using Nat.strongRecOn generalizing L with
 |_ i ih=>
  rw [kc]
  split
  . rw [ih _ (by omega),df]
  . rfl
def il (L:List It) (first k:Nat):Nat:=if k<L.length/\ra L k first=true then k else first
def lu (L:List It) (i:Nat):Nat:=il L (il L i (2*i+1)) (2*i+2)
theorem zz (L:List It) (f k:Nat):il L f k=f\/(il L f k=k/\k<L.length):=by
 unfold il
 split
 . rename_i h;exact .inr ⟨rfl,h.1⟩
 . exact .inl rfl
theorem nl (L:List It) (i:Nat):lu L i=i\/(i<lu L i/\lu L i<L.length):=by
 unfold lu
 rcases zz L (il L i (2*i+1)) (2*i+2)with h|⟨h,h2⟩
 . rw [h]
   rcases zz L i (2*i+1)with h|⟨h,h2⟩
   . exact .inl h
   . rw [h];exact .inr ⟨by omega,h2⟩
 . rw [h];exact .inr ⟨by omega,h2⟩
def ja (L:List It) (i:Nat):List It:=if h:lu L i=i then L else ja (nx L i (lu L i)) (lu L i)
 termination_by L.length-i
 decreasing_by
 rw [df]
 have:=(nl L i).resolve_left h
 omega
theorem wv (L:List It) (i:Nat):(ja L i).length=L.length:=by
 have key:∀m L i,L.length-i<=m->(ja L i).length=L.length:=by
  intro m
  induction m with
  |zero=>
   intro L i hm
   rw [ja]
   split
   . rfl
   . rename_i h;have:=(nl L i).resolve_left h;omega
  |succ m ih=>
   intro L i hm
   rw [ja]
   split
   . rfl
   . rename_i h
     have:=(nl L i).resolve_left h
     rw [ih _ _ (by rw [df];omega),df]
 exact key _ L i (Nat.le_refl _)
def popL (L:List It):List It:=ja ((nx L 0 (L.length-1)).dropLast) 0
theorem yp (L:List It):(popL L).length=L.length-1:=by
 unfold popL
 rw [wv,List.length_dropLast,df]
theorem al6 (L:List It) (x:It) (h:L≠[]):L.set (L.length-1) x=L.dropLast++[x]:=by
 rw [List.set_eq_take_append_cons_drop,if_pos (by have:=List.length_pos_iff.2 h;omega),List.dropLast_eq_take]
 have:0<L.length:=List.length_pos_iff.2 h
 rw [show L.length-1+1=L.length by omega,List.drop_length]
theorem al1 {x y:It}:x.lt y=true↔x.k<y.k\/(x.k=y.k/\(x.m<y.m\/(x.m=y.m/\(x.s<y.s\/(x.s=y.s/\x.n<y.n))))):=by
 unfold It.lt It.b4
 simp only [decide_eq_true_eq]
 split
 . simp;omega
 . split
   . simp;omega
   . simp;omega
def It.le (x y:It):Prop:=y.lt x=false
theorem Oj {x y:It}:x.le y↔x.k<y.k\/(x.k=y.k/\(x.m<y.m\/(x.m=y.m/\(x.s<y.s\/(x.s=y.s/\x.n<=y.n))))):=by
 unfold It.le
 rw [Bool.eq_false_iff,ne_eq,al1]
 omega
theorem It.le.trans {x y z:It} (a:x.le y) (b:y.le z):x.le z:=by
 rw [Oj]at *;omega
theorem It.le.refl (x:It):x.le x:=by rw [Oj];omega
theorem le_of_lt {x y:It} (a:x.lt y=true):x.le y:=by rw [Oj];rw [al1]at a;omega
def at_ (L:List It) (i:Nat):It:=L.getD i ⟨0,0,0,0⟩
theorem Pf {L:List It} {i:Nat} (h:i<L.length):L[i]?=some (at_ L i):=by
 unfold at_
 rw [List.getD_eq_getElem?_getD,List.getElem?_eq_getElem h]
 rfl
theorem Dj {L:List It} {i j:Nat} (hi:i<L.length) (hj:j<L.length):ra L i j=(at_ L i).lt (at_ L j):=by
 simp [ra,Pf hi,Pf hj]
theorem p8 {L:List It} {i j:Nat} (hi:i<L.length) (hj:j<L.length) (k:Nat):at_ (nx L i j) k=if k=j then at_ L i else if k=i then at_ L j else at_ L k:=by
 unfold nx
 rw [Pf hi,Pf hj]
 simp only
 unfold at_
 simp only [List.getD_eq_getElem?_getD]
 by_cases h1:k=j
 . subst h1;rw [if_pos rfl,List.getElem?_set_self (by simpa using hj)];rfl
 . rw [if_neg h1,List.getElem?_set_ne (Ne.symm h1)]
   by_cases h2:k=i
   . subst h2;rw [if_pos rfl,List.getElem?_set_self hi];rfl
   . rw [if_neg h2,List.getElem?_set_ne (Ne.symm h2)]
theorem Dy (L:List It) (i j:Nat):(nx L i j).Perm L:=by
 unfold nx
 split
 . rename_i x y hx hy
   obtain ⟨hi,rfl⟩:=List.getElem?_eq_some_iff.1 hx
   obtain ⟨hj,rfl⟩:=List.getElem?_eq_some_iff.1 hy
   exact List.set_set_perm hi hj
 . exact .refl _
def wb (L:List It):Prop:=∀j,0<j->j<L.length->(at_ L ((j-1) / 2)).le (at_ L j)
def upOk (L:List It) (i:Nat):Prop:=(∀j,0<j->j<L.length->j≠i->(at_ L ((j-1) / 2)).le (at_ L j))/\
 (∀j,0<j->j<L.length->(j-1) / 2=i->0<i->(at_ L ((i-1) / 2)).le (at_ L j))
theorem Zw:∀(i:Nat) (L:List It),i<L.length->upOk L i->wb (kc L i):=by
 intro i
 induction i using Nat.strongRecOn with
 |_ i ih=>
  intro L hi ⟨h1,h2⟩
  rw [kc]
  split
  . rename_i h
    obtain ⟨h0,ha⟩:=h
    have hp:(i-1) / 2<L.length:=by omega
    rw [Dj hi hp]at ha
    refine ih _ (by omega) _ (by rw [df];exact hp) ⟨?_,?_⟩
    . intro j j0 jl jne
      rw [df]at jl
      rw [p8 hi hp,p8 hi hp]
      by_cases e1:j=i
      . subst e1
        rw [if_pos rfl,if_neg jne,if_pos rfl]
        exact le_of_lt ha
      . rw [if_neg jne,if_neg e1]
        by_cases e2:(j-1) / 2=(i-1) / 2
        . rw [if_pos e2]
          have:=h1 j j0 jl e1
          rw [e2]at this
          exact (le_of_lt ha).trans this
        . rw [if_neg e2]
          by_cases e3:(j-1) / 2=i
          . rw [if_pos e3]
            exact h2 j j0 jl e3 h0
          . rw [if_neg e3]
            exact h1 j j0 jl e1
    . intro j j0 jl jp p0
      rw [df]at jl
      rw [p8 hi hp,p8 hi hp]
      rw [if_neg (by omega),if_neg (by omega),if_neg (by omega)]
      by_cases e1:j=i
      . rw [if_pos e1]
        exact h1 _ p0 hp (by omega)
      . rw [if_neg e1]
        have a1:=h1 j j0 jl e1
        rw [jp]at a1
        exact (h1 _ p0 hp (by omega)).trans a1
  . rename_i h
    intro j j0 jl
    by_cases e:j=i
    . subst e
      have:ra L j ((j-1) / 2)=false:=by
       cases ha:ra L j ((j-1) / 2)with
       |false=>rfl
       |true=>exact absurd ⟨j0,ha⟩ h
      rw [Dj jl (by omega)]at this
      exact this
    . exact h1 j j0 jl e
theorem Qp (i:Nat):∀L:List It,(kc L i).Perm L:=by
 induction i using Nat.strongRecOn with
 |_ i ih=>
  intro L
  rw [kc]
  split
  . rename_i h
    exact (ih _ (by omega) _).trans (Dy _ _ _)
  . exact .refl _
def downOk (L:List It) (i:Nat):Prop:=(∀j,0<j->j<L.length->(j-1) / 2≠i->(at_ L ((j-1) / 2)).le (at_ L j))/\
 (∀j,0<j->j<L.length->(j-1) / 2=i->0<i->(at_ L ((i-1) / 2)).le (at_ L j))
theorem Wo {L:List It} {f k:Nat} (hf:f<L.length):(at_ L (il L f k)).le (at_ L f)/\(k<L.length->(at_ L (il L f k)).le (at_ L k)):=by
 unfold il
 split
 . rename_i h
   rw [Dj h.1 hf]at h
   exact ⟨le_of_lt h.2,fun _ => .refl _⟩
 . rename_i h
   refine ⟨.refl _,fun hk=>?_⟩
   have:ra L k f=false:=by
    cases ha:ra L k f with
    |false=>rfl
    |true=>exact absurd ⟨hk,ha⟩ h
   rw [Dj hk hf]at this
   exact this
theorem U1 {L:List It} {i:Nat} (hi:i<L.length):(at_ L (lu L i)).le (at_ L i)/\∀j,0<j->j<L.length->(j-1) / 2=i->(at_ L (lu L i)).le (at_ L j):=by
 have h1:=Wo (L:=L) (f:=i) (k:=2*i+1) hi
 have hp:il L i (2*i+1)<L.length:=by
  rcases zz L i (2*i+1)with h|⟨h,h'⟩<;>omega
 have h2:=Wo (L:=L) (f:=il L i (2*i+1)) (k:=2*i+2) hp
 refine ⟨h2.1.trans h1.1,fun j j0 jl jp=>?_⟩
 rcases (show j=2*i+1\/j=2*i+2 by omega)with rfl|rfl
 . exact h2.1.trans (h1.2 jl)
 . exact h2.2 jl
theorem Sk {L:List It} {i:Nat} (h:lu L i≠i):(lu L i-1) / 2=i:=by
 unfold lu at*
 rcases zz L (il L i (2*i+1)) (2*i+2)with e|⟨e,_⟩
 . rw [e]at h ⊢
   rcases zz L i (2*i+1)with e|⟨e,_⟩
   . exact absurd e h
   . rw [e];omega
 . rw [e];omega
theorem Qq:∀(m:Nat) (i:Nat) (L:List It),L.length-i<=m->i<L.length->downOk L i->wb (ja L i):=by
 intro m
 induction m with
 |zero=>intro i L hm hi;omega
 |succ m ih=>
  intro i L hm hi ⟨h1,h2⟩
  have hle:=U1 hi
  rw [ja]
  split
  . rename_i h
    intro j j0 jl
    by_cases e:(j-1) / 2=i
    . rw [h]at hle
      rw [e]
      exact hle.2 j j0 jl e
    . exact h1 j j0 jl e
  . rename_i h
    obtain ⟨f1,f2⟩:=(nl L i).resolve_left h
    have fp:=Sk h
    generalize lu L i=f at*
    refine ih f _ (by rw [df];omega) (by rw [df];exact f2) ⟨?_,?_⟩
    . intro j j0 jl jp
      rw [df]at jl
      rw [p8 hi f2,p8 hi f2]
      by_cases e1:j=f
      . subst e1
        rw [if_pos rfl,if_neg jp,if_pos fp]
        exact hle.1
      . rw [if_neg jp,if_neg e1]
        by_cases e2:j=i
        . subst e2
          rw [if_pos rfl,if_neg (by omega)]
          exact h2 f (by omega) f2 fp j0
        . rw [if_neg e2]
          by_cases e3:(j-1) / 2=i
          . rw [if_pos e3]
            exact hle.2 j j0 jl e3
          . rw [if_neg e3]
            exact h1 j j0 jl e3
    . intro j j0 jl jp _
      rw [df]at jl
      rw [p8 hi f2,p8 hi f2,fp]
      rw [if_neg (by omega),if_pos rfl,if_neg (by omega),if_neg (by omega)]
      have:=h1 j j0 jl (by omega)
      rwa [jp]at this
theorem Kc:∀(m:Nat) (i:Nat) (L:List It),L.length-i<=m->(ja L i).Perm L:=by
 intro m
 induction m with
 |zero=>
  intro i L hm
  rw [ja]
  split
  . exact .refl _
  . rename_i h;have:=(nl L i).resolve_left h;omega
 |succ m ih=>
  intro i L hm
  rw [ja]
  split
  . exact .refl _
  . rename_i h
    have:=(nl L i).resolve_left h
    exact (ih _ _ (by rw [df];omega)).trans (Dy _ _ _)
theorem ab9 {L:List It} (h:wb L):∀j,j<L.length->(at_ L 0).le (at_ L j):=by
 intro j
 induction j using Nat.strongRecOn with
 |_ j ih=>
  intro hj
  by_cases j0:j=0
  . subst j0;exact .refl _
  . exact (ih _ (by omega) (by omega)).trans (h j (by omega) hj)
theorem zl {L M:List It} {j:Nat} (h:j<L.length):at_ (L++M) j=at_ L j:=by
 unfold at_
 simp only [List.getD_eq_getElem?_getD]
 rw [List.getElem?_append_left h]
theorem push_ok {L:List It} {x:It} (h:wb L):wb (kc (L++[x]) L.length)/\(kc (L++[x]) L.length).Perm (x::L):=by
 refine ⟨Zw _ _ (by simp) ⟨fun j j0 jl jne=>?_,fun j j0 jl jp _=>?_⟩,(Qp _ _).trans (List.perm_append_singleton _ _)⟩
 . simp at jl
   rw [zl (by omega),zl (by omega)]
   exact h j j0 (by omega)
 . simp at jl
   omega
theorem Fh {L:List It} {j:Nat} (h:j<L.length-1):at_ L.dropLast j=at_ L j:=by
 unfold at_
 simp only [List.getD_eq_getElem?_getD,List.dropLast_eq_take]
 rw [List.getElem?_take_of_lt h]
theorem pop_ok {x:It} {L:List It} (h:wb (x::L)):wb (popL (x::L))/\(x::L).Perm (x::popL (x::L))/\∀y∈L,x.le y:=by
 have hroot:∀y∈L,x.le y:=by
  intro y hy
  obtain ⟨i,hi,rfl⟩:=List.getElem_of_mem hy
  have:=ab9 h (i+1) (by simpa using hi)
  simpa [at_,List.getD_eq_getElem?_getD,hi]using this
 have hM:(x::L).length-1<(x::L).length:=by simp
 have h0:0<(x::L).length:=by simp
 have hsl:=df (x::L) 0 ((x::L).length-1)
 have hpop:wb (popL (x::L)):=by
  unfold popL
  by_cases hl:L=[]
  . subst hl
    intro j j0 jl
    rw [wv,List.length_dropLast,df]at jl
    simp at jl
  . have hl':0<L.length:=List.length_pos_iff.2 hl
    refine Qq _ 0 _ (Nat.le_refl _) (by rw [List.length_dropLast,df];simpa using hl') ⟨fun j j0 jl jp=>?_,fun j j0 jl jp i0=>by omega⟩
    rw [List.length_dropLast,df]at jl
    rw [Fh (by rw [df];omega),Fh (by rw [df];omega),p8 h0 hM,p8 h0 hM]
    simp only [List.length_cons,Nat.add_sub_cancel]at jl ⊢
    rw [if_neg (by omega),if_neg (by omega),if_neg (by omega),if_neg (by omega)]
    exact h j j0 (by simp;omega)
 refine ⟨hpop,?_,hroot⟩
 have p1:(nx (x::L) 0 ((x::L).length-1)).Perm (x::L):=Dy _ _ _
 have hne:nx (x::L) 0 ((x::L).length-1)≠[]:=by intro e;rw [e]at hsl;simp at hsl
 have hlast:(nx (x::L) 0 ((x::L).length-1)).getLast hne=x:=by
  rw [List.getLast_eq_getElem]
  have e:=p8 h0 hM ((x::L).length-1)
  rw [if_pos rfl]at e
  unfold at_ at e
  rw [List.getD_eq_getElem?_getD,List.getElem?_eq_getElem (by rw [hsl];exact hM)]at e
  simp only [Option.getD_some]at e
  simp only [hsl]
  rw [e]
  rfl
 have p2:(nx (x::L) 0 ((x::L).length-1)).Perm (x::(nx (x::L) 0 ((x::L).length-1)).dropLast):=by
  conv=>lhs;rw [<- List.dropLast_concat_getLast hne,hlast]
  exact List.perm_append_singleton _ _
 exact p1.symm.trans (p2.trans ((Kc _ 0 _ (Nat.le_refl _)).symm.cons x))
end Go.Proofs.Wt
end
section
namespace Go.Proofs.Srch
open Go.Proofs.Resv Go.Proofs.Wt
section
variable {P M:Type} [DecidableEq P] {E:Env P M}
structure QI (E:Env P M) (L:List It) (S:List (St P M)):Prop where
 old:∀w∈L,∃x∈S,E.num x.p=w.m/\(x.i:Int)=w.s/\x.a<=w.k
 all:∀x∈S,x.dn=false->∃w∈L,w.k=x.a/\w.m=E.num x.p/\w.s=x.i
theorem QI.perm {L L':List It} {S:List (St P M)} (q:QI E L S) (h:L'.Perm L):QI E L' S:=
 ⟨fun w hw=>q.old w (h.mem_iff.1 hw),fun x hx hd=>let ⟨w,hw,e⟩:=q.all x hx hd;⟨w,h.mem_iff.2 hw,e⟩⟩
def Q9 (E:Env P M) (S:List (St P M)) (p:P) (t:Int):Option Nat:=match inside (E.spans p) t with
 |none=>none
 |some i=>match key S p i with
  |none=>some i
  |some k=>match S[k]? with
   |none=>none
   |some x=>if t<x.a then some i else none
theorem note_q {L L':List It} {S:List (St P M)} {p:P} {t:Int} {m:M} {b n:Int} (q:QI E L S)
 (h:match Q9 E S p t with
  |some i=>L'.Perm (⟨t,E.num p,i,n⟩::L)
  |none=>L'=L):QI E L' (note E S p t m b):=by
 unfold note
 unfold Q9 at h
 cases hi:inside (E.spans p) t with
 |none=>rw [hi]at h;simp only at h ⊢;rw [h];exact q
 |some i=>
  rw [hi]at h
  simp only at h ⊢
  unfold wz
  cases hk:key S p i with
  |none=>
   rw [hk]at h
   simp only at h ⊢
   refine QI.perm ⟨fun w hw=>?_,fun x hx hd=>?_⟩ h
   . rcases List.mem_cons.1 hw with rfl|hw
     . exact ⟨_,List.mem_append_right _ (.head _),rfl,rfl,Int.le_refl _⟩
     . obtain ⟨x,hx,e⟩:=q.old w hw
       exact ⟨x,List.mem_append_left _ hx,e⟩
   . rcases List.mem_append.1 hx with hx|hx
     . obtain ⟨w,hw,e⟩:=q.all x hx hd
       exact ⟨w,.tail _ hw,e⟩
     . rw [List.mem_singleton]at hx;subst hx
       exact ⟨_,.head _,rfl,rfl,rfl⟩
  |some k=>
   obtain ⟨x,hx,e1,e2⟩:=sk hk
   rw [hk]at h
   simp only [hx]at h ⊢
   by_cases hlt:t<x.a
   . rw [if_pos hlt]at h ⊢
     simp only at h
     have hkl:k<S.length:=(List.getElem?_eq_some_iff.1 hx).1
     have hself:(S.set k { x with a:=t,mv:=m,b:=b })[k]?=some { x with a:=t,mv:=m,b:=b }:=by rw [List.getElem?_set_self hkl]
     refine QI.perm ⟨fun w hw=>?_,fun y hy hd=>?_⟩ h
     . rcases List.mem_cons.1 hw with rfl|hw
       . exact ⟨_,List.mem_of_getElem? hself,by simp only [e1],by simp only [e2],Int.le_refl _⟩
       . obtain ⟨y,hy,f1,f2,f3⟩:=q.old w hw
         obtain ⟨j,hj,rfl⟩:=List.getElem_of_mem hy
         by_cases hjk:j=k
         . subst hjk
           have hxe:S[j]=x:=(List.getElem?_eq_some_iff.1 hx).2
           rw [hxe]at f1 f2 f3
           exact ⟨_,List.mem_of_getElem? hself,f1,f2,by simp only;omega⟩
         . have:(S.set k { x with a:=t,mv:=m,b:=b })[j]?=some S[j]:=by rw [List.getElem?_set_ne (Ne.symm hjk),List.getElem?_eq_getElem hj]
           exact ⟨_,List.mem_of_getElem? this,f1,f2,f3⟩
     . rcases List.mem_or_eq_of_mem_set hy with hy|rfl
       . obtain ⟨w,hw,e⟩:=q.all y hy hd
         exact ⟨w,.tail _ hw,e⟩
       . exact ⟨_,.head _,rfl,by simp only [e1],by simp only [e2]⟩
   . rw [if_neg hlt]at h ⊢
     simp only at h
     rw [h];exact q
theorem ai9 {S:List (St P M)} (q:QI E [] S):least E S=none:=by
 cases h:least E S with
 |none=>rfl
 |some r=>
  obtain ⟨k,x⟩:=r
  obtain ⟨h1,h2,h3⟩:=sj h
  obtain ⟨w,hw,_⟩:=q.all x (List.mem_of_getElem? h1) h2
  cases hw
theorem popQ (ok:qf E) {p0:P} {t0 lo:Int} {z:M} {S:List (St P M)} (v:Inv E p0 t0 z lo S) {w:It} {L L':List It} (q:QI E (w::L) S) (hmin:∀y∈L,w.le y) (hL:L'.Perm L):
 ∃k x,S[k]?=some x/\E.num x.p=w.m/\(x.i:Int)=w.s/\((x.dn=true\/x.a≠w.k)->QI E L' S)/\(x.dn=false->x.a=w.k->least E S=some (k,x)/\QI E L' (take S k x)):=by
 obtain ⟨x,hxm,e1,e2,e3⟩:=q.old w (.head _)
 obtain ⟨k,hk,rfl⟩:=List.getElem_of_mem hxm
 have hk?:S[k]?=some S[k]:=List.getElem?_eq_getElem hk
 generalize hx:S[k]=x at*
 have same:∀y∈S,E.num y.p=w.m->(y.i:Int)=w.s->y=x:=fun y hy f1 f2=>by
  obtain ⟨j,hj,rfl⟩:=List.getElem_of_mem hy
  have hp:=ok.inj _ _ (v.ok _ hy) (v.ok _ hxm) (f1.trans e1.symm)
  have:=v.uniq (List.getElem?_eq_getElem hj) hk? hp (by omega)
  subst this
  exact hx
 refine ⟨k,x,hk?,e1,e2,fun hst=>QI.perm ⟨fun u hu=>q.old u (.tail _ hu),fun y hy hd=>?_⟩ hL,fun hnd ha=>?_⟩
 . obtain ⟨u,hu,f1,f2,f3⟩:=q.all y hy hd
   rcases List.mem_cons.1 hu with rfl|hu
   . have:=same y hy f2.symm f3.symm
     subst this
     rcases hst with h|h
     . rw [hd]at h;cases h
     . exact absurd f1.symm h
   . exact ⟨u,hu,f1,f2,f3⟩
 . have least1:∀y∈S,y.dn=false->ltK E y x=false:=fun y hy hd=>by
    obtain ⟨u,hu,f1,f2,f3⟩:=q.all y hy hd
    have hle:w.le u:=by
     rcases List.mem_cons.1 hu with rfl|hu
     . exact .refl _
     . exact hmin u hu
    rw [Oj]at hle
    unfold ltK
    simp only [decide_eq_false_iff_not]
    omega
   refine ⟨?_,QI.perm ⟨fun u hu=>?_,fun y hy hd=>?_⟩ hL⟩
   . cases hl:least E S with
     |none=>have:=Hi hl x hxm;rw [hnd]at this;cases this
     |some r=>
      obtain ⟨j,y⟩:=r
      obtain ⟨g1,g2,g3⟩:=sj hl
      have hym:=List.mem_of_getElem? g1
      obtain ⟨c1,c2,c3⟩:=ltK_tot (g3 x hxm hnd) (least1 y hym g2)
      have hp:=ok.inj _ _ (v.ok _ hym) (v.ok _ hxm) c2.symm
      have:=v.uniq g1 hk? hp c3.symm
      subst this
      rw [hk?]at g1
      cases g1
      rfl
   . obtain ⟨y,hy,f⟩:=q.old u (.tail _ hu)
     obtain ⟨j,hj,rfl⟩:=List.getElem_of_mem hy
     unfold take
     by_cases hjk:j=k
     . subst hjk
       rw [hx]at f
       exact ⟨{ x with dn:=true },List.mem_of_getElem? (i:=j) (by rw [List.getElem?_set_self hk]),f⟩
     . exact ⟨_,List.mem_of_getElem? (by rw [List.getElem?_set_ne (Ne.symm hjk)];exact List.getElem?_eq_getElem hj),f⟩
   . unfold take at hy
     rcases List.mem_or_eq_of_mem_set hy with hy|rfl
     . obtain ⟨u,hu,f1,f2,f3⟩:=q.all y hy hd
       rcases List.mem_cons.1 hu with rfl|hu
       . have hyx:=same y hy f2.symm f3.symm
         exfalso
         obtain ⟨j,hj,rfl⟩:=List.getElem_of_mem ‹y∈S.set k { x with dn:=true }›
         rw [List.getElem_set]at hyx hd
         split at hd
         . cases hd
         . rename_i hjk
           rw [if_neg hjk]at hyx
           have hj':j<S.length:=by simpa using hj
           exact hjk (v.uniq (List.getElem?_eq_getElem hj') hk? (by rw [hyx]) (by rw [hyx])).symm
       . exact ⟨u,hu,f1,f2,f3⟩
     . cases hd
inductive Dw (S:List (St P M)):Nat->List (Nat × St P M)->Prop where
 |start {k:Nat} {x:St P M} (h:S[k]?=some x) (hb:x.b<0):Dw S k [(k,x)]
 |step {k j:Nat} {x:St P M} {l:List (Nat × St P M)} (h:S[k]?=some x) (hb:x.b=(j:Nat)) (c:Dw S j l):Dw S k ((k,x)::l)
theorem Tg {p0:P} {t0 lo:Int} {z:M} {S:List (St P M)} (v:Inv E p0 t0 z lo S):∀(n k:Nat) (x:St P M),S[k]?=some x->(S.filter (fun y=>decide (y.a<x.a))).length<=n->∃l,Dw S k l/\l.length<=n+1
 |n,k,x,hk,hn=>by
  rcases v.by_ x (List.mem_of_getElem? hk)with ⟨h,_⟩|⟨y,h0,hy,hd,hlt,_⟩
  . exact ⟨_,.start hk (by omega),by simp⟩
  . have hym:=List.mem_of_getElem? hy
    have hmono:(S.filter (fun u=>decide (u.a<y.a))).length<(S.filter (fun u=>decide (u.a<x.a))).length:=by
     have h1:(S.filter (fun u=>decide (u.a<y.a)))=(S.filter (fun u=>decide (u.a<x.a))).filter (fun u=>decide (u.a<y.a)):=by
      rw [List.filter_filter]
      congr 1
      funext u
      rw [<- Bool.decide_and]
      exact decide_eq_decide.2 (by omega)
     rw [h1]
     have h2:y∈S.filter (fun u=>decide (u.a<x.a)):=List.mem_filter.2 ⟨hym,by simpa using hlt⟩
     refine List.length_filter_lt_length_iff_exists.2 ⟨y,h2,by simp⟩
    cases n with
    |zero=>omega
    |succ n=>
     obtain ⟨l,hl,hll⟩:=Tg v n x.b.toNat y hy (by omega)
     exact ⟨_,.step hk (by omega) hl,by simp;omega⟩
def m9:List (Nat × St P M)->List M
 |[]=>[]
 |[_]=>[]
 |p::l=>p.2.mv::m9 l
theorem Hc {S:List (St P M)} {k:Nat} {l:List (Nat × St P M)} (c:Dw S k l):∀(f:Nat) (acc:List M),l.length<=f->path S f k acc=(m9 l).reverse++acc:=by
 induction c with
 |start h hb=>
  intro f acc hf
  cases f with
  |zero=>simp at hf
  |succ f=>unfold path;rw [h];simp only [if_pos hb];rfl
 |@step k j x l h hb c ih=>
  intro f acc hf
  cases f with
  |zero=>simp at hf
  |succ f=>
   unfold path
   rw [h]
   have h0:¬x.b<0:=by omega
   simp only [if_neg h0]
   rw [show x.b.toNat=j by omega,ih f _ (by simpa using hf)]
   cases c<;>simp [m9]
theorem Md {p0:P} {t0 lo:Int} {z:M} {S:List (St P M)} (v:Inv E p0 t0 z lo S) {k:Nat} {x:St P M} (hk:S[k]?=some x):∃l,Dw S k l/\l.length<=S.length:=by
 have hlt:(S.filter (fun y=>decide (y.a<x.a))).length<S.length:=
  List.length_filter_lt_length_iff_exists.2 ⟨x,List.mem_of_getElem? hk,by simp⟩
 obtain ⟨l,c,h⟩:=Tg v _ k x hk (Nat.le_refl _)
 exact ⟨l,c,by omega⟩
end
end Go.Proofs.Srch
end
section
namespace Go.Proofs.YtfflipnhffknnaaGreatDoor
open Go Go.HL Go.Proofs.Resv Go.Proofs.Srch
def bRtR:=jq bC (jq (jq (jq @vg (jq @cf88 @Da)) (jq @Ia (jq @F4 @H4))) (jq (jq @Ut (jq @xj @tw)) (jq @ld4 (jq @Rr @ik))))
def numP (w k:Nat) (p:Pose):Int:=2*numI w k (p.x,p.y)+(if p.d=true then 1 else 0)
def kw (w k:Nat) (T:Tb) (r:Int) (p:Pose):List Sp:=lr T r ((bw p).map (numI w k))
def wayE (C:Conf) (w k:Nat) (f:Nat->Nat->Int) (T:Tb) (r:Int) (m:Move):Move × Pose × Int × List Sp:=(m,m.t,fk C m,lr T r ((ka w k f m).map (numI w k)))
def qv (C:Conf) (w k:Nat) (f:Nat->Nat->Int) (T:Tb) (r:Int) (p:Pose):List (Move × Pose × Int × List Sp):=(lk w k f p).map (wayE C w k f T r)
def yc (m:Move) (a e:Int):Move:={ m with a:=a,e:=e }
def envE (C:Conf) (w k:Nat) (f:Nat->Nat->Int) (T:Tb) (r:Int):Env Pose Move:=⟨numP w k,fun p=>cj w k f p=true,kw w k T r,qv C w k f T r,yc⟩
theorem Ag {w k:Nat} {f:Nat->Nat->Int} {p:Pose} (h:cj w k f p=true):inW w k (p.x,p.y)=true:=by
 unfold cj at h
 rw [Bool.and_eq_true]at h
 exact Wr h.1
theorem num_inj {w k:Nat} {c e:Cell} (hc:inW w k c=true) (he:inW w k e=true) (h:numI w k c=numI w k e):c=e:=by
 unfold numI at h
 rw [if_pos hc,if_pos he]at h
 obtain ⟨a1,a2,a3,a4⟩:=i7.1 hc
 obtain ⟨b1,b2,b3,b4⟩:=i7.1 he
 have h1:c.1=(c.2*w+c.1) % w:=by rw [Int.add_comm,Int.add_mul_emod_self_right,Int.emod_eq_of_lt a1 a2]
 have h2:e.1=(e.2*w+e.1) % w:=by rw [Int.add_comm,Int.add_mul_emod_self_right,Int.emod_eq_of_lt b1 b2]
 have h3:c.1=e.1:=by rw [h1,h2,h]
 have h4:c.2*(w:Int)=e.2*(w:Int):=by omega
 have h5:c.2=e.2:=Int.eq_of_mul_eq_mul_right (by omega) h4
 exact Prod.ext h3 h5
theorem us {w k:Nat} {f:Nat->Nat->Int} {p q:Pose} (hp:cj w k f p=true) (hq:cj w k f q=true) (h:numP w k p=numP w k q):p=q:=by
 have hpi:=Ag hp
 have hqi:=Ag hq
 unfold numP at h
 have hd:p.d=q.d:=by
  cases h1:p.d<;>cases h2:q.d<;>simp only [h1,h2,if_true,if_false,Bool.false_eq_true]at h<;>first|rfl|omega
 rw [hd]at h
 have hn:=num_inj hpi hqi (show numI w k (p.x,p.y)=numI w k (q.x,q.y)by omega)
 cases p;cases q
 simp only [Prod.mk.injEq]at hn hd
 obtain ⟨rfl,rfl⟩:=hn
 subst hd
 rfl
structure Cs where
 L1:List (Int × Value)
 L2:List (Int × Value)
 L3:List (Int × Value)
 P:Hp
def Gro (L L':List (Int × Value)):Prop:=∀k v,mget L k=some v->mget L' k=some v
theorem Gro.refl (L:List (Int × Value)):Gro L L:=fun _ _ h=>h
theorem Gro.trans {L M N:List (Int × Value)} (a:Gro L M) (b:Gro M N):Gro L N:=fun k v h=>b k v (a k v h)
structure Cs.le (c c':Cs):Prop where
 l1:Gro c.L1 c'.L1
 l2:Gro c.L2 c'.L2
 l3:Gro c.L3 c'.L3
 p:c.P.le c'.P
theorem Cs.le.refl (c:Cs):c.le c:=⟨.refl _,.refl _,.refl _,.refl _⟩
theorem Cs.le.trans {a b c:Cs} (x:a.le b) (y:b.le c):a.le c:=⟨x.l1.trans y.l1,x.l2.trans y.l2,x.l3.trans y.l3,x.p.trans y.p⟩
structure RawW where
 m:Move
 d:Int
 a:Option Addr
 n:Nat
 c:Nat
def sf:Cod RawW:=⟨13,fun x=>[.int .i64 x.m.k,.int .i64 x.m.d,.int .i64 x.m.n,.int .i64 x.m.f.x,.int .i64 x.m.f.y,.bool x.m.f.d,.int .i64 x.m.t.x,.int .i64 x.m.t.y,.bool x.m.t.d,.int .i64 x.m.a,.int .i64 x.m.e,.int .i64 x.d,.slice x.a x.n x.c],fun _=>rfl,
 fun _ v hv=>by simp at hv;rcases hv with rfl|rfl|rfl|rfl|rfl|rfl|rfl|rfl|rfl|rfl|rfl|rfl|rfl<;>rfl⟩
theorem eoway:fg P_ 232 sf.n 120:=eo232
def WayS (P:Hp) (v:Value) (W:List (Move × Pose × Int × List Sp)):Prop:=∃raws:List RawW,Slc sf 232 P v raws/\raws.length=W.length/\
 ∀(i:Nat) (x:RawW) (y:Move × Pose × Int × List Sp),raws[i]?=some x->W[i]?=some y->x.m=y.1/\x.d=y.2.2.1/\x.n=y.2.2.2.length/\Slc mj 151 P (.slice x.a x.n x.c) y.2.2.2
theorem WayS.le {P P':Hp} {v:Value} {W:List (Move × Pose × Int × List Sp)} (h:WayS P v W) (l:P.le P'):WayS P' v W:=by
 obtain ⟨raws,h1,h2,h3⟩:=h
 exact ⟨raws,h1.le l,h2,fun i x y hx hy=>let ⟨a,b,c,d⟩:=h3 i x y hx hy;⟨a,b,c,d.le l⟩⟩
structure Par where
 C:Conf
 w:Nat
 k:Nat
 f:Nat->Nat->Int
 T:Tb
 r:Int
def Par.E (p:Par):Env Pose Move:=envE p.C p.w p.k p.f p.T p.r
structure Ch (q:Par) (a:Hp) (ms mw mp:Nat) (c:Cs):Prop where
 sep:∃o1 o2 o3,MapO o1 c.L1/\MapO o2 c.L2/\MapO o3 c.L3/\HL.Sep [noHp.set ms o1,noHp.set mw o2,noHp.set mp o3,c.P] a
 m1:∀n v,mget c.L1 n=some v->∃p,cj q.w q.k q.f p=true/\numP q.w q.k p=n/\Slc mj 151 c.P v (kw q.w q.k q.T q.r p)
 m2:∀n v,mget c.L2 n=some v->∃p,cj q.w q.k q.f p=true/\numP q.w q.k p=n/\WayS c.P v (qv q.C q.w q.k q.f q.T q.r p)
 m3:∀n v,mget c.L3 n=some v->∃p,cj q.w q.k q.f p=true/\numP q.w q.k p=n/\v=kz p
def oy (C:Conf) (vb vp vr vz g:Value) (kp tp:Nat) (r:Int) (ms mw mp mt hp:Nat):List Value:=
 [.int .i64 C.w,.int .i64 C.h,.int .i64 C.ht,vb,vp,vr,vz,.int .i64 C.un,.int .i64 C.ac,.int .i64 C.sp,.int .i64 C.tu,.int .i64 C.ho,.int .i64 C.qu,.int .i64 C.re,.int .i64 C.bu,.bool C.back,g,.pointer (some ⟨kp,0,none⟩),.pointer (some ⟨tp,0,none⟩),.int .i64 r,.map (some ms),.map (some mw),.map (some mp),.map (some mt),.pointer (some ⟨hp,0,none⟩)]
structure Bg (G:Hp) (q:Par) (sp:Nat) (kp ms mw mp mt hp:Nat):Prop where
 ex:∃(ab:Option Addr) (cb:Nat) (ap:Option Addr) (cp:Nat) (ar:Option Addr) (cr:Nat) (az:Option Addr) (cs:Nat) (gp tp:Nat),∀h,Dis G h->
  CA G h q.C ab cb ap cp ar cr az cs/\(∀j,j<25->af G h ⟨sp,j,none⟩=(oy q.C (.slice ab q.C.bl.length cb) (.slice ap q.C.po.length cp) (.slice ar q.C.ro.length cr) (.slice az q.C.st.length cs) (.pointer (some ⟨gp,0,none⟩)) kp tp q.r ms mw mp mt hp)[j]?)/\
  GS G h (.pointer (some ⟨gp,0,none⟩)) q.w q.k q.f/\Rv.TSee G h tp q.T
 st:jb G
 gt:iu q.T
 fw:Few q.T 100
structure BC (G h:Hp) (sp:Nat) (g:Value) (kp tp:Nat) (r:Int) (ms mw mp mt hp:Nat):Prop where
 g:af G h ⟨sp,16,none⟩=some g
 k:af G h ⟨sp,17,none⟩=some (.pointer (some ⟨kp,0,none⟩))
 t:af G h ⟨sp,18,none⟩=some (.pointer (some ⟨tp,0,none⟩))
 r:af G h ⟨sp,19,none⟩=some (.int .i64 r)
 ms:af G h ⟨sp,20,none⟩=some (.map (some ms))
 mw:af G h ⟨sp,21,none⟩=some (.map (some mw))
 mp:af G h ⟨sp,22,none⟩=some (.map (some mp))
 mt:af G h ⟨sp,23,none⟩=some (.map (some mt))
 hp:af G h ⟨sp,24,none⟩=some (.pointer (some ⟨hp,0,none⟩))
theorem vi {G h:Hp} {C:Conf} {vb vp vr vz g:Value} {sp kp tp:Nat} {r:Int} {ms mw mp mt hp:Nat} (c:∀j,j<25->af G h ⟨sp,j,none⟩=(oy C vb vp vr vz g kp tp r ms mw mp mt hp)[j]?):BC G h sp g kp tp r ms mw mp mt hp:=
 ⟨by rw [c _ (by decide)];rfl,by rw [c _ (by decide)];rfl,by rw [c _ (by decide)];rfl,by rw [c _ (by decide)];rfl,by rw [c _ (by decide)];rfl,by rw [c _ (by decide)];rfl,by rw [c _ (by decide)];rfl,by rw [c _ (by decide)];rfl,by rw [c _ (by decide)];rfl⟩
theorem ul {α:Type} {c:Cod α} {G a B h h':Hp} {v:Value} {L:List α} (x:Sees c G B v L) (s:Sep [a,B] h) (d:Dis G h) (d':Dis (HL.under G h a) h'):Sees c (HL.under G h a) h' v L:=by
 obtain ⟨s',cap,e,hc,hcs⟩:=x
 refine ⟨s',cap,e,hc,hcs.imp id fun ⟨b,o,e2,hx⟩=>⟨b,o,e2,fun i y hy j hj=>?_⟩⟩
 have:=hx i y hy j hj
 rw [List.getElem?_eq_getElem (by rw [c.len];exact hj)]at this ⊢
 exact ng s d d' this
theorem Bg.of {G a B h:Hp} {q:Par} {sp kp ms mw mp mt hp:Nat} {ab:Option Addr} {cb:Nat} {ap:Option Addr} {cp:Nat} {ar:Option Addr} {cr:Nat} {az:Option Addr} {cs gp tp:Nat} (s:Sep [a,B] h) (d:Dis G h)
 (ca:CA G B q.C ab cb ap cp ar cr az cs) (hB:∀j,j<25->af G B ⟨sp,j,none⟩=(oy q.C (.slice ab q.C.bl.length cb) (.slice ap q.C.po.length cp) (.slice ar q.C.ro.length cr) (.slice az q.C.st.length cs) (.pointer (some ⟨gp,0,none⟩)) kp tp q.r ms mw mp mt hp)[j]?)
 (gs:GS G B (.pointer (some ⟨gp,0,none⟩)) q.w q.k q.f) (ts:Rv.TSee G B tp q.T) (st:jb G) (gt:iu q.T) (fw:Few q.T 100):Bg (HL.under G h a) q sp kp ms mw mp mt hp:=by
 refine ⟨⟨ab,cb,ap,cp,ar,cr,az,cs,gp,tp,fun h' d'=>⟨?_,fun j hj=>?_,?_,?_⟩⟩,st.under d (s.in 0 rfl),gt,fw⟩
 . obtain ⟨c1,c2,c3,raw,c4,c5⟩:=ca
   exact ⟨ul c1 s d d',ul c2 s d d',ul c3 s d d',raw,ul c4 s d d',fun i r s' h1 h2=>let ⟨x,y,z⟩:=c5 i r s' h1 h2;⟨x,y,ul z s d d'⟩⟩
 . have:=hB j hj
   rw [List.getElem?_eq_getElem (by simpa [oy]using hj)]at this ⊢
   exact ng s d d' this
 . obtain ⟨⟨gp',kb,e,h1,h2⟩,x1,x2,x3,x4⟩:=gs
   refine ⟨⟨gp',kb,e,fun j hj=>?_,fun n x hx=>ng s d d' (h2 n x hx)⟩,x1,x2,x3,x4⟩
   have:=h1 j hj
   rw [List.getElem?_eq_getElem (by simpa using hj)]at this ⊢
   exact ng s d d' this
 . obtain ⟨rb,e1,e2⟩:=ts
   exact ⟨rb,ng s d d' e1,fun c L hc=>let ⟨x,cap,e3,e4⟩:=e2 c L hc;⟨x,cap,ng s d d' e3,ul e4 s d d'⟩⟩
theorem un3r:P_.underlying 3=some (.int .i64):=by kernel_rfl
theorem unms:P_.underlying 128=some (.map 3 142):=by kernel_rfl
theorem unmw:P_.underlying 129=some (.map 3 229):=by kernel_rfl
theorem unmp:P_.underlying 130=some (.map 3 30):=by kernel_rfl
theorem zeros:pa P_ 142=some (.slice none 0 0):=by kernel_rfl
theorem zerow:pa P_ 229=some (.slice none 0 0):=by kernel_rfl
theorem zerop:pa P_ 30=some (.agg #[(0:Int),(0:Int),.bool false]):=by kernel_rfl
theorem in_pb {w k:Nat} (hw:w<=16) (hk:k<=16) {p:Pose} (h:inW w k (p.x,p.y)=true):PB p:=by
 obtain ⟨a1,a2,a3,a4⟩:=i7.1 h
 simp only at a1 a2 a3 a4
 exact ⟨⟨by omega,by omega⟩,⟨by omega,by omega⟩⟩
theorem yv {G h a:Hp} {R:List Hp} {q:Par} {sp kp ms mw mp mt hp:Nat} {c:Cs} {p:Pose} (ch:Ch q a ms mw mp c) (bg:Bg G q sp kp ms mw mp mt hp) (s:Sep (a::R) h) (hpf:cj q.w q.k q.f p=true):
 al P_ G 115 #[.pointer (some ⟨sp,0,none⟩),kz p] h (fun u h'=>u = .int .i64 (numP q.w q.k p)/\∃a' c',Ch q a' ms mw mp c'/\c.le c'/\c'.L1=c.L1/\c'.L2=c.L2/\c'.P=c.P/\mget c'.L3 (numP q.w q.k p)=some (kz p)/\Sep (a'::R) h'/\Dis G h'):=by
 obtain ⟨ab,cb,ap,cp,ar,cr,az,cs,gp,tp,hbg⟩:=bg.ex
 refine al.assume fun d=>au9 (by simp) ?_
 have hin:=Ag hpf
 unfold S115
 simp only [bRtR]
 intro x hx gx
 have s1:=s.past (o := .cells #[p.x,p.y,.bool p.d] 30 (0,0)) hx
 have d1:=d.set (o := .cells #[p.x,p.y,.bool p.d] 30 (0,0)) gx
 have hxs:(h.set x (.cells #[p.x,p.y,.bool p.d] 30 (0,0))) x=some (.cells #[p.x,p.y,.bool p.d] 30 (0,0)):=ag
 generalize Hp.set h x _=h1 at s1 d1 hxs ⊢
 have cx:∀k,af G h1 ⟨x,k,none⟩=_:=fun k=>aj (ai hxs)
 obtain ⟨ca,hB,gs,ts⟩:=hbg h1 d1
 have b:=vi hB
 try simp only [bRtR,cx,b.g]
 refine (og (c:=(p.x,p.y)) gs).mono ?_
 rintro _ h1 ⟨rfl,rfl⟩
 have nb:=Ob (c:=(p.x,p.y)) gs.w2 gs.k2
 try simp (disch:=first|decide|omega) only [bRtR,cx]
 obtain ⟨o1,o2,o3,m1,m2,m3,sa⟩:=ch.sep
 have hmp:h1 mp=some o3:=(s1.open sa).at 2 rfl ag
 have k1:∀(r':Rg) (n:Int),n=numP q.w q.k p->r' 0 = .pointer (some ⟨sp,0,none⟩)->r' 3 = .pointer (some ⟨x,0,none⟩)->r' 5 = .int .i64 n->Ga G (retK P_ G [.tmp 4] fun u h'=>u = .int .i64 (numP q.w q.k p)/\∃a' c',Ch q a' ms mw mp c'/\c.le c'/\c'.L1=c.L1/\c'.L2=c.L2/\c'.P=c.P/\mget c'.L3 (numP q.w q.k p)=some (kz p)/\Sep (a'::R) h'/\Dis G h') r' h1:=by
  intro r' n hn e0 e3 e5
  unfold Ga
  simp only [bRtR,e0,e3,e5,b.mp,cx]
  refine vw unmp un3r hmp m3 fun o' mo'=>?_
  try simp (disch:=first|decide|omega) only [bRtR,Nat.reduceAdd,Nat.reduceMul,e5]
  have s2:=((s1.open sa).pick 2 rfl rfl).put (o:=o') ag
  rw [set_set]at s2
  have d2:=d1.set (o:=o') (d1 _ _ hmp)
  generalize Hp.set h1 mp _=h2 at s2 d2 ⊢
  obtain ⟨a',s3,t3⟩:=Sep.pack [noHp.set mp o',noHp.set ms o1,noHp.set mw o2,c.P] s2
  subst hn
  refine ⟨rfl,a',⟨c.L1,c.L2,mput c.L3 (numP q.w q.k p) (kz p),c.P⟩,⟨⟨o1,o2,o',m1,m2,mo',t3.sel [1,2,0,3] (by decide) rfl⟩,ch.m1,ch.m2,?_⟩,⟨.refl _,.refl _,?_,.refl _⟩,rfl,rfl,rfl,?_,s3,d2⟩
  . intro n v hv
    rw [ot]at hv
    split at hv
    . rename_i e
      cases hv
      exact ⟨p,hpf,e,rfl⟩
    . exact ch.m3 n v hv
  . intro n v hv
    rw [ot]
    split
    . rename_i e
      obtain ⟨p',f',n',rfl⟩:=ch.m3 n v hv
      rw [us hpf f' (e.trans n'.symm)]
    . exact hv
  . rw [ot,if_pos rfl]
 cases hd:p.d with
 |true=>
  rw [hd]at cx
  try simp only [bRtR]
  refine k1 _ (2*numI q.w q.k (p.x,p.y)+1) (by simp [numP,hd]) (by simp (disch:=decide) only [bRtR]) (by simp (disch:=decide) only [bRtR]) (by simp only [bRtR])
 |false=>
  rw [hd]at cx
  try simp only [bRtR]
  refine k1 _ (2*numI q.w q.k (p.x,p.y)) (by simp [numP,hd]) (by simp (disch:=decide) only [bRtR]) (by simp (disch:=decide) only [bRtR]) (by simp (disch:=decide) only [bRtR])
def Dg:=jq bC (jq (jq (jq @cf108 (jq @cf115 @cf89)) (jq (jq @Da @S2) (jq @S0 @fa134_5))) (jq (jq (jq @ld128 @ld30) (jq @tw @Wz)) (jq (jq @ld3p @Rr) (jq @ju @ik))))
theorem _root_.Go.HL.Sep.fr (A:List Hp) {R A':List Hp} {h:Hp} (s:HL.Sep (A++R) h) (is:List Nat) (nd:is.Nodup) (e:is.filterMap (fun i=>A[i]?)=A'):HL.Sep (A'++R) h:=by
 have sub:∀x∈A',x∈A:=fun x hx=>by
  rw [<- e,List.mem_filterMap]at hx
  obtain ⟨i,_,hi⟩:=hx
  exact List.mem_of_getElem? hi
 have hp:=List.pairwise_append.1 s.2
 have sA:HL.Sep A h:=⟨fun x hx=>s.1 x (List.mem_append_left _ hx),hp.1⟩
 have sA':=sA.sel is nd e
 refine ⟨fun x hx=>?_,List.pairwise_append.2 ⟨sA'.2,hp.2.1,fun x hx y hy=>hp.2.2 x (sub x hx) y hy⟩⟩
 rcases List.mem_append.1 hx with h1|h1
 . exact sA'.1 x h1
 . exact s.1 x (List.mem_append_right _ h1)
theorem Ch.look1 {q:Par} {a:Hp} {ms mw mp:Nat} {c:Cs} (ch:Ch q a ms mw mp c) {p:Pose} {v:Value} (hp:cj q.w q.k q.f p=true) (h:mget c.L1 (numP q.w q.k p)=some v):Slc mj 151 c.P v (kw q.w q.k q.T q.r p):=by
 obtain ⟨p',f',n',s'⟩:=ch.m1 _ _ h
 rw [us f' hp n']at s'
 exact s'
theorem Ch.look2 {q:Par} {a:Hp} {ms mw mp:Nat} {c:Cs} (ch:Ch q a ms mw mp c) {p:Pose} {v:Value} (hp:cj q.w q.k q.f p=true) (h:mget c.L2 (numP q.w q.k p)=some v):WayS c.P v (qv q.C q.w q.k q.f q.T q.r p):=by
 obtain ⟨p',f',n',s'⟩:=ch.m2 _ _ h
 rw [us f' hp n']at s'
 exact s'
theorem Ch.pool {q:Par} {a:Hp} {ms mw mp:Nat} {c:Cs} (ch:Ch q a ms mw mp c):c.P.le a:=by
 obtain ⟨o1,o2,o3,_,_,_,s⟩:=ch.sep
 exact s.in 3 rfl
theorem Ch.put1 {q:Par} {ms mw mp:Nat} {c:Cs} {o2 o3 o':Obj} {ip b:Hp} {p:Pose} {v:Value} (m1:∀n v,mget c.L1 n=some v->∃p,cj q.w q.k q.f p=true/\numP q.w q.k p=n/\Slc mj 151 c.P v (kw q.w q.k q.T q.r p))
 (ch:Ch q b ms mw mp c) (k1:MapO o' (mput c.L1 (numP q.w q.k p) v)) (k2:MapO o2 c.L2) (k3:MapO o3 c.L3) {h:Hp} {R:List Hp} (s:HL.Sep (noHp.set ms o'::noHp.set mw o2::noHp.set mp o3::c.P::ip::R) h) (hp:cj q.w q.k q.f p=true) (hn:mget c.L1 (numP q.w q.k p)=none)
 (sl:Slc mj 151 ip v (kw q.w q.k q.T q.r p)):∃a' c',Ch q a' ms mw mp c'/\c.le c'/\mget c'.L1 (numP q.w q.k p)=some v/\c'.L2=c.L2/\c'.L3=c.L3/\HL.Sep (a'::R) h:=by
 obtain ⟨P',s1,t1⟩:=Sep.pack [ip,c.P] (R:=noHp.set ms o'::noHp.set mw o2::noHp.set mp o3::R) (Sep.fr (R:=R) [noHp.set ms o',noHp.set mw o2,noHp.set mp o3,c.P,ip] s [4,3,0,1,2] (by decide) rfl)
 obtain ⟨a',s2,t2⟩:=Sep.pack [noHp.set ms o',noHp.set mw o2,noHp.set mp o3,P'] (R:=R) (Sep.fr (R:=R) [P',noHp.set ms o',noHp.set mw o2,noHp.set mp o3] s1 [1,2,3,0] (by decide) rfl)
 refine ⟨a',⟨mput c.L1 (numP q.w q.k p) v,c.L2,c.L3,P'⟩,⟨⟨o',o2,o3,k1,k2,k3,t2⟩,?_,?_,ch.m3⟩,⟨?_,.refl _,.refl _,t1.in 1 rfl⟩,by rw [ot,if_pos rfl],rfl,rfl,s2⟩
 . intro n u hu
   rw [ot]at hu
   split at hu
   . rename_i e
     cases hu
     exact ⟨p,hp,e,sl.le (t1.in 0 rfl)⟩
   . obtain ⟨p',f',n',s'⟩:=m1 n u hu
     exact ⟨p',f',n',s'.le (t1.in 1 rfl)⟩
 . intro n u hu
   obtain ⟨p',f',n',s'⟩:=ch.m2 n u hu
   exact ⟨p',f',n',s'.le (t1.in 1 rfl)⟩
 . intro n u hu
   rw [ot]
   split
   . rename_i e;rw [<- e,hn]at hu;cases hu
   . exact hu
theorem ly {G h a:Hp} {R:List Hp} {q:Par} {sp kp ms mw mp mt hp:Nat} {c:Cs} {p:Pose} (ch:Ch q a ms mw mp c) (bg:Bg G q sp kp ms mw mp mt hp) (s:HL.Sep (a::R) h) (hpf:cj q.w q.k q.f p=true):
 al P_ G 66 #[.pointer (some ⟨sp,0,none⟩),kz p] h (fun u h'=>∃a' c',Ch q a' ms mw mp c'/\c.le c'/\c'.L2=c.L2/\mget c'.L1 (numP q.w q.k p)=some u/\mget c'.L3 (numP q.w q.k p)=some (kz p)/\HL.Sep (a'::R) h'/\Dis G h'):=by
 obtain ⟨ab,cb,ap,cp,ar,cr,az,cs,gp,tp,hbg⟩:=id bg.ex
 refine al.assume fun d=>enter66 (by simp) ?_
 have hin:=Ag hpf
 obtain ⟨_,_,gs,_⟩:=hbg h d
 have hpb:=in_pb gs.w2 gs.k2 hin
 unfold S66
 simp only [Dg]
 intro x hx gx
 have s1:=(s.new (o := .cells #[p.x,p.y,.bool p.d] 30 (0,0)) hx).swap
 have d1:=d.set (o := .cells #[p.x,p.y,.bool p.d] 30 (0,0)) gx
 generalize Hp.set h x _=h1 at s1 d1 ⊢
 have cx:∀k,af G h1 ⟨x,k,none⟩=_:=fun k=>aj (ai (s1.at 1 rfl ag))
 try simp (disch:=first|decide|omega) only [Dg,Nat.reduceAdd,Nat.reduceMul,cx]
 refine (yv ch bg s1 hpf).mono ?_
 rintro _ h2 ⟨rfl,a2,c2,ch2,cl2,e1,e2,e3,hm3,s2,d2⟩
 obtain ⟨ca2,hB2,gs2,ts2⟩:=hbg h2 d2
 have b2:=vi hB2
 obtain ⟨o1,o2,o3,m1,m2,m3,sa⟩:=id ch2.sep
 have hms:h2 ms=some o1:=(s2.open sa).at 0 rfl ag
 try simp only [Dg,b2.ms]
 rw [E4 unms un3r zeros (ai hms) m1]
 cases hg:mget c2.L1 (numP q.w q.k p)with
 |some v=>
  try simp only [Dg,Option.getD_some,Option.isSome_some]
  unfold Pk
  try simp (disch:=decide) only [Dg]
  exact ⟨a2,c2,ch2,cl2,e2,hg,hm3,s2.swap.drop,d2⟩
 |none=>
  have cx2:∀k,af G h2 ⟨x,k,none⟩=_:=fun k=>aj (ai (s2.at 1 rfl ag))
  try simp only [Dg,Option.getD_none,Option.isSome_none,b2.g,b2.t,b2.r,cx2]
  refine (pi (p:=p) bg.st hpb).mono ?_
  rintro _ h3 ⟨b,rfl,hb,gb,rfl⟩
  have s3:=s2.past (o := .cells #[p.x,p.y,(east p).1,(east p).2] 28 (0,0)) hb
  have d3:=d2.set (o := .cells #[p.x,p.y,(east p).1,(east p).2] 28 (0,0)) gb
  have hbs:(h2.set b (.cells #[p.x,p.y,(east p).1,(east p).2] 28 (0,0))) b=some (.cells #[p.x,p.y,(east p).1,(east p).2] 28 (0,0)):=ag
  refine ⟨di hb,?_⟩
  generalize Hp.set h2 b _=h3 at s3 d3 hbs ⊢
  have sc:Sees dl G h3 (.slice (some ⟨b,0,none⟩) (bw p).length 2) (bw p):=Sees.row hbs (by simp [dl,Cod.rows,bw]) (by simp [bw])
  refine (Af (bb:=100) (hbg h3 d3).2.2.1 (hbg h3 d3).2.2.2 bg.gt bg.fw (by omega) sc (by simp [bw])).mono ?_
  rintro u h4 ⟨ip,sl,s4,d4⟩
  have s5:=(s4.swap.open s3).perm (List.perm_append_singleton _ _)
  have s6:=(Sep.fr [ip,a2] s5 [1,0] (by decide) rfl).open sa
  have b4:=vi (hbg h4 d4).2.1
  have hms4:h4 ms=some o1:=s6.at 0 rfl ag
  obtain ⟨su,cu,rfl,_⟩:=sl.len (by decide)
  try simp only [Dg,b4.ms]
  refine vw unms un3r hms4 m1 fun o' mo'=>?_
  try simp (disch:=first|decide|omega) only [Dg,Nat.reduceAdd,Nat.reduceMul]
  have s7:=s6.put (o:=o') ag
  rw [set_set]at s7
  have d7:=d4.set (o:=o') (d4 _ _ hms4)
  generalize Hp.set h4 ms _=h7 at s7 d7 ⊢
  unfold Pk
  try simp (disch:=decide) only [Dg]
  obtain ⟨a8,c8,ch8,cl8,g8,l28,l38,s8⟩:=Ch.put1 ch2.m1 ch2 mo' m2 m3 s7 hpf hg sl
  exact ⟨a8,c8,ch8,cl2.trans cl8,by rw [l28,e2],g8,by rw [l38];exact hm3,s8.swap.drop,d7⟩
def ou:=jq bC (jq (jq (jq @ud @zj) (jq @cf113 (jq @cf114 @O7))) (jq (jq @O6 @ld151) (jq @ld3 (jq @ln142 @true_and))))
theorem Om {G h:Hp} {b:Nat} {t:Int} {x:Sp} (hb:af G h ⟨b,0,none⟩=some (.int .i64 t)) (d:Dis G h):al P_ G 114 #[.agg #[x.1,x.2],.pointer (some ⟨b,0,none⟩)] h (fun u h'=>u = .bool (insB t x)/\h'=h):=by
 refine quietly (av0 (by simp) ?_)
 unfold S114
 simp only [ou]
 intro y hy gy
 have l:=di (o := .cells #[x.1,x.2] 151 (0,0)) hy
 have hb2:=jh l (d.set gy) hb
 try simp only [ou,hb2]
 by_cases h1:x.1<=t
 . rw [je h1]
   try simp only [ou,hb2]
   exact ⟨by simp [insB,h1],l⟩
 . rw [i8 h1]
   try simp only [ou,dw]
   exact ⟨by simp [insB,h1],l⟩
def insI (L:List Sp) (t:Int):Int:=match inside L t with
 |some i=>i
 |none => -1
theorem R4 {L:List Sp} {t:Int} (h:∀x∈L,insB t x=false):inside L t=none:=by
 unfold inside
 rw [List.findIdx?_eq_none_iff]
 exact h
theorem ab6 {L:List Sp} {t:Int} {i:Nat} {x:Sp} (hx:L[i]?=some x) (h:∀y∈L.take i,insB t y=false) (hi:insB t x=true):inside L t=some i:=by
 unfold inside
 rw [List.findIdx?_eq_some_iff_getElem]
 obtain ⟨hl,rfl⟩:=List.getElem?_eq_some_iff.1 hx
 refine ⟨hl,hi,fun j hj=>?_⟩
 have:=h L[j] (List.mem_of_getElem? (i:=j) (by rw [List.getElem?_take_of_lt hj];exact List.getElem?_eq_getElem (by omega)))
 rw [this];simp
theorem E6 {G h:Hp} {v:Value} {L:List Sp} {t:Int} (sv:Sees mj G h v L) (hL:L.length<=1000000000):
 al P_ G 65 #[v,t] h (fun u h'=>u = .int .i64 (insI L t)/\h'=h):=by
 obtain ⟨sa,cap,rfl,_⟩:=id sv
 refine al.assume fun d=>quietly (enter65 (by simp) ?_)
 unfold S65
 simp only [ou]
 intro x hx gx
 have l:=di (o := .cells #[t] 3 (0,0)) hx
 have d1:=d.set (o := .cells #[t] 3 (0,0)) gx
 have hxs:(h.set x (.cells #[t] 3 (0,0))) x=some (.cells #[t] 3 (0,0)):=ag
 generalize Hp.set h x _=h1 at l d1 hxs ⊢
 have cx:af G h1 ⟨x,0,none⟩=some (.int .i64 t):=by rw [aj (ai hxs)];rfl
 have key:al P_ G 113 #[.slice sa L.length cap,.func (.func 114) #[] #[.pointer (some ⟨x,0,none⟩)]] h1 (fun u h'=>u = .int .i64 (insI L t)/\h'=h1):=by
  refine quietly (av1 (by simp) ?_)
  unfold S113
  simp only [ou]
  refine b8 (fun m r h'=>∃i:Nat,m=L.length-i/\i<=L.length/\h'=h1/\r 0 = .slice sa L.length cap/\r 1 = .func (.func 114) #[] #[.pointer (some ⟨x,0,none⟩)]/\r 7 = .int .i64 L.length/\r 8 = .int .i64 i/\∀y∈L.take i,insB t y=false) ?_ (m:=L.length)
   ⟨0,rfl,by omega,rfl,by simp (disch:=decide) only [ou],by simp (disch:=decide) only [ou],by simp (disch:=decide) only [ou],by simp only [ou];rfl,by simp⟩
  rintro m r h' ⟨i,rfl,hi,rfl,g0,g1,g7,g8,hall⟩ X hX
  unfold Zc
  simp only [ou,g7,g8]
  refine bm (fun hlt=>?_) (fun hge=>?_)
  . obtain ⟨y,hy⟩:∃y,L[i]?=some y:=⟨_,List.getElem?_eq_getElem (by omega)⟩
    obtain ⟨b,o,rfl,y1,y2⟩:=Sees.span (sv.up l d1) hy
    unfold J3
    simp (disch:=decide) only [ou,g0,g1,g8,R2 (Int.natCast_nonneg i) hlt,y1,y2]
    refine (Om (x:=y) cx d1).mono ?_
    rintro _ h' ⟨rfl,rfl⟩
    refine pv (fun hb=>?_) (fun hb=>?_)
    . try simp (disch:=first|decide|omega) only [ou,Nat.reduceAdd,Nat.reduceMul,g8]
      refine ⟨?_,Hp.le.refl _⟩
      unfold insI
      rw [ab6 hy hall hb]
    . unfold J2
      simp (disch:=first|decide|omega) only [ou,g8]
      refine hX (L.length-(i+1)) _ _ (by omega) ⟨i+1,rfl,by omega,rfl,by simp (disch:=decide) only [ou,g0],by simp (disch:=decide) only [ou,g1],by simp (disch:=decide) only [ou,g7],by simp only [ou];rfl,fun z hz=>?_⟩
      rw [List.take_add_one,hy]at hz
      rcases List.mem_append.1 hz with h2|h2
      . exact hall z h2
      . simp at h2;subst h2;exact hb
  . obtain rfl:i=L.length:=by omega
    try simp (disch:=first|decide|omega) only [ou,Nat.reduceAdd,Nat.reduceMul]
    unfold Zd
    try simp only [ou]
    refine ⟨?_,Hp.le.refl _⟩
    unfold insI
    rw [R4 (by rw [List.take_length]at hall;exact hall)]
 refine key.mono ?_
 rintro _ h1 ⟨rfl,rfl⟩
 try simp only [ou]
 exact l
end Go.Proofs.YtfflipnhffknnaaGreatDoor
end
section
namespace Go.Proofs.YtfflipnhffknnaaGreatDoor
open Go Go.HL
def dx:=jq bC (jq (jq (jq (jq @al30 (jq @al48 @Io)) (jq (jq @Im @Il) (jq @gc @Ih))) (jq (jq @px (jq @cf155 @cf166)) (jq (jq @cf61 @cf78) (jq @wd @H4)))) (jq (jq (jq @ld178 (jq @ld28 @ld30)) (jq (jq @ld4 @ld48) (jq @ld68 @l8))) (jq (jq @jj (jq @pm @Ke)) (jq (jq @ry @yd) (jq @Kv @true_and)))))
abbrev Ez (m:Move):Array Value:=#[Lg m]
theorem Rn {G h:Hp} {gp:Nat} {p:Pose}:al P_ G 149 #[.pointer (some ⟨gp,0,none⟩),kz p] h (fun u h'=>∃b1 b2,u = .func (.func 165) #[] #[.pointer (some ⟨b1,0,none⟩),.pointer (some ⟨b2,0,none⟩)]/\Sep [noHp.set b1 (.cells #[.pointer (some ⟨gp,0,none⟩)] 68 (0,0)),noHp.set b2 (.cells #[p.x,p.y,.bool p.d] 30 (0,0)),h] h'/\Dis G h'):=by
 refine al.assume fun d=>as1 (by simp) ?_
 unfold S149
 simp only [dx]
 intro x hx gx y hy gy
 exact ⟨x,y,rfl,(((Sep.one (h:=h)).new hx).new hy).swap,(d.set gx).set gy⟩
theorem Ue {G h a q:Hp} {y g:Value} {Y:List Move->Hp->Prop} {Q0:Move->Prop} {N:Nat} {gb pb w k:Nat} {f:Nat->Nat->Int} {p:Pose}
 (yl:YlN P_ Ez Q0 N G y Y) (ya:Y [] a) (s:Sep [a,q] h) (hg:q gb=some (.cells #[g] 68 (0,0))) (hpb:q pb=some (.cells #[p.x,p.y,.bool p.d] 30 (0,0))) (gs:GS G q g w k f) (st:jb G) (hN:(Ey w k f p).length<=N+1) (hQ:∀m∈Ey w k f p,Q0 m):
 al P_ G 182 #[y,.pointer (some ⟨gb,0,none⟩),.pointer (some ⟨pb,0,none⟩)] h (fun _ h'=>xu G q Y (Ey w k f p) h'):=by
 refine al.assume fun d=>aq6 (by simp) ?_
 unfold S182
 obtain ⟨T,hT⟩:∃T,Ey w k f p=T:=⟨_,rfl⟩
 rw [hT]at hN hQ ⊢
 refine b8 (fun m r h3=>∃(i:Nat) (a:Hp) (L:List Move),m=4-i/\i<=4/\r 0=y/\r 1 = .pointer (some ⟨gb,0,none⟩)/\r 2 = .pointer (some ⟨pb,0,none⟩)/\r 8 = .int .i64 i/\Sep [a,q] h3/\Dis G h3/\Y L a/\L++na (runD w k f p) i (4-i)=T) ?_
  (m:=4) ⟨0,a,[],rfl,by decide,by simp (disch:=decide) only [dx],by simp (disch:=decide) only [dx],by simp (disch:=decide) only [dx],by simp only [dx]<;>rfl,s,d,ya,hT⟩
 rintro m r h3 ⟨i,a,L,rfl,hi,g0,g1,g2,g8,s,d,ya,hT⟩ X HX
 unfold X8
 simp only [dx,g8]
 refine bm (fun hlt=>?_) (fun hge=>?_)
 rotate_left
 . obtain rfl:i=4:=by omega
   try simp (disch:=first|decide|omega) only [dx,Nat.reduceAdd,Nat.reduceMul]
   exact xu.go s d ya (by rw [<- hT];simp [na])
 have hlt':i<4:=by omega
 unfold I6
 refine b8 (fun m r2 h3=>∃(n:Nat) (a:Hp) (L:List Move),m=17-n/\1<=n/\n<=17/\r2 0=y/\r2 1 = .pointer (some ⟨gb,0,none⟩)/\r2 2 = .pointer (some ⟨pb,0,none⟩)/\r2 4 = .int .i64 i/\r2 5 = .int .i64 n/\r2 8 = .int .i64 i/\Sep [a,q] h3/\Dis G h3/\Y L a/\L++(kq (Cx w k f p i) (uv p i) n (17-n)++na (runD w k f p) (i+1) (3-i))=T) ?_
  (m:=16) ⟨1,a,L,rfl,by decide,by decide,by simp (disch:=decide) only [dx,g0],by simp (disch:=decide) only [dx,g1],by simp (disch:=decide) only [dx,g2],by simp (disch:=decide) only [dx,g8],by simp (disch:=decide) only [dx]<;>rfl,by simp (disch:=decide) only [dx,g8],s,d,ya,by rw [<- hT,show 4-i=(3-i)+1 by omega];rfl⟩
 rintro m r2 h3 ⟨n,a,L,rfl,hn1,hn2,q0,q1,q2,q4,q5,q8,s,d,ya,hT⟩ X2 HX2
 have hgh:=s.at 1 rfl hg
 have hph:=s.at 1 rfl hpb
 have cg:∀j,af G h3 ⟨gb,j,none⟩=_:=fun j=>aj (ai hgh)
 have cp:∀j,af G h3 ⟨pb,j,none⟩=_:=fun j=>aj (ai hph)
 unfold I5
 simp only [dx,q1,q2,q4,q5,cg,cp]
 have next:∀(r3:Rg) h5 (a:Hp) (L:List Move),r3 0=r2 0->r3 1=r2 1->r3 2=r2 2->r3 8=r2 8->Sep [a,q] h5->Dis G h5->Y L a->L++na (runD w k f p) (i+1) (3-i)=T->
  B3 G (bv X (bn 0 (qa (retK P_ G [] fun x h'=>xu G q Y T h')))) r3 h5:=by
  intro r3 h5 a L w0 w1 w2 w8 s5 d5 ya5 hT5
  unfold B3
  have w8':=w8.trans q8
  simp (disch:=first|decide|omega) only [dx,w8']
  refine HX (4-(i+1)) _ _ (by omega) ⟨i+1,a,L,rfl,hlt',by simp (disch:=decide) only [dx,w0,q0],by simp (disch:=decide) only [dx,w1,q1],by simp (disch:=decide) only [dx,w2,q2],by simp only [dx]<;>rfl,s5,d5,ya5,by rw [<- hT5,show 4-(i+1)=3-i by omega]⟩
 refine (Gs (p:=p) (dir:=(i:Int)) (n:=(n:Int)) st).mono ?_
 rintro _ h4 ⟨rfl,rfl⟩
 simp (disch:=first|decide|exact ao|exact am|omega|rfl) only [dx]
 intro x hx gx
 generalize e5:Hp.set h4 x _=h5
 obtain ⟨l5,d5,b5⟩:=boxed e5 hx d gx
 have s5:=s.le l5
 by_cases hn:n=17
 . subst hn
   have ok:okS (i:Int) ((17:Nat):Int)=false:=by
    unfold okS
    rw [show ax ((17:Nat):Int) 0 16=false from rfl]
    rfl
   try simp only [dx,ok,if_neg (show ¬(1:Nat)=2 by decide)]
   exact next _ _ a L (by simp (disch:=decide) only [dx]) (by simp (disch:=decide) only [dx]) (by simp (disch:=decide) only [dx]) (by simp (disch:=decide) only [dx]) s5 d5 ya hT
 have ok:okS (i:Int) (n:Int)=true:=by
  unfold okS
  rw [Bool.and_eq_true,dp,dp]
  omega
 have esh:lj p i n=gh p i n:=by unfold lj;rw [if_pos ok]
 rw [esh]at b5
 have cx5:∀j,af G h5 ⟨x,j,none⟩=_:=fun j=>aj (ai b5)
 have cg5:∀j,af G h5 ⟨gb,j,none⟩=_:=fun j=>aj (ai (l5 _ _ hgh))
 have cp5:∀j,af G h5 ⟨pb,j,none⟩=_:=fun j=>aj (ai (l5 _ _ hph))
 try simp only [dx,ok,cg5,cx5]
 refine (nt (p:=gh p i n) (gs.up (s5.in 1 rfl) d5) st Dz).mono ?_
 rintro _ h5 ⟨rfl,rfl⟩
 have erun:kq (Cx w k f p i) (uv p i) n (17-n)=if cj w k f (gh p i n)=true then uv p i n::kq (Cx w k f p i) (uv p i) (n+1) (17-(n+1))else []:=by
  rw [show 17-n=(17-(n+1))+1 by omega]
  rfl
 rw [erun]at hT
 cases hf:cj w k f (gh p i n)with
 |false=>
  try simp only [dx,if_neg (show ¬(1:Nat)=2 by decide)]
  rw [hf]at hT
  exact next _ _ a L (by simp (disch:=decide) only [dx]) (by simp (disch:=decide) only [dx]) (by simp (disch:=decide) only [dx]) (by simp (disch:=decide) only [dx]) s5 d5 ya hT
 |true=>
 rw [hf,if_pos rfl,List.cons_append]at hT
 try simp only [dx]
 unfold Be
 try simp (disch:=decide) only [dx,q0,q1,q2,q4,q5,cp5,cx5]
 refine jk (fun v h6 H=>?_) (yl L (uv p i n) a q h5 (by rw [<- hT]at hN;simp only [List.length_append,List.length_cons]at hN;omega) (hQ _ (by rw [<- hT];simp)) ya s5 d5)
 obtain ⟨a6,rfl,s6,d6,z6⟩:=H
 try simp only [dx]
 unfold Bf
 simp (disch:=first|decide|omega) only [dx,q5]
 refine HX2 (17-(n+1)) _ _ (by omega) ⟨n+1,a6,L++[uv p i n],rfl,by omega,by omega,by simp (disch:=decide) only [dx,q0],by simp (disch:=decide) only [dx,q1],by simp (disch:=decide) only [dx,q2],by simp (disch:=decide) only [dx,q4],by simp only [dx]<;>rfl,by simp (disch:=decide) only [dx,q8],s6,d6,z6,by rw [<- hT];simp⟩
theorem Oo {G:Hp} {y y':Value} {Y:List Move->Hp->Prop} {Q0:Move->Prop} {N:Nat} {bx l:Nat} {o:Option Exit->Obj} {r:Rg} (yl:YlN P_ Ez Q0 N G y Y) (gl:G l=none) (ho:∀e,gm (o e)=false) (g3:r 3 = .pointer (some ⟨bx,0,none⟩))
 (hy:∀(args:Array Value) (h1:Hp) (K1:Value->Hp->Prop),args.size=1->h1 l=some (o none)->
  Pu G (setR 32 #[13] args r) h1 (fun e r2 h2=>e = .normal/\h2 l=some (o none)/\∀ob,gm ob=false->Pt G r2 (h2.set l ob) (fun e _ h3=>h3 l=some ob/\match e with
   | .normal=>K1 (.bool true) (h3.set l (o none))
   | .panic _=>False
   | .outgrown=>False
   |e=>K1 (.bool false) (h3.set l (o (some e)))))->
  opH P_ G (ig y' args) h1 K1):
 YlN P_ Ez Q0 N G y' (InY Y (noHp.set bx (.cells #[y] 178 (0,0))) l (o none)):=by
 rintro L m b q h hL hQm ⟨a,ya,sb⟩ s d
 have s1:Sep [q,a,noHp.set bx (.cells #[y] 178 (0,0)),noHp.set l (o none)] h:=by
  have:=s.swap.split sb
  simpa using this
 refine hy (Ez m) h _ rfl (s1.at 3 rfl ag) ?_
 rw [Wg (by decide)]
 unfold Pu
 simp (disch:=first|decide|exact ao|exact am|omega|rfl) only [dx]
 intro x hx gx
 try simp (disch:=first|decide|omega) only [dx,Nat.reduceAdd,Nat.reduceMul]
 have s2:=s1.past (o:=qd m) hx
 have sx:=s1.new (o:=qd m) hx
 have d2:=d.set (o:=qd m) gx
 have nlx:l≠x:=fun e=>by rw [<- e,s1.at 3 rfl ag]at hx;cases hx
 refine ⟨by rw [av nlx];exact s1.at 3 rfl ag,fun ob hob=>?_⟩
 generalize Hp.set h x _=h2 at s2 sx d2 ⊢
 have s3:Sep [noHp.set l ob,noHp.set x (qd m),q,a,noHp.set bx (.cells #[y] 178 (0,0))] (h2.set l ob):=by
  have:=(sx.pick 4 rfl rfl).put (o:=ob) ag
  rw [set_set]at this
  exact this
 have d3:Dis G (h2.set l ob):=d2.set gl
 generalize Hp.set h2 l ob=h3 at s3 d3 ⊢
 have cb:∀j,af G h3 ⟨bx,j,none⟩=_:=fun j=>aj (ai (s3.at 4 rfl ag))
 have cx:∀j,af G h3 ⟨x,j,none⟩=_:=fun j=>aj (ai (s3.at 1 rfl ag))
 unfold Pt
 try simp (disch:=decide) only [dx,g3,cb,cx]
 have s4:Sep [noHp.set bx (.cells #[y] 178 (0,0)),noHp.set l ob,q,a] h3:=by
  exact (s3.pick 1 rfl rfl).drop.pick 3 rfl rfl
 obtain ⟨Q,s5,sQ⟩:=s4.pack3
 refine jk (fun v h6 H=>?_) (yl L m a Q h3 hL hQm ya s5.swap d3)
 obtain ⟨a6,rfl,s6,d6,z6⟩:=H
 have s7:Sep [a6,noHp.set bx (.cells #[y] 178 (0,0)),noHp.set l ob,q] h6:=by
  have:=s6.split sQ
  simpa using this
 have hl6:=s7.at 2 rfl (ag (h:=noHp) (b:=l) (o:=ob))
 have fin:∀oo:Obj,∃b',Sep [b',q] (h6.set l oo)/\Sep [a6,noHp.set bx (.cells #[y] 178 (0,0)),noHp.set l oo] b':=by
  intro oo
  have s8:Sep [noHp.set l oo,a6,noHp.set bx (.cells #[y] 178 (0,0)),q] (h6.set l oo):=by
   have:=(s7.pick 2 rfl rfl).put (o:=oo) ag
   rw [set_set]at this
   exact this
  exact (s8.rot.rot.pack3)
 try simp only [dx]
 obtain ⟨b',t1,t2⟩:=fin (o none)
 exact ⟨hl6,b',t1,d6.set gl,a6,z6,t2⟩
theorem Rl {G h a q:Hp} {y g:Value} {Y:List Move->Hp->Prop} {Q0:Move->Prop} {N:Nat} {L:List Move} {gb pb bx w k:Nat} {f:Nat->Nat->Int} {p:Pose} {T:List Move} {KK:EK} {r:Rg}
 (yl:YlN P_ Ez Q0 N G y Y) (ya:Y L a) (s:Sep [a,noHp.set bx (.cells #[y] 178 (0,0)),q] h) (d:Dis G h) (hg:q gb=some (.cells #[g] 68 (0,0))) (hpb:q pb=some (.cells #[p.x,p.y,.bool p.d] 30 (0,0))) (gs:GS G q g w k f) (st:jb G) (hp:PB p)
 (g1:r 1 = .pointer (some ⟨gb,0,none⟩)) (g2:r 2 = .pointer (some ⟨pb,0,none⟩)) (g3:r 3 = .pointer (some ⟨bx,0,none⟩))
 (hN:L.length<=N) (hQ:wayB w k f (m8 p)=true->Q0 (m8 p)) (hT:L++(if wayB w k f (m8 p)=true then [m8 p]else [])=T) (H:∀r h',xu G q Y T h'->KK .normal r h'):Ps G KK r h:=by
 have cp:∀j,af G h ⟨pb,j,none⟩=_:=fun j=>aj (ai (s.at 2 rfl hpb))
 unfold Ps
 simp (disch:=first|decide|exact ao|exact am|omega|rfl) only [dx,g1,g2,g3,cp]
 intro x hx gx
 have d2:=d.set (o:=qd (m8 p)) gx
 have s2:=s.past (o:=qd (m8 p)) hx
 have hx2:(h.set x (qd (m8 p))) x=some (qd (m8 p)):=ag
 have e:(h.set x (.cells #[(2:Int),(0:Int),(0:Int),p.x,p.y,.bool p.d,p.x,p.y,.bool !p.d,(0:Int),(0:Int)] 48 (0,0)))=h.set x (qd (m8 p)):=rfl
 try simp (disch:=first|decide|omega) only [dx,Nat.reduceAdd,Nat.reduceMul]
 rw [e]
 generalize e1:Hp.set h x _=h1 at s2 d2 hx2 ⊢
 have cg:∀j,af G h1 ⟨gb,j,none⟩=_:=fun j=>aj (ai (s2.at 2 rfl hg))
 have cb:∀j,af G h1 ⟨bx,j,none⟩=_:=fun j=>aj (ai (s2.at 1 rfl ag))
 have cx:∀j,af G h1 ⟨x,j,none⟩=_:=fun j=>aj (ai hx2)
 try simp only [dx,cg]
 refine (Hg (m:=m8 p) (gs.up (s2.in 2 rfl) d2) st (Nt hp)).mono ?_
 rintro _ _ ⟨rfl,rfl⟩
 cases hw:wayB w k f (m8 p)with
 |false=>
  rw [hw,if_neg (by simp),List.append_nil]at hT
  try simp only [dx]
  exact H _ _ (xu.go (s2.pick 1 rfl rfl).drop d2 ya hT)
 |true=>
  rw [hw,if_pos rfl]at hT
  try simp only [dx,cb,cx]
  obtain ⟨Q,s5,sQ⟩:=s2.rot.rot.pack2
  refine jk (fun v h6 R=>?_) (yl L (m8 p) a Q _ hN (hQ hw) ya s5.swap d2)
  obtain ⟨a6,rfl,s6,d6,z6⟩:=R
  refine H _ _ ?_
  have s7:Sep [a6,noHp.set bx (.cells #[y] 178 (0,0)),q] h6:=by
   have:=s6.split sQ
   simpa using this
  refine ⟨a6,(s7.pick 1 rfl rfl).drop,d6,?_⟩
  rw [<- hT]
  exact z6
theorem Rm {G h a q:Hp} {y g:Value} {Y:List Move->Hp->Prop} {Q0:Move->Prop} {N:Nat} {gb pb w k:Nat} {f:Nat->Nat->Int} {p:Pose} (hyf:∃fn a b,y = .func fn a b)
 (yl:YlN P_ Ez Q0 N G y Y) (ya:Y [] a) (s:Sep [a,q] h) (hg:q gb=some (.cells #[g] 68 (0,0))) (hpb:q pb=some (.cells #[p.x,p.y,.bool p.d] 30 (0,0))) (gs:GS G q g w k f) (st:jb G) (hp:PB p) (hN:(lk w k f p).length<=N) (hQ:∀m∈lk w k f p,Q0 m):
 al P_ G 165 #[y,.pointer (some ⟨gb,0,none⟩),.pointer (some ⟨pb,0,none⟩)] h (fun _ h'=>xu G q Y (lk w k f p) h'):=by
 obtain ⟨fn,fa,fb,rfl⟩:=hyf
 obtain ⟨⟨gp,kb,rfl,_⟩,_⟩:=id gs
 refine al.assume fun d=>ar2 (by simp) ?_
 unfold S165
 simp only [dx]
 intro bx hbx gbx
 have s1:Sep [a,noHp.set bx (.cells #[.func fn fa fb] 178 (0,0)),q] (h.set bx (.cells #[.func fn fa fb] 178 (0,0))):=(s.new hbx).swap
 have d1:=d.set (o := .cells #[.func fn fa fb] 178 (0,0)) gbx
 generalize Hp.set h bx _=h1 at s1 d1 ⊢
 have cg:∀j,af G h1 ⟨gb,j,none⟩=_:=fun j=>aj (ai (s1.at 2 rfl hg))
 have cp:∀j,af G h1 ⟨pb,j,none⟩=_:=fun j=>aj (ai (s1.at 2 rfl hpb))
 try simp only [dx,cg,cp]
 refine (nt (p:=p) (gs.up (s1.in 2 rfl) d1) st hp).mono ?_
 rintro _ _ ⟨rfl,rfl⟩
 unfold lk at hN hQ ⊢
 cases hf:cj w k f p with
 |false=>
  try simp only [dx]
  exact ⟨a,(s1.pick 1 rfl rfl).drop,d1,ya⟩
 |true=>
 rw [hf,if_pos rfl,List.length_append]at hN
 rw [hf,if_pos rfl]at hQ
 try simp only [dx]
 unfold Yb
 try simp (disch:=decide) only [dx,cg,cp]
 refine (Zy (gp:=gp) (p:=p)).mono ?_
 rintro _ _ ⟨b1,b2,rfl,hb1,gb1,hb2,gb2,rfl⟩
 have s2:Sep [(q.set b1 (.cells #[.pointer (some ⟨gp,0,none⟩)] 68 (0,0))).set b2 (.cells #[p.x,p.y,.bool p.d] 30 (0,0)),a,noHp.set bx (.cells #[.func fn fa fb] 178 (0,0))] _:=((s1.pick 2 rfl rfl).grow (o := .cells #[.pointer (some ⟨gp,0,none⟩)] 68 (0,0)) hb1).grow (o := .cells #[p.x,p.y,.bool p.d] 30 (0,0)) hb2
 have d2:=(d1.set (o := .cells #[.pointer (some ⟨gp,0,none⟩)] 68 (0,0)) gb1).set (o := .cells #[p.x,p.y,.bool p.d] 30 (0,0)) gb2
 have e12:b1≠b2:=jd hb2
 have hq1:q b1=none:=(s1.in 2 rfl).none hb1
 have lq:q.le ((q.set b1 (.cells #[.pointer (some ⟨gp,0,none⟩)] 68 (0,0))).set b2 (.cells #[p.x,p.y,.bool p.d] 30 (0,0))):=(di hq1).trans (di (by rw [av (Ne.symm e12)];exact (s1.in 2 rfl).none (jm hb2)))
 have hq1':((q.set b1 (.cells #[.pointer (some ⟨gp,0,none⟩)] 68 (0,0))).set b2 (.cells #[p.x,p.y,.bool p.d] 30 (0,0))) b1=some (.cells #[.pointer (some ⟨gp,0,none⟩)] 68 (0,0)):=by rw [av e12,ag]
 have hq2':((q.set b1 (.cells #[.pointer (some ⟨gp,0,none⟩)] 68 (0,0))).set b2 (.cells #[p.x,p.y,.bool p.d] 30 (0,0))) b2=some (.cells #[p.x,p.y,.bool p.d] 30 (0,0)):=ag
 generalize (q.set b1 (.cells #[.pointer (some ⟨gp,0,none⟩)] 68 (0,0))).set b2 (.cells #[p.x,p.y,.bool p.d] 30 (0,0))=q2 at s2 lq hq1' hq2'
 generalize Hp.set (Hp.set _ b1 _) b2 _=h2 at s2 d2 ⊢
 intro y' l o hl gl ho HY
 rw [opE76]
 have s3:Sep [a,noHp.set bx (.cells #[.func fn fa fb] 178 (0,0)),noHp.set l (o none),q2] (h2.set l (o none)):=((s2.new (o:=o none) hl).pick 3 rfl rfl).pick 3 rfl rfl
 have d3:Dis G (h2.set l (o none)):=d2.set gl
 obtain ⟨B,sB,tB⟩:=s3.pack3
 have gs2:GS G q2 (.pointer (some ⟨gp,0,none⟩)) w k f:=gs.up lq (fun b o e=>d3 b o (sB.in 1 rfl _ _ e))
 refine (Ue (p:=p) (Oo yl gl ho (by simp (disch:=decide) only [dx]) HY) ⟨a,ya,tB⟩ sB hq1' hq2' gs2 st (by omega) (fun m hm=>hQ m (List.mem_append_left _ hm))).mono ?_
 rintro _ h5 ⟨b5,s5,d5,a5,ya5,t5⟩
 have s6:Sep [q2,a5,noHp.set bx (.cells #[.func fn fa fb] 178 (0,0)),noHp.set l (o none)] h5:=by
  have:=s5.swap.split t5
  simpa using this
 obtain ⟨h6,s7,t7⟩:=s6.pack3
 refine ⟨h6,s7.in 0 rfl,?_,.inl ⟨s7.at 1 rfl ag,?_⟩⟩
 . rcases s7.apart (b:=noHp.set l (o none)) (by simp) l with e|e
   . exact e
   . rw [ag]at e;cases e
 try simp only [dx]
 have d6:Dis G h6:=fun b o e=>d5 b o (s7.in 0 rfl _ _ e)
 refine Rl yl ya5 ((t7.cut lq).rot.rot) d6 hg hpb gs st hp (by simp (disch:=decide) only [dx]) (by simp (disch:=decide) only [dx]) (by simp (disch:=decide) only [dx]) (by omega) (fun hw=>hQ _ (List.mem_append_right _ (by rw [if_pos hw];exact .head _))) rfl fun r h' H=>?_
 try simp only [dx]
 exact H
end Go.Proofs.YtfflipnhffknnaaGreatDoor
end
section
namespace Go.Proofs.YtfflipnhffknnaaGreatDoor
open Go Go.HL Go.Proofs.Resv Go.Proofs.Srch
def Iq:=jq bC (jq (jq (jq (jq @al48 @Pc) (jq @ad9 (jq @cf108 @cf30))) (jq (jq @cf90 (jq @ap7 @Da)) (jq @ap6 (jq @S2 @S0)))) (jq (jq (jq @al4 @al3) (jq @Hj (jq @Wz @ld3p))) (jq (jq @Wy (jq @ld50p @Rr)) (jq @ik (jq @Kv @true_and)))))
def WaP (q:Par) (ip P2:Hp) (v:Value) (L:List Move):Prop:=∃raws:List RawW,Slc sf 232 ip v raws/\raws.length=L.length/\
 ∀(i:Nat) (x:RawW) (m:Move),raws[i]?=some x->L[i]?=some m->x.m=m/\x.d=fk q.C m/\x.n=(lr q.T q.r ((ka q.w q.k q.f m).map (numI q.w q.k))).length/\Slc mj 151 P2 (.slice x.a x.n x.c) (lr q.T q.r ((ka q.w q.k q.f m).map (numI q.w q.k)))
def MvY (q:Par) (kp sp xl x0 l:Nat) (ob:Obj) (L:List Move) (b:Hp):Prop:=∃ip v P2 ak,WaP q ip P2 v L/\KP ak kp q.C.un q.C.ac q.C.sp/\
 HL.Sep [ip,noHp.set xl (.cells #[v] 229 (0,0)),P2,ak,noHp.set x0 (.cells #[.pointer (some ⟨sp,0,none⟩)] 127 (0,0)),noHp.set l ob] b
theorem Ku {w k:Nat} {f:Nat->Nat->Int} {m:Move} (hw:w<=16) (hk:k<=16):(ka w k f m).length<=300:=by
 unfold ka
 split
 . have hn:(nh w k (wayL m)).Nodup:=(ri (w:=w) (k:=k) (W:=wayL m)).imp fun h e=>by subst e;omega
   have:=Ai hn (fun c hc=>i7.2 (pk.1 hc).1)
   have h2:w*k<=16*16:=Nat.mul_le_mul hw hk
   omega
 . simp
theorem Rk {G:Hp} {q:Par} {y:Value} {kp ms mw mp mt hp sp xl x0 l:Nat} {oo:Option Exit->Obj} {r:Rg} (bg:Bg G q sp kp ms mw mp mt hp) (gl:G l=none) (ho:∀e,gm (oo e)=false) (g2:r 2 = .pointer (some ⟨x0,0,none⟩)) (g6:r 6 = .pointer (some ⟨xl,0,none⟩))
 (hy:∀(args:Array Value) (h1:Hp) (K1:Value->Hp->Prop),args.size=1->h1 l=some (oo none)->
  Qb G (setR 71 #[29] args r) h1 (fun e r2 h2=>e = .normal/\h2 l=some (oo none)/\∀ob,gm ob=false->Qa G r2 (h2.set l ob) (fun e _ h3=>h3 l=some ob/\match e with
   | .normal=>K1 (.bool true) (h3.set l (oo none))
   | .panic _=>False
   | .outgrown=>False
   |e=>K1 (.bool false) (h3.set l (oo (some e)))))->
  opH P_ G (ig y args) h1 K1):YlN P_ Ez MB 1000 G y (MvY q kp sp xl x0 l (oo none)):=by
 rintro L m b R h hL hm ⟨ip,v,P2,ak,⟨raws,sl,hlen,hraw⟩,kpk,sb⟩ s d
 obtain ⟨ab,cb,ap,cp,ar,cr,az,cs,gp,tp,hbg⟩:=id bg.ex
 have s1:HL.Sep [ip,noHp.set xl (.cells #[v] 229 (0,0)),P2,ak,noHp.set x0 (.cells #[.pointer (some ⟨sp,0,none⟩)] 127 (0,0)),noHp.set l (oo none),R] h:=s.open sb
 refine hy (Ez m) h _ rfl (s1.at 5 rfl ag) ?_
 rw [Wg (by decide)]
 unfold Qb
 simp (disch:=first|decide|exact ao|exact am|omega|rfl) only [Iq]
 intro xm hxm gxm
 try simp (disch:=first|decide|omega) only [Iq,Nat.reduceAdd,Nat.reduceMul]
 have s2:=s1.new (o:=qd m) hxm
 have d2:=d.set (o:=qd m) gxm
 have nlx:l≠xm:=fun e=>by rw [<- e,s1.at 5 rfl ag]at hxm;cases hxm
 refine ⟨by rw [av nlx];exact s1.at 5 rfl ag,fun ob hob=>?_⟩
 generalize Hp.set h xm _=h2 at s2 d2 ⊢
 have s3:=(s2.pick 6 rfl rfl).put (o:=ob) ag
 rw [set_set]at s3
 have d3:Dis G (h2.set l ob):=d2.set gl
 generalize Hp.set h2 l ob=h3 at s3 d3 ⊢
 obtain ⟨sv,cv,rfl,hcv⟩:=sl.len (by decide)
 obtain ⟨Q,s4,sQ⟩:=Sep.pack [noHp.set xl (.cells #[.slice sv raws.length cv] 229 (0,0)),noHp.set xm (qd m),noHp.set x0 (.cells #[.pointer (some ⟨sp,0,none⟩)] 127 (0,0))] (R:=[ak,P2,ip,noHp.set l ob,R]) (s3.sel [3,1,6,5,4,2,0,7] (by decide) rfl)
 have dQ:Dis G Q:=fun b o e=>d3 b o (s4.in 0 rfl _ _ e)
 obtain ⟨caQ,cQ,gsQ,tsQ⟩:=hbg Q dQ
 simp only [oy]at cQ
 have cl:af G Q ⟨xl,0,none⟩=some (.slice sv raws.length cv):=by rw [aj (ai (sQ.at 0 rfl ag))];rfl
 have cm:∀j,af G Q ⟨xm,j,none⟩=_:=fun j=>aj (ai (sQ.at 1 rfl ag))
 have c0:af G Q ⟨x0,0,none⟩=some (.pointer (some ⟨sp,0,none⟩)):=by rw [aj (ai (sQ.at 2 rfl ag))];rfl
 unfold Qa
 refine ⟨Q,s4.in 0 rfl,?_⟩
 try simp (disch:=decide) only [Iq,g2,g6,cl,cm,c0,cQ]
 refine (Hl (m:=m) (hbg h3 d3).1.cv kpk (s4.pick 1 rfl rfl) hm.n).mono ?_
 rintro _ h5 ⟨rfl,ak5,kpk5,s5,d5⟩
 refine ⟨s5.in 1 rfl,?_⟩
 obtain ⟨ca5,c5,gs5,ts5⟩:=hbg h5 d5
 refine (T3 (m:=m) gs5 bg.st hm).mono ?_
 rintro u6 h6 ⟨ip6,sl6,s6,d6⟩
 have s6':=(s6.swap.open s5)
 refine ⟨s6'.in 1 rfl,?_⟩
 obtain ⟨ca6,c6,gs6,ts6⟩:=hbg h6 d6
 refine (Af (bb:=100) gs6 ts6 bg.gt bg.fw (by omega) (sl6.see (by decide) (s6.in 0 rfl)) (Ku gs6.w2 gs6.k2)).mono ?_
 rintro u7 h7 ⟨ip7,sl7,s7,d7⟩
 have s7':=s7.swap.open s6'
 refine ⟨s7'.in 1 rfl,?_⟩
 obtain ⟨s8v,c8v,rfl,hc8⟩:=sl7.len (by decide)
 try simp only [Iq]
 intro xb hxb gxb
 have s8:=s7'.past (o := .cells (sf.enc ⟨m,fk q.C m,s8v,(lr q.T q.r ((ka q.w q.k q.f m).map (numI q.w q.k))).length,c8v⟩).toArray 232 (0,0)) hxb
 have d8:=d7.set (o := .cells (sf.enc ⟨m,fk q.C m,s8v,(lr q.T q.r ((ka q.w q.k q.f m).map (numI q.w q.k))).length,c8v⟩).toArray 232 (0,0)) gxb
 have hxs:(h7.set xb (.cells (sf.enc ⟨m,fk q.C m,s8v,(lr q.T q.r ((ka q.w q.k q.f m).map (numI q.w q.k))).length,c8v⟩).toArray 232 (0,0))) xb=some (.cells (sf.enc ⟨m,fk q.C m,s8v,(lr q.T q.r ((ka q.w q.k q.f m).map (numI q.w q.k))).length,c8v⟩).toArray 232 (0,0)):=ag
 simp only [sf]at s8 d8 hxs
 generalize Hp.set h7 xb _=h8 at s8 d8 hxs ⊢
 refine dm sf (by decide) (L:=raws) (M:=[⟨m,fk q.C m,s8v,(lr q.T q.r ((ka q.w q.k q.f m).map (numI q.w q.k))).length,c8v⟩]) un229 eoway (by decide) (by decide) (s8.pick 3 rfl rfl) d8 sl (Sees.row hxs (by simp [sf,Cod.rows]) (by simp)) (by simp;omega) ?_
 intro v9 ip9 h9 sl9 s9 d9
 obtain ⟨sa9,c9,rfl,hc9⟩:=sl9.len (by decide)
 try simp (disch:=first|decide|omega) only [Iq,Nat.reduceAdd,Nat.reduceMul]
 have s10:HL.Sep [noHp.set xl (.cells #[.slice sv raws.length cv] 229 (0,0)),noHp.set xm (qd m),noHp.set x0 (.cells #[.pointer (some ⟨sp,0,none⟩)] 127 (0,0)),ip9,ak5,P2,noHp.set l ob,R,ip6,ip7] h9:=(s9.pick 2 rfl rfl).open sQ
 have hk9:h9 xl=some (.cells [Value.slice sv raws.length cv].toArray 229 (0,0)):=s10.at 0 rfl ag
 rw [bz sz229 rfl hk9 (by simp)]
 try simp only [Iq,List.set_cons_zero]
 generalize hraws9:(raws++[⟨m,fk q.C m,s8v,(lr q.T q.r ((ka q.w q.k q.f m).map (numI q.w q.k))).length,c8v⟩])=raws9 at*
 have s11:=s10.put (o := .cells #[.slice sa9 raws9.length c9] 229 (0,0)) ag
 rw [set_set]at s11
 have d11:=d9.set (o := .cells #[.slice sa9 raws9.length c9] 229 (0,0)) (d9 _ _ hk9)
 generalize Hp.set h9 xl _=h11 at s11 d11 ⊢
 try simp (disch:=first|decide|omega) only [Iq,Nat.reduceAdd,Nat.reduceMul]
 refine ⟨s11.at 6 rfl ag,?_⟩
 have s12:=(s11.pick 6 rfl rfl).put (o:=oo none) ag
 rw [set_set]at s12
 obtain ⟨P9,s13,t13⟩:=Sep.pack [P2,ip7] (R:=[ip9,noHp.set xl (.cells #[.slice sa9 raws9.length c9] 229 (0,0)),ak5,noHp.set x0 (.cells #[.pointer (some ⟨sp,0,none⟩)] 127 (0,0)),noHp.set l (oo none),R]) (s12.sel [6,9,4,1,5,3,0,7] (by decide) rfl)
 obtain ⟨b',t1,t2⟩:=Sep.pack [ip9,noHp.set xl (.cells #[.slice sa9 raws9.length c9] 229 (0,0)),P9,ak5,noHp.set x0 (.cells #[.pointer (some ⟨sp,0,none⟩)] 127 (0,0)),noHp.set l (oo none)] (R:=[R]) (s13.sel [1,2,0,3,4,5,6] (by decide) rfl)
 refine ⟨b',t1,d11.set gl,ip9,.slice sa9 raws9.length c9,P9,ak5,⟨raws9,sl9,by rw [<- hraws9];simp [hlen],fun i x u hx hu=>?_⟩,kpk5,t2⟩
 rw [<- hraws9]at hx
 by_cases hi:i<L.length
 . rw [List.getElem?_append_left (by omega)]at hx
   rw [List.getElem?_append_left hi]at hu
   obtain ⟨q1,q2,q3,q4⟩:=hraw i x u hx hu
   exact ⟨q1,q2,q3,q4.le (t13.in 0 rfl)⟩
 . rw [List.getElem?_append_right (by omega)]at hx hu
   rw [hlen]at hx
   obtain hi0:i-L.length=0:=by
    have:=(List.getElem?_eq_some_iff.1 hu).1
    simp at this;omega
   rw [hi0]at hx hu
   cases hx
   cases hu
   exact ⟨rfl,rfl,rfl,sl7.le (t13.in 1 rfl)⟩
def tg:=jq bC (jq (jq (jq (jq @al229 @gc) (jq @px @cf115)) (jq (jq @cf149 @Da) (jq @fa134_6 (jq @ap5 @ld127)))) (jq (jq (jq @al4 @ld129) (jq @ld129p (jq @ld229 @al3))) (jq (jq @ld30 @tw) (jq @Rr (jq @ju @ik)))))
theorem Wi {α:Type} {ok:Nat->Bool} {mk:Nat->α}:∀{k n:Nat} {m:α},m∈kq ok mk n k->∃j,n<=j/\j<n+k/\ok j=true/\m=mk j
 |0,n,m,h=>by simp [kq]at h
 |k+1,n,m,h=>by
  unfold kq at h
  split at h
  . rename_i ho
    rcases List.mem_cons.1 h with rfl|h
    . exact ⟨n,by omega,by omega,ho,rfl⟩
    . obtain ⟨j,h1,h2,h3,h4⟩:=Wi h
      exact ⟨j,by omega,by omega,h3,h4⟩
  . cases h
theorem Wj {α:Type} {ok:Nat->Bool} {mk:Nat->α}:∀{k n:Nat},(kq ok mk n k).length<=k
 |0,n=>by simp [kq]
 |k+1,n=>by
  unfold kq
  split
  . have:=Wj (ok:=ok) (mk:=mk) (k:=k) (n:=n+1)
    simpa using this
  . simp
theorem S8 {α:Type} {D:Nat->List α}:∀{k i:Nat} {m:α},m∈na D i k->∃j,i<=j/\j<i+k/\m∈D j
 |0,i,m,h=>by simp [na]at h
 |k+1,i,m,h=>by
  unfold na at h
  rcases List.mem_append.1 h with h|h
  . exact ⟨i,by omega,by omega,h⟩
  . obtain ⟨j,h1,h2,h3⟩:=S8 h
    exact ⟨j,by omega,by omega,h3⟩
theorem Ab {w k:Nat} {f:Nat->Nat->Int} {p:Pose} {m:Move} (h:m∈lk w k f p):cj w k f p=true/\((∃d n,d<4/\1<=n/\n<=16/\Cx w k f p d n=true/\m=uv p d n)\/(wayB w k f (m8 p)=true/\m=m8 p)):=by
 unfold lk at h
 split at h
 . rename_i hf
   refine ⟨hf,?_⟩
   rcases List.mem_append.1 h with h|h
   . obtain ⟨d,h1,h2,h3⟩:=S8 h
     obtain ⟨n,n1,n2,n3,rfl⟩:=Wi h3
     exact .inl ⟨d,n,by omega,n1,by omega,n3,rfl⟩
   . split at h
     . rename_i hw
       rw [List.mem_singleton]at h
       exact .inr ⟨hw,h⟩
     . cases h
 . cases h
theorem Lf {w k:Nat} {f:Nat->Nat->Int} {p:Pose}:(lk w k f p).length<=65:=by
 unfold lk
 split
 . rw [List.length_append]
   have h1:(Ey w k f p).length<=64:=by
    unfold Ey
    simp only [na,List.length_append,List.length_nil]
    have:=fun d=>Wj (ok:=Cx w k f p d) (mk:=uv p d) (k:=16) (n:=1)
    have h0:=this 0
    have h1:=this (0+1)
    have h2:=this (0+1+1)
    have h3:=this (0+1+1+1)
    unfold runD
    omega
   split
   . simp;omega
   . simp;omega
 . simp
theorem aj9 {w k:Nat} {f:Nat->Nat->Int} {p:Pose} (hp:PB p):∀m∈lk w k f p,MB m:=by
 intro m hm
 rcases (Ab hm).2 with ⟨d,n,_,h1,h2,_,rfl⟩|⟨_,rfl⟩
 . refine ⟨⟨?_,?_⟩,hp⟩
   . show (-9223372036854775808:Int)<=(n:Int);omega
   . show (n:Int)<=9223372036854775807;omega
 . exact Nt hp
theorem _root_.Go.HL.xCallV_func {P:Program} {G h:Hp} {y:Value} {args:Array Value} {K:VK} (H:opH P G (ig y args) h K):∃fn a b,y = .func fn a b:=by
 cases y<;>first|exact ⟨_,_,_,rfl⟩|exact H.elim
theorem aa4 {G:Hp} {a b y:Value} {h:Hp} {K:VK}:opE P_ G (ig (.func (.func 165) #[] #[a,b]) #[y]) h K=al P_ G 165 #[y,a,b] h K:=by kernel_rfl
theorem Ch.put2 {q:Par} {ms mw mp:Nat} {c:Cs} {o1 o3 o':Obj} {ip P2 b:Hp} {p:Pose} {v:Value} (ch:Ch q b ms mw mp c) (k1:MapO o1 c.L1) (k2:MapO o' (mput c.L2 (numP q.w q.k p) v)) (k3:MapO o3 c.L3) {h:Hp} {R:List Hp}
 (s:HL.Sep (noHp.set ms o1::noHp.set mw o'::noHp.set mp o3::c.P::ip::P2::R) h) (hp:cj q.w q.k q.f p=true) (hn:mget c.L2 (numP q.w q.k p)=none) (sl:WaP q ip P2 v (lk q.w q.k q.f p)):
 ∃a' c',Ch q a' ms mw mp c'/\c.le c'/\mget c'.L2 (numP q.w q.k p)=some v/\c'.L1=c.L1/\c'.L3=c.L3/\HL.Sep (a'::R) h:=by
 obtain ⟨P',s1,t1⟩:=Sep.pack [ip,P2,c.P] (R:=noHp.set ms o1::noHp.set mw o'::noHp.set mp o3::R) (Sep.fr (R:=R) [noHp.set ms o1,noHp.set mw o',noHp.set mp o3,c.P,ip,P2] s [4,5,3,0,1,2] (by decide) rfl)
 obtain ⟨a',s2,t2⟩:=Sep.pack [noHp.set ms o1,noHp.set mw o',noHp.set mp o3,P'] (R:=R) (Sep.fr (R:=R) [P',noHp.set ms o1,noHp.set mw o',noHp.set mp o3] s1 [1,2,3,0] (by decide) rfl)
 refine ⟨a',⟨c.L1,mput c.L2 (numP q.w q.k p) v,c.L3,P'⟩,⟨⟨o1,o',o3,k1,k2,k3,t2⟩,?_,?_,ch.m3⟩,⟨.refl _,?_,.refl _,t1.in 2 rfl⟩,by rw [ot,if_pos rfl],rfl,rfl,s2⟩
 . intro n u hu
   obtain ⟨p',f',n',s'⟩:=ch.m1 n u hu
   exact ⟨p',f',n',s'.le (t1.in 2 rfl)⟩
 . intro n u hu
   rw [ot]at hu
   split at hu
   . rename_i e
     cases hu
     refine ⟨p,hp,e,?_⟩
     obtain ⟨raws,r1,r2,r3⟩:=sl
     refine ⟨raws,r1.le (t1.in 0 rfl),by rw [r2];simp [qv],fun i x y hx hy=>?_⟩
     unfold qv at hy
     rw [List.getElem?_map]at hy
     cases hm:(lk q.w q.k q.f p)[i]? with
     |none=>rw [hm]at hy;cases hy
     |some m=>
      rw [hm]at hy
      cases hy
      obtain ⟨q1,q2,q3,q4⟩:=r3 i x m hx hm
      exact ⟨q1,q2,q3,by have:=q4.le (t1.in 1 rfl);exact this⟩
   . obtain ⟨p',f',n',s'⟩:=ch.m2 n u hu
     exact ⟨p',f',n',s'.le (t1.in 2 rfl)⟩
 . intro n u hu
   rw [ot]
   split
   . rename_i e;rw [<- e,hn]at hu;cases hu
   . exact hu
theorem Qo {G h a ak:Hp} {R:List Hp} {q:Par} {sp kp ms mw mp mt hp:Nat} {c:Cs} {p:Pose} (ch:Ch q a ms mw mp c) (kpk:KP ak kp q.C.un q.C.ac q.C.sp) (bg:Bg G q sp kp ms mw mp mt hp) (s:HL.Sep (a::ak::R) h) (hpf:cj q.w q.k q.f p=true):
 al P_ G 121 #[.pointer (some ⟨sp,0,none⟩),kz p] h (fun u h'=>∃a' ak' c',Ch q a' ms mw mp c'/\KP ak' kp q.C.un q.C.ac q.C.sp/\c.le c'/\c'.L1=c.L1/\mget c'.L2 (numP q.w q.k p)=some u/\HL.Sep (a'::ak'::R) h'/\Dis G h'):=by
 obtain ⟨ab,cb,ap,cp,ar,cr,az,cs,gp,tp,hbg⟩:=id bg.ex
 refine al.assume fun d=>au3 (by simp) ?_
 have hin:=Ag hpf
 obtain ⟨_,_,gs,_⟩:=hbg h d
 have hpb:=in_pb gs.w2 gs.k2 hin
 unfold S121
 simp only [tg]
 intro x0 hx0 gx0 xp hxp gxp
 have s1:=(s.new (o := .cells #[.pointer (some ⟨sp,0,none⟩)] 127 (0,0)) hx0).new (o := .cells #[p.x,p.y,.bool p.d] 30 (0,0)) hxp
 have d1:=(d.set (o := .cells #[.pointer (some ⟨sp,0,none⟩)] 127 (0,0)) gx0).set (o := .cells #[p.x,p.y,.bool p.d] 30 (0,0)) gxp
 generalize Hp.set (Hp.set h x0 _) xp _=h1 at s1 d1 ⊢
 have c01:af G h1 ⟨x0,0,none⟩=some (.pointer (some ⟨sp,0,none⟩)):=by rw [aj (ai (s1.at 1 rfl ag))];rfl
 have cx1:∀k,af G h1 ⟨xp,k,none⟩=_:=fun k=>aj (ai (s1.at 0 rfl ag))
 try simp only [tg,c01,cx1]
 have s1':=Sep.fr [_,_,_,_] s1 [2,3,1,0] (by decide) rfl
 refine (yv ch bg s1' hpf).mono ?_
 rintro _ h2 ⟨rfl,a2,c2,ch2,cl2,e1,e2,e3,hm3,s2,d2⟩
 have b2:=vi (hbg h2 d2).2.1
 have c02:af G h2 ⟨x0,0,none⟩=some (.pointer (some ⟨sp,0,none⟩)):=by rw [aj (ai (s2.at 2 rfl ag))];rfl
 have cx2:∀k,af G h2 ⟨xp,k,none⟩=_:=fun k=>aj (ai (s2.at 3 rfl ag))
 obtain ⟨o1,o2,o3,m1,m2,m3,sa⟩:=id ch2.sep
 have hmw:h2 mw=some o2:=(s2.open sa).at 1 rfl ag
 try simp only [tg,c02,b2.mw]
 rw [E4 unmw un3r zerow (ai hmw) m2]
 cases hg:mget c2.L2 (numP q.w q.k p)with
 |some v=>
  have hw:=ch2.look2 hpf hg
  obtain ⟨raws,r1,_,_⟩:=hw
  obtain ⟨sv,cv,rfl,_⟩:=r1.len (by decide)
  try simp only [tg,Option.getD_some,Option.isSome_some]
  intro xl hxl gxl
  have s3:=s2.past (o := .cells #[.slice sv raws.length cv] 229 (0,0)) hxl
  have d3:=d2.set (o := .cells #[.slice sv raws.length cv] 229 (0,0)) gxl
  have hxs:(h2.set xl (.cells #[.slice sv raws.length cv] 229 (0,0))) xl=some (.cells #[.slice sv raws.length cv] 229 (0,0)):=ag
  rw [bz sz229 rfl ag (by simp),set_set]
  try simp only [tg,List.set_cons_zero]
  generalize Hp.set h2 xl _=h3 at s3 d3 hxs ⊢
  have cl:af G h3 ⟨xl,0,none⟩=some (.slice sv raws.length cv):=by rw [aj (ai hxs)];rfl
  try simp (disch:=first|decide|omega) only [tg,Nat.reduceAdd,Nat.reduceMul,cl]
  exact ⟨a2,ak,c2,ch2,kpk,cl2,e1,hg,Sep.fr (R:=R) [_,_,_,_] s3 [0,1] (by decide) rfl,d3⟩
 |none=>
  try simp only [tg,Option.getD_none,Option.isSome_none]
  intro xl hxl gxl
  obtain ⟨Qr,s2r,sR⟩:=Sep.rest [a2,ak,noHp.set x0 (.cells #[.pointer (some ⟨sp,0,none⟩)] 127 (0,0)),noHp.set xp (.cells #[p.x,p.y,.bool p.d] 30 (0,0))] s2
  have s3:=s2r.new (o := .cells #[.slice none 0 0] 229 (0,0)) hxl
  have d3:=d2.set (o := .cells #[.slice none 0 0] 229 (0,0)) gxl
  rw [bz sz229 rfl ag (by simp),set_set]
  try simp only [tg,List.set_cons_zero]
  generalize Hp.set h2 xl _=h3 at s3 d3 ⊢
  unfold Y7
  obtain ⟨ca3,c3,gs3,ts3⟩:=hbg h3 d3
  have b3:=vi c3
  have c03:af G h3 ⟨x0,0,none⟩=some (.pointer (some ⟨sp,0,none⟩)):=by rw [aj (ai (s3.at 3 rfl ag))];rfl
  have cx3:∀k,af G h3 ⟨xp,k,none⟩=_:=fun k=>aj (ai (s3.at 4 rfl ag))
  try simp (disch:=decide) only [tg,c03,b3.g,cx3]
  refine Rn.mono ?_
  rintro _ h4 ⟨b1,b2',rfl,s4,d4⟩
  have s5:HL.Sep [noHp.set xl (.cells #[.slice none 0 0] 229 (0,0)),a2,ak,noHp.set x0 (.cells #[.pointer (some ⟨sp,0,none⟩)] 127 (0,0)),noHp.set xp (.cells #[p.x,p.y,.bool p.d] 30 (0,0)),Qr,noHp.set b1 (.cells #[.pointer (some ⟨gp,0,none⟩)] 68 (0,0)),noHp.set b2' (.cells #[p.x,p.y,.bool p.d] 30 (0,0))] h4:=(s4.pick 2 rfl rfl).open s3
  try simp (disch:=first|decide|omega) only [tg,Nat.reduceAdd,Nat.reduceMul]
  intro y l oo hl gl hoo hy
  rw [aa4]
  have yl:=Rk (xl:=xl) (x0:=x0) bg gl hoo (by simp (disch:=decide) only [tg]) (by simp (disch:=decide) only [tg]) hy
  obtain ⟨ay,s6,say⟩:=Sep.pack [noHp,noHp.set xl (.cells #[.slice none 0 0] 229 (0,0)),noHp,ak,noHp.set x0 (.cells #[.pointer (some ⟨sp,0,none⟩)] 127 (0,0)),noHp.set l (oo none)] (R:=[noHp.set b1 (.cells #[.pointer (some ⟨gp,0,none⟩)] 68 (0,0)),noHp.set b2' (.cells #[p.x,p.y,.bool p.d] 30 (0,0)),a2,noHp.set xp (.cells #[p.x,p.y,.bool p.d] 30 (0,0)),Qr])
   ((s5.new (o:=oo none) hl).none.none.sel [0,3,1,5,6,2,9,10,4,7,8] (by decide) rfl)
  obtain ⟨Qy,s7,sQy⟩:=Sep.rest [ay] s6
  have d7:Dis G (h4.set l (oo none)):=d4.set gl
  have yb:MvY q kp sp xl x0 l (oo none) [] ay:=⟨noHp,.slice none 0 0,noHp,ak,⟨[],Slc.nil,rfl,fun i x m hx=>by simp at hx⟩,kpk,say⟩
  have hyf:=xCallV_func (yl [] (m8 p) ay Qy _ (by simp) (Nt hpb) yb s7 d7)
  have dQ:Dis G Qy:=fun b o e=>d7 b o (s7.in 1 rfl _ _ e)
  refine (Rm hyf yl yb s7 (sQy.at 0 rfl ag) (sQy.at 1 rfl ag) (hbg Qy dQ).2.2.1 bg.st hpb (by have:=Lf (w:=q.w) (k:=q.k) (f:=q.f) (p:=p);omega) (aj9 hpb)).mono ?_
  rintro _ h8 ⟨a8,s8,d8,ip,v,P2,ak8,wa,kpk8,sa8⟩
  have s9:=Sep.unrest [ip,noHp.set xl (.cells #[v] 229 (0,0)),P2,ak8,noHp.set x0 (.cells #[.pointer (some ⟨sp,0,none⟩)] 127 (0,0)),noHp.set l (oo none)] (s8.open sa8) sQy
  obtain ⟨h9,s10,t10⟩:=Sep.pack [ip,noHp.set xl (.cells #[v] 229 (0,0)),P2,ak8,noHp.set x0 (.cells #[.pointer (some ⟨sp,0,none⟩)] 127 (0,0)),a2,Qr] (R:=[noHp.set l (oo none)]) (s9.sel [0,1,2,3,4,8,10,5] (by decide) rfl)
  have d9:Dis G h9:=fun b o e=>d8 b o (s10.in 0 rfl _ _ e)
  refine ⟨h9,s10.in 0 rfl,?_,.inl ⟨s10.at 1 rfl ag,?_⟩⟩
  . rcases s10.apart (b:=noHp.set l (oo none)) (by simp) l with e|e
    . exact e
    . rw [ag]at e;cases e
  try simp only [tg]
  unfold Y6
  have b9:=vi (hbg h9 d9).2.1
  have c09:af G h9 ⟨x0,0,none⟩=some (.pointer (some ⟨sp,0,none⟩)):=by rw [aj (ai (t10.at 4 rfl ag))];rfl
  have cl9:af G h9 ⟨xl,0,none⟩=some v:=by rw [aj (ai (t10.at 1 rfl ag))];rfl
  have t11:=(t10.pick 5 rfl rfl).open sa
  have hmw9:h9 mw=some o2:=t11.at 1 rfl ag
  have hv:∃s n c,v = .slice s n c:=by
   obtain ⟨raws,r1,_⟩:=wa
   obtain ⟨s,c,e,_⟩:=r1.len (by decide)
   exact ⟨s,_,c,e⟩
  obtain ⟨sv,nv,cv,rfl⟩:=hv
  try simp (disch:=decide) only [tg,c09,b9.mw,cl9]
  refine vw unmw un3r hmw9 m2 fun o' mo'=>?_
  have s12:=(t11.pick 1 rfl rfl).put (o:=o') ag
  rw [set_set]at s12
  have d12:=d9.set (o:=o') (d9 _ _ hmw9)
  generalize Hp.set h9 mw _=h12 at s12 d12 ⊢
  have cl12:af G h12 ⟨xl,0,none⟩=some (.slice sv nv cv):=by rw [aj (ai (s12.at 5 rfl ag))];rfl
  try simp only [tg,cl12]
  obtain ⟨a13,c13,ch13,cl13,g13,l1,l3,s13⟩:=Ch.put2 (R:=[ak8,Qr]) ch2 m1 mo' m3 (s12.sel [1,0,2,3,4,6,7,9] (by decide) rfl) hpf hg wa
  refine ⟨a13,ak8,c13,ch13,kpk8,cl2.trans cl13,by rw [l1,e1],g13,Sep.unrest [a13,ak8] s13 sR,d12⟩
end Go.Proofs.YtfflipnhffknnaaGreatDoor
end
section
namespace Go.Proofs.YtfflipnhffknnaaGreatDoor
open Go Go.HL
section
variable (G:Hp) (K:EK) (r:Rg) (h:Hp)
def md63:Nat->Hint
 |_=>mh false [] [] [] false
def S63:Prop:=
 o_ G (Instr.build 218 #[(0,(r 0))]) h fun v0 h0=>o_ G (Instr.box 218 v0) h0 fun v1 h1=>
 K .ret (u5 r 2 (.pointer none) 3 (r 0) 4 v0 5 v1 2 v1) h1
theorem enter63:Ent 6 63 [.tmp 2] S63:=ent_ (m:=md63) (c:=(Tryz.f63.body.getD .skip)) (fun _ _ _ _=>by kernel_rfl) Tryz.func63 rfl rfl rfl
def md64:Nat->Hint
 |_=>mh false [] [] [] false
def aA5:Prop:=
 o_ G (Instr.fieldAt 139 (r 2) 1) h fun v2 h2=>o_ G (Instr.fieldAt 137 v2 1) h2 fun v3 h3=>o_ G (Instr.loadAt 3 v3) h3 fun v4 h4=>o_ G (Instr.fieldAt 139 (r 3) 1) h4 fun v5 h5=>o_ G (Instr.fieldAt 137 v5 1) h5 fun v6 h6=>o_ G (Instr.loadAt 3 v6) h6 fun v7 h7=>o_ G (binOp .lss 3 v4 v7) h7 fun v8 h8=>
 K .ret (u8 r 31 v2 32 v3 33 v4 34 v5 35 v6 36 v7 37 v8 4 v8) h8
def S64:Prop:=
 o_ G (Instr.box 139 (r 0)) h fun v0 h0=>o_ G (Instr.box 139 (r 1)) h0 fun v1 h1=>o_ G (Instr.fieldAt 139 v0 0) h1 fun v9 h9=>o_ G (Instr.loadAt 3 v9) h9 fun v10 h10=>o_ G (Instr.fieldAt 139 v1 0) h10 fun v11 h11=>o_ G (Instr.loadAt 3 v11) h11 fun v12 h12=>
 opH P_ G (xEq .neq 3 (.tmp 0) (.tmp 0) v10 v12) h12 fun v13 h13=>
 cond v13
 (o_ G (Instr.fieldAt 139 v0 0) h13 fun v14 h14=>o_ G (Instr.loadAt 3 v14) h14 fun v15 h15=>o_ G (Instr.fieldAt 139 v1 0) h15 fun v16 h16=>o_ G (Instr.loadAt 3 v16) h16 fun v17 h17=>o_ G (binOp .lss 3 v15 v17) h17 fun v18 h18=>
 K .ret (u5 (u10 r 2 v0 3 v1 4 (.bool false) 6 v9 7 v10 8 v11 9 v12 10 v13 5 v13 11 v14) 12 v15 13 v16 14 v17 15 v18 4 v18) h18)
 (o_ G (Instr.fieldAt 139 v0 1) h13 fun v19 h19=>o_ G (Instr.fieldAt 137 v19 0) h19 fun v20 h20=>o_ G (Instr.loadAt 3 v20) h20 fun v21 h21=>o_ G (Instr.fieldAt 139 v1 1) h21 fun v22 h22=>o_ G (Instr.fieldAt 137 v22 0) h22 fun v23 h23=>o_ G (Instr.loadAt 3 v23) h23 fun v24 h24=>
 opH P_ G (xEq .neq 3 (.tmp 0) (.tmp 0) v21 v24) h24 fun v25 h25=>
 cond v25
 (o_ G (Instr.fieldAt 139 v0 1) h25 fun v26 h26=>o_ G (Instr.fieldAt 137 v26 0) h26 fun v27 h27=>o_ G (Instr.loadAt 3 v27) h27 fun v28 h28=>o_ G (Instr.fieldAt 139 v1 1) h28 fun v29 h29=>o_ G (Instr.fieldAt 137 v29 0) h29 fun v30 h30=>o_ G (Instr.loadAt 3 v30) h30 fun v31 h31=>o_ G (binOp .lss 3 v28 v31) h31 fun v32 h32=>
 K .ret (u5 (u10 (u10 r 2 v0 3 v1 4 (.bool false) 6 v9 7 v10 8 v11 9 v12 10 v13 5 v13 17 v19) 18 v20 19 v21 20 v22 21 v23 22 v24 23 v25 16 v25 24 v26 25 v27 26 v28) 27 v29 28 v30 29 v31 30 v32 4 v32) h32)
 (aA5 G K (u7 (u10 r 2 v0 3 v1 4 (.bool false) 6 v9 7 v10 8 v11 9 v12 10 v13 5 v13 17 v19) 18 v20 19 v21 20 v22 21 v23 22 v24 23 v25 16 v25) h25))
theorem enter64:Ent 38 64 [.tmp 4] S64:=ent_ (m:=md64) (c:=(Tryz.f64.body.getD .skip)) (fun _ _ _ _=>by kernel_rfl) Tryz.func64 rfl rfl rfl
def md68:Nat->Hint
 |_=>mh false [] [] [] false
def aA3:Prop:=
 opH P_ G (xNil (r 0)) h fun v7 h7=>o_ G (Instr.fieldAt 218 v7 1) h7 fun v8 h8=>o_ G (Instr.loadAt 216 v8) h8 fun v9 h9=>o_ G (Builtin.len_ #[216] 3 #[v9]) h9 fun v10 h10=>o_ G (binOp .sub 3 v10 (.int .i64 1)) h10 fun v11 h11=>
 c_ G 118 #[(r 0),(.int .i64 0),v11] h11 fun v12 h12=>
 opH P_ G (xNil (r 0)) h12 fun v13 h13=>o_ G (Instr.fieldAt 218 v13 1) h13 fun v14 h14=>o_ G (Instr.loadAt 216 v14) h14 fun v15 h15=>o_ G (Instr.build 227 #[]) h15 fun v16 h16=>o_ G (Instr.indexAt 216 v15 v11) h16 fun v17 h17=>
 opH P_ G (su (Instr.storeAt 227 v17 v16)) h17 fun v18 h18=>
 opH P_ G (xNil (r 0)) h18 fun v19 h19=>o_ G (Instr.fieldAt 218 v19 1) h19 fun v20 h20=>o_ G (Instr.loadAt 216 v20) h20 fun v21 h21=>o_ G (Instr.sliceAt 216 v21 none (some v11) none) h21 fun v22 h22=>
 opH P_ G (xNil (r 0)) h22 fun v23 h23=>o_ G (Instr.fieldAt 218 v23 1) h23 fun v24 h24=>
 opH P_ G (su (Instr.storeAt 216 v24 v22)) h24 fun v25 h25=>
 c_ G 119 #[(r 0),(.int .i64 0)] h25 fun v26 h26=>o_ G (Instr.loadAt 139 (r 4)) h26 fun v27 h27=>
 opH P_ G (su (Instr.storeAt 139 (r 2) v27)) h27 fun v28 h28=>
 K .ret (u10 (u10 (u10 r 15 (r 0) 16 v7 17 v8 18 v9 19 v10 20 v11 6 v11 21 (r 0) 22 v11 23 v12) 24 (r 0) 25 v13 26 v14 27 v15 28 v11 29 v16 30 v17 31 (r 0) 32 (r 0) 33 v19) 34 v20 35 v21 36 v11 37 v22 38 v23 39 v24 40 (r 0) 41 v26 42 v27 3 (.bool true)) h28
def S68:Prop:=
 o_ G (Instr.alloc 139 true (.tuple #[])) h fun v0 h0=>
 c_ G 117 #[(r 0)] h0 fun v1 h1=>o_ G (Instr.extract v1 0) h1 fun v2 h2=>o_ G (Instr.extract v1 1) h2 fun v3 h3=>o_ G (Instr.alloc 139 true (.tuple #[])) h3 fun v4 h4=>
 opH P_ G (su (Instr.storeAt 139 v4 v2)) h4 fun v5 h5=>o_ G (Op.unary .not v3) h5 fun v6 h6=>
 cond v6
 (o_ G (Instr.loadAt 139 v4) h6 fun v29 h29=>
 opH P_ G (su (Instr.storeAt 139 v0 v29)) h29 fun v30 h30=>
 K .ret (u3 (u10 r 2 v0 3 (.bool false) 8 (r 0) 9 v1 7 v1 10 v2 11 v3 4 v4 5 v3 12 v3) 13 v6 14 v29 3 (.bool false)) h30)
 (aA3 G K (upd (u10 r 2 v0 3 (.bool false) 8 (r 0) 9 v1 7 v1 10 v2 11 v3 4 v4 5 v3 12 v3) 13 v6) h6)
theorem Xs:Ent 43 68 [.cell 2 139,.tmp 3] S68:=ent_ (m:=md68) (c:=(Tryz.f68.body.getD .skip)) (fun _ _ _ _=>by kernel_rfl) Tryz.func68 rfl rfl rfl
def md116:Nat->Hint
 |2=>mh false [0,0,2,6,14,0,0,64,192,448,992,2016,4094,8191,16383,32767] [n_,n_,n_,n_,m_,m_,n_,n_,n_,m_,n_,.alloc,e_,n_,n_,.store] (fs 16) false
 |_=>mh false [] [] [] false
def Zb:Prop:=
 bk P_ noHp noHp (xNil (r 0)) h fun v8 h8=>
 p_ (Instr.fieldAt 218 v8 1) h8 fun v9 h9=>
 w_ G h (Instr.loadAt 216 v9) h9 fun v10 h10=>
 w_ G h (Instr.loadAt 139 (r 3)) h10 fun v11 h11=>
 bk P_ noHp noHp (xNil (r 0)) h11 fun v12 h12=>
 p_ (Instr.fieldAt 218 v12 2) h12 fun v13 h13=>
 w_ G h (Instr.loadAt 3 v13) h13 fun v14 h14=>
 p_ (Instr.build 227 #[(0,v11),(1,v14)]) h14 fun v15 h15=>o_ G (Instr.buildSlice 216 1 #[(0,v15)]) h15 fun v16 h16=>o_ G (Builtin.append_ #[216,216] 216 #[v10,v16]) h16 fun v17 h17=>
 bk P_ noHp noHp (xNil (r 0)) h17 fun v18 h18=>
 p_ (Instr.fieldAt 218 v18 1) h18 fun v19 h19=>
 opH P_ G (su (Instr.storeAt 216 v19 v17)) h19 fun v20 h20=>
 opH P_ G (xNil (r 0)) h20 fun v21 h21=>o_ G (Instr.fieldAt 218 v21 2) h21 fun v22 h22=>o_ G (Instr.loadAt 3 v22) h22 fun v23 h23=>o_ G (binOp .add 3 v23 (.int .i64 1)) h23 fun v24 h24=>
 opH P_ G (xNil (r 0)) h24 fun v25 h25=>o_ G (Instr.fieldAt 218 v25 2) h25 fun v26 h26=>
 opH P_ G (su (Instr.storeAt 3 v26 v24)) h26 fun v27 h27=>
 opH P_ G (xNil (r 0)) h27 fun v28 h28=>o_ G (Instr.fieldAt 218 v28 1) h28 fun v29 h29=>o_ G (Instr.loadAt 216 v29) h29 fun v30 h30=>o_ G (Builtin.len_ #[216] 3 #[v30]) h30 fun v31 h31=>o_ G (binOp .sub 3 v31 (.int .i64 1)) h31 fun v32 h32=>
 c_ G 147 #[(r 0),v32] h32 fun v33 h33=>
 K .normal (u10 (u10 (u10 r 13 (r 0) 14 (r 0) 15 v8 16 v9 17 v10 18 v11 19 (r 0) 20 v12 21 v13 22 v14) 23 v15 24 v16 25 v17 26 v18 27 v19 28 (r 0) 29 v21 30 v22 31 v23 32 v24) 33 v25 34 v26 35 (r 0) 36 (r 0) 37 v28 38 v29 39 v30 40 v31 41 v32 42 v33) h33
def S116:Prop:=
 o_ G (Instr.box 139 (r 1)) h fun v0 h0=>
 opH P_ G (xEq .eql 132 (.tmp 0) (.const .nilFunc) (r 0) (.pointer none)) h0 fun v1 h1=>g_ v1 false (fun K1=>K1 (r 0) h1) h1 fun v2 h2=>g_ v1 false (opH P_ G (xNil v2) h2) h2 fun v3 h3=>g_ v1 false (o_ G (Instr.fieldAt 218 v3 0) h3) h3 fun v4 h4=>g_ v1 false (o_ G (Instr.loadAt 140 v4) h4) h4 fun v5 h5=>g_ v1 false (opH P_ G (xEq .eql 140 (.tmp 0) (.const .nilFunc) v5 .nilFunc) h5) h5 fun v6 h6=>
 opH P_ G (bj v1 (.bool true) v6) h6 fun v7 h7=>
 (fun q=>cond v7
 (K .ret q h7)
 (Zb G K q h7))
 (u10 r 3 v0 4 (r 0) 5 v1 6 v1 7 v2 8 v3 9 v4 10 v5 11 v6 12 v7)
theorem au8:Ent 43 116 [] S116:=ent_ (m:=md116) (c:=(Tryz.f116.body.getD .skip)) (fun _ _ _ _=>by kernel_rfl) Tryz.func116 rfl rfl rfl
def md117:Nat->Hint
 |_=>mh false [] [] [] false
def Za:Prop:=
 opH P_ G (xNil (r 0)) h fun v9 h9=>o_ G (Instr.fieldAt 218 v9 1) h9 fun v10 h10=>o_ G (Instr.loadAt 216 v10) h10 fun v11 h11=>o_ G (Instr.indexAt 216 v11 (.int .i64 0)) h11 fun v12 h12=>o_ G (Instr.fieldAt 227 v12 0) h12 fun v13 h13=>o_ G (Instr.loadAt 139 v13) h13 fun v14 h14=>
 opH P_ G (su (Instr.storeAt 139 (r 2) v14)) h14 fun v15 h15=>
 K .ret (u8 r 16 (r 0) 17 v9 18 v10 19 v11 20 v12 21 v13 22 v14 3 (.bool true)) h15
def S117:Prop:=
 o_ G (Instr.alloc 139 true (.tuple #[])) h fun v0 h0=>
 opH P_ G (xEq .eql 132 (.tmp 0) (.const .nilFunc) (r 0) (.pointer none)) h0 fun v1 h1=>g_ v1 false (fun K1=>K1 (r 0) h1) h1 fun v2 h2=>g_ v1 false (opH P_ G (xNil v2) h2) h2 fun v3 h3=>g_ v1 false (o_ G (Instr.fieldAt 218 v3 1) h3) h3 fun v4 h4=>g_ v1 false (o_ G (Instr.loadAt 216 v4) h4) h4 fun v5 h5=>g_ v1 false (o_ G (Builtin.len_ #[216] 3 #[v5]) h5) h5 fun v6 h6=>g_ v1 false (opH P_ G (xEq .eql 3 (.tmp 0) (.const .nilFunc) v6 (.int .i64 0)) h6) h6 fun v7 h7=>
 opH P_ G (bj v1 (.bool true) v7) h7 fun v8 h8=>
 cond v8
 (o_ G (Instr.alloc 139 true (.tuple #[])) h8 fun v16 h16=>o_ G (Instr.loadAt 139 v16) h16 fun v17 h17=>
 opH P_ G (su (Instr.storeAt 139 v0 v17)) h17 fun v18 h18=>
 K .ret (u5 (u10 r 2 v0 3 (.bool false) 5 (r 0) 6 v1 7 v1 8 v2 9 v3 10 v4 11 v5 12 v6) 13 v7 14 v8 4 v16 15 v17 3 (.bool false)) h18)
 (Za G K (u2 (u10 r 2 v0 3 (.bool false) 5 (r 0) 6 v1 7 v1 8 v2 9 v3 10 v4 11 v5 12 v6) 13 v7 14 v8) h8)
theorem au7:Ent 23 117 [.cell 2 139,.tmp 3] S117:=ent_ (m:=md117) (c:=(Tryz.f117.body.getD .skip)) (fun _ _ _ _=>by kernel_rfl) Tryz.func117 rfl rfl rfl
def md118:Nat->Hint
 |0=>mh false [0,1,3,7,0,0,32,96,224,0,0,1024,3072,7168,0,31744,64512,0,131072,393216,917504,0,4063232,8257536,16776703,33553919,67108863,134217727] [n_,n_,n_,m_,n_,n_,n_,n_,m_,n_,n_,n_,n_,m_,n_,n_,m_,n_,n_,n_,m_,n_,n_,m_,n_,.store,n_,.store] (fs 28) false
 |_=>mh false [] [] [] false
def S118:Prop:=
 bk P_ noHp noHp (xNil (r 0)) h fun v0 h0=>
 p_ (Instr.fieldAt 218 v0 1) h0 fun v1 h1=>
 w_ G h (Instr.loadAt 216 v1) h1 fun v2 h2=>
 bk P_ noHp noHp (xNil (r 0)) h2 fun v3 h3=>
 p_ (Instr.fieldAt 218 v3 1) h3 fun v4 h4=>
 w_ G h (Instr.loadAt 216 v4) h4 fun v5 h5=>
 bk P_ noHp noHp (xNil (r 0)) h5 fun v6 h6=>
 p_ (Instr.fieldAt 218 v6 1) h6 fun v7 h7=>
 w_ G h (Instr.loadAt 216 v7) h7 fun v8 h8=>
 p_ (Instr.indexAt 216 v8 (r 2)) h8 fun v9 h9=>
 w_ G h (Instr.loadAt 227 v9) h9 fun v10 h10=>
 bk P_ noHp noHp (xNil (r 0)) h10 fun v11 h11=>
 p_ (Instr.fieldAt 218 v11 1) h11 fun v12 h12=>
 w_ G h (Instr.loadAt 216 v12) h12 fun v13 h13=>
 p_ (Instr.indexAt 216 v13 (r 1)) h13 fun v14 h14=>
 w_ G h (Instr.loadAt 227 v14) h14 fun v15 h15=>
 p_ (Instr.indexAt 216 v2 (r 1)) h15 fun v16 h16=>
 opH P_ G (su (Instr.storeAt 227 v16 v10)) h16 fun v17 h17=>
 p_ (Instr.indexAt 216 v5 (r 2)) h17 fun v18 h18=>
 opH P_ G (su (Instr.storeAt 227 v18 v15)) h18 fun v19 h19=>
 K .normal (u6 (u10 (u10 r 6 (r 0) 7 v0 8 v1 9 v2 10 (r 1) 11 (r 0) 12 v3 13 v4 14 v5 15 (r 2)) 16 (r 0) 17 v6 18 v7 19 v8 20 (r 2) 21 v9 22 v10 23 (r 0) 24 v11 25 v12) 26 v13 27 (r 1) 28 v14 29 v15 30 v16 31 v18) h19
theorem au6:Ent 32 118 [] S118:=ent_ (m:=md118) (c:=(Tryz.f118.body.getD .skip)) (fun _ _ _ _=>by kernel_rfl) Tryz.func118 rfl rfl rfl
def md119:Nat->Hint
 |_=>mh false [] [] [] false
def J0:Prop:=
 c_ G 118 #[(r 0),(r 1),(r 4)] h fun v6 h6=>
 K .normal (u6 r 36 (r 0) 37 (r 1) 38 (r 4) 39 v6 40 (r 4) 1 (r 4)) h6
def J1:Prop:=
 opH P_ G (xEq .eql 3 (.tmp 0) (.tmp 0) (r 4) (r 1)) h fun v5 h5=>
 cond v5
 (K .ret (u3 r 33 (r 4) 34 (r 1) 35 v5) h5)
 (J0 G K (u3 r 33 (r 4) 34 (r 1) 35 v5) h5)
def ov:Prop:=
 o_ G (binOp .add 3 (r 15) (.int .i64 1)) h fun v8 h8=>
 K .normal (u2 r 32 v8 15 v8) h8
def ui:Prop:=
 o_ G (Instr.index 110 (r 14) (r 15)) h fun v9 h9=>
 opH P_ G (xNil (r 0)) h9 fun v10 h10=>o_ G (Instr.fieldAt 218 v10 1) h10 fun v11 h11=>o_ G (Instr.loadAt 216 v11) h11 fun v12 h12=>o_ G (Builtin.len_ #[216] 3 #[v12]) h12 fun v13 h13=>o_ G (binOp .lss 3 v9 v13) h13 fun v14 h14=>g_ v14 true (fun K1=>K1 (r 0) h14) h14 fun v15 h15=>g_ v14 true (fun K1=>K1 v9 h15) h15 fun v16 h16=>g_ v14 true (fun K1=>K1 (r 4) h16) h16 fun v17 h17=>g_ v14 true (c_ G 148 #[v15,v16,v17] h17) h17 fun v18 h18=>
 opH P_ G (bj v14 v18 (.bool false)) h18 fun v19 h19=>
 (fun q=>cond v19
 (ov G K (u2 q 31 v9 4 v9) h19)
 (ov G K q h19))
 (u5 (u10 r 17 v9 6 v9 18 v9 19 (r 0) 20 v10 21 v11 22 v12 23 v13 24 v14 25 v14) 26 v15 27 v16 28 v17 29 v18 30 v19)
def Jz (r:Rg) (h:Hp) (K:EK):Prop:=
 o_ G (binOp .lss 3 (r 15) (.int .i64 2)) h fun v7 h7=>
 cond v7
 (ui G K (upd r 16 v7) h7)
 (K (.exit 2) (upd r 16 v7) h7)
def Y9 (r:Rg) (h:Hp) (K:EK):Prop:=
 o_ G (binOp .mul 3 (.int .i64 2) (r 1)) h fun v0 h0=>o_ G (binOp .add 3 v0 (.int .i64 1)) h0 fun v1 h1=>o_ G (binOp .mul 3 (.int .i64 2) (r 1)) h1 fun v2 h2=>o_ G (binOp .add 3 v2 (.int .i64 2)) h2 fun v3 h3=>o_ G (Instr.build 110 #[(0,v1),(1,v3)]) h3 fun v4 h4=>
 ci (Jz G) (u10 r 7 (r 1) 4 (r 1) 8 (r 1) 9 v0 10 v1 11 (r 1) 12 v2 13 v3 14 v4 15 (.int .i64 0)) h4 (bn 2 (bv (J1 G K) (bn 1 K)))
def S119:Prop:=
 ci (Y9 G) r h (bn 0 K)
theorem au5:Ent 41 119 [] S119:=ent_ (m:=md119) (c:=(Tryz.f119.body.getD .skip)) (fun _ _ _ _=>by kernel_rfl) Tryz.func119 rfl rfl rfl
def md147:Nat->Hint
 |_=>mh false [] [] [] false
def Jb:Prop:=
 o_ G (binOp .sub 3 (r 1) (.int .i64 1)) h fun v8 h8=>o_ G (binOp .quo 3 v8 (.int .i64 2)) h8 fun v9 h9=>
 c_ G 118 #[(r 0),(r 1),v9] h9 fun v10 h10=>o_ G (binOp .sub 3 (r 1) (.int .i64 1)) h10 fun v11 h11=>o_ G (binOp .quo 3 v11 (.int .i64 2)) h11 fun v12 h12=>
 K .normal (u10 r 14 (r 0) 15 (r 1) 16 (r 1) 17 v8 18 v9 19 v10 20 (r 1) 21 v11 22 v12 1 v12) h12
def Yh (r:Rg) (h:Hp) (K:EK):Prop:=
 o_ G (binOp .gtr 3 (r 1) (.int .i64 0)) h fun v0 h0=>g_ v0 true (fun K1=>K1 (r 0) h0) h0 fun v1 h1=>g_ v0 true (fun K1=>K1 (r 1) h1) h1 fun v2 h2=>g_ v0 true (fun K1=>K1 (r 1) h2) h2 fun v3 h3=>g_ v0 true (o_ G (binOp .sub 3 v3 (.int .i64 1)) h3) h3 fun v4 h4=>g_ v0 true (o_ G (binOp .quo 3 v4 (.int .i64 2)) h4) h4 fun v5 h5=>g_ v0 true (c_ G 148 #[v1,v2,v5] h5) h5 fun v6 h6=>
 opH P_ G (bj v0 v6 (.bool false)) h6 fun v7 h7=>
 (fun q=>cond v7
 (Jb G K q h7)
 (K (.exit 0) q h7))
 (u10 r 4 (r 1) 5 v0 6 v0 7 v1 8 v2 9 v3 10 v4 11 v5 12 v6 13 v7)
def S147:Prop:=
 ci (Yh G) r h (bn 0 K)
theorem as3:Ent 23 147 [] S147:=ent_ (m:=md147) (c:=(Tryz.f147.body.getD .skip)) (fun _ _ _ _=>by kernel_rfl) Tryz.func147 rfl rfl rfl
def md148:Nat->Hint
 |1=>mh false [0,1,3,7,0,31,63,0,128,384,896,0,3968,8064,0,0,49279,131071] [n_,n_,n_,m_,n_,n_,m_,n_,n_,n_,m_,n_,n_,m_,.alloc,.alloc,.store,.store] [false,false,false,false,false,false,false,false,false,false,false,false,false,false,false,false,true,false] false
 |2=>mh false [0,1,3,7,0,16,0,64,255,511] [n_,n_,n_,m_,n_,m_,n_,m_,e_,n_] (fs 10) false
 |4=>mh false [0,1,3,7,0,16,0,64,255,511] [n_,n_,n_,m_,n_,m_,n_,m_,e_,n_] (fs 10) false
 |_=>mh false [] [] [] false
def Yg:Prop:=
 o_ G (Instr.fieldAt 227 (r 7) 1) h fun v14 h14=>o_ G (Instr.loadAt 3 v14) h14 fun v15 h15=>o_ G (Instr.fieldAt 227 (r 8) 1) h15 fun v16 h16=>o_ G (Instr.loadAt 3 v16) h16 fun v17 h17=>o_ G (binOp .lss 3 v15 v17) h17 fun v18 h18=>
 K .ret (u6 r 43 v14 44 v15 45 v16 46 v17 47 v18 6 v18) h18
def S148:Prop:=
 bk P_ noHp noHp (xNil (r 0)) h fun v0 h0=>
 p_ (Instr.fieldAt 218 v0 1) h0 fun v1 h1=>
 w_ G h (Instr.loadAt 216 v1) h1 fun v2 h2=>
 p_ (Instr.indexAt 216 v2 (r 1)) h2 fun v3 h3=>
 w_ G h (Instr.loadAt 227 v3) h3 fun v4 h4=>
 bk P_ noHp noHp (xNil (r 0)) h4 fun v5 h5=>
 p_ (Instr.fieldAt 218 v5 1) h5 fun v6 h6=>
 w_ G h (Instr.loadAt 216 v6) h6 fun v7 h7=>
 p_ (Instr.indexAt 216 v7 (r 2)) h7 fun v8 h8=>
 w_ G h (Instr.loadAt 227 v8) h8 fun v9 h9=>o_ G (Instr.alloc 227 true (.tuple #[])) h9 fun v10 h10=>o_ G (Instr.alloc 227 true (.tuple #[])) h10 fun v11 h11=>
 opH P_ G (su (Instr.storeAt 227 v10 v4)) h11 fun v12 h12=>h.le h12/\
 opH P_ G (su (Instr.storeAt 227 v11 v9)) h12 fun v13 h13=>
 bk P_ noHp noHp (xNil (r 0)) h13 fun v19 h19=>
 p_ (Instr.fieldAt 218 v19 0) h19 fun v20 h20=>
 w_ G h13 (Instr.loadAt 140 v20) h20 fun v21 h21=>
 p_ (Instr.fieldAt 227 v10 0) h21 fun v22 h22=>
 w_ G h13 (Instr.loadAt 139 v22) h22 fun v23 h23=>
 p_ (Instr.fieldAt 227 v11 0) h23 fun v24 h24=>
 w_ G h13 (Instr.loadAt 139 v24) h24 fun v25 h25=>
 opH P_ G (ig v21 #[v23,v25]) h25 fun v26 h26=>
 cond v26
 (K .ret (u8 (u10 (u10 r 6 (.bool false) 9 (r 0) 10 v0 11 v1 12 v2 13 (r 1) 14 v3 15 v4 16 (r 0) 17 v5) 18 v6 19 v7 20 (r 2) 21 v8 22 v9 7 v10 8 v11 24 (r 0) 25 v19 26 v20) 27 v21 28 v22 29 v23 30 v24 31 v25 32 v26 23 v26 6 (.bool true)) h26)
 (bk P_ noHp noHp (xNil (r 0)) h26 fun v27 h27=>
 p_ (Instr.fieldAt 218 v27 0) h27 fun v28 h28=>
 w_ G h26 (Instr.loadAt 140 v28) h28 fun v29 h29=>
 p_ (Instr.fieldAt 227 v11 0) h29 fun v30 h30=>
 w_ G h26 (Instr.loadAt 139 v30) h30 fun v31 h31=>
 p_ (Instr.fieldAt 227 v10 0) h31 fun v32 h32=>
 w_ G h26 (Instr.loadAt 139 v32) h32 fun v33 h33=>
 opH P_ G (ig v29 #[v31,v33]) h33 fun v34 h34=>
 cond v34
 (K .ret (u8 (u10 (u10 (u10 r 6 (.bool false) 9 (r 0) 10 v0 11 v1 12 v2 13 (r 1) 14 v3 15 v4 16 (r 0) 17 v5) 18 v6 19 v7 20 (r 2) 21 v8 22 v9 7 v10 8 v11 24 (r 0) 25 v19 26 v20) 27 v21 28 v22 29 v23 30 v24 31 v25 32 v26 23 v26 34 (r 0) 35 v27 36 v28) 37 v29 38 v30 39 v31 40 v32 41 v33 42 v34 33 v34 6 (.bool false)) h34)
 (Yg G K (u7 (u10 (u10 (u10 r 6 (.bool false) 9 (r 0) 10 v0 11 v1 12 v2 13 (r 1) 14 v3 15 v4 16 (r 0) 17 v5) 18 v6 19 v7 20 (r 2) 21 v8 22 v9 7 v10 8 v11 24 (r 0) 25 v19 26 v20) 27 v21 28 v22 29 v23 30 v24 31 v25 32 v26 23 v26 34 (r 0) 35 v27 36 v28) 37 v29 38 v30 39 v31 40 v32 41 v33 42 v34 33 v34) h34))
theorem as2:Ent 48 148 [.tmp 6] S148:=ent_ (m:=md148) (c:=(Tryz.f148.body.getD .skip)) (fun _ _ _ _=>by kernel_rfl) Tryz.func148 rfl rfl rfl
end
end Go.Proofs.YtfflipnhffknnaaGreatDoor
end
section
namespace Go.Proofs.YtfflipnhffknnaaGreatDoor.Hw
open Go Go.HL Go.Proofs.Wt
def bRtH:=jq bC (jq (jq (jq (jq (jq @List.length_cons.{0} (jq @List.length_nil.{0} @al139)) (jq (jq @al227 @Ek) (jq @bd218_0 @bd227_))) (jq (jq @Vj (jq @kv @bin_quo)) (jq (jq @bne_self_eq_false.{0} @ae0) (jq @zj @cf117)))) (jq (jq (jq @cf118 (jq @cf119 @cf147)) (jq (jq @cf148 @cf64) (jq @eq132s @eq140s))) (jq (jq @fa137_0 (jq @fa137_1 @Xj)) (jq (jq @Xi @fa218_0) (jq @an9 @fa218_1))))) (jq (jq (jq (jq @an8 (jq @fa218_2 @an7)) (jq (jq @fa227_0 @an6) (jq @fa227_1 @ix216))) (jq (jq @ix216p (jq @ld139 @ld139p)) (jq (jq @ld140 @ld140p) (jq @ld216 @ld216p)))) (jq (jq (jq @ld227p (jq @ld3 @ld3p)) (jq (jq @ln216 @ju) (jq @ik @Cr))) (jq (jq (jq @zy @l8) (jq @jt @jj)) (jq (jq @ag6 @st227w) (jq @st3s @true_and))))))
def itC:Cod It:=⟨4,fun x=>[.int .i64 x.k,.int .i64 x.m,.int .i64 x.s,.int .i64 x.n],fun _=>rfl,fun _ v hv=>by simp at hv;rcases hv with rfl|rfl|rfl|rfl<;>rfl⟩
theorem eoitem:fg P_ 227 itC.n 32:=eo227
structure HA (h:Hp) (hp bp cap:Nat) (L:List It) (n:Int) (t:List Value):Prop where
 hd:h hp=some (.cells #[.func (.func 64) #[] #[],.slice (some ⟨bp,0,none⟩) L.length cap,n] 218 (0,0))
 row:h bp=some (.cells (itC.rows L++t).toArray 227 (0,0))
theorem HA.ne {h:Hp} {hp bp cap:Nat} {L:List It} {n:Int} {t:List Value} (a:HA h hp bp cap L n t):hp≠bp:=fun e=>by
 have h1:=a.hd
 have h2:=a.row
 rw [e,h2]at h1
 simp at h1
theorem HA.le {h h':Hp} {hp bp cap:Nat} {L:List It} {n:Int} {t:List Value} (a:HA h hp bp cap L n t) (l:h.le h'):HA h' hp bp cap L n t:=⟨l _ _ a.hd,l _ _ a.row⟩
theorem Ll {G h:Hp} {a0 a1 a2 b0 b1 b2:Int}:al P_ G 64 #[.agg #[a0,a1,a2],.agg #[b0,b1,b2]] h (fun v h'=>v = .bool ((⟨a0,a1,a2,0⟩:It).b4 ⟨b0,b1,b2,0⟩)/\h'=h):=by
 refine quietly (enter64 (by simp) ?_)
 unfold S64
 simp only [bRtH]
 intro x hx gx y hy gy
 have hxy:x≠y:=jd hy
 have lf:=(di (o := .cells #[a0,a1,a2] 139 (0,0)) hx).trans (di (o := .cells #[b0,b1,b2] 139 (0,0)) hy)
 simp only [bRtH,aq hxy]
 by_cases h1:a0=b0
 . subst h1
   simp only [bRtH,aq hxy]
   by_cases h2:a1=b1
   . subst h2
     simp only [bRtH,aq hxy]
     unfold aA5
     simp (disch:=decide) only [bRtH,Nat.reduceAdd,aq hxy]
     refine ⟨?_,lf⟩
     simp [It.b4]
   . rw [show (a1 != b1)=true by simpa using h2]
     simp only [bRtH,aq hxy]
     refine ⟨?_,lf⟩
     simp [It.b4,h2]
 . rw [show (a0 != b0)=true by simpa using h1]
   simp only [bRtH,aq hxy]
   refine ⟨?_,lf⟩
   simp [It.b4,h1]
theorem it0 {L:List It} {t:List Value} {i:Nat} {x:It} (hi:L[i]?=some x):(itC.rows L++t)[i*4]?=some (.int .i64 x.k):=itC.rows_get (j:=0) hi (by decide)
theorem it1 {L:List It} {t:List Value} {i:Nat} {x:It} (hi:L[i]?=some x):(itC.rows L++t)[i*4+1]?=some (.int .i64 x.m):=itC.rows_get (j:=1) hi (by decide)
theorem it2 {L:List It} {t:List Value} {i:Nat} {x:It} (hi:L[i]?=some x):(itC.rows L++t)[i*4+2]?=some (.int .i64 x.s):=itC.rows_get (j:=2) hi (by decide)
theorem it3 {L:List It} {t:List Value} {i:Nat} {x:It} (hi:L[i]?=some x):(itC.rows L++t)[i*4+3]?=some (.int .i64 x.n):=itC.rows_get (j:=3) hi (by decide)
theorem Iv {G h:Hp} {hp bp cap:Nat} {L:List It} {n:Int} {t:List Value} (a:HA h hp bp cap L n t) {i j:Nat} {x y:It} (hi:L[i]?=some x) (hj:L[j]?=some y):
 al P_ G 148 #[.pointer (some ⟨hp,0,none⟩),i,j] h (fun v h'=>v = .bool (x.lt y)/\h'=h):=by
 have hil:i<L.length:=(List.getElem?_eq_some_iff.1 hi).1
 have hjl:j<L.length:=(List.getElem?_eq_some_iff.1 hj).1
 have c1:∀k,af G h ⟨hp,k,none⟩=_:=fun k=>aj (ai a.hd)
 have c2:∀k,af G h ⟨bp,k,none⟩=_:=fun k=>aj (ai a.row)
 refine quietly (as2 (by simp) ?_)
 unfold S148
 simp -implicitDefEqProofs (maxSteps:=2000000) (disch:=first|decide|with_reducible exact Nat.ne_of_beq_eq_false rfl|exact ao|exact am|omega|rfl|(simp;done)|fail) only [bRtH,c1]
 simp only [bRtH,c2,it0 hi,it1 hi,it2 hi,it3 hi,it0 hj,it1 hj,it2 hj,it3 hj]
 intro p hp' gp q hq gq
 have hpq:p≠q:=jd hq
 have hq':=jm hq
 have e1:hp≠p:=fu a.hd hp'
 have e2:hp≠q:=fu a.hd hq'
 simp (disch:=first|decide|exact ao|exact am|omega|rfl) only [bRtH,gg hpq]
 refine ⟨((Hp.le.refl h).set hp').set hq',?_⟩
 simp only [bRtH,aq hpq,aq e1,aq e2,c1]
 refine Ll.mono ?_
 rintro _ _ ⟨rfl,rfl⟩
 have b4':∀x y:It,(⟨x.k,x.m,x.s,0⟩:It).b4 ⟨y.k,y.m,y.s,0⟩=x.b4 y:=fun _ _=>rfl
 rw [b4']
 refine pv (fun hlt=>?_) (fun hge=>?_)
 . exact ⟨by simp [It.lt,hlt],((Hp.le.refl h).set hp').set hq'⟩
 simp only [bRtH,aq hpq,aq e1,aq e2,c1]
 refine Ll.mono ?_
 rintro _ _ ⟨rfl,rfl⟩
 rw [b4']
 refine pv (fun hlt=>?_) (fun hge2=>?_)
 . exact ⟨by simp [It.lt,hlt,hge],((Hp.le.refl h).set hp').set hq'⟩
 unfold Yg
 simp (disch:=decide) only [bRtH,aq hpq,aq e1,aq e2,c1]
 exact ⟨by simp [It.lt,hge,hge2],((Hp.le.refl h).set hp').set hq'⟩
theorem Dx {G h:Hp} {hp bp cap:Nat} {L:List It} {n:Int} {t:List Value} (a:HA h hp bp cap L n t) {i j:Nat} {x y:It} (hi:L[i]?=some x) (hj:L[j]?=some y):
 al P_ G 118 #[.pointer (some ⟨hp,0,none⟩),i,j] h (fun v h'=>h'=h.set bp (.cells (itC.rows ((L.set i y).set j x)++t).toArray 227 (0,0))):=by
 have hil:i<L.length:=(List.getElem?_eq_some_iff.1 hi).1
 have hjl:j<L.length:=(List.getElem?_eq_some_iff.1 hj).1
 have c1:∀k,af G h ⟨hp,k,none⟩=_:=fun k=>aj (ai a.hd)
 have c2:∀k,af G h ⟨bp,k,none⟩=_:=fun k=>aj (ai a.row)
 refine au6 (by simp) ?_
 unfold S118
 simp (disch:=first|decide|omega) only [bRtH,c1]
 simp only [bRtH,c2,it0 hi,it1 hi,it2 hi,it3 hi,it0 hj,it1 hj,it2 hj,it3 hj]
 refine Eq.mpr (Bn itC (x:=y) Gj a.row hil) ?_
 refine Eq.mpr (Bn itC (x:=x) Gj ag (by simpa using hjl)) ?_
 rw [set_set]
theorem HA.swap {h:Hp} {hp bp cap:Nat} {L L':List It} {n:Int} {t:List Value} (a:HA h hp bp cap L n t) (hl:L'.length=L.length):HA (h.set bp (.cells (itC.rows L'++t).toArray 227 (0,0))) hp bp cap L' n t:=
 ⟨by rw [av a.ne,hl];exact a.hd,ag⟩
theorem tdiv2 {m:Nat}:((m:Int)).tdiv 2=((m / 2:Nat):Int):=by
 rw [Int.tdiv_eq_ediv_of_nonneg (by omega)];omega
theorem up_spec {G h:Hp} {hp bp cap:Nat} {L:List It} {n:Int} {t:List Value} (a:HA h hp bp cap L n t) (hL:L.length<=68719476736) {i:Nat} (hi:i<L.length):
 al P_ G 147 #[.pointer (some ⟨hp,0,none⟩),i] h (fun v h'=>h'=h.set bp (.cells (itC.rows (kc L i)++t).toArray 227 (0,0))):=by
 refine as3 (by simp) ?_
 unfold S147
 refine b8 (fun m r h'=>m<L.length/\r 0 = .pointer (some ⟨hp,0,none⟩)/\r 1 = .int .i64 m/\∃M,M.length=L.length/\h'=h.set bp (.cells (itC.rows M++t).toArray 227 (0,0))/\kc M m=kc L i) ?_ (m:=i) ⟨hi,rfl,rfl,L,rfl,(yf a.row).symm,rfl⟩
 rintro m r h' ⟨hm,e0,e1,M,hM,rfl,hs⟩ X hX
 have a':=a.swap hM
 unfold Yh
 simp only [bRtH,e0,e1]
 by_cases h0:0<m
 . rw [je (show (m:Int)>0 by omega)]
   obtain ⟨k,rfl⟩:∃k,m=k+1:=⟨m-1,by omega⟩
   have hk:((k+1:Nat):Int)-1=(k:Int):=by omega
   simp (disch:=first|decide|omega) only [bRtH,hk,tdiv2]
   obtain ⟨x,hx⟩:∃x,M[k+1]?=some x:=⟨_,List.getElem?_eq_getElem (by omega)⟩
   obtain ⟨y,hy⟩:∃y,M[k / 2]?=some y:=⟨_,List.getElem?_eq_getElem (by omega)⟩
   refine (Iv a' hx hy).mono ?_
   rintro _ _ ⟨rfl,rfl⟩
   have ea:ra M (k+1) (k / 2)=x.lt y:=by simp [ra,hx,hy]
   refine pv (fun hlt=>?_) (fun hge=>?_)
   . unfold Jb
     simp (disch:=first|decide|omega) only [bRtH,e0,e1,hk,tdiv2]
     refine (Dx a' hx hy).mono ?_
     rintro _ _ rfl
     refine hX (k / 2) _ _ (by omega) ⟨by omega,by simp (disch:=decide) only [bRtH,e0],by simp only [bRtH],nx M (k+1) (k / 2),by rw [df];exact hM,?_,?_⟩
     . rw [set_set];simp [nx,hx,hy]
     . rw [<- hs]
       conv=>rhs;rw [kc]
       rw [dif_pos ⟨by omega,by rw [show k+1-1=k by omega,ea];exact hlt⟩]
       rfl
   . have e:kc M (k+1)=M:=by rw [kc,dif_neg];rw [show k+1-1=k by omega,ea,hge];simp
     rw [<- hs,e]
 . rw [i8 (show ¬(m:Int)>0 by omega)]
   simp only [bRtH]
   have e:kc M m=M:=by rw [kc,dif_neg (by omega)]
   rw [<- hs,e]
def HR (h:Hp) (hp:Nat) (L:List It) (n:Int) (ob:Option Nat):Prop:=
 ∃sl,h hp=some (.cells #[.func (.func 64) #[] #[],sl,n] 218 (0,0))/\Own itC 227 h sl L ob
theorem HR.HA {h:Hp} {hp:Nat} {L:List It} {n:Int} {b:Nat} (a:HR h hp L n (some b)):∃cap t,HA h hp b cap L n t/\(itC.rows L++t).length=cap*4:=by
 obtain ⟨sl,h1,cap,t,rfl,h2,h3⟩:=a
 exact ⟨cap,t,⟨h1,h2⟩,h3⟩
theorem si {G h:Hp}:al P_ G 63 #[.func (.func 64) #[] #[]] h (fun v h'=>∃x,v = .pointer (some ⟨x,0,none⟩)/\h x=none/\G x=none/\h'=h.set x (.cells #[.func (.func 64) #[] #[],.slice none 0 0,(0:Int)] 218 (0,0))):=by
 refine enter63 (by simp) ?_
 unfold S63
 simp only [bRtH]
 intro x hx gx
 exact ⟨x,rfl,hx,gx,rfl⟩
theorem aa0 {G h:Hp} {hp:Nat} {L:List It} {n:Int} {ob:Option Nat} (a:HR h hp L n ob) (hL:L.length<=34359738368) (hn0:0<=n) (hn:n<=68719476736) {k m s:Int}:
 al P_ G 116 #[.pointer (some ⟨hp,0,none⟩),.agg #[k,m,s]] h (fun v h'=>∃b cap ts,(ob=some b\/(h b=none/\G b=none))/\(itC.rows (kc (L++[⟨k,m,s,n⟩]) L.length)++ts).length=cap*4/\
  h'=(h.set hp (.cells #[.func (.func 64) #[] #[],.slice (some ⟨b,0,none⟩) (L.length+1) cap,.int .i64 (n+1)] 218 (0,0))).set b (.cells (itC.rows (kc (L++[⟨k,m,s,n⟩]) L.length)++ts).toArray 227 (0,0))):=by
 obtain ⟨sl,h1,o⟩:=a
 have c1:∀k,af G h ⟨hp,k,none⟩=_:=fun k=>aj (ai h1)
 refine al.less (au8 (by simp) (R:=fun v hf=>∃b cap ts,(ob=some b\/(h b=none/\G b=none))/\(itC.rows (kc (L++[⟨k,m,s,n⟩]) L.length)++ts).length=cap*4/\
  ((h.set hp (.cells #[.func (.func 64) #[] #[],.slice (some ⟨b,0,none⟩) (L.length+1) cap,.int .i64 (n+1)] 218 (0,0))).set b (.cells (itC.rows (kc (L++[⟨k,m,s,n⟩]) L.length)++ts).toArray 227 (0,0))).le hf) ?_)
  (fun v hf ⟨b,cap,ts,h1,h2,h3⟩=>⟨_,h3,b,cap,ts,h1,h2,rfl⟩)
 unfold S116
 simp only [bRtH]
 intro x hx gx
 have e1:hp≠x:=fu h1 hx
 simp only [bRtH,aq e1,c1]
 unfold Zb
 simp (disch:=decide) only [bRtH,aq e1,c1]
 intro q hq gq
 have exq:x≠q:=jd hq
 have hq':=jm hq
 have e2:hp≠q:=fu h1 hq'
 have o':Own itC 227 ((h.set x (.cells #[k,m,s] 139 (0,0))).set q (.cells #[k,m,s,n] 227 (0,0))) sl L ob:=by
  cases ob with
  |none=>exact o
  |some b=>
   obtain ⟨cap,t,r1,r2,r3⟩:=o
   exact ⟨cap,t,r1,by rw [av (fu r2 hq'),av (fu r2 hx)];exact r2,r3⟩
 refine Fi itC (M:=[⟨k,m,s,n⟩]) V8 eoitem (by decide) o' ⟨rfl,.inr ⟨q,0,1,rfl,fun j hj=>?_⟩⟩ (by simp) (by simp;omega) ?_
 . rw [Nat.zero_add,A5];rfl
 intro b cap ts hb hlen
 have e3:hp≠b:=by
  rcases hb with hb|⟨hb,_⟩
  . subst hb
    obtain ⟨_,_,_,r2,_⟩:=o
    intro e
    rw [e,r2]at h1
    simp at h1
  . exact fu h1 (jm (jm hb))
 have hb2:ob=some b\/(h b=none/\G b=none):=hb.imp id fun ⟨u,v⟩=>⟨jm (jm u),v⟩
 simp only [gg e3,gg e2,gg e1]
 rw [bz sz216 rfl h1 (by simp)]
 simp (disch:=first|decide|omega) only [bRtH,gg e3,gg e2,gg e1,aq e1,aq e2,aq e3]
 have hLl:(L++[⟨k,m,s,n⟩]:List It).length=L.length+1:=by simp
 have a2:HA ((((h.set hp (.cells #[.func (.func 64) #[] #[],.slice (some ⟨b,0,none⟩) (L.length+1) cap,.int .i64 (n+1)] 218 (0,0))).set x (.cells #[k,m,s] 139 (0,0))).set q (.cells #[k,m,s,n] 227 (0,0))).set b
  (.cells (itC.rows (L++[⟨k,m,s,n⟩])++ts).toArray 227 (0,0))) hp b cap (L++[⟨k,m,s,n⟩]) (n+1) ts:=
  ⟨by rw [av e3,av e2,av e1,ag,hLl],ag⟩
 try simp -implicitDefEqProofs (maxSteps:=2000000) (disch:=first|decide|with_reducible exact Nat.ne_of_beq_eq_false rfl|exact ao|exact am|omega|rfl|(simp;done)|fail) only [bRtH,Nat.reduceAdd,Nat.reduceMul,aq e1,aq e2,aq e3]
 rw [show ((L.length+1:Nat):Int)-1=(L.length:Int)by omega]
 refine (up_spec a2 (by simp;omega) (by simp)).mono ?_
 rintro _ _ rfl
 refine ⟨b,cap,ts,hb2,?_,?_⟩
 . rw [List.length_append,itC.rows_length]at hlen ⊢
   rw [ug]
   exact hlen
 . rw [set_set]
   refine Hp.le.both ?_
   intro y o hy
   by_cases e4:y=hp
   . subst e4
     rw [ag]at hy
     rw [av e2,av e1,ag]
     exact hy
   . rw [av e4]at hy
     rw [av (fu hy hq'),av (fu hy hx),av e4]
     exact hy
theorem ar0 {G h:Hp} {x y:Value} {K:VK}:wpH P_ G (Instr.index 110 (.agg #[x,y]) (.int .i64 0)) h K=K x h:=by kernel_rfl
theorem ar1 {G h:Hp} {x y:Value} {K:VK}:wpH P_ G (Instr.index 110 (.agg #[x,y]) (.int .i64 1)) h K=K y h:=by kernel_rfl
theorem ab2 {G h:Hp} {hp bp cap:Nat} {M:List It} {n:Int} {t:List Value} (a:HA h hp bp cap M n t) (hM:M.length<=68719476736) {r:Rg} {K:EK} {q k f j:Nat} (g0:r 0 = .pointer (some ⟨hp,0,none⟩))
 (g14:r 14 = .agg #[.int .i64 (2*j+1),.int .i64 (2*j+2)]) (g15:r 15 = .int .i64 q) (hk:(q=0/\k=2*j+1)\/(q=1/\k=2*j+2)) (g4:r 4 = .int .i64 f) (hf:k<M.length->f<M.length)
 (H:∀r',r' 0=r 0->r' 1=r 1->r' 14=r 14->r' 15 = .int .i64 (q+1)->r' 4 = .int .i64 (il M f k:Nat)->K .normal r' h):ui G K r h:=by
 have c1:∀k,af G h ⟨hp,k,none⟩=_:=fun k=>aj (ai a.hd)
 have ei:∀(K:Value->Hp->Prop),wpH P_ G (Instr.index 110 (r 14) (r 15)) h K=K (k:Nat) h:=by
  intro K
  rw [g14,g15]
  rcases hk with ⟨rfl,rfl⟩|⟨rfl,rfl⟩
  . exact ar0
  . exact ar1
 have q1:(q:Int)+1<=2:=by omega
 unfold ui
 simp only [bRtH,ei,g0,g4,c1]
 by_cases hlt:k<M.length
 . rw [je (show (k:Int)<(M.length:Int)by omega)]
   simp only [bRtH]
   obtain ⟨x,hx⟩:∃x,M[k]?=some x:=⟨_,List.getElem?_eq_getElem hlt⟩
   obtain ⟨y,hy⟩:∃y,M[f]?=some y:=⟨_,List.getElem?_eq_getElem (hf hlt)⟩
   refine (Iv a hx hy).mono ?_
   rintro _ _ ⟨rfl,rfl⟩
   have ea:ra M k f=x.lt y:=by simp [ra,hx,hy]
   refine pv (fun e=>?_) (fun e=>?_)
   . unfold ov
     simp (disch:=first|decide|omega) only [bRtH,g15]
     refine H _ (by simp (disch:=decide) only [bRtH]) (by simp (disch:=decide) only [bRtH]) (by simp (disch:=decide) only [bRtH]) (by simp only [bRtH]) ?_
     simp (disch:=decide) only [bRtH]
     simp [il,hlt,ea,e]
   . unfold ov
     simp (disch:=first|decide|omega) only [bRtH,g15]
     refine H _ (by simp (disch:=decide) only [bRtH]) (by simp (disch:=decide) only [bRtH]) (by simp (disch:=decide) only [bRtH]) (by simp only [bRtH]) ?_
     simp (disch:=decide) only [bRtH,g4]
     simp [il,hlt,ea,e]
 . rw [i8 (show ¬(k:Int)<(M.length:Int)by omega)]
   simp only [bRtH]
   unfold ov
   simp (disch:=first|decide|omega) only [bRtH,g15]
   refine H _ (by simp (disch:=decide) only [bRtH]) (by simp (disch:=decide) only [bRtH]) (by simp (disch:=decide) only [bRtH]) (by simp only [bRtH]) ?_
   simp (disch:=decide) only [bRtH,g4]
   simp [il,hlt]
theorem ad3 {G h:Hp} {hp bp cap:Nat} {L:List It} {n:Int} {t:List Value} (a:HA h hp bp cap L n t) (hL:L.length<=68719476736) {i:Nat} (hi:i<=L.length):
 al P_ G 119 #[.pointer (some ⟨hp,0,none⟩),i] h (fun v h'=>h'=h.set bp (.cells (itC.rows (ja L i)++t).toArray 227 (0,0))):=by
 refine au5 (by simp) ?_
 unfold S119
 refine b8 (fun m r h'=>∃j:Nat,j<=L.length/\m=L.length-j/\r 0 = .pointer (some ⟨hp,0,none⟩)/\r 1 = .int .i64 j/\∃M,M.length=L.length/\h'=h.set bp (.cells (itC.rows M++t).toArray 227 (0,0))/\ja M j=ja L i) ?_ (m:=L.length-i) ⟨i,hi,rfl,rfl,rfl,L,rfl,(yf a.row).symm,rfl⟩
 rintro m r h' ⟨j,hj,rfl,e0,e1,M,hM,rfl,hs⟩ X hX
 have a':=a.swap hM
 have c1:∀k,af G (h.set bp (.cells (itC.rows M++t).toArray 227 (0,0))) ⟨hp,k,none⟩=_:=fun k=>aj (ai a'.hd)
 unfold Y9
 simp (disch:=first|decide|omega) only [bRtH,e0,e1]
 refine b8 (fun m r' h'=>∃q:Nat,q<=2/\m=2-q/\r' 0 = .pointer (some ⟨hp,0,none⟩)/\r' 1 = .int .i64 j/\r' 14 = .agg #[.int .i64 (2*j+1),.int .i64 (2*j+2)]/\r' 15 = .int .i64 q/\
  r' 4 = .int .i64 (if q=0 then j else if q=1 then il M j (2*j+1)else lu M j:Nat)/\h'=h.set bp (.cells (itC.rows M++t).toArray 227 (0,0))) ?_ (m:=2) ⟨0,by omega,rfl,by simp (disch:=decide) only [bRtH,e0],by simp (disch:=decide) only [bRtH,e1],by simp (disch:=decide) only [bRtH],by simp only [bRtH];rfl,by simp (disch:=decide) only [bRtH,e1],rfl⟩
 rintro m r' h' ⟨q,hq,rfl,f0,f1,f14,f15,f4,rfl⟩ Y hY
 unfold Jz
 have f4j:∃f:Nat,r' 4 = .int .i64 f/\f<=M.length/\(f=j\/f<M.length):=by
  refine ⟨_,f4,?_⟩
  have h1:=nl M j
  have h2:=zz M j (2*j+1)
  split
  . omega
  . split<;>omega
 obtain ⟨f,f4',hf1,hf2⟩:=f4j
 have hf:(if q=0 then j else if q=1 then il M j (2*j+1)else lu M j)=f:=by rw [f4]at f4';have:=congrArg (fun v=>match v with | .int _ x=>x|_=>0) f4';simp only at this;omega
 simp only [bRtH,f15]
 by_cases hq2:q<2
 . rw [je (show (q:Int)<2 by omega)]
   simp only [bRtH]
   refine ab2 a' (by omega) (q:=q) (k:=2*j+1+q) (f:=f) (j:=j) (by simp (disch:=decide) only [bRtH,f0]) (by simp (disch:=decide) only [bRtH,f14]) (by simp (disch:=decide) only [bRtH,f15]) (by omega) (by simp (disch:=decide) only [bRtH,f4']) (by omega) ?_
   intro r2 g0 g1 g14 g15 g4
   refine hY (2-(q+1)) _ _ (by omega) ⟨q+1,by omega,rfl,by rw [g0];simp (disch:=decide) only [bRtH,f0],by rw [g1];simp (disch:=decide) only [bRtH,f1],by rw [g14];simp (disch:=decide) only [bRtH,f14],by rw [g15];rfl,?_,rfl⟩
   rw [g4,<- hf]
   rcases (show q=0\/q=1 by omega)with rfl|rfl<;>rfl
 . have q2:q=2:=by omega
   subst q2
   rw [i8 (show ¬((2:Nat):Int)<2 by omega)]
   have hff:lu M j=f:=by simpa using hf
   simp only [bRtH]
   unfold J1
   simp (disch:=decide) only [bRtH,f4',f1]
   by_cases hfj:f=j
   . rw [show ((f:Int)==(j:Int))=true by simp [hfj]]
     simp only [bRtH]
     have e:ja M j=M:=by rw [ja,dif_pos (by rw [hff,hfj])]
     rw [<- hs,e]
   . rw [show ((f:Int)==(j:Int))=false by simp;omega]
     simp only [bRtH]
     unfold J0
     have hfo:=(nl M j).resolve_left (by rw [hff];exact hfj)
     rw [hff]at hfo
     obtain ⟨x,hx⟩:∃x,M[j]?=some x:=⟨_,List.getElem?_eq_getElem (by omega)⟩
     obtain ⟨y,hy⟩:∃y,M[f]?=some y:=⟨_,List.getElem?_eq_getElem (by omega)⟩
     simp (disch:=decide) only [bRtH,f0,f1,f4']
     refine (Dx a' hx hy).mono ?_
     rintro _ _ rfl
     refine hX (L.length-f) _ _ (by omega) ⟨f,by omega,rfl,by simp (disch:=decide) only [bRtH,f0],by simp only [bRtH,f4'],nx M j f,by rw [df];exact hM,?_,?_⟩
     . rw [set_set];simp [nx,hx,hy]
     . rw [<- hs]
       conv=>rhs;rw [ja]
       rw [dif_neg (by rw [hff];exact hfj),hff]
def pkV:List It->Value
 |[] => .tuple #[.agg #[(0:Int),(0:Int),(0:Int)],.bool false]
 |x::_ => .tuple #[.agg #[x.k,x.m,x.s],.bool true]
theorem HR.slice {h:Hp} {hp:Nat} {L:List It} {n:Int} {ob:Option Nat} (a:HR h hp L n ob):∃sa cap,h hp=some (.cells #[.func (.func 64) #[] #[],.slice sa L.length cap,n] 218 (0,0)):=by
 obtain ⟨sl,h1,o⟩:=a
 cases ob with
 |none=>obtain ⟨rfl,rfl⟩:=o;exact ⟨none,0,h1⟩
 |some b=>obtain ⟨cap,t,rfl,_⟩:=o;exact ⟨_,cap,h1⟩
theorem K7 {G h:Hp} {hp:Nat} {L:List It} {n:Int} {ob:Option Nat} (a:HR h hp L n ob):al P_ G 117 #[.pointer (some ⟨hp,0,none⟩)] h (fun v h'=>v=pkV L/\h'=h):=by
 obtain ⟨sa,cap,h1⟩:=a.slice
 have c1:∀k,af G h ⟨hp,k,none⟩=_:=fun k=>aj (ai h1)
 refine quietly (au7 (by simp) ?_)
 unfold S117
 simp (disch:=decide) only [bRtH]
 intro x hx gx
 have e1:hp≠x:=fu h1 hx
 simp only [bRtH,aq e1,c1]
 cases L with
 |nil=>
  simp only [bRtH,show (((0:Nat):Int)==0)=true from rfl]
  intro y hy gy
  have e2:x≠y:=jd hy
  simp (disch:=first|decide|exact ao|exact am|omega|rfl) only [bRtH,aq e2,gg e2]
  exact ⟨rfl,((Hp.le.refl h).set hx).set (jm hy)⟩
 |cons z L=>
  simp only [bRtH,show ((((z::L).length:Nat):Int)==0)=false by simp only [List.length_cons,beq_eq_false_iff_ne,ne_eq];omega]
  unfold Za
  cases ob with
  |none=>obtain ⟨_,_,_,hL⟩:=a;cases hL
  |some b=>
   obtain ⟨cap',t,ha,_⟩:=a.HA
   have h2:=ha.hd
   rw [h1]at h2
   have e3:sa=some ⟨b,0,none⟩/\cap=cap':=by simpa using h2
   obtain ⟨rfl,rfl⟩:=e3
   have c2:∀k,af G h ⟨b,k,none⟩=_:=fun k=>aj (ai ha.row)
   have e4:b≠x:=fu ha.row hx
   have i0:=it0 (t:=t) (show (z::L)[0]?=some z from rfl)
   have i1:=it1 (t:=t) (show (z::L)[0]?=some z from rfl)
   have i2:=it2 (t:=t) (show (z::L)[0]?=some z from rfl)
   rw [Nat.zero_mul]at i0 i1 i2
   rw [Nat.zero_add]at i1 i2
   have hlen:(0:Int)<((z::L).length:Nat):=by simp only [List.length_cons];omega
   simp (disch:=first|decide|omega) only [bRtH,aq e1,aq e4,c1,ix216 (Int.le_refl 0) hlen,Int.toNat_zero,Nat.zero_mul]
   simp (disch:=first|decide|exact ao|exact am|omega|rfl) only [bRtH,aq e1,aq e4,c2,i0,i1,i2]
   exact ⟨rfl,(Hp.le.refl h).set hx⟩
theorem pop_nil {G h:Hp} {hp:Nat} {n:Int} {ob:Option Nat} (a:HR h hp [] n ob):al P_ G 68 #[.pointer (some ⟨hp,0,none⟩)] h (fun v h'=>v=pkV []/\h'=h):=by
 refine quietly (Xs (by simp) ?_)
 unfold S68
 simp (disch:=decide) only [bRtH]
 intro x hx gx
 obtain ⟨sl,h1,o⟩:=a
 have e1:hp≠x:=fu h1 hx
 have a':HR (h.set x (.cells #[(0:Int),(0:Int),(0:Int)] 139 (0,0))) hp [] n ob:=by
  refine ⟨sl,by rw [av e1];exact h1,?_⟩
  cases ob with
  |none=>exact o
  |some b=>obtain ⟨cap,t,q1,q2,q3⟩:=o;exact ⟨cap,t,q1,by rw [av (fu q2 hx)];exact q2,q3⟩
 refine (K7 a').mono ?_
 rintro _ _ ⟨rfl,rfl⟩
 simp (disch:=first|decide|exact ao|exact am|omega|rfl) only [bRtH,pkV]
 intro y hy gy
 have e2:x≠y:=jd hy
 simp (disch:=first|decide|exact ao|exact am|omega|rfl) only [bRtH,Bool.not_false,aq e2,gg e2]
 exact ((Hp.le.refl h).set hx).set (jm hy)
theorem HR.keep {h h':Hp} {hp:Nat} {L:List It} {n:Int} {ob:Option Nat} (a:HR h hp L n ob) (e1:h' hp=h hp) (e2:∀b,ob=some b->h' b=h b):HR h' hp L n ob:=by
 obtain ⟨sl,h1,o⟩:=a
 refine ⟨sl,by rw [e1];exact h1,?_⟩
 cases ob with
 |none=>exact o
 |some b=>obtain ⟨cap,t,q1,q2,q3⟩:=o;exact ⟨cap,t,q1,by rw [e2 b rfl];exact q2,q3⟩
theorem HR.new {h:Hp} {hp:Nat} {L:List It} {n:Int} {ob:Option Nat} (a:HR h hp L n ob) {x:Nat} {o:Obj} (hx:h x=none):HR (h.set x o) hp L n ob:=by
 obtain ⟨sa,cap,h1⟩:=a.slice
 refine a.keep (by rw [av (fu h1 hx)]) (fun b hb=>?_)
 subst hb
 obtain ⟨sl,_,cap,t,_,q2,_⟩:=a
 rw [av (fu q2 hx)]
theorem aj0 {G h:Hp} {hp b cap:Nat} {x:It} {L:List It} {n:Int} {t:List Value} (a:HA h hp b cap (x::L) n t) (hlen:(itC.rows (x::L)++t).length=cap*4) (hL:L.length<=34359738368):
 al P_ G 68 #[.pointer (some ⟨hp,0,none⟩)] h (fun v h'=>v=pkV (x::L)/\∃ts,(itC.rows (popL (x::L))++ts).length=cap*4/\
  h'=(h.set hp (.cells #[.func (.func 64) #[] #[],.slice (some ⟨b,0,none⟩) L.length cap,n] 218 (0,0))).set b (.cells (itC.rows (popL (x::L))++ts).toArray 227 (0,0))):=by
 refine al.less (Xs (by simp) (R:=fun v hf=>v=pkV (x::L)/\∃ts,(itC.rows (popL (x::L))++ts).length=cap*4/\
  ((h.set hp (.cells #[.func (.func 64) #[] #[],.slice (some ⟨b,0,none⟩) L.length cap,n] 218 (0,0))).set b (.cells (itC.rows (popL (x::L))++ts).toArray 227 (0,0))).le hf) ?_)
  (fun v hf ⟨h1,ts,h2,h3⟩=>⟨_,h3,h1,ts,h2,rfl⟩)
 unfold S68
 simp (disch:=decide) only [bRtH]
 intro y hy gy
 have ehy:hp≠y:=fu a.hd hy
 have eby:b≠y:=fu a.row hy
 have ehb:=a.ne
 have aHR:HR h hp (x::L) n (some b):=⟨_,a.hd,cap,t,rfl,a.row,hlen⟩
 refine (K7 (aHR.new hy)).mono ?_
 rintro _ _ ⟨rfl,rfl⟩
 simp (disch:=first|decide|exact ao|exact am|omega|rfl) only [bRtH,pkV]
 intro z hz gz
 have eyz:y≠z:=jd hz
 have hz':=jm hz
 have ehz:hp≠z:=fu a.hd hz'
 have ebz:b≠z:=fu a.row hz'
 have c1:∀k,af G h ⟨hp,k,none⟩=_:=fun k=>aj (ai a.hd)
 try simp (disch:=first|decide|omega) only [bRtH,Nat.reduceAdd,Nat.reduceMul,Bool.not_true]
 unfold aA3
 simp (disch:=first|decide|omega) only [bRtH,aq ehy,aq ehz,c1]
 rw [show (((L.length+1:Nat):Int)-1)=((L.length:Nat):Int)by omega]
 have a1:HA ((h.set y (.cells #[(0:Int),(0:Int),(0:Int)] 139 (0,0))).set z (.cells #[x.k,x.m,x.s] 139 (0,0))) hp b cap (x::L) n t:=
  ⟨by rw [av ehz,av ehy];exact a.hd,by rw [av ebz,av eby];exact a.row⟩
 obtain ⟨l,hl⟩:∃l,(x::L)[L.length]?=some l:=⟨_,List.getElem?_eq_getElem (by simp)⟩
 refine (Dx a1 (i:=0) (j:=L.length) rfl hl).mono ?_
 rintro _ _ rfl
 have hM:((x::L).set 0 l).set L.length x=nx (x::L) 0 L.length:=by
  unfold nx
  rw [hl]
  rfl
 rw [hM]
 have hMl:(nx (x::L) 0 L.length).length=L.length+1:=by rw [df];rfl
 have hcap:L.length+1<=cap:=by
  rw [List.length_append,itC.rows_length]at hlen
  simp only [List.length_cons,itC]at hlen
  omega
 generalize hMM:nx (x::L) 0 L.length=M at*
 have hi:((L.length:Nat):Int)<(((x::L).length:Nat):Int):=by simp only [List.length_cons];omega
 simp (disch:=first|decide|omega) only [bRtH,aq ehb,aq ehy,aq ehz,c1,ix216 (Int.natCast_nonneg L.length) hi]
 refine Eq.mpr (Bn itC (x:=⟨0,0,0,0⟩) Gj ag (by omega)) ?_
 rw [set_set]
 simp only [bRtH,aq ehb,aq ehy,aq ehz,c1]
 rw [ye V8 Gj (Int.natCast_nonneg L.length) (by omega)]
 simp only [gg ehb,gg ehz,gg ehy]
 rw [bz sz216 rfl a.hd (by simp)]
 have hset:M.set L.length ⟨0,0,0,0⟩=M.dropLast++[⟨0,0,0,0⟩]:=by
  have:=al6 M ⟨0,0,0,0⟩ (by intro e;rw [e]at hMl;simp at hMl)
  rwa [hMl]at this
 have hrow:itC.rows (M.set L.length ⟨0,0,0,0⟩)++t=itC.rows M.dropLast++(([.int .i64 0,.int .i64 0,.int .i64 0,.int .i64 0]:List Value)++t):=by
  rw [hset,itC.rows_append,itC.rows_single,List.append_assoc]
  rfl
 have hdl:M.dropLast.length=L.length:=by rw [List.length_dropLast,hMl];rfl
 simp only [bRtH,hrow]
 have a2:HA ((((h.set hp (.cells #[.func (.func 64) #[] #[],.slice (some ⟨b,0,none⟩) L.length cap,n] 218 (0,0))).set y (.cells #[(0:Int),(0:Int),(0:Int)] 139 (0,0))).set z (.cells #[x.k,x.m,x.s] 139 (0,0))).set b
  (.cells (itC.rows M.dropLast++(([.int .i64 0,.int .i64 0,.int .i64 0,.int .i64 0]:List Value)++t)).toArray 227 (0,0))) hp b cap M.dropLast n (([.int .i64 0,.int .i64 0,.int .i64 0,.int .i64 0]:List Value)++t):=
  ⟨by rw [av ehb,av ehz,av ehy,ag,hdl],ag⟩
 refine (ad3 a2 (by omega) (i:=0) (by omega)).mono ?_
 rintro _ _ rfl
 have hpop:ja M.dropLast 0=popL (x::L):=by
  unfold popL
  rw [show (x::L).length-1=L.length from rfl,hMM]
 rw [hpop]
 simp (disch:=first|decide|exact ao|exact am|omega|rfl) only [bRtH,set_set,aq (Ne.symm ebz),aq (Ne.symm eby),aq eyz,aq (Ne.symm eyz),gg (Ne.symm eby),gg eyz]
 refine ⟨_,?_,Hp.le.both ?_⟩
 . have h3:=congrArg List.length hrow
   rw [List.length_append,List.length_append,itC.rows_length,itC.rows_length,List.length_set,hMl,hdl]at h3
   rw [List.length_append,itC.rows_length]at hlen ⊢
   rw [yp]
   simp only [List.length_cons,Nat.add_sub_cancel]at hlen ⊢
   omega
 . refine Hp.le.set (Hp.le.set ?_ ?_) ?_
   . exact Hp.le.refl _
   . rw [av (Ne.symm ehy)];exact hy
   . rw [av (Ne.symm ehz)];exact hz'
def HP (a:Hp) (hp:Nat) (L:List It) (n:Int):Prop:=∃ob,HR a hp L n ob
theorem hr_of {h:Hp} {hp b cap:Nat} {L:List It} {n:Int} {ts:List Value} (ne:hp≠b) (hlen:(itC.rows L++ts).length=cap*4):
 HR ((h.set hp (.cells #[.func (.func 64) #[] #[],.slice (some ⟨b,0,none⟩) L.length cap,n] 218 (0,0))).set b (.cells (itC.rows L++ts).toArray 227 (0,0))) hp L n (some b):=
 ⟨_,by rw [av ne,ag],cap,ts,rfl,ag,hlen⟩
theorem hpush {G h a:Hp} {R:List Hp} {hp:Nat} {L:List It} {n k m s:Int} (p:HP a hp L n) (sp:Sep (a::R) h) (hL:L.length<=34359738368) (hn0:0<=n) (hn:n<=68719476736):
 al P_ G 116 #[.pointer (some ⟨hp,0,none⟩),.agg #[k,m,s]] h (fun v h'=>∃a',HP a' hp (kc (L++[⟨k,m,s,n⟩]) L.length) (n+1)/\Sep (a'::R) h'/\Dis G h'):=by
 obtain ⟨ob,hr⟩:=p
 refine (Sep.on sp (aa0 hr hL hn0 hn)).mono ?_
 rintro v h' ⟨a',⟨b,cap,ts,hb,hlen,rfl⟩,s',d'⟩
 refine ⟨_,⟨some b,?_⟩,s',d'⟩
 have ne:hp≠b:=by
  rcases hb with rfl|⟨hb,_⟩
  . obtain ⟨_,_,ha,_⟩:=hr.HA
    exact ha.ne
  . obtain ⟨sl,h1,_⟩:=hr
    exact fu h1 hb
 have hl:(kc (L++[⟨k,m,s,n⟩]) L.length).length=L.length+1:=by rw [ug];simp
 rw [<- hl]
 exact hr_of ne hlen
theorem al9 {G h a:Hp} {R:List Hp} {hp:Nat} {n:Int} (p:HP a hp [] n) (sp:Sep (a::R) h):
 al P_ G 68 #[.pointer (some ⟨hp,0,none⟩)] h (fun v h'=>v=pkV []/\h'=h):=by
 obtain ⟨ob,hr⟩:=p
 refine pop_nil (ob:=ob) (n:=n) ?_
 obtain ⟨sl,h1,o⟩:=hr
 exact ⟨sl,sp.hd _ _ h1,Own.le o sp.hd⟩
theorem hpop {G h a:Hp} {R:List Hp} {hp:Nat} {x:It} {L:List It} {n:Int} (p:HP a hp (x::L) n) (sp:Sep (a::R) h) (hL:L.length<=34359738368):
 al P_ G 68 #[.pointer (some ⟨hp,0,none⟩)] h (fun v h'=>v=pkV (x::L)/\∃a',HP a' hp (popL (x::L)) n/\Sep (a'::R) h'/\Dis G h'):=by
 obtain ⟨ob,hr⟩:=p
 cases ob with
 |none=>obtain ⟨sl,_,_,hL⟩:=hr;cases hL
 |some b=>
  obtain ⟨cap,t,ha,hlen⟩:=hr.HA
  refine (Sep.on sp (aj0 ha hlen hL)).mono ?_
  rintro v h' ⟨a',⟨rfl,ts,hlen',rfl⟩,s',d'⟩
  refine ⟨rfl,_,⟨some b,?_⟩,s',d'⟩
  have hl:(popL (x::L)).length=L.length:=by rw [yp];rfl
  rw [<- hl]
  exact hr_of ha.ne hlen'
end Go.Proofs.YtfflipnhffknnaaGreatDoor.Hw
end
section
namespace Go.Proofs.YtfflipnhffknnaaGreatDoor
open Go Go.HL Go.Proofs.Resv Go.Proofs.Srch
abbrev Nd:=Int × Int
abbrev ndV (c:Nd):Value := .agg #[c.1,c.2]
theorem deqnode (d:Nat) {x0 y0:Int} {x1 y1:Int}:Det P_ (Op.equalIn (d+1+1) 137 (.agg #[x0,x1]) (.agg #[y0,y1])) ((x0==y0)&&((x1==y1)&&true)):=by
 refine te Tryz.underlying137 (by kernel_rfl) ?_
 refine jx (by decide) (dv Tryz.underlying3 rfl rfl) (dv Tryz.underlying3 rfl rfl) (o0 (d:=d+0) Tryz.underlying3) ?_
 refine jx (by decide) (dv Tryz.underlying3 rfl rfl) (dv Tryz.underlying3 rfl rfl) (o0 (d:=d+0) Tryz.underlying3) ?_
 exact Db
theorem Oe:Np P_ 137 (fun c:Nd=>ndV c):=by
 refine ⟨⟨_,Tryz.underlying137⟩,fun a b=>?_,fun b a=>⟨by intro G h K;kernel_rfl,by intro G h K;kernel_rfl⟩,fun a=>?_⟩
 . have:=deqnode 9998 (x0:=a.1) (x1:=a.2) (y0:=b.1) (y1:=b.2)
   rw [Bool.and_true]at this
   exact this
 . rw [show (10000:Nat)=9999+1 from rfl]
   simp [Instr.sameBits]
abbrev SS:=List (St Pose Move)
def uu (w k:Nat) (x:St Pose Move):Nd:=(numP w k x.p,(x.i:Int))
def ix (w k:Nat) (S:SS) (b:Int):Nd:=if b<0 then (0,0)else match S[b.toNat]? with
 |some y=>uu w k y
 |none=>(0,0)
def stpL (f:Nd) (m:Move) (a:Int) (dn:Bool):List Value:=[.int .i64 f.1,.int .i64 f.2,.int .i64 m.k,.int .i64 m.d,.int .i64 m.n,.int .i64 m.f.x,.int .i64 m.f.y,.bool m.f.d,.int .i64 m.t.x,.int .i64 m.t.y,.bool m.t.d,.int .i64 m.a,.int .i64 m.e,.int .i64 a,.bool dn]
abbrev p9 (f:Nd) (m:Move) (a:Int) (dn:Bool):Obj := .cells (stpL f m a dn).toArray 146 (0,0)
def entV (e:Nd × Nat):Nd × Value:=(e.1,.pointer (some ⟨e.2,0,none⟩))
structure StE (w k:Nat) (b:Hp) (E:List (Nd × Nat)) (S:SS):Prop where
 len:E.length=S.length
 nod:(E.map (·.2)).Nodup
 cel:∀(i:Nat) (e:Nd × Nat) (x:St Pose Move),E[i]?=some e->S[i]?=some x->e.1=uu w k x/\b e.2=some (p9 (ix w k S x.b) x.mv x.a x.dn)
def StP (w k:Nat) (a:Hp) (mt:Nat) (S:SS):Prop:=∃o E b,KMap (fun c:Nd=>ndV c) o (E.map entV)/\HL.Sep [noHp.set mt o,b] a/\StE w k b E S
theorem Hz {α β:Type} {pe:α->Bool} {ps:β->Bool}:∀{E:List α} {S:List β},E.length=S.length->(∀(j:Nat) (e:α) (x:β),E[j]?=some e->S[j]?=some x->pe e=ps x)->E.findIdx? pe=S.findIdx? ps
 |[],[],_,_=>rfl
 |[],_::_,h,_=>by simp at h
 |_::_,[],h,_=>by simp at h
 |e::E,x::S,h,hp=>by
  rw [List.findIdx?_cons,List.findIdx?_cons,hp 0 e x rfl rfl,Hz (E:=E) (S:=S) (by simpa using h) (fun j e x he hx=>hp (j+1) e x he hx)]
theorem StE.key {w k:Nat} {f:Nat->Nat->Int} {b:Hp} {E:List (Nd × Nat)} {S:SS} (s:StE w k b E S) (hS:∀x∈S,cj w k f x.p=true) {p:Pose} (hp:cj w k f p=true) {i:Nat}:
 kidx (E.map entV) (numP w k p,(i:Int))=key S p i:=by
 unfold kidx Srch.key
 rw [List.findIdx?_map]
 refine Hz s.len fun j e x he hx=>?_
 obtain ⟨h1,_⟩:=s.cel j e x he hx
 show (e.1==(numP w k p,(i:Int)))=R3 p i x
 rw [h1]
 unfold uu R3
 have hxf:=hS x (List.mem_of_getElem? hx)
 rw [Bool.eq_iff_iff]
 simp only [beq_iff_eq,Prod.mk.injEq,Bool.and_eq_true,decide_eq_true_eq]
 constructor
 . rintro ⟨h2,h3⟩;exact ⟨us hxf hp h2,by omega⟩
 . rintro ⟨rfl,rfl⟩;exact ⟨rfl,rfl⟩
theorem StE.get {w k:Nat} {f:Nat->Nat->Int} {b:Hp} {E:List (Nd × Nat)} {S:SS} (s:StE w k b E S) (hS:∀x∈S,cj w k f x.p=true) {p:Pose} (hp:cj w k f p=true) {i:Nat}:
 (Srch.key S p i=none/\kget (E.map entV) (numP w k p,(i:Int))=none)\/
 ∃j e x,Srch.key S p i=some j/\E[j]?=some e/\S[j]?=some x/\kget (E.map entV) (numP w k p,(i:Int))=some (.pointer (some ⟨e.2,0,none⟩))/\b e.2=some (p9 (ix w k S x.b) x.mv x.a x.dn):=by
 unfold kget
 rw [s.key hS hp]
 cases h:Srch.key S p i with
 |none=>exact .inl ⟨rfl,rfl⟩
 |some j=>
  obtain ⟨x,hx,_,_⟩:=sk h
  have hj:j<E.length:=by rw [s.len];exact (List.getElem?_eq_some_iff.1 hx).1
  obtain ⟨e,he⟩:∃e,E[j]?=some e:=⟨_,List.getElem?_eq_getElem hj⟩
  refine .inr ⟨j,e,x,rfl,he,hx,?_,(s.cel j e x he hx).2⟩
  simp [List.getElem?_map,he,entV]
theorem Sb {w k:Nat} {S:SS} {y:St Pose Move} {b:Int} (hb:b<0\/b.toNat<S.length):ix w k (S++[y]) b=ix w k S b:=by
 unfold ix
 split
 . rfl
 . rename_i h
   rw [List.getElem?_append_left (by omega)]
theorem C6 {w k:Nat} {S:SS} {j:Nat} {x y:St Pose Move} {b:Int} (hx:S[j]?=some x) (h1:y.p=x.p) (h2:y.i=x.i):ix w k (S.set j y) b=ix w k S b:=by
 unfold ix
 split
 . rfl
 . by_cases hj:j=b.toNat
   . subst hj
     rw [List.getElem?_set_self (List.getElem?_eq_some_iff.1 hx).1,hx]
     simp [uu,h1,h2]
   . rw [List.getElem?_set_ne hj]
theorem Lc {α:Type} {x:α}:∀{L:List α} {j:Nat},L.Nodup->x∉L->(L.set j x).Nodup
 |[],j,h,_=>by simp
 |a::L,0,h,hn=>by
  rw [List.set_cons_zero]
  exact List.nodup_cons.2 ⟨fun hm=>hn (.tail _ hm),(List.nodup_cons.1 h).2⟩
 |a::L,j+1,h,hn=>by
  rw [List.set_cons_succ]
  refine List.nodup_cons.2 ⟨fun hm=>?_,Lc (List.nodup_cons.1 h).2 (fun hm=>hn (.tail _ hm))⟩
  rcases List.mem_or_eq_of_mem_set hm with h1|h1
  . exact (List.nodup_cons.1 h).1 h1
  . exact hn (h1 ▸ .head _)
theorem StE.put {w k:Nat} {f:Nat->Nat->Int} {b:Hp} {E:List (Nd × Nat)} {S:SS} (s:StE w k b E S) (hS:∀x∈S,cj w k f x.p=true) (hby:∀x∈S,x.b<0\/x.b.toNat<S.length) {p:Pose} (hp:cj w k f p=true) {i:Nat} {sp:Sp} {t:Int} {m:Move} {bi:Int} (hbi:bi<0\/bi.toNat<S.length) {x1:Nat} (hx1:b x1=none)
 (hlt:∀j x,Srch.key S p i=some j->S[j]?=some x->t<x.a/\x.dn=false):
 ∃E',kput (E.map entV) (numP w k p,(i:Int)) (.pointer (some ⟨x1,0,none⟩))=E'.map entV/\StE w k (b.set x1 (p9 (ix w k S bi) m t false)) E' (wz S p i sp t m bi):=by
 have hno:x1∉E.map (·.2):=fun hm=>by
  obtain ⟨e,he,rfl⟩:=List.mem_map.1 hm
  obtain ⟨j,hj,rfl⟩:=List.getElem_of_mem he
  have:=(s.cel j _ _ (List.getElem?_eq_getElem hj) (List.getElem?_eq_getElem (by rw [<- s.len];exact hj))).2
  rw [hx1]at this;cases this
 have hne:∀(j:Nat) (e:Nd × Nat),E[j]?=some e->e.2≠x1:=fun j e he h=>hno (by rw [<- h];exact List.mem_map.2 ⟨e,List.mem_of_getElem? he,rfl⟩)
 unfold kput wz
 rw [s.key hS hp]
 cases h:Srch.key S p i with
 |none=>
  refine ⟨E++[((numP w k p,(i:Int)),x1)],by simp [entV],⟨by simp [s.len],?_,fun j e x he hx=>?_⟩⟩
  . rw [List.map_append,List.nodup_append]
    refine ⟨s.nod,by simp,?_⟩
    intro a ha b' hb' e
    simp at hb'
    subst hb';subst e
    exact hno ha
  . by_cases hj:j<E.length
    . rw [List.getElem?_append_left hj]at he
      rw [List.getElem?_append_left (by rw [<- s.len];exact hj)]at hx
      obtain ⟨h1,h2⟩:=s.cel j e x he hx
      rw [av (hne j e he),Sb (hby x (List.mem_of_getElem? hx))]
      exact ⟨h1,h2⟩
    . rw [List.getElem?_append_right (by omega)]at he
      rw [List.getElem?_append_right (by rw [<- s.len];omega),<- s.len]at hx
      have hj0:j-E.length=0:=by have:=(List.getElem?_eq_some_iff.1 he).1;simp at this;omega
      rw [hj0]at he hx
      cases he
      cases hx
      exact ⟨rfl,by rw [ag,Sb hbi]⟩
 |some j=>
  obtain ⟨x,hx,e1,e2⟩:=sk h
  obtain ⟨hlt',hdn⟩:=hlt j x h hx
  have hjS:j<S.length:=(List.getElem?_eq_some_iff.1 hx).1
  have hjE:j<E.length:=by rw [s.len];exact hjS
  simp only [hx,if_pos hlt']
  refine ⟨E.set j ((numP w k p,(i:Int)),x1),by rw [List.map_set];rfl,⟨by simp [s.len],?_,fun l e y he hy=>?_⟩⟩
  . rw [List.map_set]
    exact Lc s.nod hno
  . by_cases hl:j=l
    . subst hl
      rw [List.getElem?_set_self hjE]at he
      rw [List.getElem?_set_self hjS]at hy
      cases he
      cases hy
      refine ⟨by simp [uu,e1,e2],?_⟩
      have e3:({ x with a:=t,mv:=m,b:=bi }:St Pose Move).p=x.p:=rfl
      have e4:({ x with a:=t,mv:=m,b:=bi }:St Pose Move).i=x.i:=rfl
      rw [ag,C6 (y:={ x with a:=t,mv:=m,b:=bi }) hx e3 e4,hdn]
    . rw [List.getElem?_set_ne hl]at he hy
      obtain ⟨h1,h2⟩:=s.cel l e y he hy
      have e3:({ x with a:=t,mv:=m,b:=bi }:St Pose Move).p=x.p:=rfl
      have e4:({ x with a:=t,mv:=m,b:=bi }:St Pose Move).i=x.i:=rfl
      rw [av (hne l e he),C6 (y:={ x with a:=t,mv:=m,b:=bi }) hx e3 e4]
      exact ⟨h1,h2⟩
def mi:=jq bC (jq (jq (jq (jq @al137 @af5) (jq @Vm (jq @ud @cf115))) (jq (jq @cf116 (jq @cf65 @cf66)) (jq @H9 (jq @ap4 @fa146_2)))) (jq (jq (jq @Xh (jq @Us @ld132p)) (jq @Ur (jq @ld3 @ld30))) (jq (jq @ld4 (jq @ju @ik)) (jq @l8 (jq @jj @st137w)))))
theorem unmt:P_.underlying 131=some (.map 137 149):=by kernel_rfl
theorem zerot:pa P_ 149=some (.pointer none):=by kernel_rfl
abbrev stepV (f:Nd) (m:Move):Value := .agg #[f.1,f.2,m.k,m.d,m.n,m.f.x,m.f.y,.bool m.f.d,m.t.x,m.t.y,.bool m.t.d,m.a,m.e,(0:Int),.bool false]
def Kept (q:Par) (c:Cs) (S:SS):Prop:=∀x∈S,(mget c.L1 (numP q.w q.k x.p)).isSome=true/\mget c.L3 (numP q.w q.k x.p)=some (kz x.p)
theorem Kept.le {q:Par} {c c':Cs} {S:SS} (k:Kept q c S) (l:c.le c'):Kept q c' S:=fun x hx=>by
 obtain ⟨h1,h2⟩:=k x hx
 cases h:mget c.L1 (numP q.w q.k x.p)with
 |none=>rw [h]at h1;cases h1
 |some v=>exact ⟨by rw [l.l1 _ _ h];rfl,l.l3 _ _ h2⟩
theorem Kept.note {q:Par} {c:Cs} {S:SS} (k:Kept q c S) {p:Pose} (h1:(mget c.L1 (numP q.w q.k p)).isSome=true) (h3:mget c.L3 (numP q.w q.k p)=some (kz p)) {t:Int} {m:Move} {b:Int}:Kept q c (note q.E S p t m b):=by
 intro x hx
 unfold Srch.note at hx
 split at hx
 . unfold wz at hx
   split at hx
   . split at hx
     . rename_i y hy
       split at hx
       . rcases List.mem_or_eq_of_mem_set hx with h|h
         . exact k x h
         . subst h;exact k y (List.mem_of_getElem? hy)
       . exact k x hx
     . exact k x hx
   . rcases List.mem_append.1 hx with h|h
     . exact k x h
     . rw [List.mem_singleton]at h;subst h;exact ⟨h1,h3⟩
 . exact k x hx
structure Srs (q:Par) (a ae ah:Hp) (ms mw mp mt hp:Nat) (c:Cs) (S:SS) (L:List Go.Proofs.Wt.It) (n:Int):Prop where
 ch:Ch q a ms mw mp c
 st:StP q.w q.k ae mt S
 hp:Hw.HP ah hp L n
 ok:Go.Proofs.Wt.wb L
 qi:QI q.E L S
 kept:Kept q c S
 n0:0<=n
 ln:(L.length:Int)<=n
theorem Kw {q:Par} (gt:iu q.T) (fw:Few q.T 100) (p:Pose):(kw q.w q.k q.T q.r p).length<=1000000:=by
 unfold kw
 have:=C7 gt fw q.r ((bw p).map (numI q.w q.k))
 rw [List.length_map,show (bw p).length=2 from rfl]at this
 omega
theorem StE.le {w k:Nat} {b b':Hp} {E:List (Nd × Nat)} {S:SS} (s:StE w k b E S) (l:b.le b'):StE w k b' E S:=
 ⟨s.len,s.nod,fun i e x he hx=>let ⟨h1,h2⟩:=s.cel i e x he hx;⟨h1,l _ _ h2⟩⟩
theorem G5 {G h a ae ah:Hp} {R:List Hp} {q:Par} {sp kp ms mw mp mt hp:Nat} {c:Cs} {S:SS} {L:List Go.Proofs.Wt.It} {n t lo t0:Int} {p p0:Pose} {m z:Move} {b:Int} (ss:Srs q a ae ah ms mw mp mt hp c S L n) (bg:Bg G q sp kp ms mw mp mt hp)
 (v:Inv q.E p0 t0 z lo S) (hlo:lo<=t) (hpf:cj q.w q.k q.f p=true) (hn:n<=34359738368) (hb:b<0\/b.toNat<S.length) (s:HL.Sep (a::ae::ah::R) h):
 al P_ G 67 #[.pointer (some ⟨sp,0,none⟩),kz p,t,stepV (ix q.w q.k S b) m] h (fun _ h'=>∃a' ae' ah' c' L' n',Srs q a' ae' ah' ms mw mp mt hp c' (note q.E S p t m b) L' n'/\c.le c'/\c'.L2=c.L2/\n<=n'/\n'<=n+1/\HL.Sep (a'::ae'::ah'::R) h'/\Dis G h'):=by
 obtain ⟨ab,cb,ap,cp,ar,cr,az,cs,gp,tp,hbg⟩:=id bg.ex
 obtain ⟨ch,stp,hpp,hok,qi,kept,hn0,hln⟩:=ss
 have hS:∀x∈S,cj q.w q.k q.f x.p=true:=v.ok
 have hby:∀x∈S,x.b<0\/x.b.toNat<S.length:=fun x hx=>by
  rcases v.by_ x hx with ⟨h,_⟩|⟨y,h0,hy,_⟩
  . left;omega
  . exact .inr (List.getElem?_eq_some_iff.1 hy).1
 refine al.assume fun d=>enter67 (by simp) ?_
 unfold S67
 simp only [mi]
 intro xp hxp gxp x1 hx1 gx1
 have s1:=(s.new (o := .cells #[p.x,p.y,.bool p.d] 30 (0,0)) hxp).new (o := .cells (stpL (ix q.w q.k S b) m 0 false).toArray 146 (0,0)) hx1
 have d1:=(d.set (o := .cells #[p.x,p.y,.bool p.d] 30 (0,0)) gxp).set (o := .cells (stpL (ix q.w q.k S b) m 0 false).toArray 146 (0,0)) gx1
 simp only [stpL]at s1 d1
 generalize Hp.set (Hp.set h xp _) x1 _=h1 at s1 d1 ⊢
 have cx1:∀k,af G h1 ⟨xp,k,none⟩=_:=fun k=>aj (ai (s1.at 1 rfl ag))
 try simp only [mi,cx1]
 have s1':=Sep.fr (R:=R) [_,_,_,_,_] s1 [2,3,4,1,0] (by decide) rfl
 refine (ly ch bg s1' hpf).mono ?_
 rintro u h2 ⟨a2,c2,ch2,cl2,e2,g1,g3,s2,d2⟩
 have sl:=ch2.look1 hpf g1
 try simp (disch:=first|decide|omega) only [mi,Nat.reduceAdd,Nat.reduceMul]
 refine (E6 (t:=t) (sl.see (by decide) (ch2.pool.trans (s2.in 0 rfl))) (by have:=Kw bg.gt bg.fw p;omega)).mono ?_
 rintro _ h2 ⟨rfl,rfl⟩
 try simp only [mi]
 cases hi:inside (kw q.w q.k q.T q.r p) t with
 |none=>
  have e:insI (kw q.w q.k q.T q.r p) t = -1:=by unfold insI;rw [hi]
  rw [e]
  try simp only [mi,show decide ((-1:Int)<0)=true from rfl]
  have en:note q.E S p t m b=S:=by
   unfold Srch.note
   have:inside (q.E.spans p) t=none:=hi
   rw [this]
  rw [en]
  exact ⟨a2,ae,ah,c2,L,n,⟨ch2,stp,hpp,hok,qi,kept.le cl2,hn0,hln⟩,cl2,e2,by omega,by omega,Sep.fr (R:=R) [_,_,_,_,_] s2 [0,1,2] (by decide) rfl,d2⟩
 |some i=>
  have e:insI (kw q.w q.k q.T q.r p) t=(i:Int):=by unfold insI;rw [hi]
  rw [e]
  try simp only [mi,show decide ((i:Int)<0)=false from decide_eq_false (by omega)]
  unfold aA4
  have cx2:∀k,af G h2 ⟨xp,k,none⟩=_:=fun k=>aj (ai (s2.at 3 rfl ag))
  try simp (disch:=decide) only [mi,cx2]
  refine (yv ch2 bg s2 hpf).mono ?_
  rintro _ h3 ⟨rfl,a3,c3,ch3,cl3,f1,f2,f3,g33,s3,d3⟩
  try simp (disch:=first|decide|exact ao|exact am|omega|rfl) only [mi]
  intro xn hxn gxn
  obtain ⟨o,E,bb,km,sb,se⟩:=stp
  have s4:=s3.new (o := .cells #[(numP q.w q.k p),i] 137 (0,0)) hxn
  have d4:=d3.set (o := .cells #[(numP q.w q.k p),i] 137 (0,0)) gxn
  generalize Hp.set h3 xn _=h4 at s4 d4 ⊢
  have s5:=(Sep.fr (R:=R) [noHp.set xn (.cells #[(numP q.w q.k p),i] 137 (0,0)),a3,ae,ah,noHp.set xp (.cells #[p.x,p.y,.bool p.d] 30 (0,0)),noHp.set x1 (.cells (stpL (ix q.w q.k S b) m 0 false).toArray 146 (0,0))] s4 [2,1,3,5,0] (by decide) rfl).open sb
  have b4:=vi (hbg h4 d4).2.1
  have hmt:h4 mt=some o:=s5.at 0 rfl ag
  have hl:∀K,pw P_ G h4 (Instr.lookup 131 (.map (some mt)) (.agg #[(numP q.w q.k p),(i:Int)]) true) K=K (.tuple #[(kget (E.map entV) (numP q.w q.k p,(i:Int))).getD (.pointer none),.bool (kget (E.map entV) (numP q.w q.k p,(i:Int))).isSome]):=fun K=>
   Og Oe unmt zerot (ai hmt) km (k:=(numP q.w q.k p,(i:Int)))
  have en:note q.E S p t m b=wz S p i ((kw q.w q.k q.T q.r p).getD i (0,0)) t m b:=by
   unfold Srch.note
   have:inside (q.E.spans p) t=some i:=hi
   rw [this]
   rfl
  have k2:Q9 q.E S p t=some i->(∀j x,Srch.key S p i=some j->S[j]?=some x->t<x.a/\x.dn=false)->∀r':Rg,r' 0 = .pointer (some ⟨sp,0,none⟩)->r' 2 = .int .i64 t->r' 7 = .pointer (some ⟨x1,0,none⟩)->r' 9 = .pointer (some ⟨xn,0,none⟩)->
   Vv G (retK P_ G [] fun _ h'=>∃a' ae' ah' c' L' n',Srs q a' ae' ah' ms mw mp mt hp c' (note q.E S p t m b) L' n'/\c.le c'/\c'.L2=c.L2/\n<=n'/\n'<=n+1/\HL.Sep (a'::ae'::ah'::R) h'/\Dis G h') r' h4:=by
   intro hpu hlt r' e0 e2' e7 e9
   unfold Vv
   simp only [mi,e0,e2',e7,e9]
   have hx14:h4 x1=some (.cells (stpL (ix q.w q.k S b) m 0 false).toArray 146 (0,0)):=s5.at 4 rfl ag
   rw [bz sz3 rfl hx14 (by simp [stpL])]
   have hset:(stpL (ix q.w q.k S b) m 0 false).set 13 (.int .i64 t)=stpL (ix q.w q.k S b) m t false:=rfl
   rw [hset]
   have s6:=(s5.pick 4 rfl rfl).put (o:=p9 (ix q.w q.k S b) m t false) ag
   rw [set_set]at s6
   have d6:Dis G (h4.set x1 (p9 (ix q.w q.k S b) m t false)):=d4.set (d4 _ _ hx14)
   generalize Hp.set h4 x1 _=h6 at s6 d6 ⊢
   have b6:=vi (hbg h6 d6).2.1
   have cn6:∀k,af G h6 ⟨xn,k,none⟩=_:=fun k=>aj (ai (s6.at 5 rfl ag))
   have hmt6:h6 mt=some o:=s6.at 1 rfl ag
   try simp only [mi,b6.mt,cn6]
   refine Uo Oe unmt hmt6 km (k:=(numP q.w q.k p,(i:Int))) fun o' mo'=>?_
   have s7:=(s6.pick 1 rfl rfl).put (o:=o') ag
   rw [set_set]at s7
   have d7:Dis G (h6.set mt o'):=d6.set (d6 _ _ hmt6)
   generalize Hp.set h6 mt o'=h7 at s7 d7 ⊢
   have b7:=vi (hbg h7 d7).2.1
   have cn7:∀k,af G h7 ⟨xn,k,none⟩=_:=fun k=>aj (ai (s7.at 5 rfl ag))
   try simp only [mi,b7.hp,cn7]
   refine (Hw.hpush (k:=t) (m:=numP q.w q.k p) (s:=(i:Int)) hpp (s7.pick 4 rfl rfl) (by omega) hn0 (by omega)).mono ?_
   rintro _ h8 ⟨ah8,hp8,s8,d8⟩
   try simp (disch:=first|decide|omega) only [mi,Nat.reduceAdd,Nat.reduceMul]
   obtain ⟨E',hk',se'⟩:=se.put (f:=q.f) hS hby hpf (i:=i) (sp:=(kw q.w q.k q.T q.r p).getD i (0,0)) (t:=t) (m:=m) (bi:=b) hb (x1:=x1) (by
    rcases (s8.pick 2 rfl rfl).apart (b:=bb) (by simp) x1 with e|e
    . rw [ag]at e;cases e
    . exact e) hlt
   rw [hk']at mo'
   obtain ⟨b9,s9,t9⟩:=Sep.pack [noHp.set x1 (p9 (ix q.w q.k S b) m t false),bb] (R:=noHp.set mt o'::a3::ah8::R) (Sep.fr (R:=R) [ah8,noHp.set mt o',noHp.set x1 (p9 (ix q.w q.k S b) m t false),bb,a3,noHp.set xn (.cells #[(numP q.w q.k p),i] 137 (0,0))] s8 [2,3,1,4,0] (by decide) rfl)
   obtain ⟨ae9,s10,t10⟩:=Sep.pack [noHp.set mt o',b9] (R:=a3::ah8::R) s9.swap
   have l9:(bb.set x1 (p9 (ix q.w q.k S b) m t false)).le b9:=fun y ob hy=>by
    by_cases hyx:y=x1
    . subst hyx
      rw [ag]at hy
      cases hy
      exact t9.at 0 rfl ag
    . rw [av hyx]at hy
      exact t9.in 1 rfl _ _ hy
   obtain ⟨hok',hperm⟩:=Go.Proofs.Wt.push_ok (x:=⟨t,numP q.w q.k p,(i:Int),n⟩) hok
   refine ⟨a3,ae9,ah8,c3,_,n+1,⟨ch3,⟨o',E',b9,mo',t10,?_⟩,hp8,hok',?_,?_,by omega,?_⟩,cl2.trans cl3,by rw [f2,e2],by omega,by omega,Sep.fr (R:=R) [ae9,a3,ah8] s10 [1,0,2] (by decide) rfl,d8⟩
   . rw [en];exact se'.le l9
   . refine note_q (n:=n) qi ?_
     rw [hpu]
     exact hperm
   . exact (kept.le (cl2.trans cl3)).note (by rw [cl3.l1 _ _ g1];rfl) g33
   . rw [Go.Proofs.Wt.ug];simp only [List.length_append,List.length_cons,List.length_nil];omega
  have stay:note q.E S p t m b=S->∃a' ae' ah' c' L' n',Srs q a' ae' ah' ms mw mp mt hp c' (note q.E S p t m b) L' n'/\c.le c'/\c'.L2=c.L2/\n<=n'/\n'<=n+1/\HL.Sep (a'::ae'::ah'::R) h4/\Dis G h4:=fun e=>by
   rw [e]
   obtain ⟨ae9,s9,t9⟩:=Sep.pack [noHp.set mt o,bb] (R:=a3::ah::R) (Sep.fr (R:=R) [noHp.set mt o,bb,a3,ah,noHp.set x1 (.cells (stpL (ix q.w q.k S b) m 0 false).toArray 146 (0,0)),noHp.set xn (.cells #[(numP q.w q.k p),i] 137 (0,0))] s5 [0,1,2,3] (by decide) rfl)
   exact ⟨a3,ae9,ah,c3,L,n,⟨ch3,⟨o,E,bb,km,t9,se⟩,hpp,hok,qi,kept.le (cl2.trans cl3),hn0,hln⟩,cl2.trans cl3,by rw [f2,e2],by omega,by omega,Sep.fr (R:=R) [ae9,a3,ah] s9 [1,0,2] (by decide) rfl,d4⟩
  try simp only [mi,b4.mt,hl]
  rcases se.get (f:=q.f) hS hpf (i:=i)with ⟨hk,hg⟩|⟨j,e',x,hk,he,hx,hg,hbx⟩
  . rw [hg]
    try simp only [mi,Option.getD_none,Option.isSome_none]
    refine k2 ?_ (fun j x h=>by rw [hk]at h;cases h) _ (by simp (disch:=decide) only [mi]) (by simp (disch:=decide) only [mi]) (by simp (disch:=decide) only [mi]) (by simp (disch:=decide) only [mi])
    unfold Q9
    have:inside (q.E.spans p) t=some i:=hi
    rw [this]
    simp only
    rw [hk]
  . rw [hg]
    have hx4:h4 e'.2=some (p9 (ix q.w q.k S x.b) x.mv x.a x.dn):=s5.at 1 rfl hbx
    have cd:af G h4 ⟨e'.2,14,none⟩=some (.bool x.dn):=by rw [aj (ai hx4)];rfl
    have ca:af G h4 ⟨e'.2,13,none⟩=some (.int .i64 x.a):=by rw [aj (ai hx4)];rfl
    try simp only [mi,Option.getD_some,Option.isSome_some,cd,ca]
    have hxm:=List.mem_of_getElem? hx
    cases hdn:x.dn with
    |true=>
     try simp only [mi,dw]
     refine stay ?_
     rw [en]
     unfold wz
     rw [hk]
     simp only [hx]
     rw [if_neg (by have:=v.dn x hxm hdn;omega)]
    |false=>
     try simp only [mi,ca]
     by_cases hle:x.a<=t
     . try simp only [mi,je hle]
       refine stay ?_
       rw [en]
       unfold wz
       rw [hk]
       simp only [hx]
       rw [if_neg (by omega)]
     . try simp only [mi,i8 hle]
       refine k2 ?_ (fun j2 x2 h2 hx2=>by rw [hk]at h2;cases h2;rw [hx]at hx2;cases hx2;exact ⟨by omega,hdn⟩) _ (by simp (disch:=decide) only [mi]) (by simp (disch:=decide) only [mi]) (by simp (disch:=decide) only [mi]) (by simp (disch:=decide) only [mi])
       unfold Q9
       have:inside (q.E.spans p) t=some i:=hi
       rw [this]
       simp only
       rw [hk]
       simp only [hx]
       rw [if_pos (by omega)]
def jf:=jq bC (jq (jq (jq (jq @al151 @al48) (jq @af4 (jq @wh @kv))) (jq (jq @cf67 (jq @cf77 @O7)) (jq @O6 (jq @fa232_0 @fa232_1)))) (jq (jq (jq @U5 @U4) (jq @Oy (jq @ld137 @ld151))) (jq (jq @ld3 (jq @ld30 @ld48)) (jq @Ua (jq @st3s @Kv)))))
abbrev WayT:=Move × Pose × Int × List Sp
abbrev wayO (m:Move) (d:Int) (a:Option Addr) (n c:Nat):Obj := .cells #[m.k,m.d,m.n,m.f.x,m.f.y,.bool m.f.d,m.t.x,m.t.y,.bool m.t.d,m.a,m.e,d,.slice a n c] 232 (0,0)
structure Fbx (q:Par) (Bx:Hp) (xn xo:Nat) (x:St Pose Move):Prop where
 n:Bx xn=some (.cells #[(numP q.w q.k x.p),(x.i:Int)] 137 (0,0))
 o:Bx xo=some (.cells #[x.s.1,x.s.2] 151 (0,0))
theorem Lx {α β:Type} {f:β->α->β} {S:β} {L:List α} {i:Nat} {s:α} (h:L[i]?=some s):(L.take (i+1)).foldl f S=f ((L.take i).foldl f S) s:=by
 rw [List.take_add_one,h,List.foldl_append];rfl
theorem from_in {G h a ae ah Bx:Hp} {R:List Hp} {q:Par} {sp kp ms mw mp mt hp xn xo xw:Nat} {c:Cs} {S:SS} {L:List Go.Proofs.Wt.It} {n t0:Int} {p0:Pose} {z:Move} {x:St Pose Move} {k:Nat} {y:WayT} {sa:Option Addr} {cap:Nat} {KK:EK}
 (ss:Srs q a ae ah ms mw mp mt hp c S L n) (bg:Bg G q sp kp ms mw mp mt hp) (ok:qf q.E) (v:Inv q.E p0 t0 z x.a S) (hx:S[k]?=some x) (hd:x.dn=true) (ha:0<=x.a) (hox:cj q.w q.k q.f x.p=true) (hy:y∈q.E.ways x.p) (hy1:y.2.1=y.1.t)
 (fb:Fbx q Bx xn xo x) (hw:Bx xw=some (wayO y.1 y.2.2.1 sa y.2.2.2.length cap)) (sl:Slc mj 151 c.P (.slice sa y.2.2.2.length cap) y.2.2.2) (hn:n+y.2.2.2.length<=34359738368)
 (s:HL.Sep (a::ae::ah::Bx::R) h) (d:Dis G h) (r:Rg) (g0:r 0 = .pointer (some ⟨sp,0,none⟩)) (g2:r 2 = .int .i64 x.a) (g4:r 4 = .pointer (some ⟨xn,0,none⟩)) (g7:r 7 = .pointer (some ⟨xo,0,none⟩)) (g9:r 9 = .pointer (some ⟨xw,0,none⟩)) (g38:r 38 = .slice sa y.2.2.2.length cap) (g39:r 39 = .int .i64 y.2.2.2.length) (g40:r 40 = .int .i64 0)
 (H:∀(r':Rg) h' a' ae' ah' c' L' n',Srs q a' ae' ah' ms mw mp mt hp c' (tc q.E x k S y) L' n'->Inv q.E p0 t0 z x.a (tc q.E x k S y)->(tc q.E x k S y)[k]?=some x->c.le c'->n<=n'->n'<=n+y.2.2.2.length->HL.Sep (a'::ae'::ah'::Bx::R) h'->Dis G h'->
  r' 0=r 0->r' 2=r 2->r' 4=r 4->r' 7=r 7->r' 31=r 31->r' 32=r 32->r' 33=r 33->KK (.exit 2) r' h'):
 ci (Em G) r h KK:=by
 have hn0:=ss.n0
 refine b8 (fun m r' h'=>∃(i:Nat) (a' ae' ah':Hp) (c':Cs) (L':List Go.Proofs.Wt.It) (n':Int),m=y.2.2.2.length-i/\i<=y.2.2.2.length/\Srs q a' ae' ah' ms mw mp mt hp c' ((y.2.2.2.take i).foldl (ii q.E x k y) S) L' n'/\Inv q.E p0 t0 z x.a ((y.2.2.2.take i).foldl (ii q.E x k y) S)/\((y.2.2.2.take i).foldl (ii q.E x k y) S)[k]?=some x/\
  c.le c'/\n<=n'/\n'<=n+i/\HL.Sep (a'::ae'::ah'::Bx::R) h'/\Dis G h'/\r' 0=r 0/\r' 2=r 2/\r' 4=r 4/\r' 7=r 7/\r' 9=r 9/\r' 31=r 31/\r' 32=r 32/\r' 33=r 33/\r' 38=r 38/\r' 39=r 39/\r' 40 = .int .i64 i) ?_ (m:=y.2.2.2.length)
  ⟨0,a,ae,ah,c,L,n,rfl,by omega,ss,v,hx,.refl _,by omega,by omega,s,d,rfl,rfl,rfl,rfl,rfl,rfl,rfl,rfl,rfl,rfl,g40⟩
 rintro m r1 h1 ⟨i,a1,ae1,ah1,c1,L1,n1,rfl,hi,ss1,v1,hx1,cl1,hn1,hn2,s1,d1,e0,e2,e4,e7,e9,e31,e32,e33,e38,e39,e40⟩ X hX
 unfold Em
 simp only [jf,e39,g39,e40]
 refine bm (fun hlt=>?_) (fun hge=>?_)
 rotate_left
 . obtain rfl:i=y.2.2.2.length:=by omega
   rw [List.take_length]at ss1 v1 hx1
   exact H _ _ a1 ae1 ah1 c1 L1 n1 ss1 v1 hx1 cl1 hn1 hn2 s1 d1 (by simp (disch:=decide) only [jf,e0]) (by simp (disch:=decide) only [jf,e2]) (by simp (disch:=decide) only [jf,e4]) (by simp (disch:=decide) only [jf,e7]) (by simp (disch:=decide) only [jf,e31]) (by simp (disch:=decide) only [jf,e32]) (by simp (disch:=decide) only [jf,e33])
 obtain ⟨sx,hsx⟩:∃u,y.2.2.2[i]?=some u:=⟨_,List.getElem?_eq_getElem (by omega)⟩
 obtain ⟨b,o,rfl,z1,z2⟩:=Sees.span ((sl.le cl1.p).see (G:=G) (by decide) (ss1.ch.pool.trans (s1.in 0 rfl))) hsx
 have hstep:=Lx (f:=ii q.E x k y) (S:=S) hsx
 have hsm:=List.mem_of_getElem? hsx
 unfold Dp
 simp (disch:=first|decide|exact ao|exact am|omega|rfl) only [jf,e38,g38,e40,R2 (Int.natCast_nonneg i) hlt,z1,z2]
 intro zb hzb gzb
 have s2:=s1.past (o := .cells #[sx.1,sx.2] 151 (0,0)) hzb
 have d2:=d1.set (o := .cells #[sx.1,sx.2] 151 (0,0)) gzb
 have hzs:(h1.set zb (.cells #[sx.1,sx.2] 151 (0,0))) zb=some (.cells #[sx.1,sx.2] 151 (0,0)):=ag
 generalize Hp.set h1 zb _=h2 at s2 d2 hzs ⊢
 have cz:∀k,af G h2 ⟨zb,k,none⟩=_:=fun k=>aj (ai hzs)
 have co:∀k,af G h2 ⟨xo,k,none⟩=_:=fun k=>aj (ai (s2.at 3 rfl fb.o))
 have cw:∀k,af G h2 ⟨xw,k,none⟩=_:=fun k=>aj (ai (s2.at 3 rfl hw))
 have next:∀(r':Rg) h3 a3 ae3 ah3 c3 L3 n3,Srs q a3 ae3 ah3 ms mw mp mt hp c3 (ii q.E x k y ((y.2.2.2.take i).foldl (ii q.E x k y) S) sx) L3 n3->c1.le c3->n1<=n3->n3<=n1+1->HL.Sep (a3::ae3::ah3::Bx::R) h3->Dis G h3->
  r' 0=r1 0->r' 2=r1 2->r' 4=r1 4->r' 7=r1 7->r' 9=r1 9->r' 31=r1 31->r' 32=r1 32->r' 33=r1 33->r' 38=r1 38->r' 39=r1 39->r' 40=r1 40->
  nw G (bv X KK) r' h3:=by
  intro r' h3 a3 ae3 ah3 c3 L3 n3 ss3 cl3 m1 m2 s3 d3 w0 w2 w4 w7 w9 w31 w32 w33 w38 w39 w40
  unfold nw
  simp (disch:=first|decide|omega) only [jf,w40,e40]
  have vv:=Gn ok v1 hx1 hd ha hox hy (k:=k) hsm
  refine hX (y.2.2.2.length-(i+1)) _ _ (by omega) ⟨i+1,a3,ae3,ah3,c3,L3,n3,rfl,by omega,by rw [hstep];exact ss3,by rw [hstep];exact vv.1,by rw [hstep];exact vv.2,cl1.trans cl3,by omega,by omega,s3,d3,by simp (disch:=decide) only [jf,w0,e0],by simp (disch:=decide) only [jf,w2,e2],by simp (disch:=decide) only [jf,w4,e4],by simp (disch:=decide) only [jf,w7,e7],by simp (disch:=decide) only [jf,w9,e9],by simp (disch:=decide) only [jf,w31,e31],by simp (disch:=decide) only [jf,w32,e32],by simp (disch:=decide) only [jf,w33,e33],by simp (disch:=decide) only [jf,w38,e38],by simp (disch:=decide) only [jf,w39,e39],by simp only [jf];rfl⟩
 have skip:ii q.E x k y ((y.2.2.2.take i).foldl (ii q.E x k y) S) sx=(y.2.2.2.take i).foldl (ii q.E x k y) S->Srs q a1 ae1 ah1 ms mw mp mt hp c1 (ii q.E x k y ((y.2.2.2.take i).foldl (ii q.E x k y) S) sx) L1 n1:=fun e=>by rw [e];exact ss1
 try simp only [jf,cz,e7,g7,co]
 by_cases h1:sx.1<x.s.1
 . try simp only [jf,je h1,dw]
   exact next _ h2 a1 ae1 ah1 c1 L1 n1 (skip (by unfold ii;rw [if_pos (.inl h1)])) (.refl _) (by omega) (by omega) s2 d2 (by simp (disch:=omega) only [au]) (by simp (disch:=omega) only [au]) (by simp (disch:=omega) only [au]) (by simp (disch:=omega) only [au]) (by simp (disch:=omega) only [au]) (by simp (disch:=omega) only [au]) (by simp (disch:=omega) only [au]) (by simp (disch:=omega) only [au]) (by simp (disch:=omega) only [au]) (by simp (disch:=omega) only [au]) (by simp (disch:=omega) only [au])
 try simp only [jf,i8 h1,cz,co]
 by_cases h2':sx.2>x.s.2
 . try simp only [jf,je h2']
   exact next _ h2 a1 ae1 ah1 c1 L1 n1 (skip (by unfold ii;rw [if_pos (.inr h2')])) (.refl _) (by omega) (by omega) s2 d2 (by simp (disch:=omega) only [au]) (by simp (disch:=omega) only [au]) (by simp (disch:=omega) only [au]) (by simp (disch:=omega) only [au]) (by simp (disch:=omega) only [au]) (by simp (disch:=omega) only [au]) (by simp (disch:=omega) only [au]) (by simp (disch:=omega) only [au]) (by simp (disch:=omega) only [au]) (by simp (disch:=omega) only [au]) (by simp (disch:=omega) only [au])
 try simp only [jf,i8 h2']
 unfold Dn
 try simp (disch:=decide) only [jf,cz,e2,g2,e9,g9,cw,max2w]
 refine (Rv.Qi (a:=max x.a sx.1) (b:=y.2.2.1)).mono ?_
 rintro _ h2 ⟨rfl,rfl⟩
 have hst:ii q.E x k y ((y.2.2.2.take i).foldl (ii q.E x k y) S) sx=if sumI (max x.a sx.1) y.2.2.1>sx.2\/sumI (max x.a sx.1) y.2.2.1>=FV then (y.2.2.2.take i).foldl (ii q.E x k y) S else note q.E ((y.2.2.2.take i).foldl (ii q.E x k y) S) y.2.1 (sumI (max x.a sx.1) y.2.2.1) (q.E.stamp y.1 (max x.a sx.1) (sumI (max x.a sx.1) y.2.2.1)) k:=by
  unfold ii
  rw [if_neg (by omega)]
 have hlst:=(ok.lasts _ y hy).1
 try simp only [jf,cz]
 obtain ⟨ev,hev⟩:∃ev,ev=sumI (max x.a sx.1) y.2.2.1:=⟨_,rfl⟩
 rw [<- hev]at hst ⊢
 have hgt:ev<FV->max x.a sx.1<ev:=fun h=>by rw [hev]at h ⊢;exact Gl (by omega) hlst h
 have skip2:(ev>sx.2\/ev>=FV)->∀(r':Rg),r' 0=r1 0->r' 2=r1 2->r' 4=r1 4->r' 7=r1 7->r' 9=r1 9->r' 31=r1 31->r' 32=r1 32->r' 33=r1 33->r' 38=r1 38->r' 39=r1 39->r' 40=r1 40->nw G (bv X KK) r' h2:=fun he r' w0 w2 w4 w7 w9 w31 w32 w33 w38 w39 w40=>
  next r' h2 a1 ae1 ah1 c1 L1 n1 (skip (by rw [hst,if_pos he])) (.refl _) (by omega) (by omega) s2 d2 w0 w2 w4 w7 w9 w31 w32 w33 w38 w39 w40
 by_cases q1:max x.a sx.1>=sx.2
 . have hq:ev>sx.2\/ev>=FV:=by
    by_cases hf:ev<FV
    . have:=hgt hf;exact .inl (by omega)
    . exact .inr (by omega)
   try simp only [jf,je q1,dw]
   refine skip2 hq _ (by simp (disch:=omega) only [au]) (by simp (disch:=omega) only [au]) (by simp (disch:=omega) only [au]) (by simp (disch:=omega) only [au]) (by simp (disch:=omega) only [au]) (by simp (disch:=omega) only [au]) (by simp (disch:=omega) only [au]) (by simp (disch:=omega) only [au]) (by simp (disch:=omega) only [au]) (by simp (disch:=omega) only [au]) (by simp (disch:=omega) only [au])
 try simp only [jf,i8 q1,cz]
 by_cases q2:ev>sx.2
 . try simp only [jf,je q2,dw]
   refine skip2 (.inl q2) _ (by simp (disch:=omega) only [au]) (by simp (disch:=omega) only [au]) (by simp (disch:=omega) only [au]) (by simp (disch:=omega) only [au]) (by simp (disch:=omega) only [au]) (by simp (disch:=omega) only [au]) (by simp (disch:=omega) only [au]) (by simp (disch:=omega) only [au]) (by simp (disch:=omega) only [au]) (by simp (disch:=omega) only [au]) (by simp (disch:=omega) only [au])
 try simp only [jf,i8 q2]
 by_cases q3:ev>=4611686018427387904
 . try simp only [jf,je q3]
   refine skip2 (.inr q3) _ (by simp (disch:=omega) only [au]) (by simp (disch:=omega) only [au]) (by simp (disch:=omega) only [au]) (by simp (disch:=omega) only [au]) (by simp (disch:=omega) only [au]) (by simp (disch:=omega) only [au]) (by simp (disch:=omega) only [au]) (by simp (disch:=omega) only [au]) (by simp (disch:=omega) only [au]) (by simp (disch:=omega) only [au]) (by simp (disch:=omega) only [au])
 try simp only [jf,i8 q3]
 rw [if_neg (show ¬(ev>sx.2\/ev>=FV)by unfold FV;omega)]at hst
 unfold Dm
 have cn:∀k,af G h2 ⟨xn,k,none⟩=_:=fun k=>aj (ai (s2.at 3 rfl fb.n))
 try simp -implicitDefEqProofs (maxSteps:=2000000) (disch:=first|decide|with_reducible exact Nat.ne_of_beq_eq_false rfl|exact ao|exact am|omega|rfl|(simp;done)|fail) only [jf,Nat.reduceAdd,e0,g0,e4,g4,e9,g9,cw]
 intro xm hxm gxm
 have s3:=s2.past (o:=qd (yc y.1 (max x.a sx.1) ev)) hxm
 have d3:=d2.set (o:=qd (yc y.1 (max x.a sx.1) ev)) gxm
 simp only [yc]at s3 d3
 generalize Hp.set h2 xm _=h3 at s3 d3 ⊢
 have cn3:∀k,af G h3 ⟨xn,k,none⟩=_:=fun k=>aj (ai (s3.at 3 rfl fb.n))
 try simp (disch:=first|decide|omega) only [jf,cn3]
 have hkl:k<((y.2.2.2.take i).foldl (ii q.E x k y) S).length:=(List.getElem?_eq_some_iff.1 hx1).1
 have hfk:ix q.w q.k ((y.2.2.2.take i).foldl (ii q.E x k y) S) (k:Int)=uu q.w q.k x:=by
  unfold ix
  rw [if_neg (by omega),Int.toNat_natCast,hx1]
 have hft:cj q.w q.k q.f y.1.t=true:=by rw [<- hy1];exact ok.to _ hox y hy
 have hlo:x.a<=ev:=by have:=hgt (by unfold FV;omega);omega
 have hr:=G5 (p:=y.1.t) (t:=ev) (m:=yc y.1 (max x.a sx.1) ev) (b:=(k:Int)) ss1 bg v1 hlo hft (by omega) (.inr (by simpa using hkl)) s3
 rw [hfk]at hr
 simp only [uu,yc]at hr
 refine hr.mono ?_
 rintro _ h4 ⟨a4,ae4,ah4,c4,L4,n4,ss4,cl4,l24,m1,m2,s4,d4⟩
 refine next _ h4 a4 ae4 ah4 c4 L4 n4 (by rw [hst,hy1];exact ss4) cl4 m1 m2 s4 d4 (by simp (disch:=omega) only [au]) (by simp (disch:=omega) only [au]) (by simp (disch:=omega) only [au]) (by simp (disch:=omega) only [au]) (by simp (disch:=omega) only [au]) (by simp (disch:=omega) only [au]) (by simp (disch:=omega) only [au]) (by simp (disch:=omega) only [au]) (by simp (disch:=omega) only [au]) (by simp (disch:=omega) only [au]) (by simp (disch:=omega) only [au])
end Go.Proofs.YtfflipnhffknnaaGreatDoor
end

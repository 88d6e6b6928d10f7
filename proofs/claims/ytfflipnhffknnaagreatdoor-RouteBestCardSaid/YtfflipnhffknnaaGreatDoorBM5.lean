/- Texts of the proof, one behind the other. -/
import Derived.Test.YtfflipnhffknnaaGreatDoorBM1
import Derived.Test.YtfflipnhffknnaaGreatDoorBM4
import Derived.Test.YtfflipnhffknnaaGreatDoorBM3
import Derived.Test.YtfflipnhffknnaaGreatDoorBH4
import Derived.Test.YtfflipnhffknnaaGreatDoorBH3
set_option linter.unusedSimpArgs false
set_option linter.unusedVariables false
set_option linter.unusedSectionVars false
set_option maxRecDepth 100000
set_option maxHeartbeats 4000000
set_option linter.defProp false
section
namespace Go.Proofs.Wt
structure It where
 k:Int
 m:Int
 s:Int
 n:Int
def It.b4 (x y:It):Bool:=decide (x.k<y.k\/(x.k=y.k/\(x.m<y.m\/(x.m=y.m/\x.s<y.s))))
def It.lt (x y:It):Bool:=if x.b4 y=true then true else if y.b4 x=true then false else decide (x.n<y.n)
def qd (L:List It) (i j:Nat):List It:=match L[i]?,L[j]? with
 |some x,some y=>(L.set i y).set j x
 |_,_=>L
theorem fg (L:List It) (i j:Nat):(qd L i j).length=L.length:=by unfold qd;split<;>simp
def uf (L:List It) (i j:Nat):Bool:=match L[i]?,L[j]? with
 |some x,some y=>x.lt y
 |_,_=>false
def mi (L:List It) (i:Nat):List It:=if h:0<i/\uf L i ((i-1) / 2)=true then mi (qd L i ((i-1) / 2)) ((i-1) / 2)else L
 termination_by i
 decreasing_by omega
theorem xj (L:List It) (i:Nat):(mi L i).length=L.length:=by
 induction i using Nat.strongRecOn generalizing L with
 |_ i ih=>
  rw [mi];split
  . rw [ih _ (by omega),fg]
  . rfl
def jd (L:List It) (first k:Nat):Nat:=if k<L.length/\uf L k first=true then k else first
def nh (L:List It) (i:Nat):Nat:=jd L (jd L i (2*i+1)) (2*i+2)
theorem Cj (L:List It) (f k:Nat):jd L f k=f\/(jd L f k=k/\k<L.length):=by
 unfold jd;split
 . rename_i h;exact .inr ⟨rfl,h.1⟩
 . exact .inl rfl
theorem pu (L:List It) (i:Nat):nh L i=i\/(i<nh L i/\nh L i<L.length):=by
 unfold nh;rcases Cj L (jd L i (2*i+1)) (2*i+2)with h|⟨h,h2⟩
 . rw [h];rcases Cj L i (2*i+1)with h|⟨h,h2⟩
   . exact .inl h
   . rw [h];exact .inr ⟨by omega,h2⟩
 . rw [h];exact .inr ⟨by omega,h2⟩
def j5 (L:List It) (i:Nat):List It:=if h:nh L i=i then L else j5 (qd L i (nh L i)) (nh L i)
 termination_by L.length-i
 decreasing_by
 rw [fg]
 have:=(pu L i).resolve_left h
 omega
theorem Ag (L:List It) (i:Nat):(j5 L i).length=L.length:=by
 have key:∀m L i,L.length-i<=m->(j5 L i).length=L.length:=by
  intro m;induction m with
  |zero=>
   intro L i hm;rw [j5];split
   . rfl
   . rename_i h;have:=(pu L i).resolve_left h;omega
  |succ m ih=>
   intro L i hm;rw [j5];split
   . rfl
   . rename_i h;have:=(pu L i).resolve_left h;rw [ih _ _ (by rw [fg];omega),fg]
 exact key _ L i (aj_ _)
def popL (L:List It):List It:=j5 ((qd L 0 (L.length-1)).dropLast) 0
theorem Be (L:List It):(popL L).length=L.length-1:=by unfold popL;rw [Ag,bY_,fg]
theorem az8 (L:List It) (x:It) (h:L≠[]):L.set (L.length-1) x=L.dropLast++[x]:=by rw [b4_,ak_ (by have:=bB_.2 h;omega),List.dropLast_eq_take];have:0<L.length:=bB_.2 h;rw [show L.length-1+1=L.length by omega,List.drop_length]
theorem az4 {x y:It}:x.lt y=true↔x.k<y.k\/(x.k=y.k/\(x.m<y.m\/(x.m=y.m/\(x.s<y.s\/(x.s=y.s/\x.n<y.n))))):=by
 unfold It.lt It.b4;simp only [aw_];split
 . simp;omega
 . split
   . simp;omega
   . simp;omega
def It.le (x y:It):Prop:=y.lt x=false
theorem Ru {x y:It}:x.le y↔x.k<y.k\/(x.k=y.k/\(x.m<y.m\/(x.m=y.m/\(x.s<y.s\/(x.s=y.s/\x.n<=y.n))))):=by unfold It.le;rw [Bool.eq_false_iff,ne_eq,az4];omega
theorem It.le.trans {x y z:It} (a:x.le y) (b:y.le z):x.le z:=by rw [Ru]at *;omega
theorem It.le.refl (x:It):x.le x:=by rw [Ru];omega
theorem le_of_lt {x y:It} (a:x.lt y=true):x.le y:=by rw [Ru];rw [az4]at a;omega
def at_ (L:List It) (i:Nat):It:=L.getD i ⟨0,0,0,0⟩
theorem Sr {L:List It} {i:Nat} (h:i<L.length):L[i]?=some (at_ L i):=by unfold at_;rw [aG_,aa_ h];rfl
theorem F8 {L:List It} {i j:Nat} (hi:i<L.length) (hj:j<L.length):uf L i j=(at_ L i).lt (at_ L j):=by simp [uf,Sr hi,Sr hj]
theorem rk {L:List It} {i j:Nat} (hi:i<L.length) (hj:j<L.length) (k:Nat):at_ (qd L i j) k=if k=j then at_ L i else if k=i then at_ L j else at_ L k:=by
 unfold qd;rw [Sr hi,Sr hj];simp only;unfold at_;simp only [aG_];by_cases h1:k=j
 . subst h1;rw [ak_ rfl,aB_ (by simpa using hj)];rfl
 . rw [ah_ h1,ax_ (Ne.symm h1)];by_cases h2:k=i
   . subst h2;rw [ak_ rfl,aB_ hi];rfl
   . rw [ah_ h2,ax_ (Ne.symm h2)]
theorem Gt (L:List It) (i j:Nat):(qd L i j).Perm L:=by
 unfold qd;split
 . rename_i x y hx hy;obtain ⟨hi,rfl⟩:=ad_.1 hx;obtain ⟨hj,rfl⟩:=ad_.1 hy;exact List.set_set_perm hi hj
 . exact .refl _
def zn (L:List It):Prop:=∀j,0<j->j<L.length->(at_ L ((j-1) / 2)).le (at_ L j)
def upOk (L:List It) (i:Nat):Prop:=(∀j,0<j->j<L.length->j≠i->(at_ L ((j-1) / 2)).le (at_ L j))/\
 (∀j,0<j->j<L.length->(j-1) / 2=i->0<i->(at_ L ((i-1) / 2)).le (at_ L j))
theorem an2:∀(i:Nat) (L:List It),i<L.length->upOk L i->zn (mi L i):=by
 intro i;induction i using Nat.strongRecOn with
 |_ i ih=>
  intro L hi ⟨h1,h2⟩;rw [mi];split
  . rename_i h;obtain ⟨h0,ha⟩:=h;have hp:(i-1) / 2<L.length:=by omega
    rw [F8 hi hp]at ha;refine ih _ (by omega) _ (by rw [fg];exact hp) ⟨?_,?_⟩
    . intro j j0 jl jne;rw [fg]at jl;rw [rk hi hp,rk hi hp];by_cases e1:j=i
      . subst e1;rw [ak_ rfl,ah_ jne,ak_ rfl];exact le_of_lt ha
      . rw [ah_ jne,ah_ e1];by_cases e2:(j-1) / 2=(i-1) / 2
        . rw [ak_ e2];have:=h1 j j0 jl e1;rw [e2]at this;exact (le_of_lt ha).trans this
        . rw [ah_ e2];by_cases e3:(j-1) / 2=i
          . rw [ak_ e3];exact h2 j j0 jl e3 h0
          . rw [ah_ e3];exact h1 j j0 jl e1
    . intro j j0 jl jp p0;rw [fg]at jl;rw [rk hi hp,rk hi hp];rw [ah_ (by omega),ah_ (by omega),ah_ (by omega)];by_cases e1:j=i
      . rw [ak_ e1];exact h1 _ p0 hp (by omega)
      . rw [ah_ e1];have a1:=h1 j j0 jl e1;rw [jp]at a1;exact (h1 _ p0 hp (by omega)).trans a1
  . rename_i h;intro j j0 jl;by_cases e:j=i
    . subst e
      have:uf L j ((j-1) / 2)=false:=by
       cases ha:uf L j ((j-1) / 2)with
       |false=>rfl
       |true=>exact absurd ⟨j0,ha⟩ h
      rw [F8 jl (by omega)]at this;exact this
    . exact h1 j j0 jl e
theorem Uh (i:Nat):∀L:List It,(mi L i).Perm L:=by
 induction i using Nat.strongRecOn with
 |_ i ih=>
  intro L;rw [mi];split
  . rename_i h;exact (ih _ (by omega) _).trans (Gt _ _ _)
  . exact .refl _
def downOk (L:List It) (i:Nat):Prop:=(∀j,0<j->j<L.length->(j-1) / 2≠i->(at_ L ((j-1) / 2)).le (at_ L j))/\
 (∀j,0<j->j<L.length->(j-1) / 2=i->0<i->(at_ L ((i-1) / 2)).le (at_ L j))
theorem Zz {L:List It} {f k:Nat} (hf:f<L.length):(at_ L (jd L f k)).le (at_ L f)/\(k<L.length->(at_ L (jd L f k)).le (at_ L k)):=by
 unfold jd;split
 . rename_i h;rw [F8 h.1 hf]at h;exact ⟨le_of_lt h.2,fun _ => .refl _⟩
 . rename_i h;refine ⟨.refl _,fun hk=>?_⟩
   have:uf L k f=false:=by
    cases ha:uf L k f with
    |false=>rfl
    |true=>exact absurd ⟨hk,ha⟩ h
   rw [F8 hk hf]at this;exact this
theorem Yd {L:List It} {i:Nat} (hi:i<L.length):(at_ L (nh L i)).le (at_ L i)/\∀j,0<j->j<L.length->(j-1) / 2=i->(at_ L (nh L i)).le (at_ L j):=by
 have h1:=Zz (L:=L) (f:=i) (k:=2*i+1) hi;have hp:jd L i (2*i+1)<L.length:=by rcases Cj L i (2*i+1)with h|⟨h,h'⟩<;>omega
 have h2:=Zz (L:=L) (f:=jd L i (2*i+1)) (k:=2*i+2) hp;refine ⟨h2.1.trans h1.1,fun j j0 jl jp=>?_⟩;rcases (show j=2*i+1\/j=2*i+2 by omega)with rfl|rfl
 . exact h2.1.trans (h1.2 jl)
 . exact h2.2 jl
theorem V5 {L:List It} {i:Nat} (h:nh L i≠i):(nh L i-1) / 2=i:=by
 unfold nh at*;rcases Cj L (jd L i (2*i+1)) (2*i+2)with e|⟨e,_⟩
 . rw [e]at h ⊢;rcases Cj L i (2*i+1)with e|⟨e,_⟩
   . exact absurd e h
   . rw [e];omega
 . rw [e];omega
theorem Ui:∀(m:Nat) (i:Nat) (L:List It),L.length-i<=m->i<L.length->downOk L i->zn (j5 L i):=by
 intro m;induction m with
 |zero=>intro i L hm hi;omega
 |succ m ih=>
  intro i L hm hi ⟨h1,h2⟩;have hle:=Yd hi;rw [j5];split
  . rename_i h;intro j j0 jl;by_cases e:(j-1) / 2=i
    . rw [h]at hle;rw [e];exact hle.2 j j0 jl e
    . exact h1 j j0 jl e
  . rename_i h;obtain ⟨f1,f2⟩:=(pu L i).resolve_left h;have fp:=V5 h;generalize nh L i=f at*;refine ih f _ (by rw [fg];omega) (by rw [fg];exact f2) ⟨?_,?_⟩
    . intro j j0 jl jp;rw [fg]at jl;rw [rk hi f2,rk hi f2];by_cases e1:j=f
      . subst e1;rw [ak_ rfl,ah_ jp,ak_ fp];exact hle.1
      . rw [ah_ jp,ah_ e1];by_cases e2:j=i
        . subst e2;rw [ak_ rfl,ah_ (by omega)];exact h2 f (by omega) f2 fp j0
        . rw [ah_ e2];by_cases e3:(j-1) / 2=i
          . rw [ak_ e3];exact hle.2 j j0 jl e3
          . rw [ah_ e3];exact h1 j j0 jl e3
    . intro j j0 jl jp _;rw [fg]at jl;rw [rk hi f2,rk hi f2,fp];rw [ah_ (by omega),ak_ rfl,ah_ (by omega),ah_ (by omega)];have:=h1 j j0 jl (by omega);rwa [jp]at this
theorem Nx:∀(m:Nat) (i:Nat) (L:List It),L.length-i<=m->(j5 L i).Perm L:=by
 intro m;induction m with
 |zero=>
  intro i L hm;rw [j5];split
  . exact .refl _
  . rename_i h;have:=(pu L i).resolve_left h;omega
 |succ m ih=>
  intro i L hm;rw [j5];split
  . exact .refl _
  . rename_i h;have:=(pu L i).resolve_left h;exact (ih _ _ (by rw [fg];omega)).trans (Gt _ _ _)
theorem aq8 {L:List It} (h:zn L):∀j,j<L.length->(at_ L 0).le (at_ L j):=by
 intro j;induction j using Nat.strongRecOn with
 |_ j ih=>
  intro hj;by_cases j0:j=0
  . subst j0;exact .refl _
  . exact (ih _ (by omega) (by omega)).trans (h j (by omega) hj)
theorem B3 {L M:List It} {j:Nat} (h:j<L.length):at_ (L++M) j=at_ L j:=by unfold at_;simp only [aG_];rw [aq_ h]
theorem push_ok {L:List It} {x:It} (h:zn L):zn (mi (L++[x]) L.length)/\(mi (L++[x]) L.length).Perm (x::L):=by
 refine ⟨an2 _ _ (by simp) ⟨fun j j0 jl jne=>?_,fun j j0 jl jp _=>?_⟩,(Uh _ _).trans (bA_ _ _)⟩
 . simp at jl;rw [B3 (by omega),B3 (by omega)];exact h j j0 (by omega)
 . simp at jl;omega
theorem Iq {L:List It} {j:Nat} (h:j<L.length-1):at_ L.dropLast j=at_ L j:=by unfold at_;simp only [aG_,List.dropLast_eq_take];rw [ch_ h]
theorem pop_ok {x:It} {L:List It} (h:zn (x::L)):zn (popL (x::L))/\(x::L).Perm (x::popL (x::L))/\∀y∈L,x.le y:=by
 have hroot:∀y∈L,x.le y:=by intro y hy;obtain ⟨i,hi,rfl⟩:=bj_ hy;have:=aq8 h (i+1) (by simpa using hi);simpa [at_,aG_,hi]using this
 have hM:(x::L).length-1<(x::L).length:=by simp
 have h0:0<(x::L).length:=by simp
 have hsl:=fg (x::L) 0 ((x::L).length-1)
 have hpop:zn (popL (x::L)):=by
  unfold popL;by_cases hl:L=[]
  . subst hl;intro j j0 jl;rw [Ag,bY_,fg]at jl;simp at jl
  . have hl':0<L.length:=bB_.2 hl;refine Ui _ 0 _ (aj_ _) (by rw [bY_,fg];simpa using hl') ⟨fun j j0 jl jp=>?_,fun j j0 jl jp i0=>by omega⟩;rw [bY_,fg]at jl;rw [Iq (by rw [fg];omega),Iq (by rw [fg];omega),rk h0 hM,rk h0 hM];simp only [an_,Nat.add_sub_cancel]at jl ⊢;rw [ah_ (by omega),ah_ (by omega),ah_ (by omega),ah_ (by omega)];exact h j j0 (by simp;omega)
 refine ⟨hpop,?_,hroot⟩;have p1:(qd (x::L) 0 ((x::L).length-1)).Perm (x::L):=Gt _ _ _;have hne:qd (x::L) 0 ((x::L).length-1)≠[]:=by intro e;rw [e]at hsl;simp at hsl
 have hlast:(qd (x::L) 0 ((x::L).length-1)).getLast hne=x:=by rw [List.getLast_eq_getElem];have e:=rk h0 hM ((x::L).length-1);rw [ak_ rfl]at e;unfold at_ at e;rw [aG_,aa_ (by rw [hsl];exact hM)]at e;simp only [bs_]at e;simp only [hsl];rw [e];rfl
 have p2:(qd (x::L) 0 ((x::L).length-1)).Perm (x::(qd (x::L) 0 ((x::L).length-1)).dropLast):=by
  conv=>lhs;rw [<- List.dropLast_concat_getLast hne,hlast]
  exact bA_ _ _
 exact p1.symm.trans (p2.trans ((Nx _ 0 _ (aj_ _)).symm.cons x))
end Go.Proofs.Wt
end
section
namespace Go.Proofs.Srch
open Go.Proofs.Resv Go.Proofs.Wt
section
variable {P M:Type} [DecidableEq P] {E:Env P M}
structure QI (E:Env P M) (L:List It) (S:List (St P M)):Prop where
 old:∀w∈L,∃x∈S,E.num x.p=w.m/\(x.i:Int)=w.s/\x.a<=w.k
 all:∀x∈S,x.dn=false->∃w∈L,w.k=x.a/\w.m=E.num x.p/\w.s=x.i
theorem QI.perm {L L':List It} {S:List (St P M)} (q:QI E L S) (h:L'.Perm L):QI E L' S:=
 ⟨fun w hw=>q.old w (h.mem_iff.1 hw),fun x hx hd=>let ⟨w,hw,e⟩:=q.all x hx hd;⟨w,h.mem_iff.2 hw,e⟩⟩
def U1 (E:Env P M) (S:List (St P M)) (p:P) (t:Int):Option Nat:=match inside (E.spans p) t with
 |none=>none
 |some i=>match key S p i with
  |none=>some i
  |some k=>match S[k]? with
   |none=>none
   |some x=>if t<x.a then some i else none
theorem note_q {L L':List It} {S:List (St P M)} {p:P} {t:Int} {m:M} {b n:Int} (q:QI E L S)
 (h:match U1 E S p t with
  |some i=>L'.Perm (⟨t,E.num p,i,n⟩::L)
  |none=>L'=L):QI E L' (note E S p t m b):=by
 unfold note;unfold U1 at h;cases hi:inside (E.spans p) t with
 |none=>rw [hi]at h;simp only at h ⊢;rw [h];exact q
 |some i=>
  rw [hi]at h;simp only at h ⊢;unfold Ai;cases hk:key S p i with
  |none=>
   rw [hk]at h;simp only at h ⊢;refine QI.perm ⟨fun w hw=>?_,fun x hx hd=>?_⟩ h
   . rcases al_.1 hw with rfl|hw
     . exact ⟨_,a7_ _ (.head _),rfl,rfl,aS_ _⟩
     . obtain ⟨x,hx,e⟩:=q.old w hw;exact ⟨x,aZ_ _ hx,e⟩
   . rcases ao_.1 hx with hx|hx
     . obtain ⟨w,hw,e⟩:=q.all x hx hd;exact ⟨w,.tail _ hw,e⟩
     . rw [aE_]at hx;subst hx;exact ⟨_,.head _,rfl,rfl,rfl⟩
  |some k=>
   obtain ⟨x,hx,e1,e2⟩:=vl hk;rw [hk]at h;simp only [hx]at h ⊢;by_cases hlt:t<x.a
   . rw [ak_ hlt]at h ⊢;simp only at h;have hkl:k<S.length:=(ad_.1 hx).1;have hself:(S.set k { x with a:=t,mv:=m,b:=b })[k]?=some { x with a:=t,mv:=m,b:=b }:=by rw [aB_ hkl]
     refine QI.perm ⟨fun w hw=>?_,fun y hy hd=>?_⟩ h
     . rcases al_.1 hw with rfl|hw
       . exact ⟨_,ab_ hself,by simp only [e1],by simp only [e2],aS_ _⟩
       . obtain ⟨y,hy,f1,f2,f3⟩:=q.old w hw;obtain ⟨j,hj,rfl⟩:=bj_ hy;by_cases hjk:j=k
         . subst hjk;have hxe:S[j]=x:=(ad_.1 hx).2;rw [hxe]at f1 f2 f3;exact ⟨_,ab_ hself,f1,f2,by simp only;omega⟩
         . have:(S.set k { x with a:=t,mv:=m,b:=b })[j]?=some S[j]:=by rw [ax_ (Ne.symm hjk),aa_ hj]
           exact ⟨_,ab_ this,f1,f2,f3⟩
     . rcases bb_ hy with hy|rfl
       . obtain ⟨w,hw,e⟩:=q.all y hy hd;exact ⟨w,.tail _ hw,e⟩
       . exact ⟨_,.head _,rfl,by simp only [e1],by simp only [e2]⟩
   . rw [ah_ hlt]at h ⊢;simp only at h;rw [h];exact q
theorem ax7 {S:List (St P M)} (q:QI E [] S):least E S=none:=by
 cases h:least E S with
 |none=>rfl
 |some r=>obtain ⟨k,x⟩:=r;obtain ⟨h1,h2,h3⟩:=vk h;obtain ⟨w,hw,_⟩:=q.all x (ab_ h1) h2;cases hw
theorem popQ (ok:rt E) {p0:P} {t0 lo:Int} {z:M} {S:List (St P M)} (v:Inv E p0 t0 z lo S) {w:It} {L L':List It} (q:QI E (w::L) S) (hmin:∀y∈L,w.le y) (hL:L'.Perm L):
 ∃k x,S[k]?=some x/\E.num x.p=w.m/\(x.i:Int)=w.s/\((x.dn=true\/x.a≠w.k)->QI E L' S)/\(x.dn=false->x.a=w.k->least E S=some (k,x)/\QI E L' (take S k x)):=by
 obtain ⟨x,hxm,e1,e2,e3⟩:=q.old w (.head _);obtain ⟨k,hk,rfl⟩:=bj_ hxm;have hk?:S[k]?=some S[k]:=aa_ hk;generalize hx:S[k]=x at*;have same:∀y∈S,E.num y.p=w.m->(y.i:Int)=w.s->y=x:=fun y hy f1 f2=>by obtain ⟨j,hj,rfl⟩:=bj_ hy;have hp:=ok.inj _ _ (v.ok _ hy) (v.ok _ hxm) (f1.trans e1.symm);have:=v.uniq (aa_ hj) hk? hp (by omega);subst this;exact hx
 refine ⟨k,x,hk?,e1,e2,fun hst=>QI.perm ⟨fun u hu=>q.old u (.tail _ hu),fun y hy hd=>?_⟩ hL,fun hnd ha=>?_⟩
 . obtain ⟨u,hu,f1,f2,f3⟩:=q.all y hy hd;rcases al_.1 hu with rfl|hu
   . have:=same y hy f2.symm f3.symm;subst this;rcases hst with h|h
     . rw [hd]at h;cases h
     . exact absurd f1.symm h
   . exact ⟨u,hu,f1,f2,f3⟩
 . have least1:∀y∈S,y.dn=false->ltK E y x=false:=fun y hy hd=>by
    obtain ⟨u,hu,f1,f2,f3⟩:=q.all y hy hd
    have hle:w.le u:=by
     rcases al_.1 hu with rfl|hu
     . exact .refl _
     . exact hmin u hu
    rw [Ru]at hle;unfold ltK;simp only [aR_];omega
   refine ⟨?_,QI.perm ⟨fun u hu=>?_,fun y hy hd=>?_⟩ hL⟩
   . cases hl:least E S with
     |none=>have:=Kv hl x hxm;rw [hnd]at this;cases this
     |some r=>obtain ⟨j,y⟩:=r;obtain ⟨g1,g2,g3⟩:=vk hl;have hym:=ab_ g1;obtain ⟨c1,c2,c3⟩:=ltK_tot (g3 x hxm hnd) (least1 y hym g2);have hp:=ok.inj _ _ (v.ok _ hym) (v.ok _ hxm) c2.symm;have:=v.uniq g1 hk? hp c3.symm;subst this;rw [hk?]at g1;cases g1;rfl
   . obtain ⟨y,hy,f⟩:=q.old u (.tail _ hu);obtain ⟨j,hj,rfl⟩:=bj_ hy;unfold take;by_cases hjk:j=k
     . subst hjk;rw [hx]at f;exact ⟨{ x with dn:=true },ab_ (i:=j) (by rw [aB_ hk]),f⟩
     . exact ⟨_,ab_ (by rw [ax_ (Ne.symm hjk)];exact aa_ hj),f⟩
   . unfold take at hy;rcases bb_ hy with hy|rfl
     . obtain ⟨u,hu,f1,f2,f3⟩:=q.all y hy hd;rcases al_.1 hu with rfl|hu
       . have hyx:=same y hy f2.symm f3.symm;exfalso;obtain ⟨j,hj,rfl⟩:=bj_ ‹y∈S.set k { x with dn:=true }›;rw [bT_]at hyx hd;split at hd
         . cases hd
         . rename_i hjk;rw [ah_ hjk]at hyx;have hj':j<S.length:=by simpa using hj
           exact hjk (v.uniq (aa_ hj') hk? (by rw [hyx]) (by rw [hyx])).symm
       . exact ⟨u,hu,f1,f2,f3⟩
     . cases hd
inductive Gr (S:List (St P M)):Nat->List (Nat × St P M)->Prop where
 |start {k:Nat} {x:St P M} (h:S[k]?=some x) (hb:x.b<0):Gr S k [(k,x)]
 |step {k j:Nat} {x:St P M} {l:List (Nat × St P M)} (h:S[k]?=some x) (hb:x.b=(j:Nat)) (c:Gr S j l):Gr S k ((k,x)::l)
theorem Wp {p0:P} {t0 lo:Int} {z:M} {S:List (St P M)} (v:Inv E p0 t0 z lo S):∀(n k:Nat) (x:St P M),S[k]?=some x->(S.filter (fun y=>decide (y.a<x.a))).length<=n->∃l,Gr S k l/\l.length<=n+1
 |n,k,x,hk,hn=>by
  rcases v.by_ x (ab_ hk)with ⟨h,_⟩|⟨y,h0,hy,hd,hlt,_⟩
  . exact ⟨_,.start hk (by omega),by simp⟩
  . have hym:=ab_ hy
    have hmono:(S.filter (fun u=>decide (u.a<y.a))).length<(S.filter (fun u=>decide (u.a<x.a))).length:=by
     have h1:(S.filter (fun u=>decide (u.a<y.a)))=(S.filter (fun u=>decide (u.a<x.a))).filter (fun u=>decide (u.a<y.a)):=by rw [List.filter_filter];congr 1;funext u;rw [<- Bool.decide_and];exact decide_eq_decide.2 (by omega)
     rw [h1];have h2:y∈S.filter (fun u=>decide (u.a<x.a)):=bF_.2 ⟨hym,by simpa using hlt⟩;refine List.length_filter_lt_length_iff_exists.2 ⟨y,h2,by simp⟩
    cases n with
    |zero=>omega
    |succ n=>obtain ⟨l,hl,hll⟩:=Wp v n x.b.toNat y hy (by omega);exact ⟨_,.step hk (by omega) hl,by simp;omega⟩
def o0:List (Nat × St P M)->List M
 |[]=>[]
 |[_]=>[]
 |p::l=>p.2.mv::o0 l
theorem Kq {S:List (St P M)} {k:Nat} {l:List (Nat × St P M)} (c:Gr S k l):∀(f:Nat) (acc:List M),l.length<=f->path S f k acc=(o0 l).reverse++acc:=by
 induction c with
 |start h hb=>
  intro f acc hf;cases f with
  |zero=>simp at hf
  |succ f=>unfold path;rw [h];simp only [ak_ hb];rfl
 |@step k j x l h hb c ih=>
  intro f acc hf;cases f with
  |zero=>simp at hf
  |succ f=>
   unfold path;rw [h];have h0:¬x.b<0:=by omega
   simp only [ah_ h0];rw [show x.b.toNat=j by omega,ih f _ (by simpa using hf)];cases c<;>simp [o0]
theorem Pm {p0:P} {t0 lo:Int} {z:M} {S:List (St P M)} (v:Inv E p0 t0 z lo S) {k:Nat} {x:St P M} (hk:S[k]?=some x):∃l,Gr S k l/\l.length<=S.length:=by
 have hlt:(S.filter (fun y=>decide (y.a<x.a))).length<S.length:=
  List.length_filter_lt_length_iff_exists.2 ⟨x,ab_ hk,by simp⟩
 obtain ⟨l,c,h⟩:=Wp v _ k x hk (aj_ _);exact ⟨l,c,by omega⟩
end
end Go.Proofs.Srch
end
section
namespace Go.Proofs.YtfflipnhffknnaaGreatDoor
open Go Go.HL Go.Proofs.Resv Go.Proofs.Srch
def bRtR:=jq bC (jq (jq (jq @yu (jq @cf88 @Fs)) (jq @Lg (jq @Jn @Dy))) (jq (jq @X1 (jq @yp @rz)) (jq @ld4 (jq @Vj @jc))))
def numP (w k:Nat) (p:Pose):Int:=2*numI w k (p.x,p.y)+(if p.d=true then 1 else 0)
def mu (w k:Nat) (T:Tb) (r:Int) (p:Pose):List Sp:=ly T r ((dj p).map (numI w k))
def wayE (C:Conf) (w k:Nat) (f:Nat->Nat->Int) (T:Tb) (r:Int) (m:Move):Move × Pose × Int × List Sp:=(m,m.t,dr C m,ly T r ((me w k f m).map (numI w k)))
def tn (C:Conf) (w k:Nat) (f:Nat->Nat->Int) (T:Tb) (r:Int) (p:Pose):List (Move × Pose × Int × List Sp):=(ml w k f p).map (wayE C w k f T r)
def Aw (m:Move) (a e:Int):Move:={ m with a:=a,e:=e }
def envE (C:Conf) (w k:Nat) (f:Nat->Nat->Int) (T:Tb) (r:Int):Env Pose Move:=⟨numP w k,fun p=>eu w k f p=true,mu w k T r,tn C w k f T r,Aw⟩
theorem zp {w k:Nat} {f:Nat->Nat->Int} {p:Pose} (h:eu w k f p=true):inW w k (p.x,p.y)=true:=by unfold eu at h;rw [ag_]at h;exact Z2 h.1
theorem num_inj {w k:Nat} {c e:Cell} (hc:inW w k c=true) (he:inW w k e=true) (h:numI w k c=numI w k e):c=e:=by
 unfold numI at h;rw [ak_ hc,ak_ he]at h;obtain ⟨a1,a2,a3,a4⟩:=jr.1 hc;obtain ⟨b1,b2,b3,b4⟩:=jr.1 he;have h1:c.1=(c.2*w+c.1) % w:=by rw [Int.add_comm,Int.add_mul_emod_self_right,Int.emod_eq_of_lt a1 a2]
 have h2:e.1=(e.2*w+e.1) % w:=by rw [Int.add_comm,Int.add_mul_emod_self_right,Int.emod_eq_of_lt b1 b2]
 have h3:c.1=e.1:=by rw [h1,h2,h]
 have h4:c.2*(w:Int)=e.2*(w:Int):=by omega
 have h5:c.2=e.2:=Int.eq_of_mul_eq_mul_right (by omega) h4;exact Prod.ext h3 h5
theorem ye {w k:Nat} {f:Nat->Nat->Int} {p q:Pose} (hp:eu w k f p=true) (hq:eu w k f q=true) (h:numP w k p=numP w k q):p=q:=by
 have hpi:=zp hp;have hqi:=zp hq;unfold numP at h;have hd:p.d=q.d:=by cases h1:p.d<;>cases h2:q.d<;>simp only [h1,h2,if_true,if_false,aI_]at h<;>first|rfl|omega
 rw [hd]at h;have hn:=num_inj hpi hqi (show numI w k (p.x,p.y)=numI w k (q.x,q.y)by omega);cases p;cases q;simp only [Prod.mk.injEq]at hn hd;obtain ⟨rfl,rfl⟩:=hn;subst hd;rfl
structure Cs where
 L1:List (Int × Value)
 L2:List (Int × Value)
 L3:List (Int × Value)
 P:Hp
def Gro (L L':List (Int × Value)):Prop:=∀k v,mget L k=some v->mget L' k=some v
theorem Gro.refl (L:List (Int × Value)):Gro L L:=fun _ _ h=>h
theorem Gro.trans {L M N:List (Int × Value)} (a:Gro L M) (b:Gro M N):Gro L N:=fun k v h=>b k v (a k v h)
structure Cs.le (c c':Cs):Prop where
 l1:Gro c.L1 c'.L1
 l2:Gro c.L2 c'.L2
 l3:Gro c.L3 c'.L3
 p:c.P.le c'.P
theorem Cs.le.refl (c:Cs):c.le c:=⟨.refl _,.refl _,.refl _,.refl _⟩
theorem Cs.le.trans {a b c:Cs} (x:a.le b) (y:b.le c):a.le c:=⟨x.l1.trans y.l1,x.l2.trans y.l2,x.l3.trans y.l3,x.p.trans y.p⟩
structure RawW where
 m:Move
 d:Int
 a:Option Addr
 n:Nat
 c:Nat
def vj:Cod RawW:=⟨13,fun x=>[.int .i64 x.m.k,.int .i64 x.m.d,.int .i64 x.m.n,.int .i64 x.m.f.x,.int .i64 x.m.f.y,.bool x.m.f.d,.int .i64 x.m.t.x,.int .i64 x.m.t.y,.bool x.m.t.d,.int .i64 x.m.a,.int .i64 x.m.e,.int .i64 x.d,.slice x.a x.n x.c],fun _=>rfl,
 fun _ v hv=>by simp at hv;rcases hv with rfl|rfl|rfl|rfl|rfl|rfl|rfl|rfl|rfl|rfl|rfl|rfl|rfl<;>rfl⟩
theorem eoway:iu P_ 232 vj.n 120:=eo232
def WayS (P:Hp) (v:Value) (W:List (Move × Pose × Int × List Sp)):Prop:=∃raws:List RawW,Slc vj 232 P v raws/\raws.length=W.length/\
 ∀(i:Nat) (x:RawW) (y:Move × Pose × Int × List Sp),raws[i]?=some x->W[i]?=some y->x.m=y.1/\x.d=y.2.2.1/\x.n=y.2.2.2.length/\Slc nx 151 P (.slice x.a x.n x.c) y.2.2.2
theorem WayS.le {P P':Hp} {v:Value} {W:List (Move × Pose × Int × List Sp)} (h:WayS P v W) (l:P.le P'):WayS P' v W:=by obtain ⟨raws,h1,h2,h3⟩:=h;exact ⟨raws,h1.le l,h2,fun i x y hx hy=>let ⟨a,b,c,d⟩:=h3 i x y hx hy;⟨a,b,c,d.le l⟩⟩
structure Par where
 C:Conf
 w:Nat
 k:Nat
 f:Nat->Nat->Int
 T:Tb
 r:Int
def Par.E (p:Par):Env Pose Move:=envE p.C p.w p.k p.f p.T p.r
structure Ch (q:Par) (a:Hp) (ms mw mp:Nat) (c:Cs):Prop where
 sep:∃o1 o2 o3,MapO o1 c.L1/\MapO o2 c.L2/\MapO o3 c.L3/\HL.Sep [noHp.set ms o1,noHp.set mw o2,noHp.set mp o3,c.P] a
 m1:∀n v,mget c.L1 n=some v->∃p,eu q.w q.k q.f p=true/\numP q.w q.k p=n/\Slc nx 151 c.P v (mu q.w q.k q.T q.r p)
 m2:∀n v,mget c.L2 n=some v->∃p,eu q.w q.k q.f p=true/\numP q.w q.k p=n/\WayS c.P v (tn q.C q.w q.k q.f q.T q.r p)
 m3:∀n v,mget c.L3 n=some v->∃p,eu q.w q.k q.f p=true/\numP q.w q.k p=n/\v=mq p
def qq (C:Conf) (vb vp vr vz g:Value) (kp tp:Nat) (r:Int) (ms mw mp mt hp:Nat):List Value:=
 [.int .i64 C.w,.int .i64 C.h,.int .i64 C.ht,vb,vp,vr,vz,.int .i64 C.un,.int .i64 C.ac,.int .i64 C.sp,.int .i64 C.tu,.int .i64 C.ho,.int .i64 C.qu,.int .i64 C.re,.int .i64 C.bu,.bool C.back,g,.pointer (some ⟨kp,0,none⟩),.pointer (some ⟨tp,0,none⟩),.int .i64 r,.map (some ms),.map (some mw),.map (some mp),.map (some mt),.pointer (some ⟨hp,0,none⟩)]
structure Bg (G:Hp) (q:Par) (sp:Nat) (kp ms mw mp mt hp:Nat):Prop where
 ex:∃(ab:Option Addr) (cb:Nat) (ap:Option Addr) (cp:Nat) (ar:Option Addr) (cr:Nat) (az:Option Addr) (cs:Nat) (gp tp:Nat),∀h,Dis G h->
  CA G h q.C ab cb ap cp ar cr az cs/\(∀j,j<25->bf G h ⟨sp,j,none⟩=(qq q.C (.slice ab q.C.bl.length cb) (.slice ap q.C.po.length cp) (.slice ar q.C.ro.length cr) (.slice az q.C.st.length cs) (.pointer (some ⟨gp,0,none⟩)) kp tp q.r ms mw mp mt hp)[j]?)/\
  GS G h (.pointer (some ⟨gp,0,none⟩)) q.w q.k q.f/\Rv.TSee G h tp q.T
 st:lg G
 gt:i7 q.T
 fw:Few q.T 100
structure BC (G h:Hp) (sp:Nat) (g:Value) (kp tp:Nat) (r:Int) (ms mw mp mt hp:Nat):Prop where
 g:bf G h ⟨sp,16,none⟩=some g
 k:bf G h ⟨sp,17,none⟩=some (.pointer (some ⟨kp,0,none⟩))
 t:bf G h ⟨sp,18,none⟩=some (.pointer (some ⟨tp,0,none⟩))
 r:bf G h ⟨sp,19,none⟩=some (.int .i64 r)
 ms:bf G h ⟨sp,20,none⟩=some (.map (some ms))
 mw:bf G h ⟨sp,21,none⟩=some (.map (some mw))
 mp:bf G h ⟨sp,22,none⟩=some (.map (some mp))
 mt:bf G h ⟨sp,23,none⟩=some (.map (some mt))
 hp:bf G h ⟨sp,24,none⟩=some (.pointer (some ⟨hp,0,none⟩))
theorem yx {G h:Hp} {C:Conf} {vb vp vr vz g:Value} {sp kp tp:Nat} {r:Int} {ms mw mp mt hp:Nat} (c:∀j,j<25->bf G h ⟨sp,j,none⟩=(qq C vb vp vr vz g kp tp r ms mw mp mt hp)[j]?):BC G h sp g kp tp r ms mw mp mt hp:=
 ⟨by rw [c _ (by decide)];rfl,by rw [c _ (by decide)];rfl,by rw [c _ (by decide)];rfl,by rw [c _ (by decide)];rfl,by rw [c _ (by decide)];rfl,by rw [c _ (by decide)];rfl,by rw [c _ (by decide)];rfl,by rw [c _ (by decide)];rfl,by rw [c _ (by decide)];rfl⟩
theorem xz {α:Type} {c:Cod α} {G a B h h':Hp} {v:Value} {L:List α} (x:Sees c G B v L) (s:Sep [a,B] h) (d:Dis G h) (d':Dis (HL.under G h a) h'):Sees c (HL.under G h a) h' v L:=by obtain ⟨s',cap,e,hc,hcs⟩:=x;refine ⟨s',cap,e,hc,hcs.imp id fun ⟨b,o,e2,hx⟩=>⟨b,o,e2,fun i y hy j hj=>?_⟩⟩;have:=hx i y hy j hj;rw [aa_ (by rw [c.len];exact hj)]at this ⊢;exact pi s d d' this
theorem Bg.of {G a B h:Hp} {q:Par} {sp kp ms mw mp mt hp:Nat} {ab:Option Addr} {cb:Nat} {ap:Option Addr} {cp:Nat} {ar:Option Addr} {cr:Nat} {az:Option Addr} {cs gp tp:Nat} (s:Sep [a,B] h) (d:Dis G h)
 (ca:CA G B q.C ab cb ap cp ar cr az cs) (hB:∀j,j<25->bf G B ⟨sp,j,none⟩=(qq q.C (.slice ab q.C.bl.length cb) (.slice ap q.C.po.length cp) (.slice ar q.C.ro.length cr) (.slice az q.C.st.length cs) (.pointer (some ⟨gp,0,none⟩)) kp tp q.r ms mw mp mt hp)[j]?)
 (gs:GS G B (.pointer (some ⟨gp,0,none⟩)) q.w q.k q.f) (ts:Rv.TSee G B tp q.T) (st:lg G) (gt:i7 q.T) (fw:Few q.T 100):Bg (HL.under G h a) q sp kp ms mw mp mt hp:=by
 refine ⟨⟨ab,cb,ap,cp,ar,cr,az,cs,gp,tp,fun h' d'=>⟨?_,fun j hj=>?_,?_,?_⟩⟩,st.under d (s.in 0 rfl),gt,fw⟩
 . obtain ⟨c1,c2,c3,raw,c4,c5⟩:=ca;exact ⟨xz c1 s d d',xz c2 s d d',xz c3 s d d',raw,xz c4 s d d',fun i r s' h1 h2=>let ⟨x,y,z⟩:=c5 i r s' h1 h2;⟨x,y,xz z s d d'⟩⟩
 . have:=hB j hj;rw [aa_ (by simpa [qq]using hj)]at this ⊢;exact pi s d d' this
 . obtain ⟨⟨gp',kb,e,h1,h2⟩,x1,x2,x3,x4⟩:=gs;refine ⟨⟨gp',kb,e,fun j hj=>?_,fun n x hx=>pi s d d' (h2 n x hx)⟩,x1,x2,x3,x4⟩;have:=h1 j hj;rw [aa_ (by simpa using hj)]at this ⊢;exact pi s d d' this
 . obtain ⟨rb,e1,e2⟩:=ts;exact ⟨rb,pi s d d' e1,fun c L hc=>let ⟨x,cap,e3,e4⟩:=e2 c L hc;⟨x,cap,pi s d d' e3,xz e4 s d d'⟩⟩
theorem un3r:P_.underlying 3=some (.int .i64):=by kernel_rfl
theorem unms:P_.underlying 128=some (.map 3 142):=by kernel_rfl
theorem unmw:P_.underlying 129=some (.map 3 229):=by kernel_rfl
theorem unmp:P_.underlying 130=some (.map 3 30):=by kernel_rfl
theorem zeros:qv P_ 142=some (.slice none 0 0):=by kernel_rfl
theorem zerow:qv P_ 229=some (.slice none 0 0):=by kernel_rfl
theorem zerop:qv P_ 30=some (.agg #[(0:Int),(0:Int),.bool false]):=by kernel_rfl
theorem in_pb {w k:Nat} (hw:w<=16) (hk:k<=16) {p:Pose} (h:inW w k (p.x,p.y)=true):PB p:=by obtain ⟨a1,a2,a3,a4⟩:=jr.1 h;simp only at a1 a2 a3 a4;exact ⟨⟨by omega,by omega⟩,⟨by omega,by omega⟩⟩
theorem Bi {G h a:Hp} {R:List Hp} {q:Par} {sp kp ms mw mp mt hp:Nat} {c:Cs} {p:Pose} (ch:Ch q a ms mw mp c) (bg:Bg G q sp kp ms mw mp mt hp) (s:Sep (a::R) h) (hpf:eu q.w q.k q.f p=true):
 bn P_ G 115 #[.pointer (some ⟨sp,0,none⟩),mq p] h (fun u h'=>u = .int .i64 (numP q.w q.k p)/\∃a' c',Ch q a' ms mw mp c'/\c.le c'/\c'.L1=c.L1/\c'.L2=c.L2/\c'.P=c.P/\mget c'.L3 (numP q.w q.k p)=some (mq p)/\Sep (a'::R) h'/\Dis G h'):=by
 obtain ⟨ab,cb,ap,cp,ar,cr,az,cs,gp,tp,hbg⟩:=bg.ex;refine bn.assume fun d=>aJ9 (by simp) ?_;have hin:=zp hpf;unfold S115;simp only [bRtR];intro x hx gx;have s1:=s.past (o := .cells #[p.x,p.y,.bool p.d] 30 (0,0)) hx;have d1:=d.set (o := .cells #[p.x,p.y,.bool p.d] 30 (0,0)) gx;have hxs:(h.set x (.cells #[p.x,p.y,.bool p.d] 30 (0,0))) x=some (.cells #[p.x,p.y,.bool p.d] 30 (0,0)):=bh;generalize Hp.set h x _=h1 at s1 d1 hxs ⊢;have cx:∀k,bf G h1 ⟨x,k,none⟩=_:=fun k=>bm (bj hxs);obtain ⟨ca,hB,gs,ts⟩:=hbg h1 d1;have b:=yx hB;try simp only [bRtR,cx,b.g]
 refine (qk (c:=(p.x,p.y)) gs).mono ?_;rintro _ h1 ⟨rfl,rfl⟩;have nb:=Rk (c:=(p.x,p.y)) gs.w2 gs.k2;try simp (disch:=first|decide|omega) only [bRtR,cx]
 obtain ⟨o1,o2,o3,m1,m2,m3,sa⟩:=ch.sep;have hmp:h1 mp=some o3:=(s1.open sa).at 2 rfl bh
 have k1:∀(r':Rg) (n:Int),n=numP q.w q.k p->r' 0 = .pointer (some ⟨sp,0,none⟩)->r' 3 = .pointer (some ⟨x,0,none⟩)->r' 5 = .int .i64 n->Jv G (retK P_ G [.tmp 4] fun u h'=>u = .int .i64 (numP q.w q.k p)/\∃a' c',Ch q a' ms mw mp c'/\c.le c'/\c'.L1=c.L1/\c'.L2=c.L2/\c'.P=c.P/\mget c'.L3 (numP q.w q.k p)=some (mq p)/\Sep (a'::R) h'/\Dis G h') r' h1:=by
  intro r' n hn e0 e3 e5;unfold Jv;simp only [bRtR,e0,e3,e5,b.mp,cx];refine zi unmp un3r hmp m3 fun o' mo'=>?_;try simp (disch:=first|decide|omega) only [bRtR,Nat.reduceAdd,Nat.reduceMul,e5]
  have s2:=((s1.open sa).pick 2 rfl rfl).put (o:=o') bh;rw [set_set]at s2;have d2:=d1.set (o:=o') (d1 _ _ hmp);generalize Hp.set h1 mp _=h2 at s2 d2 ⊢;obtain ⟨a',s3,t3⟩:=Sep.pack [noHp.set mp o',noHp.set ms o1,noHp.set mw o2,c.P] s2;subst hn;refine ⟨rfl,a',⟨c.L1,c.L2,mput c.L3 (numP q.w q.k p) (mq p),c.P⟩,⟨⟨o1,o2,o',m1,m2,mo',t3.sel [1,2,0,3] (by decide) rfl⟩,ch.m1,ch.m2,?_⟩,⟨.refl _,.refl _,?_,.refl _⟩,rfl,rfl,rfl,?_,s3,d2⟩
  . intro n v hv;rw [ql]at hv;split at hv
    . rename_i e;cases hv;exact ⟨p,hpf,e,rfl⟩
    . exact ch.m3 n v hv
  . intro n v hv;rw [ql];split
    . rename_i e;obtain ⟨p',f',n',rfl⟩:=ch.m3 n v hv;rw [ye hpf f' (e.trans n'.symm)]
    . exact hv
  . rw [ql,ak_ rfl]
 cases hd:p.d with
 |true=>
  rw [hd]at cx;try simp only [bRtR]
  refine k1 _ (2*numI q.w q.k (p.x,p.y)+1) (by simp [numP,hd]) (by simp (disch:=decide) only [bRtR]) (by simp (disch:=decide) only [bRtR]) (by simp only [bRtR])
 |false=>
  rw [hd]at cx;try simp only [bRtR]
  refine k1 _ (2*numI q.w q.k (p.x,p.y)) (by simp [numP,hd]) (by simp (disch:=decide) only [bRtR]) (by simp (disch:=decide) only [bRtR]) (by simp (disch:=decide) only [bRtR])
def F2:=jq bC (jq (jq (jq @cf108 (jq @cf115 @cf89)) (jq (jq @Fs @We) (jq @Wd @fa134_5))) (jq (jq (jq @ld128 @ld30) (jq @rz @aa0)) (jq (jq @ld3p @Vj) (jq @li @jc))))
theorem _root_.Go.HL.Sep.fr (A:List Hp) {R A':List Hp} {h:Hp} (s:HL.Sep (A++R) h) (is:List Nat) (nd:is.Nodup) (e:is.filterMap (fun i=>A[i]?)=A'):HL.Sep (A'++R) h:=by
 have sub:∀x∈A',x∈A:=fun x hx=>by rw [<- e,cf_]at hx;obtain ⟨i,_,hi⟩:=hx;exact ab_ hi
 have hp:=bd_.1 s.2;have sA:HL.Sep A h:=⟨fun x hx=>s.1 x (aZ_ _ hx),hp.1⟩;have sA':=sA.sel is nd e;refine ⟨fun x hx=>?_,bd_.2 ⟨sA'.2,hp.2.1,fun x hx y hy=>hp.2.2 x (sub x hx) y hy⟩⟩;rcases ao_.1 hx with h1|h1
 . exact sA'.1 x h1
 . exact s.1 x (a7_ _ h1)
theorem Ch.look1 {q:Par} {a:Hp} {ms mw mp:Nat} {c:Cs} (ch:Ch q a ms mw mp c) {p:Pose} {v:Value} (hp:eu q.w q.k q.f p=true) (h:mget c.L1 (numP q.w q.k p)=some v):Slc nx 151 c.P v (mu q.w q.k q.T q.r p):=by obtain ⟨p',f',n',s'⟩:=ch.m1 _ _ h;rw [ye f' hp n']at s';exact s'
theorem Ch.look2 {q:Par} {a:Hp} {ms mw mp:Nat} {c:Cs} (ch:Ch q a ms mw mp c) {p:Pose} {v:Value} (hp:eu q.w q.k q.f p=true) (h:mget c.L2 (numP q.w q.k p)=some v):WayS c.P v (tn q.C q.w q.k q.f q.T q.r p):=by obtain ⟨p',f',n',s'⟩:=ch.m2 _ _ h;rw [ye f' hp n']at s';exact s'
theorem Ch.pool {q:Par} {a:Hp} {ms mw mp:Nat} {c:Cs} (ch:Ch q a ms mw mp c):c.P.le a:=by obtain ⟨o1,o2,o3,_,_,_,s⟩:=ch.sep;exact s.in 3 rfl
theorem Ch.put1 {q:Par} {ms mw mp:Nat} {c:Cs} {o2 o3 o':Obj} {ip b:Hp} {p:Pose} {v:Value} (m1:∀n v,mget c.L1 n=some v->∃p,eu q.w q.k q.f p=true/\numP q.w q.k p=n/\Slc nx 151 c.P v (mu q.w q.k q.T q.r p))
 (ch:Ch q b ms mw mp c) (k1:MapO o' (mput c.L1 (numP q.w q.k p) v)) (k2:MapO o2 c.L2) (k3:MapO o3 c.L3) {h:Hp} {R:List Hp} (s:HL.Sep (noHp.set ms o'::noHp.set mw o2::noHp.set mp o3::c.P::ip::R) h) (hp:eu q.w q.k q.f p=true) (hn:mget c.L1 (numP q.w q.k p)=none)
 (sl:Slc nx 151 ip v (mu q.w q.k q.T q.r p)):∃a' c',Ch q a' ms mw mp c'/\c.le c'/\mget c'.L1 (numP q.w q.k p)=some v/\c'.L2=c.L2/\c'.L3=c.L3/\HL.Sep (a'::R) h:=by
 obtain ⟨P',s1,t1⟩:=Sep.pack [ip,c.P] (R:=noHp.set ms o'::noHp.set mw o2::noHp.set mp o3::R) (Sep.fr (R:=R) [noHp.set ms o',noHp.set mw o2,noHp.set mp o3,c.P,ip] s [4,3,0,1,2] (by decide) rfl);obtain ⟨a',s2,t2⟩:=Sep.pack [noHp.set ms o',noHp.set mw o2,noHp.set mp o3,P'] (R:=R) (Sep.fr (R:=R) [P',noHp.set ms o',noHp.set mw o2,noHp.set mp o3] s1 [1,2,3,0] (by decide) rfl);refine ⟨a',⟨mput c.L1 (numP q.w q.k p) v,c.L2,c.L3,P'⟩,⟨⟨o',o2,o3,k1,k2,k3,t2⟩,?_,?_,ch.m3⟩,⟨?_,.refl _,.refl _,t1.in 1 rfl⟩,by rw [ql,ak_ rfl],rfl,rfl,s2⟩
 . intro n u hu;rw [ql]at hu;split at hu
   . rename_i e;cases hu;exact ⟨p,hp,e,sl.le (t1.in 0 rfl)⟩
   . obtain ⟨p',f',n',s'⟩:=m1 n u hu;exact ⟨p',f',n',s'.le (t1.in 1 rfl)⟩
 . intro n u hu;obtain ⟨p',f',n',s'⟩:=ch.m2 n u hu;exact ⟨p',f',n',s'.le (t1.in 1 rfl)⟩
 . intro n u hu;rw [ql];split
   . rename_i e;rw [<- e,hn]at hu;cases hu
   . exact hu
theorem nn {G h a:Hp} {R:List Hp} {q:Par} {sp kp ms mw mp mt hp:Nat} {c:Cs} {p:Pose} (ch:Ch q a ms mw mp c) (bg:Bg G q sp kp ms mw mp mt hp) (s:HL.Sep (a::R) h) (hpf:eu q.w q.k q.f p=true):
 bn P_ G 66 #[.pointer (some ⟨sp,0,none⟩),mq p] h (fun u h'=>∃a' c',Ch q a' ms mw mp c'/\c.le c'/\c'.L2=c.L2/\mget c'.L1 (numP q.w q.k p)=some u/\mget c'.L3 (numP q.w q.k p)=some (mq p)/\HL.Sep (a'::R) h'/\Dis G h'):=by
 obtain ⟨ab,cb,ap,cp,ar,cr,az,cs,gp,tp,hbg⟩:=id bg.ex;refine bn.assume fun d=>enter66 (by simp) ?_;have hin:=zp hpf;obtain ⟨_,_,gs,_⟩:=hbg h d;have hpb:=in_pb gs.w2 gs.k2 hin;unfold S66;simp only [F2];intro x hx gx;have s1:=(s.new (o := .cells #[p.x,p.y,.bool p.d] 30 (0,0)) hx).swap;have d1:=d.set (o := .cells #[p.x,p.y,.bool p.d] 30 (0,0)) gx;generalize Hp.set h x _=h1 at s1 d1 ⊢;have cx:∀k,bf G h1 ⟨x,k,none⟩=_:=fun k=>bm (bj (s1.at 1 rfl bh));try simp (disch:=first|decide|omega) only [F2,Nat.reduceAdd,Nat.reduceMul,cx]
 refine (Bi ch bg s1 hpf).mono ?_;rintro _ h2 ⟨rfl,a2,c2,ch2,cl2,e1,e2,e3,hm3,s2,d2⟩;obtain ⟨ca2,hB2,gs2,ts2⟩:=hbg h2 d2;have b2:=yx hB2;obtain ⟨o1,o2,o3,m1,m2,m3,sa⟩:=id ch2.sep;have hms:h2 ms=some o1:=(s2.open sa).at 0 rfl bh;try simp only [F2,b2.ms]
 rw [H9 unms un3r zeros (bj hms) m1];cases hg:mget c2.L1 (numP q.w q.k p)with
 |some v=>
  try simp only [F2,bs_,Option.isSome_some]
  unfold Sx;try simp (disch:=decide) only [F2]
  exact ⟨a2,c2,ch2,cl2,e2,hg,hm3,s2.swap.drop,d2⟩
 |none=>
  have cx2:∀k,bf G h2 ⟨x,k,none⟩=_:=fun k=>bm (bj (s2.at 1 rfl bh));try simp only [F2,cl_,ce_,b2.g,b2.t,b2.r,cx2]
  refine (qy (p:=p) bg.st hpb).mono ?_;rintro _ h3 ⟨b,rfl,hb,gb,rfl⟩;have s3:=s2.past (o := .cells #[p.x,p.y,(east p).1,(east p).2] 28 (0,0)) hb;have d3:=d2.set (o := .cells #[p.x,p.y,(east p).1,(east p).2] 28 (0,0)) gb;have hbs:(h2.set b (.cells #[p.x,p.y,(east p).1,(east p).2] 28 (0,0))) b=some (.cells #[p.x,p.y,(east p).1,(east p).2] 28 (0,0)):=bh;refine ⟨dw hb,?_⟩;generalize Hp.set h2 b _=h3 at s3 d3 hbs ⊢;have sc:Sees dy G h3 (.slice (some ⟨b,0,none⟩) (dj p).length 2) (dj p):=Sees.row hbs (by simp [dy,Cod.rows,dj]) (by simp [dj]);refine (Cq (bb:=100) (hbg h3 d3).2.2.1 (hbg h3 d3).2.2.2 bg.gt bg.fw (by omega) sc (by simp [dj])).mono ?_;rintro u h4 ⟨ip,sl,s4,d4⟩;have s5:=(s4.swap.open s3).perm (bA_ _ _);have s6:=(Sep.fr [ip,a2] s5 [1,0] (by decide) rfl).open sa
  have b4:=yx (hbg h4 d4).2.1;have hms4:h4 ms=some o1:=s6.at 0 rfl bh;obtain ⟨su,cu,rfl,_⟩:=sl.len (by decide);try simp only [F2,b4.ms]
  refine zi unms un3r hms4 m1 fun o' mo'=>?_;try simp (disch:=first|decide|omega) only [F2,Nat.reduceAdd,Nat.reduceMul]
  have s7:=s6.put (o:=o') bh;rw [set_set]at s7;have d7:=d4.set (o:=o') (d4 _ _ hms4);generalize Hp.set h4 ms _=h7 at s7 d7 ⊢;unfold Sx;try simp (disch:=decide) only [F2]
  obtain ⟨a8,c8,ch8,cl8,g8,l28,l38,s8⟩:=Ch.put1 ch2.m1 ch2 mo' m2 m3 s7 hpf hg sl;exact ⟨a8,c8,ch8,cl2.trans cl8,by rw [l28,e2],g8,by rw [l38];exact hm3,s8.swap.drop,d7⟩
def qn:=jq bC (jq (jq (jq @pd @Fx) (jq @cf113 (jq @cf114 @Sf))) (jq (jq @Se @ld151) (jq @ld3 (jq @ln142 @true_and))))
theorem Rz {G h:Hp} {b:Nat} {t:Int} {x:Sp} (hb:bf G h ⟨b,0,none⟩=some (.int .i64 t)) (d:Dis G h):bn P_ G 114 #[.agg #[x.1,x.2],.pointer (some ⟨b,0,none⟩)] h (fun u h'=>u = .bool (insB t x)/\h'=h):=by
 refine quietly (aK0 (by simp) ?_);unfold S114;simp only [qn];intro y hy gy;have l:=dw (o := .cells #[x.1,x.2] 151 (0,0)) hy;have hb2:=ku l (d.set gy) hb;try simp only [qn,hb2]
 by_cases h1:x.1<=t
 . rw [js h1];try simp only [qn,hb2]
   exact ⟨by simp [insB,h1],l⟩
 . rw [kc h1];try simp only [qn,fq]
   exact ⟨by simp [insB,h1],l⟩
def insI (L:List Sp) (t:Int):Int:=match inside L t with
 |some i=>i
 |none => -1
theorem Vs {L:List Sp} {t:Int} (h:∀x∈L,insB t x=false):inside L t=none:=by unfold inside;rw [List.findIdx?_eq_none_iff];exact h
theorem aq4 {L:List Sp} {t:Int} {i:Nat} {x:Sp} (hx:L[i]?=some x) (h:∀y∈L.take i,insB t y=false) (hi:insB t x=true):inside L t=some i:=by unfold inside;rw [List.findIdx?_eq_some_iff_getElem];obtain ⟨hl,rfl⟩:=ad_.1 hx;refine ⟨hl,hi,fun j hj=>?_⟩;have:=h L[j] (ab_ (i:=j) (by rw [ch_ hj];exact aa_ (by omega)));rw [this];simp
theorem Ic {G h:Hp} {v:Value} {L:List Sp} {t:Int} (sv:Sees nx G h v L) (hL:L.length<=1000000000):
 bn P_ G 65 #[v,t] h (fun u h'=>u = .int .i64 (insI L t)/\h'=h):=by
 obtain ⟨sa,cap,rfl,_⟩:=id sv;refine bn.assume fun d=>quietly (enter65 (by simp) ?_);unfold S65;simp only [qn];intro x hx gx;have l:=dw (o := .cells #[t] 3 (0,0)) hx;have d1:=d.set (o := .cells #[t] 3 (0,0)) gx;have hxs:(h.set x (.cells #[t] 3 (0,0))) x=some (.cells #[t] 3 (0,0)):=bh;generalize Hp.set h x _=h1 at l d1 hxs ⊢;have cx:bf G h1 ⟨x,0,none⟩=some (.int .i64 t):=by rw [bm (bj hxs)];rfl
 have key:bn P_ G 113 #[.slice sa L.length cap,.func (.func 114) #[] #[.pointer (some ⟨x,0,none⟩)]] h1 (fun u h'=>u = .int .i64 (insI L t)/\h'=h1):=by
  refine quietly (aK1 (by simp) ?_);unfold S113;simp only [qn]
  refine dt (fun m r h'=>∃i:Nat,m=L.length-i/\i<=L.length/\h'=h1/\r 0 = .slice sa L.length cap/\r 1 = .func (.func 114) #[] #[.pointer (some ⟨x,0,none⟩)]/\r 7 = .int .i64 L.length/\r 8 = .int .i64 i/\∀y∈L.take i,insB t y=false) ?_ (m:=L.length)
   ⟨0,rfl,by omega,rfl,by simp (disch:=decide) only [qn],by simp (disch:=decide) only [qn],by simp (disch:=decide) only [qn],by simp only [qn];rfl,by simp⟩
  rintro m r h' ⟨i,rfl,hi,rfl,g0,g1,g7,g8,hall⟩ X hX;unfold ak6;simp only [qn,g7,g8];refine df (fun hlt=>?_) (fun hge=>?_)
  . obtain ⟨y,hy⟩:∃y,L[i]?=some y:=⟨_,aa_ (by omega)⟩;obtain ⟨b,o,rfl,y1,y2⟩:=Sees.span (sv.up l d1) hy;unfold Nl;simp (disch:=decide) only [qn,g0,g1,g8,Vq (ac_ i) hlt,y1,y2];refine (Rz (x:=y) cx d1).mono ?_;rintro _ h' ⟨rfl,rfl⟩;refine nu (fun hb=>?_) (fun hb=>?_)
    . try simp (disch:=first|decide|omega) only [qn,Nat.reduceAdd,Nat.reduceMul,g8]
      refine ⟨?_,Hp.le.refl _⟩;unfold insI;rw [aq4 hy hall hb]
    . unfold Nk;simp (disch:=first|decide|omega) only [qn,g8];refine hX (L.length-(i+1)) _ _ (by omega) ⟨i+1,rfl,by omega,rfl,by simp (disch:=decide) only [qn,g0],by simp (disch:=decide) only [qn,g1],by simp (disch:=decide) only [qn,g7],by simp only [qn];rfl,fun z hz=>?_⟩;rw [aL_,hy]at hz;rcases ao_.1 hz with h2|h2
      . exact hall z h2
      . simp at h2;subst h2;exact hb
  . obtain rfl:i=L.length:=by omega
    try simp (disch:=first|decide|omega) only [qn,Nat.reduceAdd,Nat.reduceMul]
    unfold ak9;try simp only [qn]
    refine ⟨?_,Hp.le.refl _⟩;unfold insI;rw [Vs (by rw [bt_]at hall;exact hall)]
 refine key.mono ?_;rintro _ h1 ⟨rfl,rfl⟩;try simp only [qn]
 exact l
end Go.Proofs.YtfflipnhffknnaaGreatDoor
end
section
namespace Go.Proofs.YtfflipnhffknnaaGreatDoor
open Go Go.HL
def ib:=jq bC (jq (jq (jq (jq @al30 (jq @al48 @yv)) (jq (jq @Lq @D6) (jq @ff @Lm))) (jq (jq @sn (jq @cf155 @cf166)) (jq (jq @cf61 @cf78) (jq @vq @Dy)))) (jq (jq (jq @ld178 (jq @ld28 @ld30)) (jq (jq @ld4 @ld48) (jq @ld68 @mx))) (jq (jq @jw (jq @we @Nz)) (jq (jq @zd @Ax) (jq @Uc @true_and)))))
abbrev H4 (m:Move):Array Value:=#[E7 m]
theorem Vg {G h:Hp} {gp:Nat} {p:Pose}:bn P_ G 149 #[.pointer (some ⟨gp,0,none⟩),mq p] h (fun u h'=>∃b1 b2,u = .func (.func 165) #[] #[.pointer (some ⟨b1,0,none⟩),.pointer (some ⟨b2,0,none⟩)]/\Sep [noHp.set b1 (.cells #[.pointer (some ⟨gp,0,none⟩)] 68 (0,0)),noHp.set b2 (.cells #[p.x,p.y,.bool p.d] 30 (0,0)),h] h'/\Dis G h'):=by refine bn.assume fun d=>aG9 (by simp) ?_;unfold S149;simp only [ib];intro x hx gx y hy gy;exact ⟨x,y,rfl,(((Sep.one (h:=h)).new hx).new hy).swap,(d.set gx).set gy⟩
theorem Xi {G h a q:Hp} {y g:Value} {Y:List Move->Hp->Prop} {Q0:Move->Prop} {N:Nat} {gb pb w k:Nat} {f:Nat->Nat->Int} {p:Pose}
 (yl:YlN P_ H4 Q0 N G y Y) (ya:Y [] a) (s:Sep [a,q] h) (hg:q gb=some (.cells #[g] 68 (0,0))) (hpb:q pb=some (.cells #[p.x,p.y,.bool p.d] 30 (0,0))) (gs:GS G q g w k f) (st:lg G) (hN:(Hz w k f p).length<=N+1) (hQ:∀m∈Hz w k f p,Q0 m):
 bn P_ G 182 #[y,.pointer (some ⟨gb,0,none⟩),.pointer (some ⟨pb,0,none⟩)] h (fun _ h'=>Ap G q Y (Hz w k f p) h'):=by
 refine bn.assume fun d=>aF5 (by simp) ?_;unfold S182;obtain ⟨T,hT⟩:∃T,Hz w k f p=T:=⟨_,rfl⟩;rw [hT]at hN hQ ⊢
 refine dt (fun m r h3=>∃(i:Nat) (a:Hp) (L:List Move),m=4-i/\i<=4/\r 0=y/\r 1 = .pointer (some ⟨gb,0,none⟩)/\r 2 = .pointer (some ⟨pb,0,none⟩)/\r 8 = .int .i64 i/\Sep [a,q] h3/\Dis G h3/\Y L a/\L++ka (runD w k f p) i (4-i)=T) ?_
  (m:=4) ⟨0,a,[],rfl,by decide,by simp (disch:=decide) only [ib],by simp (disch:=decide) only [ib],by simp (disch:=decide) only [ib],by simp only [ib]<;>rfl,s,d,ya,hT⟩
 rintro m r h3 ⟨i,a,L,rfl,hi,g0,g1,g2,g8,s,d,ya,hT⟩ X HX;unfold af3;simp only [ib,g8];refine df (fun hlt=>?_) (fun hge=>?_);rotate_left
 . obtain rfl:i=4:=by omega
   try simp (disch:=first|decide|omega) only [ib,Nat.reduceAdd,Nat.reduceMul]
   exact Ap.go s d ya (by rw [<- hT];simp [ka])
 have hlt':i<4:=by omega
 unfold Mg
 refine dt (fun m r2 h3=>∃(n:Nat) (a:Hp) (L:List Move),m=17-n/\1<=n/\n<=17/\r2 0=y/\r2 1 = .pointer (some ⟨gb,0,none⟩)/\r2 2 = .pointer (some ⟨pb,0,none⟩)/\r2 4 = .int .i64 i/\r2 5 = .int .i64 n/\r2 8 = .int .i64 i/\Sep [a,q] h3/\Dis G h3/\Y L a/\L++(jm (E4 w k f p i) (ym p i) n (17-n)++ka (runD w k f p) (i+1) (3-i))=T) ?_
  (m:=16) ⟨1,a,L,rfl,by decide,by decide,by simp (disch:=decide) only [ib,g0],by simp (disch:=decide) only [ib,g1],by simp (disch:=decide) only [ib,g2],by simp (disch:=decide) only [ib,g8],by simp (disch:=decide) only [ib]<;>rfl,by simp (disch:=decide) only [ib,g8],s,d,ya,by rw [<- hT,show 4-i=(3-i)+1 by omega];rfl⟩
 rintro m r2 h3 ⟨n,a,L,rfl,hn1,hn2,q0,q1,q2,q4,q5,q8,s,d,ya,hT⟩ X2 HX2;have hgh:=s.at 1 rfl hg;have hph:=s.at 1 rfl hpb;have cg:∀j,bf G h3 ⟨gb,j,none⟩=_:=fun j=>bm (bj hgh);have cp:∀j,bf G h3 ⟨pb,j,none⟩=_:=fun j=>bm (bj hph);unfold Mf;simp only [ib,q1,q2,q4,q5,cg,cp]
 have next:∀(r3:Rg) h5 (a:Hp) (L:List Move),r3 0=r2 0->r3 1=r2 1->r3 2=r2 2->r3 8=r2 8->Sep [a,q] h5->Dis G h5->Y L a->L++ka (runD w k f p) (i+1) (3-i)=T->
  D8 G (di X (dc 0 (xq (retK P_ G [] fun x h'=>Ap G q Y T h')))) r3 h5:=by intro r3 h5 a L w0 w1 w2 w8 s5 d5 ya5 hT5;unfold D8;have w8':=w8.trans q8;simp (disch:=first|decide|omega) only [ib,w8'];refine HX (4-(i+1)) _ _ (by omega) ⟨i+1,a,L,rfl,hlt',by simp (disch:=decide) only [ib,w0,q0],by simp (disch:=decide) only [ib,w1,q1],by simp (disch:=decide) only [ib,w2,q2],by simp only [ib]<;>rfl,s5,d5,ya5,by rw [<- hT5,show 4-(i+1)=3-i by omega]⟩
 refine (Kd (p:=p) (dir:=(i:Int)) (n:=(n:Int)) st).mono ?_;rintro _ h4 ⟨rfl,rfl⟩;simp (disch:=first|decide|exact b8|exact bw|omega|rfl) only [ib];intro x hx gx;generalize e5:Hp.set h4 x _=h5;obtain ⟨l5,d5,b5⟩:=boxed e5 hx d gx;have s5:=s.le l5;by_cases hn:n=17
 . subst hn;have ok:okS (i:Int) ((17:Nat):Int)=false:=by unfold okS;rw [show cj ((17:Nat):Int) 0 16=false from rfl];rfl
   try simp only [ib,ok,ah_ (show ¬(1:Nat)=2 by decide)]
   exact next _ _ a L (by simp (disch:=decide) only [ib]) (by simp (disch:=decide) only [ib]) (by simp (disch:=decide) only [ib]) (by simp (disch:=decide) only [ib]) s5 d5 ya hT
 have ok:okS (i:Int) (n:Int)=true:=by unfold okS;rw [ag_,gh,gh];omega
 have esh:m8 p i n=ir p i n:=by unfold m8;rw [ak_ ok]
 rw [esh]at b5;have cx5:∀j,bf G h5 ⟨x,j,none⟩=_:=fun j=>bm (bj b5);have cg5:∀j,bf G h5 ⟨gb,j,none⟩=_:=fun j=>bm (bj (l5 _ _ hgh));have cp5:∀j,bf G h5 ⟨pb,j,none⟩=_:=fun j=>bm (bj (l5 _ _ hph));try simp only [ib,ok,cg5,cx5]
 refine (p8 (p:=ir p i n) (gs.up (s5.in 1 rfl) d5) st Gu).mono ?_;rintro _ h5 ⟨rfl,rfl⟩;have erun:jm (E4 w k f p i) (ym p i) n (17-n)=if eu w k f (ir p i n)=true then ym p i n::jm (E4 w k f p i) (ym p i) (n+1) (17-(n+1))else []:=by rw [show 17-n=(17-(n+1))+1 by omega];rfl
 rw [erun]at hT;cases hf:eu w k f (ir p i n)with
 |false=>
  try simp only [ib,ah_ (show ¬(1:Nat)=2 by decide)]
  rw [hf]at hT;exact next _ _ a L (by simp (disch:=decide) only [ib]) (by simp (disch:=decide) only [ib]) (by simp (disch:=decide) only [ib]) (by simp (disch:=decide) only [ib]) s5 d5 ya hT
 |true=>
 rw [hf,ak_ rfl,b0_]at hT;try simp only [ib]
 unfold Dd;try simp (disch:=decide) only [ib,q0,q1,q2,q4,q5,cp5,cx5]
 refine kx (fun v h6 H=>?_) (yl L (ym p i n) a q h5 (by rw [<- hT]at hN;simp only [ae_,an_]at hN;omega) (hQ _ (by rw [<- hT];simp)) ya s5 d5);obtain ⟨a6,rfl,s6,d6,z6⟩:=H;try simp only [ib]
 unfold De;simp (disch:=first|decide|omega) only [ib,q5];refine HX2 (17-(n+1)) _ _ (by omega) ⟨n+1,a6,L++[ym p i n],rfl,by omega,by omega,by simp (disch:=decide) only [ib,q0],by simp (disch:=decide) only [ib,q1],by simp (disch:=decide) only [ib,q2],by simp (disch:=decide) only [ib,q4],by simp only [ib]<;>rfl,by simp (disch:=decide) only [ib,q8],s6,d6,z6,by rw [<- hT];simp⟩
theorem R0 {G:Hp} {y y':Value} {Y:List Move->Hp->Prop} {Q0:Move->Prop} {N:Nat} {bx l:Nat} {o:Option Exit->Obj} {r:Rg} (yl:YlN P_ H4 Q0 N G y Y) (gl:G l=none) (ho:∀e,iy (o e)=false) (g3:r 3 = .pointer (some ⟨bx,0,none⟩))
 (hy:∀(args:Array Value) (h1:Hp) (K1:Value->Hp->Prop),args.size=1->h1 l=some (o none)->
  Tc G (setR 32 #[13] args r) h1 (fun e r2 h2=>e = .normal/\h2 l=some (o none)/\∀ob,iy ob=false->Ta G r2 (h2.set l ob) (fun e _ h3=>h3 l=some ob/\match e with
   | .normal=>K1 (.bool true) (h3.set l (o none))
   | .panic _=>False
   | .outgrown=>False
   |e=>K1 (.bool false) (h3.set l (o (some e)))))->
  opH P_ G (jh y' args) h1 K1):
 YlN P_ H4 Q0 N G y' (InY Y (noHp.set bx (.cells #[y] 178 (0,0))) l (o none)):=by
 rintro L m b q h hL hQm ⟨a,ya,sb⟩ s d;have s1:Sep [q,a,noHp.set bx (.cells #[y] 178 (0,0)),noHp.set l (o none)] h:=by have:=s.swap.split sb;simpa using this
 refine hy (H4 m) h _ rfl (s1.at 3 rfl bh) ?_;rw [Zp (by decide)];unfold Tc;simp (disch:=first|decide|exact b8|exact bw|omega|rfl) only [ib];intro x hx gx;try simp (disch:=first|decide|omega) only [ib,Nat.reduceAdd,Nat.reduceMul]
 have s2:=s1.past (o:=jy m) hx;have sx:=s1.new (o:=jy m) hx;have d2:=d.set (o:=jy m) gx;have nlx:l≠x:=fun e=>by rw [<- e,s1.at 3 rfl bh]at hx;cases hx
 refine ⟨by rw [ci nlx];exact s1.at 3 rfl bh,fun ob hob=>?_⟩;generalize Hp.set h x _=h2 at s2 sx d2 ⊢;have s3:Sep [noHp.set l ob,noHp.set x (jy m),q,a,noHp.set bx (.cells #[y] 178 (0,0))] (h2.set l ob):=by have:=(sx.pick 4 rfl rfl).put (o:=ob) bh;rw [set_set]at this;exact this
 have d3:Dis G (h2.set l ob):=d2.set gl;generalize Hp.set h2 l ob=h3 at s3 d3 ⊢;have cb:∀j,bf G h3 ⟨bx,j,none⟩=_:=fun j=>bm (bj (s3.at 4 rfl bh));have cx:∀j,bf G h3 ⟨x,j,none⟩=_:=fun j=>bm (bj (s3.at 1 rfl bh));unfold Ta;try simp (disch:=decide) only [ib,g3,cb,cx]
 have s4:Sep [noHp.set bx (.cells #[y] 178 (0,0)),noHp.set l ob,q,a] h3:=by exact (s3.pick 1 rfl rfl).drop.pick 3 rfl rfl
 obtain ⟨Q,s5,sQ⟩:=s4.pack3;refine kx (fun v h6 H=>?_) (yl L m a Q h3 hL hQm ya s5.swap d3);obtain ⟨a6,rfl,s6,d6,z6⟩:=H;have s7:Sep [a6,noHp.set bx (.cells #[y] 178 (0,0)),noHp.set l ob,q] h6:=by have:=s6.split sQ;simpa using this
 have hl6:=s7.at 2 rfl (bh (h:=noHp) (b:=l) (o:=ob))
 have fin:∀oo:Obj,∃b',Sep [b',q] (h6.set l oo)/\Sep [a6,noHp.set bx (.cells #[y] 178 (0,0)),noHp.set l oo] b':=by
  intro oo;have s8:Sep [noHp.set l oo,a6,noHp.set bx (.cells #[y] 178 (0,0)),q] (h6.set l oo):=by have:=(s7.pick 2 rfl rfl).put (o:=oo) bh;rw [set_set]at this;exact this
  exact (s8.rot.rot.pack3)
 try simp only [ib]
 obtain ⟨b',t1,t2⟩:=fin (o none);exact ⟨hl6,b',t1,d6.set gl,a6,z6,t2⟩
theorem Ve {G h a q:Hp} {y g:Value} {Y:List Move->Hp->Prop} {Q0:Move->Prop} {N:Nat} {L:List Move} {gb pb bx w k:Nat} {f:Nat->Nat->Int} {p:Pose} {T:List Move} {KK:EK} {r:Rg}
 (yl:YlN P_ H4 Q0 N G y Y) (ya:Y L a) (s:Sep [a,noHp.set bx (.cells #[y] 178 (0,0)),q] h) (d:Dis G h) (hg:q gb=some (.cells #[g] 68 (0,0))) (hpb:q pb=some (.cells #[p.x,p.y,.bool p.d] 30 (0,0))) (gs:GS G q g w k f) (st:lg G) (hp:PB p)
 (g1:r 1 = .pointer (some ⟨gb,0,none⟩)) (g2:r 2 = .pointer (some ⟨pb,0,none⟩)) (g3:r 3 = .pointer (some ⟨bx,0,none⟩))
 (hN:L.length<=N) (hQ:wayB w k f (jv p)=true->Q0 (jv p)) (hT:L++(if wayB w k f (jv p)=true then [jv p]else [])=T) (H:∀r h',Ap G q Y T h'->KK .normal r h'):S9 G KK r h:=by
 have cp:∀j,bf G h ⟨pb,j,none⟩=_:=fun j=>bm (bj (s.at 2 rfl hpb));unfold S9;simp (disch:=first|decide|exact b8|exact bw|omega|rfl) only [ib,g1,g2,g3,cp];intro x hx gx;have d2:=d.set (o:=jy (jv p)) gx;have s2:=s.past (o:=jy (jv p)) hx;have hx2:(h.set x (jy (jv p))) x=some (jy (jv p)):=bh;have e:(h.set x (.cells #[(2:Int),(0:Int),(0:Int),p.x,p.y,.bool p.d,p.x,p.y,.bool !p.d,(0:Int),(0:Int)] 48 (0,0)))=h.set x (jy (jv p)):=rfl;try simp (disch:=first|decide|omega) only [ib,Nat.reduceAdd,Nat.reduceMul]
 rw [e];generalize e1:Hp.set h x _=h1 at s2 d2 hx2 ⊢;have cg:∀j,bf G h1 ⟨gb,j,none⟩=_:=fun j=>bm (bj (s2.at 2 rfl hg));have cb:∀j,bf G h1 ⟨bx,j,none⟩=_:=fun j=>bm (bj (s2.at 1 rfl bh));have cx:∀j,bf G h1 ⟨x,j,none⟩=_:=fun j=>bm (bj hx2);try simp only [ib,cg]
 refine (Xy (m:=jv p) (gs.up (s2.in 2 rfl) d2) st (Q2 hp)).mono ?_;rintro _ _ ⟨rfl,rfl⟩;cases hw:wayB w k f (jv p)with
 |false=>
  rw [hw,ah_ (by simp),av_]at hT;try simp only [ib]
  exact H _ _ (Ap.go (s2.pick 1 rfl rfl).drop d2 ya hT)
 |true=>
  rw [hw,ak_ rfl]at hT;try simp only [ib,cb,cx]
  obtain ⟨Q,s5,sQ⟩:=s2.rot.rot.pack2;refine kx (fun v h6 R=>?_) (yl L (jv p) a Q _ hN (hQ hw) ya s5.swap d2);obtain ⟨a6,rfl,s6,d6,z6⟩:=R;refine H _ _ ?_;have s7:Sep [a6,noHp.set bx (.cells #[y] 178 (0,0)),q] h6:=by have:=s6.split sQ;simpa using this
  refine ⟨a6,(s7.pick 1 rfl rfl).drop,d6,?_⟩;rw [<- hT];exact z6
theorem Vf {G h a q:Hp} {y g:Value} {Y:List Move->Hp->Prop} {Q0:Move->Prop} {N:Nat} {gb pb w k:Nat} {f:Nat->Nat->Int} {p:Pose} (hyf:∃fn a b,y = .func fn a b)
 (yl:YlN P_ H4 Q0 N G y Y) (ya:Y [] a) (s:Sep [a,q] h) (hg:q gb=some (.cells #[g] 68 (0,0))) (hpb:q pb=some (.cells #[p.x,p.y,.bool p.d] 30 (0,0))) (gs:GS G q g w k f) (st:lg G) (hp:PB p) (hN:(ml w k f p).length<=N) (hQ:∀m∈ml w k f p,Q0 m):
 bn P_ G 165 #[y,.pointer (some ⟨gb,0,none⟩),.pointer (some ⟨pb,0,none⟩)] h (fun _ h'=>Ap G q Y (ml w k f p) h'):=by
 obtain ⟨fn,fa,fb,rfl⟩:=hyf;obtain ⟨⟨gp,kb,rfl,_⟩,_⟩:=id gs;refine bn.assume fun d=>aF9 (by simp) ?_;unfold S165;simp only [ib];intro bx hbx gbx;have s1:Sep [a,noHp.set bx (.cells #[.func fn fa fb] 178 (0,0)),q] (h.set bx (.cells #[.func fn fa fb] 178 (0,0))):=(s.new hbx).swap;have d1:=d.set (o := .cells #[.func fn fa fb] 178 (0,0)) gbx;generalize Hp.set h bx _=h1 at s1 d1 ⊢;have cg:∀j,bf G h1 ⟨gb,j,none⟩=_:=fun j=>bm (bj (s1.at 2 rfl hg));have cp:∀j,bf G h1 ⟨pb,j,none⟩=_:=fun j=>bm (bj (s1.at 2 rfl hpb));try simp only [ib,cg,cp]
 refine (p8 (p:=p) (gs.up (s1.in 2 rfl) d1) st hp).mono ?_;rintro _ _ ⟨rfl,rfl⟩;unfold ml at hN hQ ⊢;cases hf:eu w k f p with
 |false=>
  try simp only [ib]
  exact ⟨a,(s1.pick 1 rfl rfl).drop,d1,ya⟩
 |true=>
 rw [hf,ak_ rfl,ae_]at hN;rw [hf,ak_ rfl]at hQ;try simp only [ib]
 unfold af6;try simp (disch:=decide) only [ib,cg,cp]
 refine (an4 (gp:=gp) (p:=p)).mono ?_;rintro _ _ ⟨b1,b2,rfl,hb1,gb1,hb2,gb2,rfl⟩;have s2:Sep [(q.set b1 (.cells #[.pointer (some ⟨gp,0,none⟩)] 68 (0,0))).set b2 (.cells #[p.x,p.y,.bool p.d] 30 (0,0)),a,noHp.set bx (.cells #[.func fn fa fb] 178 (0,0))] _:=((s1.pick 2 rfl rfl).grow (o := .cells #[.pointer (some ⟨gp,0,none⟩)] 68 (0,0)) hb1).grow (o := .cells #[p.x,p.y,.bool p.d] 30 (0,0)) hb2;have d2:=(d1.set (o := .cells #[.pointer (some ⟨gp,0,none⟩)] 68 (0,0)) gb1).set (o := .cells #[p.x,p.y,.bool p.d] 30 (0,0)) gb2;have e12:b1≠b2:=ju hb2;have hq1:q b1=none:=(s1.in 2 rfl).none hb1;have lq:q.le ((q.set b1 (.cells #[.pointer (some ⟨gp,0,none⟩)] 68 (0,0))).set b2 (.cells #[p.x,p.y,.bool p.d] 30 (0,0))):=(dw hq1).trans (dw (by rw [ci (Ne.symm e12)];exact (s1.in 2 rfl).none (jx hb2)));have hq1':((q.set b1 (.cells #[.pointer (some ⟨gp,0,none⟩)] 68 (0,0))).set b2 (.cells #[p.x,p.y,.bool p.d] 30 (0,0))) b1=some (.cells #[.pointer (some ⟨gp,0,none⟩)] 68 (0,0)):=by rw [ci e12,bh]
 have hq2':((q.set b1 (.cells #[.pointer (some ⟨gp,0,none⟩)] 68 (0,0))).set b2 (.cells #[p.x,p.y,.bool p.d] 30 (0,0))) b2=some (.cells #[p.x,p.y,.bool p.d] 30 (0,0)):=bh;generalize (q.set b1 (.cells #[.pointer (some ⟨gp,0,none⟩)] 68 (0,0))).set b2 (.cells #[p.x,p.y,.bool p.d] 30 (0,0))=q2 at s2 lq hq1' hq2';generalize Hp.set (Hp.set _ b1 _) b2 _=h2 at s2 d2 ⊢;intro y' l o hl gl ho HY;rw [opE76];have s3:Sep [a,noHp.set bx (.cells #[.func fn fa fb] 178 (0,0)),noHp.set l (o none),q2] (h2.set l (o none)):=((s2.new (o:=o none) hl).pick 3 rfl rfl).pick 3 rfl rfl;have d3:Dis G (h2.set l (o none)):=d2.set gl;obtain ⟨B,sB,tB⟩:=s3.pack3;have gs2:GS G q2 (.pointer (some ⟨gp,0,none⟩)) w k f:=gs.up lq (fun b o e=>d3 b o (sB.in 1 rfl _ _ e));refine (Xi (p:=p) (R0 yl gl ho (by simp (disch:=decide) only [ib]) HY) ⟨a,ya,tB⟩ sB hq1' hq2' gs2 st (by omega) (fun m hm=>hQ m (aZ_ _ hm))).mono ?_;rintro _ h5 ⟨b5,s5,d5,a5,ya5,t5⟩;have s6:Sep [q2,a5,noHp.set bx (.cells #[.func fn fa fb] 178 (0,0)),noHp.set l (o none)] h5:=by have:=s5.swap.split t5;simpa using this
 obtain ⟨h6,s7,t7⟩:=s6.pack3;refine ⟨h6,s7.in 0 rfl,?_,.inl ⟨s7.at 1 rfl bh,?_⟩⟩
 . rcases s7.apart (b:=noHp.set l (o none)) (by simp) l with e|e
   . exact e
   . rw [bh]at e;cases e
 try simp only [ib]
 have d6:Dis G h6:=fun b o e=>d5 b o (s7.in 0 rfl _ _ e);refine Ve yl ya5 ((t7.cut lq).rot.rot) d6 hg hpb gs st hp (by simp (disch:=decide) only [ib]) (by simp (disch:=decide) only [ib]) (by simp (disch:=decide) only [ib]) (by omega) (fun hw=>hQ _ (a7_ _ (by rw [ak_ hw];exact .head _))) rfl fun r h' H=>?_;try simp only [ib]
 exact H
end Go.Proofs.YtfflipnhffknnaaGreatDoor
end
section
namespace Go.Proofs.YtfflipnhffknnaaGreatDoor
open Go Go.HL Go.Proofs.Resv Go.Proofs.Srch
def Lr:=jq bC (jq (jq (jq (jq @al48 @Sm) (jq @as9 (jq @cf108 @cf30))) (jq (jq @cf90 (jq @aE6 @Fs)) (jq @aE5 (jq @We @Wd)))) (jq (jq (jq @az6 @az5) (jq @Ak (jq @aa0 @ld3p))) (jq (jq @ld48p (jq @ld50p @Vj)) (jq @jc (jq @Uc @true_and)))))
def WaP (q:Par) (ip P2:Hp) (v:Value) (L:List Move):Prop:=∃raws:List RawW,Slc vj 232 ip v raws/\raws.length=L.length/\
 ∀(i:Nat) (x:RawW) (m:Move),raws[i]?=some x->L[i]?=some m->x.m=m/\x.d=dr q.C m/\x.n=(ly q.T q.r ((me q.w q.k q.f m).map (numI q.w q.k))).length/\Slc nx 151 P2 (.slice x.a x.n x.c) (ly q.T q.r ((me q.w q.k q.f m).map (numI q.w q.k)))
def MvY (q:Par) (kp sp xl x0 l:Nat) (ob:Obj) (L:List Move) (b:Hp):Prop:=∃ip v P2 ak,WaP q ip P2 v L/\KP ak kp q.C.un q.C.ac q.C.sp/\
 HL.Sep [ip,noHp.set xl (.cells #[v] 229 (0,0)),P2,ak,noHp.set x0 (.cells #[.pointer (some ⟨sp,0,none⟩)] 127 (0,0)),noHp.set l ob] b
theorem Oh {w k:Nat} {f:Nat->Nat->Int} {m:Move} (hw:w<=16) (hk:k<=16):(me w k f m).length<=300:=by
 unfold me;split
 . have hn:(mr w k (wayL m)).Nodup:=(uq (w:=w) (k:=k) (W:=wayL m)).imp fun h e=>by subst e;omega
   have:=Ct hn (fun c hc=>jr.2 (ra.1 hc).1);have h2:w*k<=16*16:=bw_ hw hk;omega
 . simp
theorem Vd {G:Hp} {q:Par} {y:Value} {kp ms mw mp mt hp sp xl x0 l:Nat} {oo:Option Exit->Obj} {r:Rg} (bg:Bg G q sp kp ms mw mp mt hp) (gl:G l=none) (ho:∀e,iy (oo e)=false) (g2:r 2 = .pointer (some ⟨x0,0,none⟩)) (g6:r 6 = .pointer (some ⟨xl,0,none⟩))
 (hy:∀(args:Array Value) (h1:Hp) (K1:Value->Hp->Prop),args.size=1->h1 l=some (oo none)->
  Ty G (setR 71 #[29] args r) h1 (fun e r2 h2=>e = .normal/\h2 l=some (oo none)/\∀ob,iy ob=false->Tx G r2 (h2.set l ob) (fun e _ h3=>h3 l=some ob/\match e with
   | .normal=>K1 (.bool true) (h3.set l (oo none))
   | .panic _=>False
   | .outgrown=>False
   |e=>K1 (.bool false) (h3.set l (oo (some e)))))->
  opH P_ G (jh y args) h1 K1):YlN P_ H4 MB 1000 G y (MvY q kp sp xl x0 l (oo none)):=by
 rintro L m b R h hL hm ⟨ip,v,P2,ak,⟨raws,sl,hlen,hraw⟩,kpk,sb⟩ s d;obtain ⟨ab,cb,ap,cp,ar,cr,az,cs,gp,tp,hbg⟩:=id bg.ex;have s1:HL.Sep [ip,noHp.set xl (.cells #[v] 229 (0,0)),P2,ak,noHp.set x0 (.cells #[.pointer (some ⟨sp,0,none⟩)] 127 (0,0)),noHp.set l (oo none),R] h:=s.open sb
 refine hy (H4 m) h _ rfl (s1.at 5 rfl bh) ?_;rw [Zp (by decide)];unfold Ty;simp (disch:=first|decide|exact b8|exact bw|omega|rfl) only [Lr];intro xm hxm gxm;try simp (disch:=first|decide|omega) only [Lr,Nat.reduceAdd,Nat.reduceMul]
 have s2:=s1.new (o:=jy m) hxm;have d2:=d.set (o:=jy m) gxm;have nlx:l≠xm:=fun e=>by rw [<- e,s1.at 5 rfl bh]at hxm;cases hxm
 refine ⟨by rw [ci nlx];exact s1.at 5 rfl bh,fun ob hob=>?_⟩;generalize Hp.set h xm _=h2 at s2 d2 ⊢;have s3:=(s2.pick 6 rfl rfl).put (o:=ob) bh;rw [set_set]at s3;have d3:Dis G (h2.set l ob):=d2.set gl;generalize Hp.set h2 l ob=h3 at s3 d3 ⊢;obtain ⟨sv,cv,rfl,hcv⟩:=sl.len (by decide);obtain ⟨Q,s4,sQ⟩:=Sep.pack [noHp.set xl (.cells #[.slice sv raws.length cv] 229 (0,0)),noHp.set xm (jy m),noHp.set x0 (.cells #[.pointer (some ⟨sp,0,none⟩)] 127 (0,0))] (R:=[ak,P2,ip,noHp.set l ob,R]) (s3.sel [3,1,6,5,4,2,0,7] (by decide) rfl);have dQ:Dis G Q:=fun b o e=>d3 b o (s4.in 0 rfl _ _ e);obtain ⟨caQ,cQ,gsQ,tsQ⟩:=hbg Q dQ;simp only [qq]at cQ;have cl:bf G Q ⟨xl,0,none⟩=some (.slice sv raws.length cv):=by rw [bm (bj (sQ.at 0 rfl bh))];rfl
 have cm:∀j,bf G Q ⟨xm,j,none⟩=_:=fun j=>bm (bj (sQ.at 1 rfl bh));have c0:bf G Q ⟨x0,0,none⟩=some (.pointer (some ⟨sp,0,none⟩)):=by rw [bm (bj (sQ.at 2 rfl bh))];rfl
 unfold Tx;refine ⟨Q,s4.in 0 rfl,?_⟩;try simp (disch:=decide) only [Lr,g2,g6,cl,cm,c0,cQ]
 refine (X3 (m:=m) (hbg h3 d3).1.cv kpk (s4.pick 1 rfl rfl) hm.n).mono ?_;rintro _ h5 ⟨rfl,ak5,kpk5,s5,d5⟩;refine ⟨s5.in 1 rfl,?_⟩;obtain ⟨ca5,c5,gs5,ts5⟩:=hbg h5 d5;refine (Xb (m:=m) gs5 bg.st hm).mono ?_;rintro u6 h6 ⟨ip6,sl6,s6,d6⟩;have s6':=(s6.swap.open s5);refine ⟨s6'.in 1 rfl,?_⟩;obtain ⟨ca6,c6,gs6,ts6⟩:=hbg h6 d6;refine (Cq (bb:=100) gs6 ts6 bg.gt bg.fw (by omega) (sl6.see (by decide) (s6.in 0 rfl)) (Oh gs6.w2 gs6.k2)).mono ?_;rintro u7 h7 ⟨ip7,sl7,s7,d7⟩;have s7':=s7.swap.open s6'
 refine ⟨s7'.in 1 rfl,?_⟩;obtain ⟨s8v,c8v,rfl,hc8⟩:=sl7.len (by decide);try simp only [Lr]
 intro xb hxb gxb;have s8:=s7'.past (o := .cells (vj.enc ⟨m,dr q.C m,s8v,(ly q.T q.r ((me q.w q.k q.f m).map (numI q.w q.k))).length,c8v⟩).toArray 232 (0,0)) hxb;have d8:=d7.set (o := .cells (vj.enc ⟨m,dr q.C m,s8v,(ly q.T q.r ((me q.w q.k q.f m).map (numI q.w q.k))).length,c8v⟩).toArray 232 (0,0)) gxb;have hxs:(h7.set xb (.cells (vj.enc ⟨m,dr q.C m,s8v,(ly q.T q.r ((me q.w q.k q.f m).map (numI q.w q.k))).length,c8v⟩).toArray 232 (0,0))) xb=some (.cells (vj.enc ⟨m,dr q.C m,s8v,(ly q.T q.r ((me q.w q.k q.f m).map (numI q.w q.k))).length,c8v⟩).toArray 232 (0,0)):=bh;simp only [vj]at s8 d8 hxs;generalize Hp.set h7 xb _=h8 at s8 d8 hxs ⊢;refine fh vj (by decide) (L:=raws) (M:=[⟨m,dr q.C m,s8v,(ly q.T q.r ((me q.w q.k q.f m).map (numI q.w q.k))).length,c8v⟩]) un229 eoway (by decide) (by decide) (s8.pick 3 rfl rfl) d8 sl (Sees.row hxs (by simp [vj,Cod.rows]) (by simp)) (by simp;omega) ?_;intro v9 ip9 h9 sl9 s9 d9;obtain ⟨sa9,c9,rfl,hc9⟩:=sl9.len (by decide);try simp (disch:=first|decide|omega) only [Lr,Nat.reduceAdd,Nat.reduceMul]
 have s10:HL.Sep [noHp.set xl (.cells #[.slice sv raws.length cv] 229 (0,0)),noHp.set xm (jy m),noHp.set x0 (.cells #[.pointer (some ⟨sp,0,none⟩)] 127 (0,0)),ip9,ak5,P2,noHp.set l ob,R,ip6,ip7] h9:=(s9.pick 2 rfl rfl).open sQ
 have hk9:h9 xl=some (.cells [Value.slice sv raws.length cv].toArray 229 (0,0)):=s10.at 0 rfl bh;rw [ec sz229 rfl hk9 (by simp)];try simp only [Lr,bh_]
 generalize hraws9:(raws++[⟨m,dr q.C m,s8v,(ly q.T q.r ((me q.w q.k q.f m).map (numI q.w q.k))).length,c8v⟩])=raws9 at*;have s11:=s10.put (o := .cells #[.slice sa9 raws9.length c9] 229 (0,0)) bh;rw [set_set]at s11;have d11:=d9.set (o := .cells #[.slice sa9 raws9.length c9] 229 (0,0)) (d9 _ _ hk9);generalize Hp.set h9 xl _=h11 at s11 d11 ⊢;try simp (disch:=first|decide|omega) only [Lr,Nat.reduceAdd,Nat.reduceMul]
 refine ⟨s11.at 6 rfl bh,?_⟩;have s12:=(s11.pick 6 rfl rfl).put (o:=oo none) bh;rw [set_set]at s12;obtain ⟨P9,s13,t13⟩:=Sep.pack [P2,ip7] (R:=[ip9,noHp.set xl (.cells #[.slice sa9 raws9.length c9] 229 (0,0)),ak5,noHp.set x0 (.cells #[.pointer (some ⟨sp,0,none⟩)] 127 (0,0)),noHp.set l (oo none),R]) (s12.sel [6,9,4,1,5,3,0,7] (by decide) rfl);obtain ⟨b',t1,t2⟩:=Sep.pack [ip9,noHp.set xl (.cells #[.slice sa9 raws9.length c9] 229 (0,0)),P9,ak5,noHp.set x0 (.cells #[.pointer (some ⟨sp,0,none⟩)] 127 (0,0)),noHp.set l (oo none)] (R:=[R]) (s13.sel [1,2,0,3,4,5,6] (by decide) rfl);refine ⟨b',t1,d11.set gl,ip9,.slice sa9 raws9.length c9,P9,ak5,⟨raws9,sl9,by rw [<- hraws9];simp [hlen],fun i x u hx hu=>?_⟩,kpk5,t2⟩;rw [<- hraws9]at hx;by_cases hi:i<L.length
 . rw [aq_ (by omega)]at hx;rw [aq_ hi]at hu;obtain ⟨q1,q2,q3,q4⟩:=hraw i x u hx hu;exact ⟨q1,q2,q3,q4.le (t13.in 0 rfl)⟩
 . rw [aF_ (by omega)]at hx hu;rw [hlen]at hx;obtain hi0:i-L.length=0:=by have:=(ad_.1 hu).1;simp at this;omega
   rw [hi0]at hx hu;cases hx;cases hu;exact ⟨rfl,rfl,rfl,sl7.le (t13.in 1 rfl)⟩
def vw:=jq bC (jq (jq (jq (jq @al229 @ff) (jq @sn @cf115)) (jq (jq @cf149 @Fs) (jq @fa134_6 (jq @aE4 @ld127)))) (jq (jq (jq @az6 @ld129) (jq @ld129p (jq @ld229 @az5))) (jq (jq @ld30 @rz) (jq @Vj (jq @li @jc)))))
theorem Zr {α:Type} {ok:Nat->Bool} {mk:Nat->α}:∀{k n:Nat} {m:α},m∈jm ok mk n k->∃j,n<=j/\j<n+k/\ok j=true/\m=mk j
 |0,n,m,h=>by simp [jm]at h
 |k+1,n,m,h=>by
  unfold jm at h;split at h
  . rename_i ho;rcases al_.1 h with rfl|h
    . exact ⟨n,by omega,by omega,ho,rfl⟩
    . obtain ⟨j,h1,h2,h3,h4⟩:=Zr h;exact ⟨j,by omega,by omega,h3,h4⟩
  . cases h
theorem Zs {α:Type} {ok:Nat->Bool} {mk:Nat->α}:∀{k n:Nat},(jm ok mk n k).length<=k
 |0,n=>by simp [jm]
 |k+1,n=>by
  unfold jm;split
  . have:=Zs (ok:=ok) (mk:=mk) (k:=k) (n:=n+1);simpa using this
  . simp
theorem Wi {α:Type} {D:Nat->List α}:∀{k i:Nat} {m:α},m∈ka D i k->∃j,i<=j/\j<i+k/\m∈D j
 |0,i,m,h=>by simp [ka]at h
 |k+1,i,m,h=>by
  unfold ka at h;rcases ao_.1 h with h|h
  . exact ⟨i,by omega,by omega,h⟩
  . obtain ⟨j,h1,h2,h3⟩:=Wi h;exact ⟨j,by omega,by omega,h3⟩
theorem Cm {w k:Nat} {f:Nat->Nat->Int} {p:Pose} {m:Move} (h:m∈ml w k f p):eu w k f p=true/\((∃d n,d<4/\1<=n/\n<=16/\E4 w k f p d n=true/\m=ym p d n)\/(wayB w k f (jv p)=true/\m=jv p)):=by
 unfold ml at h;split at h
 . rename_i hf;refine ⟨hf,?_⟩;rcases ao_.1 h with h|h
   . obtain ⟨d,h1,h2,h3⟩:=Wi h;obtain ⟨n,n1,n2,n3,rfl⟩:=Zr h3;exact .inl ⟨d,n,by omega,n1,by omega,n3,rfl⟩
   . split at h
     . rename_i hw;rw [aE_]at h;exact .inr ⟨hw,h⟩
     . cases h
 . cases h
theorem Gz {w k:Nat} {f:Nat->Nat->Int} {p:Pose}:(ml w k f p).length<=65:=by
 unfold ml;split
 . rw [ae_];have h1:(Hz w k f p).length<=64:=by unfold Hz;simp only [ka,ae_,a3_];have:=fun d=>Zs (ok:=E4 w k f p d) (mk:=ym p d) (k:=16) (n:=1);have h0:=this 0;have h1:=this (0+1);have h2:=this (0+1+1);have h3:=this (0+1+1+1);unfold runD;omega
   split
   . simp;omega
   . simp;omega
 . simp
theorem ay6 {w k:Nat} {f:Nat->Nat->Int} {p:Pose} (hp:PB p):∀m∈ml w k f p,MB m:=by
 intro m hm;rcases (Cm hm).2 with ⟨d,n,_,h1,h2,_,rfl⟩|⟨_,rfl⟩
 . refine ⟨⟨?_,?_⟩,hp⟩
   . show (-9223372036854775808:Int)<=(n:Int);omega
   . show (n:Int)<=9223372036854775807;omega
 . exact Q2 hp
theorem _root_.Go.HL.xCallV_func {P:Program} {G h:Hp} {y:Value} {args:Array Value} {K:VK} (H:opH P G (jh y args) h K):∃fn a b,y = .func fn a b:=by cases y<;>first|exact ⟨_,_,_,rfl⟩|exact H.elim
theorem ap0 {G:Hp} {a b y:Value} {h:Hp} {K:VK}:opE P_ G (jh (.func (.func 165) #[] #[a,b]) #[y]) h K=bn P_ G 165 #[y,a,b] h K:=by kernel_rfl
theorem Ch.put2 {q:Par} {ms mw mp:Nat} {c:Cs} {o1 o3 o':Obj} {ip P2 b:Hp} {p:Pose} {v:Value} (ch:Ch q b ms mw mp c) (k1:MapO o1 c.L1) (k2:MapO o' (mput c.L2 (numP q.w q.k p) v)) (k3:MapO o3 c.L3) {h:Hp} {R:List Hp}
 (s:HL.Sep (noHp.set ms o1::noHp.set mw o'::noHp.set mp o3::c.P::ip::P2::R) h) (hp:eu q.w q.k q.f p=true) (hn:mget c.L2 (numP q.w q.k p)=none) (sl:WaP q ip P2 v (ml q.w q.k q.f p)):
 ∃a' c',Ch q a' ms mw mp c'/\c.le c'/\mget c'.L2 (numP q.w q.k p)=some v/\c'.L1=c.L1/\c'.L3=c.L3/\HL.Sep (a'::R) h:=by
 obtain ⟨P',s1,t1⟩:=Sep.pack [ip,P2,c.P] (R:=noHp.set ms o1::noHp.set mw o'::noHp.set mp o3::R) (Sep.fr (R:=R) [noHp.set ms o1,noHp.set mw o',noHp.set mp o3,c.P,ip,P2] s [4,5,3,0,1,2] (by decide) rfl);obtain ⟨a',s2,t2⟩:=Sep.pack [noHp.set ms o1,noHp.set mw o',noHp.set mp o3,P'] (R:=R) (Sep.fr (R:=R) [P',noHp.set ms o1,noHp.set mw o',noHp.set mp o3] s1 [1,2,3,0] (by decide) rfl);refine ⟨a',⟨c.L1,mput c.L2 (numP q.w q.k p) v,c.L3,P'⟩,⟨⟨o1,o',o3,k1,k2,k3,t2⟩,?_,?_,ch.m3⟩,⟨.refl _,?_,.refl _,t1.in 2 rfl⟩,by rw [ql,ak_ rfl],rfl,rfl,s2⟩
 . intro n u hu;obtain ⟨p',f',n',s'⟩:=ch.m1 n u hu;exact ⟨p',f',n',s'.le (t1.in 2 rfl)⟩
 . intro n u hu;rw [ql]at hu;split at hu
   . rename_i e;cases hu;refine ⟨p,hp,e,?_⟩;obtain ⟨raws,r1,r2,r3⟩:=sl;refine ⟨raws,r1.le (t1.in 0 rfl),by rw [r2];simp [tn],fun i x y hx hy=>?_⟩;unfold tn at hy;rw [aO_]at hy;cases hm:(ml q.w q.k q.f p)[i]? with
     |none=>rw [hm]at hy;cases hy
     |some m=>rw [hm]at hy;cases hy;obtain ⟨q1,q2,q3,q4⟩:=r3 i x m hx hm;exact ⟨q1,q2,q3,by have:=q4.le (t1.in 1 rfl);exact this⟩
   . obtain ⟨p',f',n',s'⟩:=ch.m2 n u hu;exact ⟨p',f',n',s'.le (t1.in 2 rfl)⟩
 . intro n u hu;rw [ql];split
   . rename_i e;rw [<- e,hn]at hu;cases hu
   . exact hu
theorem Uf {G h a ak:Hp} {R:List Hp} {q:Par} {sp kp ms mw mp mt hp:Nat} {c:Cs} {p:Pose} (ch:Ch q a ms mw mp c) (kpk:KP ak kp q.C.un q.C.ac q.C.sp) (bg:Bg G q sp kp ms mw mp mt hp) (s:HL.Sep (a::ak::R) h) (hpf:eu q.w q.k q.f p=true):
 bn P_ G 121 #[.pointer (some ⟨sp,0,none⟩),mq p] h (fun u h'=>∃a' ak' c',Ch q a' ms mw mp c'/\KP ak' kp q.C.un q.C.ac q.C.sp/\c.le c'/\c'.L1=c.L1/\mget c'.L2 (numP q.w q.k p)=some u/\HL.Sep (a'::ak'::R) h'/\Dis G h'):=by
 obtain ⟨ab,cb,ap,cp,ar,cr,az,cs,gp,tp,hbg⟩:=id bg.ex;refine bn.assume fun d=>aJ3 (by simp) ?_;have hin:=zp hpf;obtain ⟨_,_,gs,_⟩:=hbg h d;have hpb:=in_pb gs.w2 gs.k2 hin;unfold S121;simp only [vw];intro x0 hx0 gx0 xp hxp gxp;have s1:=(s.new (o := .cells #[.pointer (some ⟨sp,0,none⟩)] 127 (0,0)) hx0).new (o := .cells #[p.x,p.y,.bool p.d] 30 (0,0)) hxp;have d1:=(d.set (o := .cells #[.pointer (some ⟨sp,0,none⟩)] 127 (0,0)) gx0).set (o := .cells #[p.x,p.y,.bool p.d] 30 (0,0)) gxp;generalize Hp.set (Hp.set h x0 _) xp _=h1 at s1 d1 ⊢;have c01:bf G h1 ⟨x0,0,none⟩=some (.pointer (some ⟨sp,0,none⟩)):=by rw [bm (bj (s1.at 1 rfl bh))];rfl
 have cx1:∀k,bf G h1 ⟨xp,k,none⟩=_:=fun k=>bm (bj (s1.at 0 rfl bh));try simp only [vw,c01,cx1]
 have s1':=Sep.fr [_,_,_,_] s1 [2,3,1,0] (by decide) rfl;refine (Bi ch bg s1' hpf).mono ?_;rintro _ h2 ⟨rfl,a2,c2,ch2,cl2,e1,e2,e3,hm3,s2,d2⟩;have b2:=yx (hbg h2 d2).2.1;have c02:bf G h2 ⟨x0,0,none⟩=some (.pointer (some ⟨sp,0,none⟩)):=by rw [bm (bj (s2.at 2 rfl bh))];rfl
 have cx2:∀k,bf G h2 ⟨xp,k,none⟩=_:=fun k=>bm (bj (s2.at 3 rfl bh));obtain ⟨o1,o2,o3,m1,m2,m3,sa⟩:=id ch2.sep;have hmw:h2 mw=some o2:=(s2.open sa).at 1 rfl bh;try simp only [vw,c02,b2.mw]
 rw [H9 unmw un3r zerow (bj hmw) m2];cases hg:mget c2.L2 (numP q.w q.k p)with
 |some v=>
  have hw:=ch2.look2 hpf hg;obtain ⟨raws,r1,_,_⟩:=hw;obtain ⟨sv,cv,rfl,_⟩:=r1.len (by decide);try simp only [vw,bs_,Option.isSome_some]
  intro xl hxl gxl;have s3:=s2.past (o := .cells #[.slice sv raws.length cv] 229 (0,0)) hxl;have d3:=d2.set (o := .cells #[.slice sv raws.length cv] 229 (0,0)) gxl;have hxs:(h2.set xl (.cells #[.slice sv raws.length cv] 229 (0,0))) xl=some (.cells #[.slice sv raws.length cv] 229 (0,0)):=bh;rw [ec sz229 rfl bh (by simp),set_set];try simp only [vw,bh_]
  generalize Hp.set h2 xl _=h3 at s3 d3 hxs ⊢;have cl:bf G h3 ⟨xl,0,none⟩=some (.slice sv raws.length cv):=by rw [bm (bj hxs)];rfl
  try simp (disch:=first|decide|omega) only [vw,Nat.reduceAdd,Nat.reduceMul,cl]
  exact ⟨a2,ak,c2,ch2,kpk,cl2,e1,hg,Sep.fr (R:=R) [_,_,_,_] s3 [0,1] (by decide) rfl,d3⟩
 |none=>
  try simp only [vw,cl_,ce_]
  intro xl hxl gxl;obtain ⟨Qr,s2r,sR⟩:=Sep.rest [a2,ak,noHp.set x0 (.cells #[.pointer (some ⟨sp,0,none⟩)] 127 (0,0)),noHp.set xp (.cells #[p.x,p.y,.bool p.d] 30 (0,0))] s2;have s3:=s2r.new (o := .cells #[.slice none 0 0] 229 (0,0)) hxl;have d3:=d2.set (o := .cells #[.slice none 0 0] 229 (0,0)) gxl;rw [ec sz229 rfl bh (by simp),set_set];try simp only [vw,bh_]
  generalize Hp.set h2 xl _=h3 at s3 d3 ⊢;unfold aj9;obtain ⟨ca3,c3,gs3,ts3⟩:=hbg h3 d3;have b3:=yx c3;have c03:bf G h3 ⟨x0,0,none⟩=some (.pointer (some ⟨sp,0,none⟩)):=by rw [bm (bj (s3.at 3 rfl bh))];rfl
  have cx3:∀k,bf G h3 ⟨xp,k,none⟩=_:=fun k=>bm (bj (s3.at 4 rfl bh));try simp (disch:=decide) only [vw,c03,b3.g,cx3]
  refine Vg.mono ?_;rintro _ h4 ⟨b1,b2',rfl,s4,d4⟩;have s5:HL.Sep [noHp.set xl (.cells #[.slice none 0 0] 229 (0,0)),a2,ak,noHp.set x0 (.cells #[.pointer (some ⟨sp,0,none⟩)] 127 (0,0)),noHp.set xp (.cells #[p.x,p.y,.bool p.d] 30 (0,0)),Qr,noHp.set b1 (.cells #[.pointer (some ⟨gp,0,none⟩)] 68 (0,0)),noHp.set b2' (.cells #[p.x,p.y,.bool p.d] 30 (0,0))] h4:=(s4.pick 2 rfl rfl).open s3
  try simp (disch:=first|decide|omega) only [vw,Nat.reduceAdd,Nat.reduceMul]
  intro y l oo hl gl hoo hy;rw [ap0];have yl:=Vd (xl:=xl) (x0:=x0) bg gl hoo (by simp (disch:=decide) only [vw]) (by simp (disch:=decide) only [vw]) hy
  obtain ⟨ay,s6,say⟩:=Sep.pack [noHp,noHp.set xl (.cells #[.slice none 0 0] 229 (0,0)),noHp,ak,noHp.set x0 (.cells #[.pointer (some ⟨sp,0,none⟩)] 127 (0,0)),noHp.set l (oo none)] (R:=[noHp.set b1 (.cells #[.pointer (some ⟨gp,0,none⟩)] 68 (0,0)),noHp.set b2' (.cells #[p.x,p.y,.bool p.d] 30 (0,0)),a2,noHp.set xp (.cells #[p.x,p.y,.bool p.d] 30 (0,0)),Qr])
   ((s5.new (o:=oo none) hl).none.none.sel [0,3,1,5,6,2,9,10,4,7,8] (by decide) rfl)
  obtain ⟨Qy,s7,sQy⟩:=Sep.rest [ay] s6;have d7:Dis G (h4.set l (oo none)):=d4.set gl;have yb:MvY q kp sp xl x0 l (oo none) [] ay:=⟨noHp,.slice none 0 0,noHp,ak,⟨[],Slc.nil,rfl,fun i x m hx=>by simp at hx⟩,kpk,say⟩;have hyf:=xCallV_func (yl [] (jv p) ay Qy _ (by simp) (Q2 hpb) yb s7 d7);have dQ:Dis G Qy:=fun b o e=>d7 b o (s7.in 1 rfl _ _ e);refine (Vf hyf yl yb s7 (sQy.at 0 rfl bh) (sQy.at 1 rfl bh) (hbg Qy dQ).2.2.1 bg.st hpb (by have:=Gz (w:=q.w) (k:=q.k) (f:=q.f) (p:=p);omega) (ay6 hpb)).mono ?_;rintro _ h8 ⟨a8,s8,d8,ip,v,P2,ak8,wa,kpk8,sa8⟩;have s9:=Sep.unrest [ip,noHp.set xl (.cells #[v] 229 (0,0)),P2,ak8,noHp.set x0 (.cells #[.pointer (some ⟨sp,0,none⟩)] 127 (0,0)),noHp.set l (oo none)] (s8.open sa8) sQy;obtain ⟨h9,s10,t10⟩:=Sep.pack [ip,noHp.set xl (.cells #[v] 229 (0,0)),P2,ak8,noHp.set x0 (.cells #[.pointer (some ⟨sp,0,none⟩)] 127 (0,0)),a2,Qr] (R:=[noHp.set l (oo none)]) (s9.sel [0,1,2,3,4,8,10,5] (by decide) rfl);have d9:Dis G h9:=fun b o e=>d8 b o (s10.in 0 rfl _ _ e);refine ⟨h9,s10.in 0 rfl,?_,.inl ⟨s10.at 1 rfl bh,?_⟩⟩
  . rcases s10.apart (b:=noHp.set l (oo none)) (by simp) l with e|e
    . exact e
    . rw [bh]at e;cases e
  try simp only [vw]
  unfold aj8;have b9:=yx (hbg h9 d9).2.1;have c09:bf G h9 ⟨x0,0,none⟩=some (.pointer (some ⟨sp,0,none⟩)):=by rw [bm (bj (t10.at 4 rfl bh))];rfl
  have cl9:bf G h9 ⟨xl,0,none⟩=some v:=by rw [bm (bj (t10.at 1 rfl bh))];rfl
  have t11:=(t10.pick 5 rfl rfl).open sa
  have hmw9:h9 mw=some o2:=t11.at 1 rfl bh;have hv:∃s n c,v = .slice s n c:=by obtain ⟨raws,r1,_⟩:=wa;obtain ⟨s,c,e,_⟩:=r1.len (by decide);exact ⟨s,_,c,e⟩
  obtain ⟨sv,nv,cv,rfl⟩:=hv;try simp (disch:=decide) only [vw,c09,b9.mw,cl9]
  refine zi unmw un3r hmw9 m2 fun o' mo'=>?_;have s12:=(t11.pick 1 rfl rfl).put (o:=o') bh;rw [set_set]at s12;have d12:=d9.set (o:=o') (d9 _ _ hmw9);generalize Hp.set h9 mw _=h12 at s12 d12 ⊢;have cl12:bf G h12 ⟨xl,0,none⟩=some (.slice sv nv cv):=by rw [bm (bj (s12.at 5 rfl bh))];rfl
  try simp only [vw,cl12]
  obtain ⟨a13,c13,ch13,cl13,g13,l1,l3,s13⟩:=Ch.put2 (R:=[ak8,Qr]) ch2 m1 mo' m3 (s12.sel [1,0,2,3,4,6,7,9] (by decide) rfl) hpf hg wa;refine ⟨a13,ak8,c13,ch13,kpk8,cl2.trans cl13,by rw [l1,e1],g13,Sep.unrest [a13,ak8] s13 sR,d12⟩
end Go.Proofs.YtfflipnhffknnaaGreatDoor
end
section
namespace Go.Proofs.YtfflipnhffknnaaGreatDoor
open Go Go.HL
section
variable (G:Hp) (K:EK) (r:Rg) (h:Hp)
def md63:Nat->Hint
 |_=>m0_
def S63:Prop:=
 o_ G (Instr.build 218 #[(0,(r 0))]) h fun g h=>o_ G (Instr.box 218 g) h fun j h=>
 K .ret (u5 r 2 (.pointer none) 3 (r 0) 4 g 5 j 2 j) h
theorem enter63:Ent 6 63 [.tmp 2] S63:=ent_ (m:=md63) (c:=(Tryz.f63.body.getD .skip)) (fun _ _ _ _=>by kernel_rfl) Tryz.func63 rfl rfl rfl
def md64:Nat->Hint
 |_=>m0_
def aQ0:Prop:=
 o_ G (f_ 139 (r 2) 1) h fun g h=>o_ G (f_ 137 g 1) h fun j h=>o_ G (l_ 3 j) h fun s h=>o_ G (f_ 139 (r 3) 1) h fun u h=>o_ G (f_ 137 u 1) h fun w h=>o_ G (l_ 3 w) h fun z h=>o_ G (z2_ s z) h fun C h=>
 K .ret (u8 r 31 g 32 j 33 s 34 u 35 w 36 z 37 C 4 C) h
def S64:Prop:=
 o_ G (Instr.box 139 (r 0)) h fun g h=>o_ G (Instr.box 139 (r 1)) h fun j h=>o_ G (f_ 139 g 0) h fun s h=>o_ G (l_ 3 s) h fun u h=>o_ G (f_ 139 j 0) h fun w h=>o_ G (l_ 3 w) h fun z h=>
 opH P_ G (xEq .neq 3 (.tmp 0) (.tmp 0) u z) h fun C h=>
 cond C
 (o_ G (f_ 139 g 0) h fun D h'=>o_ G (l_ 3 D) h' fun E h'=>o_ G (f_ 139 j 0) h' fun F h'=>o_ G (l_ 3 F) h' fun I h'=>o_ G (z2_ E I) h' fun J h'=>
 K .ret (u5 (u10 r 2 g 3 j 4 (.bool false) 6 s 7 u 8 w 9 z 10 C 5 C 11 D) 12 E 13 F 14 I 15 J 4 J) h')
 (o_ G (f_ 139 g 1) h fun D h=>o_ G (f_ 137 D 0) h fun E h=>o_ G (l_ 3 E) h fun F h=>o_ G (f_ 139 j 1) h fun I h=>o_ G (f_ 137 I 0) h fun J h=>o_ G (l_ 3 J) h fun L h=>
 opH P_ G (xEq .neq 3 (.tmp 0) (.tmp 0) F L) h fun M h=>
 cond M
 (o_ G (f_ 139 g 1) h fun N h'=>o_ G (f_ 137 N 0) h' fun O h'=>o_ G (l_ 3 O) h' fun P h'=>o_ G (f_ 139 j 1) h' fun Q h'=>o_ G (f_ 137 Q 0) h' fun U h'=>o_ G (l_ 3 U) h' fun V h'=>o_ G (z2_ P V) h' fun W h'=>
 K .ret (u5 (u10 (u10 r 2 g 3 j 4 (.bool false) 6 s 7 u 8 w 9 z 10 C 5 C 17 D) 18 E 19 F 20 I 21 J 22 L 23 M 16 M 24 N 25 O 26 P) 27 Q 28 U 29 V 30 W 4 W) h')
 (aQ0 G K (u7 (u10 r 2 g 3 j 4 (.bool false) 6 s 7 u 8 w 9 z 10 C 5 C 17 D) 18 E 19 F 20 I 21 J 22 L 23 M 16 M) h))
theorem enter64:Ent 38 64 [.tmp 4] S64:=ent_ (m:=md64) (c:=(Tryz.f64.body.getD .skip)) (fun _ _ _ _=>by kernel_rfl) Tryz.func64 rfl rfl rfl
def md68:Nat->Hint
 |_=>m0_
def aP8:Prop:=
 opH P_ G (xNil (r 0)) h fun g h=>o_ G (f_ 218 g 1) h fun j h=>o_ G (l_ 216 j) h fun s h=>o_ G (k_ 216 s) h fun u h=>o_ G (z3_ u (1:Int)) h fun w h=>
 c_ G 118 #[r 0,(.int .i64 0),w] h fun z h=>
 opH P_ G (xNil (r 0)) h fun C h=>o_ G (f_ 218 C 1) h fun D h=>o_ G (l_ 216 D) h fun E h=>o_ G (Instr.build 227 #[]) h fun F h=>o_ G (i_ 216 E w) h fun I h=>
 opH P_ G (x_ 227 I F) h fun J h=>
 opH P_ G (xNil (r 0)) h fun J h=>o_ G (f_ 218 J 1) h fun L h=>o_ G (l_ 216 L) h fun M h=>o_ G (Instr.sliceAt 216 M none (some w) none) h fun N h=>
 opH P_ G (xNil (r 0)) h fun O h=>o_ G (f_ 218 O 1) h fun P h=>
 opH P_ G (x_ 216 P N) h fun Q h=>
 c_ G 119 #[r 0,(.int .i64 0)] h fun Q h=>o_ G (l_ 139 (r 4)) h fun U h=>
 opH P_ G (x_ 139 (r 2) U) h fun V h=>
 K .ret (u10 (u10 (u10 r 15 (r 0) 16 g 17 j 18 s 19 u 20 w 6 w 21 (r 0) 22 w 23 z) 24 (r 0) 25 C 26 D 27 E 28 w 29 F 30 I 31 (r 0) 32 (r 0) 33 J) 34 L 35 M 36 w 37 N 38 O 39 P 40 (r 0) 41 Q 42 U 3 (.bool true)) h
def S68:Prop:=
 o_ G (Instr.alloc 139 true (.tuple #[])) h fun g h=>
 c_ G 117 #[r 0] h fun j h=>o_ G (Instr.extract j 0) h fun s h=>o_ G (Instr.extract j 1) h fun u h=>o_ G (Instr.alloc 139 true (.tuple #[])) h fun w h=>
 opH P_ G (x_ 139 w s) h fun z h=>o_ G (Op.unary .not u) h fun z h=>
 cond z
 (o_ G (l_ 139 w) h fun C h'=>
 opH P_ G (x_ 139 g C) h' fun D h'=>
 K .ret (u3 (u10 r 2 g 3 (.bool false) 8 (r 0) 9 j 7 j 10 s 11 u 4 w 5 u 12 u) 13 z 14 C 3 (.bool false)) h')
 (aP8 G K (upd (u10 r 2 g 3 (.bool false) 8 (r 0) 9 j 7 j 10 s 11 u 4 w 5 u 12 u) 13 z) h)
theorem ac9:Ent 43 68 [.cell 2 139,.tmp 3] S68:=ent_ (m:=md68) (c:=(Tryz.f68.body.getD .skip)) (fun _ _ _ _=>by kernel_rfl) Tryz.func68 rfl rfl rfl
def md116:Nat->Hint
 |2=>mh false [0,0,2,6,14,0,0,64,192,448,992,2016,4094,8191,16383,32767] [n_,n_,n_,n_,m_,m_,n_,n_,n_,m_,n_,.alloc,e_,n_,n_,.store] (fs 16) false
 |_=>m0_
def ak4:Prop:=
 dl P_ noHp noHp (xNil (r 0)) h fun g h'=>
 p_ (f_ 218 g 1) h' fun j h'=>
 w_ G h (l_ 216 j) h' fun s h'=>
 w_ G h (l_ 139 (r 3)) h' fun u h'=>
 dl P_ noHp noHp (xNil (r 0)) h' fun w h'=>
 p_ (f_ 218 w 2) h' fun z h'=>
 w_ G h (l_ 3 z) h' fun C h=>
 p_ (Instr.build 227 #[(0,u),(1,C)]) h fun D h=>o_ G (Instr.buildSlice 216 1 #[(0,D)]) h fun E h=>o_ G (Builtin.append_ #[216,216] 216 #[s,E]) h fun F h=>
 dl P_ noHp noHp (xNil (r 0)) h fun I h=>
 p_ (f_ 218 I 1) h fun J h=>
 opH P_ G (x_ 216 J F) h fun L h=>
 opH P_ G (xNil (r 0)) h fun L h=>o_ G (f_ 218 L 2) h fun M h=>o_ G (l_ 3 M) h fun N h=>o_ G (z1_ N (1:Int)) h fun O h=>
 opH P_ G (xNil (r 0)) h fun P h=>o_ G (f_ 218 P 2) h fun Q h=>
 opH P_ G (x_ 3 Q O) h fun U h=>
 opH P_ G (xNil (r 0)) h fun U h=>o_ G (f_ 218 U 1) h fun V h=>o_ G (l_ 216 V) h fun W h=>o_ G (k_ 216 W) h fun Y h=>o_ G (z3_ Y (1:Int)) h fun Z h=>
 c_ G 147 #[r 0,Z] h fun aa h=>
 K .normal (u10 (u10 (u10 r 13 (r 0) 14 (r 0) 15 g 16 j 17 s 18 u 19 (r 0) 20 w 21 z 22 C) 23 D 24 E 25 F 26 I 27 J 28 (r 0) 29 L 30 M 31 N 32 O) 33 P 34 Q 35 (r 0) 36 (r 0) 37 U 38 V 39 W 40 Y 41 Z 42 aa) h
def S116:Prop:=
 o_ G (Instr.box 139 (r 1)) h fun g h=>
 opH P_ G (xEq .eql 132 (.tmp 0) (.const .nilFunc) (r 0) (.pointer none)) h fun j h=>g_ j false (fun K1=>K1 (r 0) h) h fun s h=>g_ j false (opH P_ G (xNil s) h) h fun u h=>g_ j false (o_ G (f_ 218 u 0) h) h fun w h=>g_ j false (o_ G (l_ 140 w) h) h fun z h=>g_ j false (opH P_ G (xEq .eql 140 (.tmp 0) (.const .nilFunc) z .nilFunc) h) h fun C h=>
 opH P_ G (dh j (.bool true) C) h fun D h=>
 (fun q=>cond D
 (K .ret q h)
 (ak4 G K q h))
 (u10 r 3 g 4 (r 0) 5 j 6 j 7 s 8 u 9 w 10 z 11 C 12 D)
theorem aJ8:Ent 43 116 [] S116:=ent_ (m:=md116) (c:=(Tryz.f116.body.getD .skip)) (fun _ _ _ _=>by kernel_rfl) Tryz.func116 rfl rfl rfl
def md117:Nat->Hint
 |_=>m0_
def ak3:Prop:=
 opH P_ G (xNil (r 0)) h fun g h=>o_ G (f_ 218 g 1) h fun j h=>o_ G (l_ 216 j) h fun s h=>o_ G (i_ 216 s (.int .i64 0)) h fun u h=>o_ G (f_ 227 u 0) h fun w h=>o_ G (l_ 139 w) h fun z h=>
 opH P_ G (x_ 139 (r 2) z) h fun C h=>
 K .ret (u8 r 16 (r 0) 17 g 18 j 19 s 20 u 21 w 22 z 3 (.bool true)) h
def S117:Prop:=
 o_ G (Instr.alloc 139 true (.tuple #[])) h fun g h=>
 opH P_ G (xEq .eql 132 (.tmp 0) (.const .nilFunc) (r 0) (.pointer none)) h fun j h=>g_ j false (fun K1=>K1 (r 0) h) h fun s h=>g_ j false (opH P_ G (xNil s) h) h fun u h=>g_ j false (o_ G (f_ 218 u 1) h) h fun w h=>g_ j false (o_ G (l_ 216 w) h) h fun z h=>g_ j false (o_ G (k_ 216 z) h) h fun C h=>g_ j false (opH P_ G (xEq .eql 3 (.tmp 0) (.const .nilFunc) C (.int .i64 0)) h) h fun D h=>
 opH P_ G (dh j (.bool true) D) h fun E h=>
 cond E
 (o_ G (Instr.alloc 139 true (.tuple #[])) h fun F h'=>o_ G (l_ 139 F) h' fun I h'=>
 opH P_ G (x_ 139 g I) h' fun J h'=>
 K .ret (u5 (u10 r 2 g 3 (.bool false) 5 (r 0) 6 j 7 j 8 s 9 u 10 w 11 z 12 C) 13 D 14 E 4 F 15 I 3 (.bool false)) h')
 (ak3 G K (u2 (u10 r 2 g 3 (.bool false) 5 (r 0) 6 j 7 j 8 s 9 u 10 w 11 z 12 C) 13 D 14 E) h)
theorem aJ7:Ent 23 117 [.cell 2 139,.tmp 3] S117:=ent_ (m:=md117) (c:=(Tryz.f117.body.getD .skip)) (fun _ _ _ _=>by kernel_rfl) Tryz.func117 rfl rfl rfl
def md118:Nat->Hint
 |0=>mh false [0,1,3,7,0,0,32,96,224,0,0,1024,3072,7168,0,31744,64512,0,131072,393216,917504,0,4063232,8257536,16776703,33553919,67108863,134217727] [n_,n_,n_,m_,n_,n_,n_,n_,m_,n_,n_,n_,n_,m_,n_,n_,m_,n_,n_,n_,m_,n_,n_,m_,n_,.store,n_,.store] (fs 28) false
 |_=>m0_
def S118:Prop:=
 dl P_ noHp noHp (xNil (r 0)) h fun g h'=>
 p_ (f_ 218 g 1) h' fun j h'=>
 w_ G h (l_ 216 j) h' fun s h'=>
 dl P_ noHp noHp (xNil (r 0)) h' fun u h'=>
 p_ (f_ 218 u 1) h' fun w h'=>
 w_ G h (l_ 216 w) h' fun z h'=>
 dl P_ noHp noHp (xNil (r 0)) h' fun C h'=>
 p_ (f_ 218 C 1) h' fun D h'=>
 w_ G h (l_ 216 D) h' fun E h'=>
 p_ (i_ 216 E (r 2)) h' fun F h'=>
 w_ G h (l_ 227 F) h' fun I h'=>
 dl P_ noHp noHp (xNil (r 0)) h' fun J h'=>
 p_ (f_ 218 J 1) h' fun L h'=>
 w_ G h (l_ 216 L) h' fun M h'=>
 p_ (i_ 216 M (r 1)) h' fun N h'=>
 w_ G h (l_ 227 N) h' fun O h=>
 p_ (i_ 216 s (r 1)) h fun P h=>
 opH P_ G (x_ 227 P I) h fun Q h=>
 p_ (i_ 216 z (r 2)) h fun Q h=>
 opH P_ G (x_ 227 Q O) h fun U h=>
 K .normal (u6 (u10 (u10 r 6 (r 0) 7 g 8 j 9 s 10 (r 1) 11 (r 0) 12 u 13 w 14 z 15 (r 2)) 16 (r 0) 17 C 18 D 19 E 20 (r 2) 21 F 22 I 23 (r 0) 24 J 25 L) 26 M 27 (r 1) 28 N 29 O 30 P 31 Q) h
theorem aJ6:Ent 32 118 [] S118:=ent_ (m:=md118) (c:=(Tryz.f118.body.getD .skip)) (fun _ _ _ _=>by kernel_rfl) Tryz.func118 rfl rfl rfl
def md119:Nat->Hint
 |_=>m0_
def Ni:Prop:=
 c_ G 118 #[r 0,r 1,r 4] h fun g h=>
 K .normal (u6 r 36 (r 0) 37 (r 1) 38 (r 4) 39 g 40 (r 4) 1 (r 4)) h
def Nj:Prop:=
 opH P_ G (xEq .eql 3 (.tmp 0) (.tmp 0) (r 4) (r 1)) h fun g h=>
 cond g
 (K .ret (u3 r 33 (r 4) 34 (r 1) 35 g) h)
 (Ni G K (u3 r 33 (r 4) 34 (r 1) 35 g) h)
def qp:Prop:=
 o_ G (z1_ (r 15) (1:Int)) h fun g h=>
 K .normal (u2 r 32 g 15 g) h
def xx:Prop:=
 o_ G (Instr.index 110 (r 14) (r 15)) h fun g h=>
 opH P_ G (xNil (r 0)) h fun j h=>o_ G (f_ 218 j 1) h fun s h=>o_ G (l_ 216 s) h fun u h=>o_ G (k_ 216 u) h fun w h=>o_ G (z2_ g w) h fun z h=>g_ z true (fun K1=>K1 (r 0) h) h fun C h=>g_ z true (fun K1=>K1 g h) h fun D h=>g_ z true (fun K1=>K1 (r 4) h) h fun E h=>g_ z true (c_ G 148 #[C,D,E] h) h fun F h=>
 opH P_ G (dh z F (.bool false)) h fun I h=>
 (fun q=>cond I
 (qp G K (u2 q 31 g 4 g) h)
 (qp G K q h))
 (u5 (u10 r 17 g 6 g 18 g 19 (r 0) 20 j 21 s 22 u 23 w 24 z 25 z) 26 C 27 D 28 E 29 F 30 I)
def Nh (r:Rg) (h:Hp) (K:EK):Prop:=
 o_ G (z2_ (r 15) (2:Int)) h fun g h=>
 cond g
 (xx G K (upd r 16 g) h)
 (K (.exit 2) (upd r 16 g) h)
def ak2 (r:Rg) (h:Hp) (K:EK):Prop:=
 o_ G (z4_ (2:Int) (r 1)) h fun g h=>o_ G (z1_ g (1:Int)) h fun j h=>o_ G (z4_ (2:Int) (r 1)) h fun s h=>o_ G (z1_ s (2:Int)) h fun u h=>o_ G (Instr.build 110 #[(0,j),(1,u)]) h fun w h=>
 du (Nh G) (u10 r 7 (r 1) 4 (r 1) 8 (r 1) 9 g 10 j 11 (r 1) 12 s 13 u 14 w 15 (.int .i64 0)) h (dc 2 (di (Nj G K) (dc 1 K)))
def S119:Prop:=
 du (ak2 G) r h (dc 0 K)
theorem aJ5:Ent 41 119 [] S119:=ent_ (m:=md119) (c:=(Tryz.f119.body.getD .skip)) (fun _ _ _ _=>by kernel_rfl) Tryz.func119 rfl rfl rfl
def md147:Nat->Hint
 |_=>m0_
def Mn:Prop:=
 o_ G (z3_ (r 1) (1:Int)) h fun g h=>o_ G (binOp .quo 3 g (.int .i64 2)) h fun j h=>
 c_ G 118 #[r 0,r 1,j] h fun s h=>o_ G (z3_ (r 1) (1:Int)) h fun u h=>o_ G (binOp .quo 3 u (.int .i64 2)) h fun w h=>
 K .normal (u10 r 14 (r 0) 15 (r 1) 16 (r 1) 17 g 18 j 19 s 20 (r 1) 21 u 22 w 1 w) h
def ag3 (r:Rg) (h:Hp) (K:EK):Prop:=
 o_ G (z6_ (r 1) (0:Int)) h fun g h=>g_ g true (fun K1=>K1 (r 0) h) h fun j h=>g_ g true (fun K1=>K1 (r 1) h) h fun s h=>g_ g true (fun K1=>K1 (r 1) h) h fun u h=>g_ g true (o_ G (z3_ u (1:Int)) h) h fun w h=>g_ g true (o_ G (binOp .quo 3 w (.int .i64 2)) h) h fun z h=>g_ g true (c_ G 148 #[j,s,z] h) h fun C h=>
 opH P_ G (dh g C (.bool false)) h fun D h=>
 (fun q=>cond D
 (Mn G K q h)
 (K (.exit 0) q h))
 (u10 r 4 (r 1) 5 g 6 g 7 j 8 s 9 u 10 w 11 z 12 C 13 D)
def S147:Prop:=
 du (ag3 G) r h (dc 0 K)
theorem aH1:Ent 23 147 [] S147:=ent_ (m:=md147) (c:=(Tryz.f147.body.getD .skip)) (fun _ _ _ _=>by kernel_rfl) Tryz.func147 rfl rfl rfl
def md148:Nat->Hint
 |1=>mh false [0,1,3,7,0,31,63,0,128,384,896,0,3968,8064,0,0,49279,131071] [n_,n_,n_,m_,n_,n_,m_,n_,n_,n_,m_,n_,n_,m_,.alloc,.alloc,.store,.store] (fs 16++[true]++[false]) false
 |2=>mh false [0,1,3,7,0,16,0,64,255,511] [n_,n_,n_,m_,n_,m_,n_,m_,e_,n_] (fs 10) false
 |4=>mh false [0,1,3,7,0,16,0,64,255,511] [n_,n_,n_,m_,n_,m_,n_,m_,e_,n_] (fs 10) false
 |_=>m0_
def ag2:Prop:=
 o_ G (f_ 227 (r 7) 1) h fun g h=>o_ G (l_ 3 g) h fun j h=>o_ G (f_ 227 (r 8) 1) h fun s h=>o_ G (l_ 3 s) h fun u h=>o_ G (z2_ j u) h fun w h=>
 K .ret (u6 r 43 g 44 j 45 s 46 u 47 w 6 w) h
def S148:Prop:=
 dl P_ noHp noHp (xNil (r 0)) h fun g h'=>
 p_ (f_ 218 g 1) h' fun j h'=>
 w_ G h (l_ 216 j) h' fun s h'=>
 p_ (i_ 216 s (r 1)) h' fun u h'=>
 w_ G h (l_ 227 u) h' fun w h'=>
 dl P_ noHp noHp (xNil (r 0)) h' fun z h'=>
 p_ (f_ 218 z 1) h' fun C h'=>
 w_ G h (l_ 216 C) h' fun D h'=>
 p_ (i_ 216 D (r 2)) h' fun E h'=>
 w_ G h (l_ 227 E) h' fun F h'=>o_ G (Instr.alloc 227 true (.tuple #[])) h' fun I h'=>o_ G (Instr.alloc 227 true (.tuple #[])) h' fun J h'=>
 opH P_ G (x_ 227 I w) h' fun L h'=>h.le h'/\
 opH P_ G (x_ 227 J F) h' fun L h=>
 dl P_ noHp noHp (xNil (r 0)) h fun L h'=>
 p_ (f_ 218 L 0) h' fun M h'=>
 w_ G h (l_ 140 M) h' fun N h'=>
 p_ (f_ 227 I 0) h' fun O h'=>
 w_ G h (l_ 139 O) h' fun P h'=>
 p_ (f_ 227 J 0) h' fun Q h'=>
 w_ G h (l_ 139 Q) h' fun U h=>
 opH P_ G (jh N #[P,U]) h fun V h=>
 cond V
 (K .ret (u8 (u10 (u10 r 6 (.bool false) 9 (r 0) 10 g 11 j 12 s 13 (r 1) 14 u 15 w 16 (r 0) 17 z) 18 C 19 D 20 (r 2) 21 E 22 F 7 I 8 J 24 (r 0) 25 L 26 M) 27 N 28 O 29 P 30 Q 31 U 32 V 23 V 6 (.bool true)) h)
 (dl P_ noHp noHp (xNil (r 0)) h fun W h'=>
 p_ (f_ 218 W 0) h' fun Y h'=>
 w_ G h (l_ 140 Y) h' fun Z h'=>
 p_ (f_ 227 J 0) h' fun aa h'=>
 w_ G h (l_ 139 aa) h' fun ab h'=>
 p_ (f_ 227 I 0) h' fun ac h'=>
 w_ G h (l_ 139 ac) h' fun ae h=>
 opH P_ G (jh Z #[ab,ae]) h fun af h=>
 cond af
 (K .ret (u8 (u10 (u10 (u10 r 6 (.bool false) 9 (r 0) 10 g 11 j 12 s 13 (r 1) 14 u 15 w 16 (r 0) 17 z) 18 C 19 D 20 (r 2) 21 E 22 F 7 I 8 J 24 (r 0) 25 L 26 M) 27 N 28 O 29 P 30 Q 31 U 32 V 23 V 34 (r 0) 35 W 36 Y) 37 Z 38 aa 39 ab 40 ac 41 ae 42 af 33 af 6 (.bool false)) h)
 (ag2 G K (u7 (u10 (u10 (u10 r 6 (.bool false) 9 (r 0) 10 g 11 j 12 s 13 (r 1) 14 u 15 w 16 (r 0) 17 z) 18 C 19 D 20 (r 2) 21 E 22 F 7 I 8 J 24 (r 0) 25 L 26 M) 27 N 28 O 29 P 30 Q 31 U 32 V 23 V 34 (r 0) 35 W 36 Y) 37 Z 38 aa 39 ab 40 ac 41 ae 42 af 33 af) h))
theorem aH0:Ent 48 148 [.tmp 6] S148:=ent_ (m:=md148) (c:=(Tryz.f148.body.getD .skip)) (fun _ _ _ _=>by kernel_rfl) Tryz.func148 rfl rfl rfl
end
end Go.Proofs.YtfflipnhffknnaaGreatDoor
end
section
namespace Go.Proofs.YtfflipnhffknnaaGreatDoor.Hw
open Go Go.HL Go.Proofs.Wt
def bRtH:=jq bC (jq (jq (jq (jq (jq @an_.{0} (jq @a3_.{0} @al139)) (jq (jq @al227 @Hd) (jq @bd218_0 @bd227_))) (jq (jq @Yx (jq @kv @bin_quo)) (jq (jq @bne_self_eq_false.{0} @at1) (jq @Fx @cf117)))) (jq (jq (jq @cf118 (jq @cf119 @cf147)) (jq (jq @cf148 @cf64) (jq @eq132s @eq140s))) (jq (jq @fa137_0 (jq @fa137_1 @ac2)) (jq (jq @ac1 @fa218_0) (jq @aC5 @fa218_1))))) (jq (jq (jq (jq @aC4 (jq @fa218_2 @aC3)) (jq (jq @fa227_0 @aC2) (jq @fa227_1 @ix216))) (jq (jq @ix216p (jq @ld139 @ld139p)) (jq (jq @ld140 @ld140p) (jq @ld216 @ld216p)))) (jq (jq (jq @ld227p (jq @ld3 @ld3p)) (jq (jq @ln216 @li) (jq @jc @A9))) (jq (jq (jq @yc @mx) (jq @nq @jw)) (jq (jq @aw0 @st227w) (jq @st3s @true_and))))))
def itC:Cod It:=⟨4,fun x=>[.int .i64 x.k,.int .i64 x.m,.int .i64 x.s,.int .i64 x.n],fun _=>rfl,fun _ v hv=>by simp at hv;rcases hv with rfl|rfl|rfl|rfl<;>rfl⟩
theorem eoitem:iu P_ 227 itC.n 32:=eo227
structure HA (h:Hp) (hp bp cap:Nat) (L:List It) (n:Int) (t:List Value):Prop where
 hd:h hp=some (.cells #[.func (.func 64) #[] #[],.slice (some ⟨bp,0,none⟩) L.length cap,n] 218 (0,0))
 row:h bp=some (.cells (itC.rows L++t).toArray 227 (0,0))
theorem HA.ne {h:Hp} {hp bp cap:Nat} {L:List It} {n:Int} {t:List Value} (a:HA h hp bp cap L n t):hp≠bp:=fun e=>by have h1:=a.hd;have h2:=a.row;rw [e,h2]at h1;simp at h1
theorem HA.le {h h':Hp} {hp bp cap:Nat} {L:List It} {n:Int} {t:List Value} (a:HA h hp bp cap L n t) (l:h.le h'):HA h' hp bp cap L n t:=⟨l _ _ a.hd,l _ _ a.row⟩
theorem O3 {G h:Hp} {a0 a1 a2 b0 b1 b2:Int}:bn P_ G 64 #[.agg #[a0,a1,a2],.agg #[b0,b1,b2]] h (fun v h'=>v = .bool ((⟨a0,a1,a2,0⟩:It).b4 ⟨b0,b1,b2,0⟩)/\h'=h):=by
 refine quietly (enter64 (by simp) ?_);unfold S64;simp only [bRtH];intro x hx gx y hy gy;have hxy:x≠y:=ju hy;have lf:=(dw (o := .cells #[a0,a1,a2] 139 (0,0)) hx).trans (dw (o := .cells #[b0,b1,b2] 139 (0,0)) hy);simp only [bRtH,bv hxy];by_cases h1:a0=b0
 . subst h1;simp only [bRtH,bv hxy];by_cases h2:a1=b1
   . subst h2;simp only [bRtH,bv hxy];unfold aQ0;simp (disch:=decide) only [bRtH,Nat.reduceAdd,bv hxy];refine ⟨?_,lf⟩;simp [It.b4]
   . rw [show (a1 != b1)=true by simpa using h2];simp only [bRtH,bv hxy];refine ⟨?_,lf⟩;simp [It.b4,h2]
 . rw [show (a0 != b0)=true by simpa using h1];simp only [bRtH,bv hxy];refine ⟨?_,lf⟩;simp [It.b4,h1]
theorem it0 {L:List It} {t:List Value} {i:Nat} {x:It} (hi:L[i]?=some x):(itC.rows L++t)[i*4]?=some (.int .i64 x.k):=itC.rows_get (j:=0) hi (by decide)
theorem it1 {L:List It} {t:List Value} {i:Nat} {x:It} (hi:L[i]?=some x):(itC.rows L++t)[i*4+1]?=some (.int .i64 x.m):=itC.rows_get (j:=1) hi (by decide)
theorem it2 {L:List It} {t:List Value} {i:Nat} {x:It} (hi:L[i]?=some x):(itC.rows L++t)[i*4+2]?=some (.int .i64 x.s):=itC.rows_get (j:=2) hi (by decide)
theorem it3 {L:List It} {t:List Value} {i:Nat} {x:It} (hi:L[i]?=some x):(itC.rows L++t)[i*4+3]?=some (.int .i64 x.n):=itC.rows_get (j:=3) hi (by decide)
theorem Lw {G h:Hp} {hp bp cap:Nat} {L:List It} {n:Int} {t:List Value} (a:HA h hp bp cap L n t) {i j:Nat} {x y:It} (hi:L[i]?=some x) (hj:L[j]?=some y):
 bn P_ G 148 #[.pointer (some ⟨hp,0,none⟩),i,j] h (fun v h'=>v = .bool (x.lt y)/\h'=h):=by
 have hil:i<L.length:=(ad_.1 hi).1;have hjl:j<L.length:=(ad_.1 hj).1;have c1:∀k,bf G h ⟨hp,k,none⟩=_:=fun k=>bm (bj a.hd);have c2:∀k,bf G h ⟨bp,k,none⟩=_:=fun k=>bm (bj a.row);refine quietly (aH0 (by simp) ?_);unfold S148;simp -implicitDefEqProofs (maxSteps:=2000000) (disch:=first|decide|with_reducible exact aA_ rfl|exact b8|exact bw|omega|rfl|(simp;done)|fail) only [bRtH,c1];simp only [bRtH,c2,it0 hi,it1 hi,it2 hi,it3 hi,it0 hj,it1 hj,it2 hj,it3 hj];intro p hp' gp q hq gq;have hpq:p≠q:=ju hq;have hq':=jx hq;have e1:hp≠p:=il a.hd hp';have e2:hp≠q:=il a.hd hq';simp (disch:=first|decide|exact b8|exact bw|omega|rfl) only [bRtH,fk hpq];refine ⟨((Hp.le.refl h).set hp').set hq',?_⟩;simp only [bRtH,bv hpq,bv e1,bv e2,c1];refine O3.mono ?_;rintro _ _ ⟨rfl,rfl⟩;have b4':∀x y:It,(⟨x.k,x.m,x.s,0⟩:It).b4 ⟨y.k,y.m,y.s,0⟩=x.b4 y:=fun _ _=>rfl;rw [b4'];refine nu (fun hlt=>?_) (fun hge=>?_)
 . exact ⟨by simp [It.lt,hlt],((Hp.le.refl h).set hp').set hq'⟩
 simp only [bRtH,bv hpq,bv e1,bv e2,c1];refine O3.mono ?_;rintro _ _ ⟨rfl,rfl⟩;rw [b4'];refine nu (fun hlt=>?_) (fun hge2=>?_)
 . exact ⟨by simp [It.lt,hlt,hge],((Hp.le.refl h).set hp').set hq'⟩
 unfold ag2;simp (disch:=decide) only [bRtH,bv hpq,bv e1,bv e2,c1];exact ⟨by simp [It.lt,hge,hge2],((Hp.le.refl h).set hp').set hq'⟩
theorem Gs {G h:Hp} {hp bp cap:Nat} {L:List It} {n:Int} {t:List Value} (a:HA h hp bp cap L n t) {i j:Nat} {x y:It} (hi:L[i]?=some x) (hj:L[j]?=some y):
 bn P_ G 118 #[.pointer (some ⟨hp,0,none⟩),i,j] h (fun v h'=>h'=h.set bp (.cells (itC.rows ((L.set i y).set j x)++t).toArray 227 (0,0))):=by have hil:i<L.length:=(ad_.1 hi).1;have hjl:j<L.length:=(ad_.1 hj).1;have c1:∀k,bf G h ⟨hp,k,none⟩=_:=fun k=>bm (bj a.hd);have c2:∀k,bf G h ⟨bp,k,none⟩=_:=fun k=>bm (bj a.row);refine aJ6 (by simp) ?_;unfold S118;simp (disch:=first|decide|omega) only [bRtH,c1];simp only [bRtH,c2,it0 hi,it1 hi,it2 hi,it3 hi,it0 hj,it1 hj,it2 hj,it3 hj];refine Eq.mpr (Dn itC (x:=y) J4 a.row hil) ?_;refine Eq.mpr (Dn itC (x:=x) J4 bh (by simpa using hjl)) ?_;rw [set_set]
theorem HA.swap {h:Hp} {hp bp cap:Nat} {L L':List It} {n:Int} {t:List Value} (a:HA h hp bp cap L n t) (hl:L'.length=L.length):HA (h.set bp (.cells (itC.rows L'++t).toArray 227 (0,0))) hp bp cap L' n t:=
 ⟨by rw [ci a.ne,hl];exact a.hd,bh⟩
theorem tdiv2 {m:Nat}:((m:Int)).tdiv 2=((m / 2:Nat):Int):=by rw [Int.tdiv_eq_ediv_of_nonneg (by omega)];omega
theorem up_spec {G h:Hp} {hp bp cap:Nat} {L:List It} {n:Int} {t:List Value} (a:HA h hp bp cap L n t) (hL:L.length<=68719476736) {i:Nat} (hi:i<L.length):
 bn P_ G 147 #[.pointer (some ⟨hp,0,none⟩),i] h (fun v h'=>h'=h.set bp (.cells (itC.rows (mi L i)++t).toArray 227 (0,0))):=by
 refine aH1 (by simp) ?_;unfold S147;refine dt (fun m r h'=>m<L.length/\r 0 = .pointer (some ⟨hp,0,none⟩)/\r 1 = .int .i64 m/\∃M,M.length=L.length/\h'=h.set bp (.cells (itC.rows M++t).toArray 227 (0,0))/\mi M m=mi L i) ?_ (m:=i) ⟨hi,rfl,rfl,L,rfl,(Az a.row).symm,rfl⟩;rintro m r h' ⟨hm,e0,e1,M,hM,rfl,hs⟩ X hX;have a':=a.swap hM;unfold ag3;simp only [bRtH,e0,e1];by_cases h0:0<m
 . rw [js (show (m:Int)>0 by omega)];obtain ⟨k,rfl⟩:∃k,m=k+1:=⟨m-1,by omega⟩;have hk:((k+1:Nat):Int)-1=(k:Int):=by omega
   simp (disch:=first|decide|omega) only [bRtH,hk,tdiv2];obtain ⟨x,hx⟩:∃x,M[k+1]?=some x:=⟨_,aa_ (by omega)⟩;obtain ⟨y,hy⟩:∃y,M[k / 2]?=some y:=⟨_,aa_ (by omega)⟩;refine (Lw a' hx hy).mono ?_;rintro _ _ ⟨rfl,rfl⟩;have ea:uf M (k+1) (k / 2)=x.lt y:=by simp [uf,hx,hy]
   refine nu (fun hlt=>?_) (fun hge=>?_)
   . unfold Mn;simp (disch:=first|decide|omega) only [bRtH,e0,e1,hk,tdiv2];refine (Gs a' hx hy).mono ?_;rintro _ _ rfl;refine hX (k / 2) _ _ (by omega) ⟨by omega,by simp (disch:=decide) only [bRtH,e0],by simp only [bRtH],qd M (k+1) (k / 2),by rw [fg];exact hM,?_,?_⟩
     . rw [set_set];simp [qd,hx,hy]
     . rw [<- hs];conv=>rhs;rw [mi]
       rw [dif_pos ⟨by omega,by rw [show k+1-1=k by omega,ea];exact hlt⟩];rfl
   . have e:mi M (k+1)=M:=by rw [mi,dif_neg];rw [show k+1-1=k by omega,ea,hge];simp
     rw [<- hs,e]
 . rw [kc (show ¬(m:Int)>0 by omega)];simp only [bRtH];have e:mi M m=M:=by rw [mi,dif_neg (by omega)]
   rw [<- hs,e]
def HR (h:Hp) (hp:Nat) (L:List It) (n:Int) (ob:Option Nat):Prop:=
 ∃sl,h hp=some (.cells #[.func (.func 64) #[] #[],sl,n] 218 (0,0))/\Own itC 227 h sl L ob
theorem HR.HA {h:Hp} {hp:Nat} {L:List It} {n:Int} {b:Nat} (a:HR h hp L n (some b)):∃cap t,HA h hp b cap L n t/\(itC.rows L++t).length=cap*4:=by obtain ⟨sl,h1,cap,t,rfl,h2,h3⟩:=a;exact ⟨cap,t,⟨h1,h2⟩,h3⟩
theorem yi {G h:Hp}:bn P_ G 63 #[.func (.func 64) #[] #[]] h (fun v h'=>∃x,v = .pointer (some ⟨x,0,none⟩)/\h x=none/\G x=none/\h'=h.set x (.cells #[.func (.func 64) #[] #[],.slice none 0 0,(0:Int)] 218 (0,0))):=by refine enter63 (by simp) ?_;unfold S63;simp only [bRtH];intro x hx gx;exact ⟨x,rfl,hx,gx,rfl⟩
theorem ao8 {G h:Hp} {hp:Nat} {L:List It} {n:Int} {ob:Option Nat} (a:HR h hp L n ob) (hL:L.length<=34359738368) (hn0:0<=n) (hn:n<=68719476736) {k m s:Int}:
 bn P_ G 116 #[.pointer (some ⟨hp,0,none⟩),.agg #[k,m,s]] h (fun v h'=>∃b cap ts,(ob=some b\/(h b=none/\G b=none))/\(itC.rows (mi (L++[⟨k,m,s,n⟩]) L.length)++ts).length=cap*4/\
  h'=(h.set hp (.cells #[.func (.func 64) #[] #[],.slice (some ⟨b,0,none⟩) (L.length+1) cap,.int .i64 (n+1)] 218 (0,0))).set b (.cells (itC.rows (mi (L++[⟨k,m,s,n⟩]) L.length)++ts).toArray 227 (0,0))):=by
 obtain ⟨sl,h1,o⟩:=a;have c1:∀k,bf G h ⟨hp,k,none⟩=_:=fun k=>bm (bj h1)
 refine bn.less (aJ8 (by simp) (R:=fun v hf=>∃b cap ts,(ob=some b\/(h b=none/\G b=none))/\(itC.rows (mi (L++[⟨k,m,s,n⟩]) L.length)++ts).length=cap*4/\
  ((h.set hp (.cells #[.func (.func 64) #[] #[],.slice (some ⟨b,0,none⟩) (L.length+1) cap,.int .i64 (n+1)] 218 (0,0))).set b (.cells (itC.rows (mi (L++[⟨k,m,s,n⟩]) L.length)++ts).toArray 227 (0,0))).le hf) ?_)
  (fun v hf ⟨b,cap,ts,h1,h2,h3⟩=>⟨_,h3,b,cap,ts,h1,h2,rfl⟩)
 unfold S116;simp only [bRtH];intro x hx gx;have e1:hp≠x:=il h1 hx;simp only [bRtH,bv e1,c1];unfold ak4;simp (disch:=decide) only [bRtH,bv e1,c1];intro q hq gq;have exq:x≠q:=ju hq;have hq':=jx hq;have e2:hp≠q:=il h1 hq'
 have o':Own itC 227 ((h.set x (.cells #[k,m,s] 139 (0,0))).set q (.cells #[k,m,s,n] 227 (0,0))) sl L ob:=by
  cases ob with
  |none=>exact o
  |some b=>obtain ⟨cap,t,r1,r2,r3⟩:=o;exact ⟨cap,t,r1,by rw [ci (il r2 hq'),ci (il r2 hx)];exact r2,r3⟩
 refine Ir itC (M:=[⟨k,m,s,n⟩]) Zi eoitem (by decide) o' ⟨rfl,.inr ⟨q,0,1,rfl,fun j hj=>?_⟩⟩ (by simp) (by simp;omega) ?_
 . rw [a1_,C8];rfl
 intro b cap ts hb hlen
 have e3:hp≠b:=by
  rcases hb with hb|⟨hb,_⟩
  . subst hb;obtain ⟨_,_,_,r2,_⟩:=o;intro e;rw [e,r2]at h1;simp at h1
  . exact il h1 (jx (jx hb))
 have hb2:ob=some b\/(h b=none/\G b=none):=hb.imp id fun ⟨u,v⟩=>⟨jx (jx u),v⟩;simp only [fk e3,fk e2,fk e1];rw [ec sz216 rfl h1 (by simp)];simp (disch:=first|decide|omega) only [bRtH,fk e3,fk e2,fk e1,bv e1,bv e2,bv e3];have hLl:(L++[⟨k,m,s,n⟩]:List It).length=L.length+1:=by simp
 have a2:HA ((((h.set hp (.cells #[.func (.func 64) #[] #[],.slice (some ⟨b,0,none⟩) (L.length+1) cap,.int .i64 (n+1)] 218 (0,0))).set x (.cells #[k,m,s] 139 (0,0))).set q (.cells #[k,m,s,n] 227 (0,0))).set b
  (.cells (itC.rows (L++[⟨k,m,s,n⟩])++ts).toArray 227 (0,0))) hp b cap (L++[⟨k,m,s,n⟩]) (n+1) ts:=
  ⟨by rw [ci e3,ci e2,ci e1,bh,hLl],bh⟩
 try simp -implicitDefEqProofs (maxSteps:=2000000) (disch:=first|decide|with_reducible exact aA_ rfl|exact b8|exact bw|omega|rfl|(simp;done)|fail) only [bRtH,Nat.reduceAdd,Nat.reduceMul,bv e1,bv e2,bv e3]
 rw [show ((L.length+1:Nat):Int)-1=(L.length:Int)by omega];refine (up_spec a2 (by simp;omega) (by simp)).mono ?_;rintro _ _ rfl;refine ⟨b,cap,ts,hb2,?_,?_⟩
 . rw [ae_,itC.rows_length]at hlen ⊢;rw [xj];exact hlen
 . rw [set_set];refine Hp.le.both ?_;intro y o hy;by_cases e4:y=hp
   . subst e4;rw [bh]at hy;rw [ci e2,ci e1,bh];exact hy
   . rw [ci e4]at hy;rw [ci (il hy hq'),ci (il hy hx),ci e4];exact hy
theorem ar0 {G h:Hp} {x y:Value} {K:VK}:wpH P_ G (Instr.index 110 (.agg #[x,y]) (.int .i64 0)) h K=K x h:=by kernel_rfl
theorem ar1 {G h:Hp} {x y:Value} {K:VK}:wpH P_ G (Instr.index 110 (.agg #[x,y]) (.int .i64 1)) h K=K y h:=by kernel_rfl
theorem aq0 {G h:Hp} {hp bp cap:Nat} {M:List It} {n:Int} {t:List Value} (a:HA h hp bp cap M n t) (hM:M.length<=68719476736) {r:Rg} {K:EK} {q k f j:Nat} (g0:r 0 = .pointer (some ⟨hp,0,none⟩))
 (g14:r 14 = .agg #[.int .i64 (2*j+1),.int .i64 (2*j+2)]) (g15:r 15 = .int .i64 q) (hk:(q=0/\k=2*j+1)\/(q=1/\k=2*j+2)) (g4:r 4 = .int .i64 f) (hf:k<M.length->f<M.length)
 (H:∀r',r' 0=r 0->r' 1=r 1->r' 14=r 14->r' 15 = .int .i64 (q+1)->r' 4 = .int .i64 (jd M f k:Nat)->K .normal r' h):xx G K r h:=by
 have c1:∀k,bf G h ⟨hp,k,none⟩=_:=fun k=>bm (bj a.hd)
 have ei:∀(K:Value->Hp->Prop),wpH P_ G (Instr.index 110 (r 14) (r 15)) h K=K (k:Nat) h:=by
  intro K;rw [g14,g15];rcases hk with ⟨rfl,rfl⟩|⟨rfl,rfl⟩
  . exact ar0
  . exact ar1
 have q1:(q:Int)+1<=2:=by omega
 unfold xx;simp only [bRtH,ei,g0,g4,c1];by_cases hlt:k<M.length
 . rw [js (show (k:Int)<(M.length:Int)by omega)];simp only [bRtH];obtain ⟨x,hx⟩:∃x,M[k]?=some x:=⟨_,aa_ hlt⟩;obtain ⟨y,hy⟩:∃y,M[f]?=some y:=⟨_,aa_ (hf hlt)⟩;refine (Lw a hx hy).mono ?_;rintro _ _ ⟨rfl,rfl⟩;have ea:uf M k f=x.lt y:=by simp [uf,hx,hy]
   refine nu (fun e=>?_) (fun e=>?_)
   . unfold qp;simp (disch:=first|decide|omega) only [bRtH,g15];refine H _ (by simp (disch:=decide) only [bRtH]) (by simp (disch:=decide) only [bRtH]) (by simp (disch:=decide) only [bRtH]) (by simp only [bRtH]) ?_;simp (disch:=decide) only [bRtH];simp [jd,hlt,ea,e]
   . unfold qp;simp (disch:=first|decide|omega) only [bRtH,g15];refine H _ (by simp (disch:=decide) only [bRtH]) (by simp (disch:=decide) only [bRtH]) (by simp (disch:=decide) only [bRtH]) (by simp only [bRtH]) ?_;simp (disch:=decide) only [bRtH,g4];simp [jd,hlt,ea,e]
 . rw [kc (show ¬(k:Int)<(M.length:Int)by omega)];simp only [bRtH];unfold qp;simp (disch:=first|decide|omega) only [bRtH,g15];refine H _ (by simp (disch:=decide) only [bRtH]) (by simp (disch:=decide) only [bRtH]) (by simp (disch:=decide) only [bRtH]) (by simp only [bRtH]) ?_;simp (disch:=decide) only [bRtH,g4];simp [jd,hlt]
theorem as2 {G h:Hp} {hp bp cap:Nat} {L:List It} {n:Int} {t:List Value} (a:HA h hp bp cap L n t) (hL:L.length<=68719476736) {i:Nat} (hi:i<=L.length):
 bn P_ G 119 #[.pointer (some ⟨hp,0,none⟩),i] h (fun v h'=>h'=h.set bp (.cells (itC.rows (j5 L i)++t).toArray 227 (0,0))):=by
 refine aJ5 (by simp) ?_;unfold S119;refine dt (fun m r h'=>∃j:Nat,j<=L.length/\m=L.length-j/\r 0 = .pointer (some ⟨hp,0,none⟩)/\r 1 = .int .i64 j/\∃M,M.length=L.length/\h'=h.set bp (.cells (itC.rows M++t).toArray 227 (0,0))/\j5 M j=j5 L i) ?_ (m:=L.length-i) ⟨i,hi,rfl,rfl,rfl,L,rfl,(Az a.row).symm,rfl⟩;rintro m r h' ⟨j,hj,rfl,e0,e1,M,hM,rfl,hs⟩ X hX;have a':=a.swap hM;have c1:∀k,bf G (h.set bp (.cells (itC.rows M++t).toArray 227 (0,0))) ⟨hp,k,none⟩=_:=fun k=>bm (bj a'.hd);unfold ak2;simp (disch:=first|decide|omega) only [bRtH,e0,e1]
 refine dt (fun m r' h'=>∃q:Nat,q<=2/\m=2-q/\r' 0 = .pointer (some ⟨hp,0,none⟩)/\r' 1 = .int .i64 j/\r' 14 = .agg #[.int .i64 (2*j+1),.int .i64 (2*j+2)]/\r' 15 = .int .i64 q/\
  r' 4 = .int .i64 (if q=0 then j else if q=1 then jd M j (2*j+1)else nh M j:Nat)/\h'=h.set bp (.cells (itC.rows M++t).toArray 227 (0,0))) ?_ (m:=2) ⟨0,by omega,rfl,by simp (disch:=decide) only [bRtH,e0],by simp (disch:=decide) only [bRtH,e1],by simp (disch:=decide) only [bRtH],by simp only [bRtH];rfl,by simp (disch:=decide) only [bRtH,e1],rfl⟩
 rintro m r' h' ⟨q,hq,rfl,f0,f1,f14,f15,f4,rfl⟩ Y hY;unfold Nh
 have f4j:∃f:Nat,r' 4 = .int .i64 f/\f<=M.length/\(f=j\/f<M.length):=by
  refine ⟨_,f4,?_⟩;have h1:=pu M j;have h2:=Cj M j (2*j+1);split
  . omega
  . split<;>omega
 obtain ⟨f,f4',hf1,hf2⟩:=f4j;have hf:(if q=0 then j else if q=1 then jd M j (2*j+1)else nh M j)=f:=by rw [f4]at f4';have:=congrArg (fun v=>match v with | .int _ x=>x|_=>0) f4';simp only at this;omega
 simp only [bRtH,f15];by_cases hq2:q<2
 . rw [js (show (q:Int)<2 by omega)];simp only [bRtH];refine aq0 a' (by omega) (q:=q) (k:=2*j+1+q) (f:=f) (j:=j) (by simp (disch:=decide) only [bRtH,f0]) (by simp (disch:=decide) only [bRtH,f14]) (by simp (disch:=decide) only [bRtH,f15]) (by omega) (by simp (disch:=decide) only [bRtH,f4']) (by omega) ?_;intro r2 g0 g1 g14 g15 g4;refine hY (2-(q+1)) _ _ (by omega) ⟨q+1,by omega,rfl,by rw [g0];simp (disch:=decide) only [bRtH,f0],by rw [g1];simp (disch:=decide) only [bRtH,f1],by rw [g14];simp (disch:=decide) only [bRtH,f14],by rw [g15];rfl,?_,rfl⟩;rw [g4,<- hf];rcases (show q=0\/q=1 by omega)with rfl|rfl<;>rfl
 . have q2:q=2:=by omega
   subst q2;rw [kc (show ¬((2:Nat):Int)<2 by omega)];have hff:nh M j=f:=by simpa using hf
   simp only [bRtH];unfold Nj;simp (disch:=decide) only [bRtH,f4',f1];by_cases hfj:f=j
   . rw [show ((f:Int)==(j:Int))=true by simp [hfj]];simp only [bRtH];have e:j5 M j=M:=by rw [j5,dif_pos (by rw [hff,hfj])]
     rw [<- hs,e]
   . rw [show ((f:Int)==(j:Int))=false by simp;omega];simp only [bRtH];unfold Ni;have hfo:=(pu M j).resolve_left (by rw [hff];exact hfj);rw [hff]at hfo;obtain ⟨x,hx⟩:∃x,M[j]?=some x:=⟨_,aa_ (by omega)⟩;obtain ⟨y,hy⟩:∃y,M[f]?=some y:=⟨_,aa_ (by omega)⟩;simp (disch:=decide) only [bRtH,f0,f1,f4'];refine (Gs a' hx hy).mono ?_;rintro _ _ rfl;refine hX (L.length-f) _ _ (by omega) ⟨f,by omega,rfl,by simp (disch:=decide) only [bRtH,f0],by simp only [bRtH,f4'],qd M j f,by rw [fg];exact hM,?_,?_⟩
     . rw [set_set];simp [qd,hx,hy]
     . rw [<- hs];conv=>rhs;rw [j5]
       rw [dif_neg (by rw [hff];exact hfj),hff]
def pkV:List It->Value
 |[] => .tuple #[.agg #[(0:Int),(0:Int),(0:Int)],.bool false]
 |x::_ => .tuple #[.agg #[x.k,x.m,x.s],.bool true]
theorem HR.slice {h:Hp} {hp:Nat} {L:List It} {n:Int} {ob:Option Nat} (a:HR h hp L n ob):∃sa cap,h hp=some (.cells #[.func (.func 64) #[] #[],.slice sa L.length cap,n] 218 (0,0)):=by
 obtain ⟨sl,h1,o⟩:=a;cases ob with
 |none=>obtain ⟨rfl,rfl⟩:=o;exact ⟨none,0,h1⟩
 |some b=>obtain ⟨cap,t,rfl,_⟩:=o;exact ⟨_,cap,h1⟩
theorem Ot {G h:Hp} {hp:Nat} {L:List It} {n:Int} {ob:Option Nat} (a:HR h hp L n ob):bn P_ G 117 #[.pointer (some ⟨hp,0,none⟩)] h (fun v h'=>v=pkV L/\h'=h):=by
 obtain ⟨sa,cap,h1⟩:=a.slice;have c1:∀k,bf G h ⟨hp,k,none⟩=_:=fun k=>bm (bj h1);refine quietly (aJ7 (by simp) ?_);unfold S117;simp (disch:=decide) only [bRtH];intro x hx gx;have e1:hp≠x:=il h1 hx;simp only [bRtH,bv e1,c1];cases L with
 |nil=>simp only [bRtH,show (((0:Nat):Int)==0)=true from rfl];intro y hy gy;have e2:x≠y:=ju hy;simp (disch:=first|decide|exact b8|exact bw|omega|rfl) only [bRtH,bv e2,fk e2];exact ⟨rfl,((Hp.le.refl h).set hx).set (jx hy)⟩
 |cons z L=>
  simp only [bRtH,show ((((z::L).length:Nat):Int)==0)=false by simp only [an_,beq_eq_false_iff_ne,ne_eq];omega];unfold ak3;cases ob with
  |none=>obtain ⟨_,_,_,hL⟩:=a;cases hL
  |some b=>
   obtain ⟨cap',t,ha,_⟩:=a.HA;have h2:=ha.hd;rw [h1]at h2;have e3:sa=some ⟨b,0,none⟩/\cap=cap':=by simpa using h2
   obtain ⟨rfl,rfl⟩:=e3;have c2:∀k,bf G h ⟨b,k,none⟩=_:=fun k=>bm (bj ha.row);have e4:b≠x:=il ha.row hx;have i0:=it0 (t:=t) (show (z::L)[0]?=some z from rfl);have i1:=it1 (t:=t) (show (z::L)[0]?=some z from rfl);have i2:=it2 (t:=t) (show (z::L)[0]?=some z from rfl);rw [bH_]at i0 i1 i2;rw [a1_]at i1 i2;have hlen:(0:Int)<((z::L).length:Nat):=by simp only [an_];omega
   simp (disch:=first|decide|omega) only [bRtH,bv e1,bv e4,c1,ix216 (aS_ 0) hlen,ca_,bH_];simp (disch:=first|decide|exact b8|exact bw|omega|rfl) only [bRtH,bv e1,bv e4,c2,i0,i1,i2];exact ⟨rfl,(Hp.le.refl h).set hx⟩
theorem pop_nil {G h:Hp} {hp:Nat} {n:Int} {ob:Option Nat} (a:HR h hp [] n ob):bn P_ G 68 #[.pointer (some ⟨hp,0,none⟩)] h (fun v h'=>v=pkV []/\h'=h):=by
 refine quietly (ac9 (by simp) ?_);unfold S68;simp (disch:=decide) only [bRtH];intro x hx gx;obtain ⟨sl,h1,o⟩:=a;have e1:hp≠x:=il h1 hx
 have a':HR (h.set x (.cells #[(0:Int),(0:Int),(0:Int)] 139 (0,0))) hp [] n ob:=by
  refine ⟨sl,by rw [ci e1];exact h1,?_⟩;cases ob with
  |none=>exact o
  |some b=>obtain ⟨cap,t,q1,q2,q3⟩:=o;exact ⟨cap,t,q1,by rw [ci (il q2 hx)];exact q2,q3⟩
 refine (Ot a').mono ?_;rintro _ _ ⟨rfl,rfl⟩;simp (disch:=first|decide|exact b8|exact bw|omega|rfl) only [bRtH,pkV];intro y hy gy;have e2:x≠y:=ju hy;simp (disch:=first|decide|exact b8|exact bw|omega|rfl) only [bRtH,bL_,bv e2,fk e2];exact ((Hp.le.refl h).set hx).set (jx hy)
theorem HR.keep {h h':Hp} {hp:Nat} {L:List It} {n:Int} {ob:Option Nat} (a:HR h hp L n ob) (e1:h' hp=h hp) (e2:∀b,ob=some b->h' b=h b):HR h' hp L n ob:=by
 obtain ⟨sl,h1,o⟩:=a;refine ⟨sl,by rw [e1];exact h1,?_⟩;cases ob with
 |none=>exact o
 |some b=>obtain ⟨cap,t,q1,q2,q3⟩:=o;exact ⟨cap,t,q1,by rw [e2 b rfl];exact q2,q3⟩
theorem HR.new {h:Hp} {hp:Nat} {L:List It} {n:Int} {ob:Option Nat} (a:HR h hp L n ob) {x:Nat} {o:Obj} (hx:h x=none):HR (h.set x o) hp L n ob:=by obtain ⟨sa,cap,h1⟩:=a.slice;refine a.keep (by rw [ci (il h1 hx)]) (fun b hb=>?_);subst hb;obtain ⟨sl,_,cap,t,_,q2,_⟩:=a;rw [ci (il q2 hx)]
theorem ax8 {G h:Hp} {hp b cap:Nat} {x:It} {L:List It} {n:Int} {t:List Value} (a:HA h hp b cap (x::L) n t) (hlen:(itC.rows (x::L)++t).length=cap*4) (hL:L.length<=34359738368):
 bn P_ G 68 #[.pointer (some ⟨hp,0,none⟩)] h (fun v h'=>v=pkV (x::L)/\∃ts,(itC.rows (popL (x::L))++ts).length=cap*4/\
  h'=(h.set hp (.cells #[.func (.func 64) #[] #[],.slice (some ⟨b,0,none⟩) L.length cap,n] 218 (0,0))).set b (.cells (itC.rows (popL (x::L))++ts).toArray 227 (0,0))):=by
 refine bn.less (ac9 (by simp) (R:=fun v hf=>v=pkV (x::L)/\∃ts,(itC.rows (popL (x::L))++ts).length=cap*4/\
  ((h.set hp (.cells #[.func (.func 64) #[] #[],.slice (some ⟨b,0,none⟩) L.length cap,n] 218 (0,0))).set b (.cells (itC.rows (popL (x::L))++ts).toArray 227 (0,0))).le hf) ?_)
  (fun v hf ⟨h1,ts,h2,h3⟩=>⟨_,h3,h1,ts,h2,rfl⟩)
 unfold S68;simp (disch:=decide) only [bRtH];intro y hy gy;have ehy:hp≠y:=il a.hd hy;have eby:b≠y:=il a.row hy;have ehb:=a.ne;have aHR:HR h hp (x::L) n (some b):=⟨_,a.hd,cap,t,rfl,a.row,hlen⟩;refine (Ot (aHR.new hy)).mono ?_;rintro _ _ ⟨rfl,rfl⟩;simp (disch:=first|decide|exact b8|exact bw|omega|rfl) only [bRtH,pkV];intro z hz gz;have eyz:y≠z:=ju hz;have hz':=jx hz;have ehz:hp≠z:=il a.hd hz';have ebz:b≠z:=il a.row hz';have c1:∀k,bf G h ⟨hp,k,none⟩=_:=fun k=>bm (bj a.hd);try simp (disch:=first|decide|omega) only [bRtH,Nat.reduceAdd,Nat.reduceMul,bW_]
 unfold aP8;simp (disch:=first|decide|omega) only [bRtH,bv ehy,bv ehz,c1];rw [show (((L.length+1:Nat):Int)-1)=((L.length:Nat):Int)by omega]
 have a1:HA ((h.set y (.cells #[(0:Int),(0:Int),(0:Int)] 139 (0,0))).set z (.cells #[x.k,x.m,x.s] 139 (0,0))) hp b cap (x::L) n t:=
  ⟨by rw [ci ehz,ci ehy];exact a.hd,by rw [ci ebz,ci eby];exact a.row⟩
 obtain ⟨l,hl⟩:∃l,(x::L)[L.length]?=some l:=⟨_,aa_ (by simp)⟩;refine (Gs a1 (i:=0) (j:=L.length) rfl hl).mono ?_;rintro _ _ rfl;have hM:((x::L).set 0 l).set L.length x=qd (x::L) 0 L.length:=by unfold qd;rw [hl];rfl
 rw [hM];have hMl:(qd (x::L) 0 L.length).length=L.length+1:=by rw [fg];rfl
 have hcap:L.length+1<=cap:=by rw [ae_,itC.rows_length]at hlen;simp only [an_,itC]at hlen;omega
 generalize hMM:qd (x::L) 0 L.length=M at*;have hi:((L.length:Nat):Int)<(((x::L).length:Nat):Int):=by simp only [an_];omega
 simp (disch:=first|decide|omega) only [bRtH,bv ehb,bv ehy,bv ehz,c1,ix216 (ac_ L.length) hi];refine Eq.mpr (Dn itC (x:=⟨0,0,0,0⟩) J4 bh (by omega)) ?_;rw [set_set];simp only [bRtH,bv ehb,bv ehy,bv ehz,c1];rw [Ay Zi J4 (ac_ L.length) (by omega)];simp only [fk ehb,fk ehz,fk ehy];rw [ec sz216 rfl a.hd (by simp)];have hset:M.set L.length ⟨0,0,0,0⟩=M.dropLast++[⟨0,0,0,0⟩]:=by have:=az8 M ⟨0,0,0,0⟩ (by intro e;rw [e]at hMl;simp at hMl);rwa [hMl]at this
 have hrow:itC.rows (M.set L.length ⟨0,0,0,0⟩)++t=itC.rows M.dropLast++(([.int .i64 0,.int .i64 0,.int .i64 0,.int .i64 0]:List Value)++t):=by rw [hset,itC.rows_append,itC.rows_single,aC_];rfl
 have hdl:M.dropLast.length=L.length:=by rw [bY_,hMl];rfl
 simp only [bRtH,hrow]
 have a2:HA ((((h.set hp (.cells #[.func (.func 64) #[] #[],.slice (some ⟨b,0,none⟩) L.length cap,n] 218 (0,0))).set y (.cells #[(0:Int),(0:Int),(0:Int)] 139 (0,0))).set z (.cells #[x.k,x.m,x.s] 139 (0,0))).set b
  (.cells (itC.rows M.dropLast++(([.int .i64 0,.int .i64 0,.int .i64 0,.int .i64 0]:List Value)++t)).toArray 227 (0,0))) hp b cap M.dropLast n (([.int .i64 0,.int .i64 0,.int .i64 0,.int .i64 0]:List Value)++t):=
  ⟨by rw [ci ehb,ci ehz,ci ehy,bh,hdl],bh⟩
 refine (as2 a2 (by omega) (i:=0) (by omega)).mono ?_;rintro _ _ rfl;have hpop:j5 M.dropLast 0=popL (x::L):=by unfold popL;rw [show (x::L).length-1=L.length from rfl,hMM]
 rw [hpop];simp (disch:=first|decide|exact b8|exact bw|omega|rfl) only [bRtH,set_set,bv (Ne.symm ebz),bv (Ne.symm eby),bv eyz,bv (Ne.symm eyz),fk (Ne.symm eby),fk eyz];refine ⟨_,?_,Hp.le.both ?_⟩
 . have h3:=congrArg List.length hrow;rw [ae_,ae_,itC.rows_length,itC.rows_length,aX_,hMl,hdl]at h3;rw [ae_,itC.rows_length]at hlen ⊢;rw [Be];simp only [an_,Nat.add_sub_cancel]at hlen ⊢;omega
 . refine Hp.le.set (Hp.le.set ?_ ?_) ?_
   . exact Hp.le.refl _
   . rw [ci (Ne.symm ehy)];exact hy
   . rw [ci (Ne.symm ehz)];exact hz'
def HP (a:Hp) (hp:Nat) (L:List It) (n:Int):Prop:=∃ob,HR a hp L n ob
theorem hr_of {h:Hp} {hp b cap:Nat} {L:List It} {n:Int} {ts:List Value} (ne:hp≠b) (hlen:(itC.rows L++ts).length=cap*4):
 HR ((h.set hp (.cells #[.func (.func 64) #[] #[],.slice (some ⟨b,0,none⟩) L.length cap,n] 218 (0,0))).set b (.cells (itC.rows L++ts).toArray 227 (0,0))) hp L n (some b):=
 ⟨_,by rw [ci ne,bh],cap,ts,rfl,bh,hlen⟩
theorem hpush {G h a:Hp} {R:List Hp} {hp:Nat} {L:List It} {n k m s:Int} (p:HP a hp L n) (sp:Sep (a::R) h) (hL:L.length<=34359738368) (hn0:0<=n) (hn:n<=68719476736):
 bn P_ G 116 #[.pointer (some ⟨hp,0,none⟩),.agg #[k,m,s]] h (fun v h'=>∃a',HP a' hp (mi (L++[⟨k,m,s,n⟩]) L.length) (n+1)/\Sep (a'::R) h'/\Dis G h'):=by
 obtain ⟨ob,hr⟩:=p;refine (Sep.on sp (ao8 hr hL hn0 hn)).mono ?_;rintro v h' ⟨a',⟨b,cap,ts,hb,hlen,rfl⟩,s',d'⟩;refine ⟨_,⟨some b,?_⟩,s',d'⟩
 have ne:hp≠b:=by
  rcases hb with rfl|⟨hb,_⟩
  . obtain ⟨_,_,ha,_⟩:=hr.HA;exact ha.ne
  . obtain ⟨sl,h1,_⟩:=hr;exact il h1 hb
 have hl:(mi (L++[⟨k,m,s,n⟩]) L.length).length=L.length+1:=by rw [xj];simp
 rw [<- hl];exact hr_of ne hlen
theorem aA3 {G h a:Hp} {R:List Hp} {hp:Nat} {n:Int} (p:HP a hp [] n) (sp:Sep (a::R) h):
 bn P_ G 68 #[.pointer (some ⟨hp,0,none⟩)] h (fun v h'=>v=pkV []/\h'=h):=by obtain ⟨ob,hr⟩:=p;refine pop_nil (ob:=ob) (n:=n) ?_;obtain ⟨sl,h1,o⟩:=hr;exact ⟨sl,sp.hd _ _ h1,Own.le o sp.hd⟩
theorem hpop {G h a:Hp} {R:List Hp} {hp:Nat} {x:It} {L:List It} {n:Int} (p:HP a hp (x::L) n) (sp:Sep (a::R) h) (hL:L.length<=34359738368):
 bn P_ G 68 #[.pointer (some ⟨hp,0,none⟩)] h (fun v h'=>v=pkV (x::L)/\∃a',HP a' hp (popL (x::L)) n/\Sep (a'::R) h'/\Dis G h'):=by
 obtain ⟨ob,hr⟩:=p;cases ob with
 |none=>obtain ⟨sl,_,_,hL⟩:=hr;cases hL
 |some b=>
  obtain ⟨cap,t,ha,hlen⟩:=hr.HA;refine (Sep.on sp (ax8 ha hlen hL)).mono ?_;rintro v h' ⟨a',⟨rfl,ts,hlen',rfl⟩,s',d'⟩;refine ⟨rfl,_,⟨some b,?_⟩,s',d'⟩;have hl:(popL (x::L)).length=L.length:=by rw [Be];rfl
  rw [<- hl];exact hr_of ha.ne hlen'
end Go.Proofs.YtfflipnhffknnaaGreatDoor.Hw
end
section
namespace Go.Proofs.YtfflipnhffknnaaGreatDoor
open Go Go.HL Go.Proofs.Resv Go.Proofs.Srch
abbrev Nd:=Int × Int
abbrev ndV (c:Nd):Value := .agg #[c.1,c.2]
theorem deqnode (d:Nat) {x0 y0:Int} {x1 y1:Int}:Det P_ (Op.equalIn (d+1+1) 137 (.agg #[x0,x1]) (.agg #[y0,y1])) ((x0==y0)&&((x1==y1)&&true)):=by refine zv Tryz.underlying137 (by kernel_rfl) ?_;refine rr (by decide) (jt Tryz.underlying3 rfl rfl) (jt Tryz.underlying3 rfl rfl) (zw (d:=d+0) Tryz.underlying3) ?_;refine rr (by decide) (jt Tryz.underlying3 rfl rfl) (jt Tryz.underlying3 rfl rfl) (zw (d:=d+0) Tryz.underlying3) ?_;exact Jo
theorem Ro:Qw P_ 137 (fun c:Nd=>ndV c):=by
 refine ⟨⟨_,Tryz.underlying137⟩,fun a b=>?_,fun b a=>⟨by intro G h K;kernel_rfl,by intro G h K;kernel_rfl⟩,fun a=>?_⟩
 . have:=deqnode 9998 (x0:=a.1) (x1:=a.2) (y0:=b.1) (y1:=b.2);rw [bz_]at this;exact this
 . rw [show (10000:Nat)=9999+1 from rfl];simp [Instr.sameBits]
abbrev SS:=List (St Pose Move)
def yh (w k:Nat) (x:St Pose Move):Nd:=(numP w k x.p,(x.i:Int))
def ji (w k:Nat) (S:SS) (b:Int):Nd:=if b<0 then (0,0)else match S[b.toNat]? with
 |some y=>yh w k y
 |none=>(0,0)
def stpL (f:Nd) (m:Move) (a:Int) (dn:Bool):List Value:=[.int .i64 f.1,.int .i64 f.2,.int .i64 m.k,.int .i64 m.d,.int .i64 m.n,.int .i64 m.f.x,.int .i64 m.f.y,.bool m.f.d,.int .i64 m.t.x,.int .i64 m.t.y,.bool m.t.d,.int .i64 m.a,.int .i64 m.e,.int .i64 a,.bool dn]
abbrev rl (f:Nd) (m:Move) (a:Int) (dn:Bool):Obj := .cells (stpL f m a dn).toArray 146 (0,0)
def entV (e:Nd × Nat):Nd × Value:=(e.1,.pointer (some ⟨e.2,0,none⟩))
structure StE (w k:Nat) (b:Hp) (E:List (Nd × Nat)) (S:SS):Prop where
 len:E.length=S.length
 nod:(E.map (·.2)).Nodup
 cel:∀(i:Nat) (e:Nd × Nat) (x:St Pose Move),E[i]?=some e->S[i]?=some x->e.1=yh w k x/\b e.2=some (rl (ji w k S x.b) x.mv x.a x.dn)
def StP (w k:Nat) (a:Hp) (mt:Nat) (S:SS):Prop:=∃o E b,KMap (fun c:Nd=>ndV c) o (E.map entV)/\HL.Sep [noHp.set mt o,b] a/\StE w k b E S
theorem K9 {α β:Type} {pe:α->Bool} {ps:β->Bool}:∀{E:List α} {S:List β},E.length=S.length->(∀(j:Nat) (e:α) (x:β),E[j]?=some e->S[j]?=some x->pe e=ps x)->E.findIdx? pe=S.findIdx? ps
 |[],[],_,_=>rfl
 |[],_::_,h,_=>by simp at h
 |_::_,[],h,_=>by simp at h
 |e::E,x::S,h,hp=>by rw [List.findIdx?_cons,List.findIdx?_cons,hp 0 e x rfl rfl,K9 (E:=E) (S:=S) (by simpa using h) (fun j e x he hx=>hp (j+1) e x he hx)]
theorem StE.key {w k:Nat} {f:Nat->Nat->Int} {b:Hp} {E:List (Nd × Nat)} {S:SS} (s:StE w k b E S) (hS:∀x∈S,eu w k f x.p=true) {p:Pose} (hp:eu w k f p=true) {i:Nat}:
 kidx (E.map entV) (numP w k p,(i:Int))=key S p i:=by
 unfold kidx Srch.key;rw [List.findIdx?_map];refine K9 s.len fun j e x he hx=>?_;obtain ⟨h1,_⟩:=s.cel j e x he hx;show (e.1==(numP w k p,(i:Int)))=Vr p i x;rw [h1];unfold yh Vr;have hxf:=hS x (ab_ hx);rw [a6_];simp only [beq_iff_eq,Prod.mk.injEq,ag_,aw_];constructor
 . rintro ⟨h2,h3⟩;exact ⟨ye hxf hp h2,by omega⟩
 . rintro ⟨rfl,rfl⟩;exact ⟨rfl,rfl⟩
theorem StE.get {w k:Nat} {f:Nat->Nat->Int} {b:Hp} {E:List (Nd × Nat)} {S:SS} (s:StE w k b E S) (hS:∀x∈S,eu w k f x.p=true) {p:Pose} (hp:eu w k f p=true) {i:Nat}:
 (Srch.key S p i=none/\kget (E.map entV) (numP w k p,(i:Int))=none)\/
 ∃j e x,Srch.key S p i=some j/\E[j]?=some e/\S[j]?=some x/\kget (E.map entV) (numP w k p,(i:Int))=some (.pointer (some ⟨e.2,0,none⟩))/\b e.2=some (rl (ji w k S x.b) x.mv x.a x.dn):=by
 unfold kget;rw [s.key hS hp];cases h:Srch.key S p i with
 |none=>exact .inl ⟨rfl,rfl⟩
 |some j=>
  obtain ⟨x,hx,_,_⟩:=vl h;have hj:j<E.length:=by rw [s.len];exact (ad_.1 hx).1
  obtain ⟨e,he⟩:∃e,E[j]?=some e:=⟨_,aa_ hj⟩;refine .inr ⟨j,e,x,rfl,he,hx,?_,(s.cel j e x he hx).2⟩;simp [aO_,he,entV]
theorem Vy {w k:Nat} {S:SS} {y:St Pose Move} {b:Int} (hb:b<0\/b.toNat<S.length):ji w k (S++[y]) b=ji w k S b:=by
 unfold ji;split
 . rfl
 . rename_i h;rw [aq_ (by omega)]
theorem Fg {w k:Nat} {S:SS} {j:Nat} {x y:St Pose Move} {b:Int} (hx:S[j]?=some x) (h1:y.p=x.p) (h2:y.i=x.i):ji w k (S.set j y) b=ji w k S b:=by
 unfold ji;split
 . rfl
 . by_cases hj:j=b.toNat
   . subst hj;rw [aB_ (ad_.1 hx).1,hx];simp [yh,h1,h2]
   . rw [ax_ hj]
theorem Ox {α:Type} {x:α}:∀{L:List α} {j:Nat},L.Nodup->x∉L->(L.set j x).Nodup
 |[],j,h,_=>by simp
 |a::L,0,h,hn=>by rw [bh_];exact bP_.2 ⟨fun hm=>hn (.tail _ hm),(bP_.1 h).2⟩
 |a::L,j+1,h,hn=>by
  rw [b5_];refine bP_.2 ⟨fun hm=>?_,Ox (bP_.1 h).2 (fun hm=>hn (.tail _ hm))⟩;rcases bb_ hm with h1|h1
  . exact (bP_.1 h).1 h1
  . exact hn (h1 ▸ .head _)
theorem StE.put {w k:Nat} {f:Nat->Nat->Int} {b:Hp} {E:List (Nd × Nat)} {S:SS} (s:StE w k b E S) (hS:∀x∈S,eu w k f x.p=true) (hby:∀x∈S,x.b<0\/x.b.toNat<S.length) {p:Pose} (hp:eu w k f p=true) {i:Nat} {sp:Sp} {t:Int} {m:Move} {bi:Int} (hbi:bi<0\/bi.toNat<S.length) {x1:Nat} (hx1:b x1=none)
 (hlt:∀j x,Srch.key S p i=some j->S[j]?=some x->t<x.a/\x.dn=false):
 ∃E',kput (E.map entV) (numP w k p,(i:Int)) (.pointer (some ⟨x1,0,none⟩))=E'.map entV/\StE w k (b.set x1 (rl (ji w k S bi) m t false)) E' (Ai S p i sp t m bi):=by
 have hno:x1∉E.map (·.2):=fun hm=>by obtain ⟨e,he,rfl⟩:=ba_.1 hm;obtain ⟨j,hj,rfl⟩:=bj_ he;have:=(s.cel j _ _ (aa_ hj) (aa_ (by rw [<- s.len];exact hj))).2;rw [hx1]at this;cases this
 have hne:∀(j:Nat) (e:Nd × Nat),E[j]?=some e->e.2≠x1:=fun j e he h=>hno (by rw [<- h];exact ba_.2 ⟨e,ab_ he,rfl⟩);unfold kput Ai;rw [s.key hS hp];cases h:Srch.key S p i with
 |none=>
  refine ⟨E++[((numP w k p,(i:Int)),x1)],by simp [entV],⟨by simp [s.len],?_,fun j e x he hx=>?_⟩⟩
  . rw [bQ_,a9_];refine ⟨s.nod,by simp,?_⟩;intro a ha b' hb' e;simp at hb';subst hb';subst e;exact hno ha
  . by_cases hj:j<E.length
    . rw [aq_ hj]at he;rw [aq_ (by rw [<- s.len];exact hj)]at hx;obtain ⟨h1,h2⟩:=s.cel j e x he hx;rw [ci (hne j e he),Vy (hby x (ab_ hx))];exact ⟨h1,h2⟩
    . rw [aF_ (by omega)]at he;rw [aF_ (by rw [<- s.len];omega),<- s.len]at hx;have hj0:j-E.length=0:=by have:=(ad_.1 he).1;simp at this;omega
      rw [hj0]at he hx;cases he;cases hx;exact ⟨rfl,by rw [bh,Vy hbi]⟩
 |some j=>
  obtain ⟨x,hx,e1,e2⟩:=vl h;obtain ⟨hlt',hdn⟩:=hlt j x h hx;have hjS:j<S.length:=(ad_.1 hx).1;have hjE:j<E.length:=by rw [s.len];exact hjS
  simp only [hx,ak_ hlt'];refine ⟨E.set j ((numP w k p,(i:Int)),x1),by rw [List.map_set];rfl,⟨by simp [s.len],?_,fun l e y he hy=>?_⟩⟩
  . rw [List.map_set];exact Ox s.nod hno
  . by_cases hl:j=l
    . subst hl;rw [aB_ hjE]at he;rw [aB_ hjS]at hy;cases he;cases hy;refine ⟨by simp [yh,e1,e2],?_⟩;have e3:({ x with a:=t,mv:=m,b:=bi }:St Pose Move).p=x.p:=rfl;have e4:({ x with a:=t,mv:=m,b:=bi }:St Pose Move).i=x.i:=rfl;rw [bh,Fg (y:={ x with a:=t,mv:=m,b:=bi }) hx e3 e4,hdn]
    . rw [ax_ hl]at he hy;obtain ⟨h1,h2⟩:=s.cel l e y he hy;have e3:({ x with a:=t,mv:=m,b:=bi }:St Pose Move).p=x.p:=rfl;have e4:({ x with a:=t,mv:=m,b:=bi }:St Pose Move).i=x.i:=rfl;rw [ci (hne l e he),Fg (y:={ x with a:=t,mv:=m,b:=bi }) hx e3 e4];exact ⟨h1,h2⟩
def nw:=jq bC (jq (jq (jq (jq @al137 @au6) (jq @Yz (jq @pd @cf115))) (jq (jq @cf116 (jq @cf65 @cf66)) (jq @Lf (jq @aE3 @fa146_2)))) (jq (jq (jq @ac0 (jq @X0 @ld132p)) (jq @Xz (jq @ld3 @ld30))) (jq (jq @ld4 (jq @li @jc)) (jq @mx (jq @jw @st137w)))))
theorem unmt:P_.underlying 131=some (.map 137 149):=by kernel_rfl
theorem zerot:qv P_ 149=some (.pointer none):=by kernel_rfl
abbrev stepV (f:Nd) (m:Move):Value := .agg #[f.1,f.2,m.k,m.d,m.n,m.f.x,m.f.y,.bool m.f.d,m.t.x,m.t.y,.bool m.t.d,m.a,m.e,(0:Int),.bool false]
def Kept (q:Par) (c:Cs) (S:SS):Prop:=∀x∈S,(mget c.L1 (numP q.w q.k x.p)).isSome=true/\mget c.L3 (numP q.w q.k x.p)=some (mq x.p)
theorem Kept.le {q:Par} {c c':Cs} {S:SS} (k:Kept q c S) (l:c.le c'):Kept q c' S:=fun x hx=>by
 obtain ⟨h1,h2⟩:=k x hx;cases h:mget c.L1 (numP q.w q.k x.p)with
 |none=>rw [h]at h1;cases h1
 |some v=>exact ⟨by rw [l.l1 _ _ h];rfl,l.l3 _ _ h2⟩
theorem Kept.note {q:Par} {c:Cs} {S:SS} (k:Kept q c S) {p:Pose} (h1:(mget c.L1 (numP q.w q.k p)).isSome=true) (h3:mget c.L3 (numP q.w q.k p)=some (mq p)) {t:Int} {m:Move} {b:Int}:Kept q c (note q.E S p t m b):=by
 intro x hx;unfold Srch.note at hx;split at hx
 . unfold Ai at hx;split at hx
   . split at hx
     . rename_i y hy;split at hx
       . rcases bb_ hx with h|h
         . exact k x h
         . subst h;exact k y (ab_ hy)
       . exact k x hx
     . exact k x hx
   . rcases ao_.1 hx with h|h
     . exact k x h
     . rw [aE_]at h;subst h;exact ⟨h1,h3⟩
 . exact k x hx
structure Srs (q:Par) (a ae ah:Hp) (ms mw mp mt hp:Nat) (c:Cs) (S:SS) (L:List Go.Proofs.Wt.It) (n:Int):Prop where
 ch:Ch q a ms mw mp c
 st:StP q.w q.k ae mt S
 hp:Hw.HP ah hp L n
 ok:Go.Proofs.Wt.zn L
 qi:QI q.E L S
 kept:Kept q c S
 n0:0<=n
 ln:(L.length:Int)<=n
theorem Oi {q:Par} (gt:i7 q.T) (fw:Few q.T 100) (p:Pose):(mu q.w q.k q.T q.r p).length<=1000000:=by unfold mu;have:=Fh gt fw q.r ((dj p).map (numI q.w q.k));rw [bq_,show (dj p).length=2 from rfl]at this;omega
theorem StE.le {w k:Nat} {b b':Hp} {E:List (Nd × Nat)} {S:SS} (s:StE w k b E S) (l:b.le b'):StE w k b' E S:=
 ⟨s.len,s.nod,fun i e x he hx=>let ⟨h1,h2⟩:=s.cel i e x he hx;⟨h1,l _ _ h2⟩⟩
theorem Kl {G h a ae ah:Hp} {R:List Hp} {q:Par} {sp kp ms mw mp mt hp:Nat} {c:Cs} {S:SS} {L:List Go.Proofs.Wt.It} {n t lo t0:Int} {p p0:Pose} {m z:Move} {b:Int} (ss:Srs q a ae ah ms mw mp mt hp c S L n) (bg:Bg G q sp kp ms mw mp mt hp)
 (v:Inv q.E p0 t0 z lo S) (hlo:lo<=t) (hpf:eu q.w q.k q.f p=true) (hn:n<=34359738368) (hb:b<0\/b.toNat<S.length) (s:HL.Sep (a::ae::ah::R) h):
 bn P_ G 67 #[.pointer (some ⟨sp,0,none⟩),mq p,t,stepV (ji q.w q.k S b) m] h (fun _ h'=>∃a' ae' ah' c' L' n',Srs q a' ae' ah' ms mw mp mt hp c' (note q.E S p t m b) L' n'/\c.le c'/\c'.L2=c.L2/\n<=n'/\n'<=n+1/\HL.Sep (a'::ae'::ah'::R) h'/\Dis G h'):=by
 obtain ⟨ab,cb,ap,cp,ar,cr,az,cs,gp,tp,hbg⟩:=id bg.ex;obtain ⟨ch,stp,hpp,hok,qi,kept,hn0,hln⟩:=ss;have hS:∀x∈S,eu q.w q.k q.f x.p=true:=v.ok
 have hby:∀x∈S,x.b<0\/x.b.toNat<S.length:=fun x hx=>by
  rcases v.by_ x hx with ⟨h,_⟩|⟨y,h0,hy,_⟩
  . left;omega
  . exact .inr (ad_.1 hy).1
 refine bn.assume fun d=>enter67 (by simp) ?_;unfold S67;simp only [nw];intro xp hxp gxp x1 hx1 gx1;have s1:=(s.new (o := .cells #[p.x,p.y,.bool p.d] 30 (0,0)) hxp).new (o := .cells (stpL (ji q.w q.k S b) m 0 false).toArray 146 (0,0)) hx1;have d1:=(d.set (o := .cells #[p.x,p.y,.bool p.d] 30 (0,0)) gxp).set (o := .cells (stpL (ji q.w q.k S b) m 0 false).toArray 146 (0,0)) gx1;simp only [stpL]at s1 d1;generalize Hp.set (Hp.set h xp _) x1 _=h1 at s1 d1 ⊢;have cx1:∀k,bf G h1 ⟨xp,k,none⟩=_:=fun k=>bm (bj (s1.at 1 rfl bh));try simp only [nw,cx1]
 have s1':=Sep.fr (R:=R) [_,_,_,_,_] s1 [2,3,4,1,0] (by decide) rfl;refine (nn ch bg s1' hpf).mono ?_;rintro u h2 ⟨a2,c2,ch2,cl2,e2,g1,g3,s2,d2⟩;have sl:=ch2.look1 hpf g1;try simp (disch:=first|decide|omega) only [nw,Nat.reduceAdd,Nat.reduceMul]
 refine (Ic (t:=t) (sl.see (by decide) (ch2.pool.trans (s2.in 0 rfl))) (by have:=Oi bg.gt bg.fw p;omega)).mono ?_;rintro _ h2 ⟨rfl,rfl⟩;try simp only [nw]
 cases hi:inside (mu q.w q.k q.T q.r p) t with
 |none=>
  have e:insI (mu q.w q.k q.T q.r p) t = -1:=by unfold insI;rw [hi]
  rw [e];try simp only [nw,show decide ((-1:Int)<0)=true from rfl]
  have en:note q.E S p t m b=S:=by unfold Srch.note;have:inside (q.E.spans p) t=none:=hi;rw [this]
  rw [en];exact ⟨a2,ae,ah,c2,L,n,⟨ch2,stp,hpp,hok,qi,kept.le cl2,hn0,hln⟩,cl2,e2,by omega,by omega,Sep.fr (R:=R) [_,_,_,_,_] s2 [0,1,2] (by decide) rfl,d2⟩
 |some i=>
  have e:insI (mu q.w q.k q.T q.r p) t=(i:Int):=by unfold insI;rw [hi]
  rw [e];try simp only [nw,show decide ((i:Int)<0)=false from ai_ (by omega)]
  unfold aP9;have cx2:∀k,bf G h2 ⟨xp,k,none⟩=_:=fun k=>bm (bj (s2.at 3 rfl bh));try simp (disch:=decide) only [nw,cx2]
  refine (Bi ch2 bg s2 hpf).mono ?_;rintro _ h3 ⟨rfl,a3,c3,ch3,cl3,f1,f2,f3,g33,s3,d3⟩;try simp (disch:=first|decide|exact b8|exact bw|omega|rfl) only [nw]
  intro xn hxn gxn;obtain ⟨o,E,bb,km,sb,se⟩:=stp;have s4:=s3.new (o := .cells #[(numP q.w q.k p),i] 137 (0,0)) hxn;have d4:=d3.set (o := .cells #[(numP q.w q.k p),i] 137 (0,0)) gxn;generalize Hp.set h3 xn _=h4 at s4 d4 ⊢;have s5:=(Sep.fr (R:=R) [noHp.set xn (.cells #[(numP q.w q.k p),i] 137 (0,0)),a3,ae,ah,noHp.set xp (.cells #[p.x,p.y,.bool p.d] 30 (0,0)),noHp.set x1 (.cells (stpL (ji q.w q.k S b) m 0 false).toArray 146 (0,0))] s4 [2,1,3,5,0] (by decide) rfl).open sb
  have b4:=yx (hbg h4 d4).2.1;have hmt:h4 mt=some o:=s5.at 0 rfl bh
  have hl:∀K,pw P_ G h4 (Instr.lookup 131 (.map (some mt)) (.agg #[(numP q.w q.k p),(i:Int)]) true) K=K (.tuple #[(kget (E.map entV) (numP q.w q.k p,(i:Int))).getD (.pointer none),.bool (kget (E.map entV) (numP q.w q.k p,(i:Int))).isSome]):=fun K=>
   Rq Ro unmt zerot (bj hmt) km (k:=(numP q.w q.k p,(i:Int)))
  have en:note q.E S p t m b=Ai S p i ((mu q.w q.k q.T q.r p).getD i (0,0)) t m b:=by unfold Srch.note;have:inside (q.E.spans p) t=some i:=hi;rw [this];rfl
  have k2:U1 q.E S p t=some i->(∀j x,Srch.key S p i=some j->S[j]?=some x->t<x.a/\x.dn=false)->∀r':Rg,r' 0 = .pointer (some ⟨sp,0,none⟩)->r' 2 = .int .i64 t->r' 7 = .pointer (some ⟨x1,0,none⟩)->r' 9 = .pointer (some ⟨xn,0,none⟩)->
   Y8 G (retK P_ G [] fun _ h'=>∃a' ae' ah' c' L' n',Srs q a' ae' ah' ms mw mp mt hp c' (note q.E S p t m b) L' n'/\c.le c'/\c'.L2=c.L2/\n<=n'/\n'<=n+1/\HL.Sep (a'::ae'::ah'::R) h'/\Dis G h') r' h4:=by
   intro hpu hlt r' e0 e2' e7 e9;unfold Y8;simp only [nw,e0,e2',e7,e9];have hx14:h4 x1=some (.cells (stpL (ji q.w q.k S b) m 0 false).toArray 146 (0,0)):=s5.at 4 rfl bh;rw [ec sz3 rfl hx14 (by simp [stpL])];have hset:(stpL (ji q.w q.k S b) m 0 false).set 13 (.int .i64 t)=stpL (ji q.w q.k S b) m t false:=rfl;rw [hset];have s6:=(s5.pick 4 rfl rfl).put (o:=rl (ji q.w q.k S b) m t false) bh;rw [set_set]at s6;have d6:Dis G (h4.set x1 (rl (ji q.w q.k S b) m t false)):=d4.set (d4 _ _ hx14);generalize Hp.set h4 x1 _=h6 at s6 d6 ⊢;have b6:=yx (hbg h6 d6).2.1;have cn6:∀k,bf G h6 ⟨xn,k,none⟩=_:=fun k=>bm (bj (s6.at 5 rfl bh));have hmt6:h6 mt=some o:=s6.at 1 rfl bh;try simp only [nw,b6.mt,cn6]
   refine Xw Ro unmt hmt6 km (k:=(numP q.w q.k p,(i:Int))) fun o' mo'=>?_;have s7:=(s6.pick 1 rfl rfl).put (o:=o') bh;rw [set_set]at s7;have d7:Dis G (h6.set mt o'):=d6.set (d6 _ _ hmt6);generalize Hp.set h6 mt o'=h7 at s7 d7 ⊢;have b7:=yx (hbg h7 d7).2.1;have cn7:∀k,bf G h7 ⟨xn,k,none⟩=_:=fun k=>bm (bj (s7.at 5 rfl bh));try simp only [nw,b7.hp,cn7]
   refine (Hw.hpush (k:=t) (m:=numP q.w q.k p) (s:=(i:Int)) hpp (s7.pick 4 rfl rfl) (by omega) hn0 (by omega)).mono ?_;rintro _ h8 ⟨ah8,hp8,s8,d8⟩;try simp (disch:=first|decide|omega) only [nw,Nat.reduceAdd,Nat.reduceMul]
   obtain ⟨E',hk',se'⟩:=se.put (f:=q.f) hS hby hpf (i:=i) (sp:=(mu q.w q.k q.T q.r p).getD i (0,0)) (t:=t) (m:=m) (bi:=b) hb (x1:=x1) (by
    rcases (s8.pick 2 rfl rfl).apart (b:=bb) (by simp) x1 with e|e
    . rw [bh]at e;cases e
    . exact e) hlt
   rw [hk']at mo';obtain ⟨b9,s9,t9⟩:=Sep.pack [noHp.set x1 (rl (ji q.w q.k S b) m t false),bb] (R:=noHp.set mt o'::a3::ah8::R) (Sep.fr (R:=R) [ah8,noHp.set mt o',noHp.set x1 (rl (ji q.w q.k S b) m t false),bb,a3,noHp.set xn (.cells #[(numP q.w q.k p),i] 137 (0,0))] s8 [2,3,1,4,0] (by decide) rfl);obtain ⟨ae9,s10,t10⟩:=Sep.pack [noHp.set mt o',b9] (R:=a3::ah8::R) s9.swap
   have l9:(bb.set x1 (rl (ji q.w q.k S b) m t false)).le b9:=fun y ob hy=>by
    by_cases hyx:y=x1
    . subst hyx;rw [bh]at hy;cases hy;exact t9.at 0 rfl bh
    . rw [ci hyx]at hy;exact t9.in 1 rfl _ _ hy
   obtain ⟨hok',hperm⟩:=Go.Proofs.Wt.push_ok (x:=⟨t,numP q.w q.k p,(i:Int),n⟩) hok;refine ⟨a3,ae9,ah8,c3,_,n+1,⟨ch3,⟨o',E',b9,mo',t10,?_⟩,hp8,hok',?_,?_,by omega,?_⟩,cl2.trans cl3,by rw [f2,e2],by omega,by omega,Sep.fr (R:=R) [ae9,a3,ah8] s10 [1,0,2] (by decide) rfl,d8⟩
   . rw [en];exact se'.le l9
   . refine note_q (n:=n) qi ?_;rw [hpu];exact hperm
   . exact (kept.le (cl2.trans cl3)).note (by rw [cl3.l1 _ _ g1];rfl) g33
   . rw [Go.Proofs.Wt.xj];simp only [ae_,an_,a3_];omega
  have stay:note q.E S p t m b=S->∃a' ae' ah' c' L' n',Srs q a' ae' ah' ms mw mp mt hp c' (note q.E S p t m b) L' n'/\c.le c'/\c'.L2=c.L2/\n<=n'/\n'<=n+1/\HL.Sep (a'::ae'::ah'::R) h4/\Dis G h4:=fun e=>by rw [e];obtain ⟨ae9,s9,t9⟩:=Sep.pack [noHp.set mt o,bb] (R:=a3::ah::R) (Sep.fr (R:=R) [noHp.set mt o,bb,a3,ah,noHp.set x1 (.cells (stpL (ji q.w q.k S b) m 0 false).toArray 146 (0,0)),noHp.set xn (.cells #[(numP q.w q.k p),i] 137 (0,0))] s5 [0,1,2,3] (by decide) rfl);exact ⟨a3,ae9,ah,c3,L,n,⟨ch3,⟨o,E,bb,km,t9,se⟩,hpp,hok,qi,kept.le (cl2.trans cl3),hn0,hln⟩,cl2.trans cl3,by rw [f2,e2],by omega,by omega,Sep.fr (R:=R) [ae9,a3,ah] s9 [1,0,2] (by decide) rfl,d4⟩
  try simp only [nw,b4.mt,hl]
  rcases se.get (f:=q.f) hS hpf (i:=i)with ⟨hk,hg⟩|⟨j,e',x,hk,he,hx,hg,hbx⟩
  . rw [hg];try simp only [nw,cl_,ce_]
    refine k2 ?_ (fun j x h=>by rw [hk]at h;cases h) _ (by simp (disch:=decide) only [nw]) (by simp (disch:=decide) only [nw]) (by simp (disch:=decide) only [nw]) (by simp (disch:=decide) only [nw]);unfold U1;have:inside (q.E.spans p) t=some i:=hi;rw [this];simp only;rw [hk]
  . rw [hg];have hx4:h4 e'.2=some (rl (ji q.w q.k S x.b) x.mv x.a x.dn):=s5.at 1 rfl hbx;have cd:bf G h4 ⟨e'.2,14,none⟩=some (.bool x.dn):=by rw [bm (bj hx4)];rfl
    have ca:bf G h4 ⟨e'.2,13,none⟩=some (.int .i64 x.a):=by rw [bm (bj hx4)];rfl
    try simp only [nw,bs_,Option.isSome_some,cd,ca]
    have hxm:=ab_ hx;cases hdn:x.dn with
    |true=>
     try simp only [nw,fq]
     refine stay ?_;rw [en];unfold Ai;rw [hk];simp only [hx];rw [ah_ (by have:=v.dn x hxm hdn;omega)]
    |false=>
     try simp only [nw,ca]
     by_cases hle:x.a<=t
     . try simp only [nw,js hle]
       refine stay ?_;rw [en];unfold Ai;rw [hk];simp only [hx];rw [ah_ (by omega)]
     . try simp only [nw,kc hle]
       refine k2 ?_ (fun j2 x2 h2 hx2=>by rw [hk]at h2;cases h2;rw [hx]at hx2;cases hx2;exact ⟨by omega,hdn⟩) _ (by simp (disch:=decide) only [nw]) (by simp (disch:=decide) only [nw]) (by simp (disch:=decide) only [nw]) (by simp (disch:=decide) only [nw]);unfold U1;have:inside (q.E.spans p) t=some i:=hi;rw [this];simp only;rw [hk];simp only [hx];rw [ak_ (by omega)]
def kf:=jq bC (jq (jq (jq (jq @al151 @al48) (jq @au5 (jq @xa @kv))) (jq (jq @cf67 (jq @cf77 @Sf)) (jq @Se (jq @fa232_0 @fa232_1)))) (jq (jq (jq @aB8 @aB7) (jq @Yg (jq @ld137 @ld151))) (jq (jq @ld3 (jq @ld30 @ld48)) (jq @Xf (jq @st3s @Uc)))))
abbrev WayT:=Move × Pose × Int × List Sp
abbrev wayO (m:Move) (d:Int) (a:Option Addr) (n c:Nat):Obj := .cells #[m.k,m.d,m.n,m.f.x,m.f.y,.bool m.f.d,m.t.x,m.t.y,.bool m.t.d,m.a,m.e,d,.slice a n c] 232 (0,0)
structure Fbx (q:Par) (Bx:Hp) (xn xo:Nat) (x:St Pose Move):Prop where
 n:Bx xn=some (.cells #[(numP q.w q.k x.p),(x.i:Int)] 137 (0,0))
 o:Bx xo=some (.cells #[x.s.1,x.s.2] 151 (0,0))
theorem Pf {α β:Type} {f:β->α->β} {S:β} {L:List α} {i:Nat} {s:α} (h:L[i]?=some s):(L.take (i+1)).foldl f S=f ((L.take i).foldl f S) s:=by rw [aL_,h,cj_];rfl
theorem from_in {G h a ae ah Bx:Hp} {R:List Hp} {q:Par} {sp kp ms mw mp mt hp xn xo xw:Nat} {c:Cs} {S:SS} {L:List Go.Proofs.Wt.It} {n t0:Int} {p0:Pose} {z:Move} {x:St Pose Move} {k:Nat} {y:WayT} {sa:Option Addr} {cap:Nat} {KK:EK}
 (ss:Srs q a ae ah ms mw mp mt hp c S L n) (bg:Bg G q sp kp ms mw mp mt hp) (ok:rt q.E) (v:Inv q.E p0 t0 z x.a S) (hx:S[k]?=some x) (hd:x.dn=true) (ha:0<=x.a) (hox:eu q.w q.k q.f x.p=true) (hy:y∈q.E.ways x.p) (hy1:y.2.1=y.1.t)
 (fb:Fbx q Bx xn xo x) (hw:Bx xw=some (wayO y.1 y.2.2.1 sa y.2.2.2.length cap)) (sl:Slc nx 151 c.P (.slice sa y.2.2.2.length cap) y.2.2.2) (hn:n+y.2.2.2.length<=34359738368)
 (s:HL.Sep (a::ae::ah::Bx::R) h) (d:Dis G h) (r:Rg) (g0:r 0 = .pointer (some ⟨sp,0,none⟩)) (g2:r 2 = .int .i64 x.a) (g4:r 4 = .pointer (some ⟨xn,0,none⟩)) (g7:r 7 = .pointer (some ⟨xo,0,none⟩)) (g9:r 9 = .pointer (some ⟨xw,0,none⟩)) (g38:r 38 = .slice sa y.2.2.2.length cap) (g39:r 39 = .int .i64 y.2.2.2.length) (g40:r 40 = .int .i64 0)
 (H:∀(r':Rg) h' a' ae' ah' c' L' n',Srs q a' ae' ah' ms mw mp mt hp c' (vm q.E x k S y) L' n'->Inv q.E p0 t0 z x.a (vm q.E x k S y)->(vm q.E x k S y)[k]?=some x->c.le c'->n<=n'->n'<=n+y.2.2.2.length->HL.Sep (a'::ae'::ah'::Bx::R) h'->Dis G h'->
  r' 0=r 0->r' 2=r 2->r' 4=r 4->r' 7=r 7->r' 31=r 31->r' 32=r 32->r' 33=r 33->KK (.exit 2) r' h'):
 du (Hg G) r h KK:=by
 have hn0:=ss.n0
 refine dt (fun m r' h'=>∃(i:Nat) (a' ae' ah':Hp) (c':Cs) (L':List Go.Proofs.Wt.It) (n':Int),m=y.2.2.2.length-i/\i<=y.2.2.2.length/\Srs q a' ae' ah' ms mw mp mt hp c' ((y.2.2.2.take i).foldl (ja q.E x k y) S) L' n'/\Inv q.E p0 t0 z x.a ((y.2.2.2.take i).foldl (ja q.E x k y) S)/\((y.2.2.2.take i).foldl (ja q.E x k y) S)[k]?=some x/\
  c.le c'/\n<=n'/\n'<=n+i/\HL.Sep (a'::ae'::ah'::Bx::R) h'/\Dis G h'/\r' 0=r 0/\r' 2=r 2/\r' 4=r 4/\r' 7=r 7/\r' 9=r 9/\r' 31=r 31/\r' 32=r 32/\r' 33=r 33/\r' 38=r 38/\r' 39=r 39/\r' 40 = .int .i64 i) ?_ (m:=y.2.2.2.length)
  ⟨0,a,ae,ah,c,L,n,rfl,by omega,ss,v,hx,.refl _,by omega,by omega,s,d,rfl,rfl,rfl,rfl,rfl,rfl,rfl,rfl,rfl,rfl,g40⟩
 rintro m r1 h1 ⟨i,a1,ae1,ah1,c1,L1,n1,rfl,hi,ss1,v1,hx1,cl1,hn1,hn2,s1,d1,e0,e2,e4,e7,e9,e31,e32,e33,e38,e39,e40⟩ X hX;unfold Hg;simp only [kf,e39,g39,e40];refine df (fun hlt=>?_) (fun hge=>?_);rotate_left
 . obtain rfl:i=y.2.2.2.length:=by omega
   rw [bt_]at ss1 v1 hx1;exact H _ _ a1 ae1 ah1 c1 L1 n1 ss1 v1 hx1 cl1 hn1 hn2 s1 d1 (by simp (disch:=decide) only [kf,e0]) (by simp (disch:=decide) only [kf,e2]) (by simp (disch:=decide) only [kf,e4]) (by simp (disch:=decide) only [kf,e7]) (by simp (disch:=decide) only [kf,e31]) (by simp (disch:=decide) only [kf,e32]) (by simp (disch:=decide) only [kf,e33])
 obtain ⟨sx,hsx⟩:∃u,y.2.2.2[i]?=some u:=⟨_,aa_ (by omega)⟩;obtain ⟨b,o,rfl,z1,z2⟩:=Sees.span ((sl.le cl1.p).see (G:=G) (by decide) (ss1.ch.pool.trans (s1.in 0 rfl))) hsx;have hstep:=Pf (f:=ja q.E x k y) (S:=S) hsx;have hsm:=ab_ hsx;unfold Gd;simp (disch:=first|decide|exact b8|exact bw|omega|rfl) only [kf,e38,g38,e40,Vq (ac_ i) hlt,z1,z2];intro zb hzb gzb;have s2:=s1.past (o := .cells #[sx.1,sx.2] 151 (0,0)) hzb;have d2:=d1.set (o := .cells #[sx.1,sx.2] 151 (0,0)) gzb;have hzs:(h1.set zb (.cells #[sx.1,sx.2] 151 (0,0))) zb=some (.cells #[sx.1,sx.2] 151 (0,0)):=bh;generalize Hp.set h1 zb _=h2 at s2 d2 hzs ⊢;have cz:∀k,bf G h2 ⟨zb,k,none⟩=_:=fun k=>bm (bj hzs);have co:∀k,bf G h2 ⟨xo,k,none⟩=_:=fun k=>bm (bj (s2.at 3 rfl fb.o));have cw:∀k,bf G h2 ⟨xw,k,none⟩=_:=fun k=>bm (bj (s2.at 3 rfl hw))
 have next:∀(r':Rg) h3 a3 ae3 ah3 c3 L3 n3,Srs q a3 ae3 ah3 ms mw mp mt hp c3 (ja q.E x k y ((y.2.2.2.take i).foldl (ja q.E x k y) S) sx) L3 n3->c1.le c3->n1<=n3->n3<=n1+1->HL.Sep (a3::ae3::ah3::Bx::R) h3->Dis G h3->
  r' 0=r1 0->r' 2=r1 2->r' 4=r1 4->r' 7=r1 7->r' 9=r1 9->r' 31=r1 31->r' 32=r1 32->r' 33=r1 33->r' 38=r1 38->r' 39=r1 39->r' 40=r1 40->
  qa G (di X KK) r' h3:=by intro r' h3 a3 ae3 ah3 c3 L3 n3 ss3 cl3 m1 m2 s3 d3 w0 w2 w4 w7 w9 w31 w32 w33 w38 w39 w40;unfold qa;simp (disch:=first|decide|omega) only [kf,w40,e40];have vv:=J9 ok v1 hx1 hd ha hox hy (k:=k) hsm;refine hX (y.2.2.2.length-(i+1)) _ _ (by omega) ⟨i+1,a3,ae3,ah3,c3,L3,n3,rfl,by omega,by rw [hstep];exact ss3,by rw [hstep];exact vv.1,by rw [hstep];exact vv.2,cl1.trans cl3,by omega,by omega,s3,d3,by simp (disch:=decide) only [kf,w0,e0],by simp (disch:=decide) only [kf,w2,e2],by simp (disch:=decide) only [kf,w4,e4],by simp (disch:=decide) only [kf,w7,e7],by simp (disch:=decide) only [kf,w9,e9],by simp (disch:=decide) only [kf,w31,e31],by simp (disch:=decide) only [kf,w32,e32],by simp (disch:=decide) only [kf,w33,e33],by simp (disch:=decide) only [kf,w38,e38],by simp (disch:=decide) only [kf,w39,e39],by simp only [kf];rfl⟩
 have skip:ja q.E x k y ((y.2.2.2.take i).foldl (ja q.E x k y) S) sx=(y.2.2.2.take i).foldl (ja q.E x k y) S->Srs q a1 ae1 ah1 ms mw mp mt hp c1 (ja q.E x k y ((y.2.2.2.take i).foldl (ja q.E x k y) S) sx) L1 n1:=fun e=>by rw [e];exact ss1
 try simp only [kf,cz,e7,g7,co]
 by_cases h1:sx.1<x.s.1
 . try simp only [kf,js h1,fq]
   exact next _ h2 a1 ae1 ah1 c1 L1 n1 (skip (by unfold ja;rw [ak_ (.inl h1)])) (.refl _) (by omega) (by omega) s2 d2 (by simp (disch:=omega) only [bo]) (by simp (disch:=omega) only [bo]) (by simp (disch:=omega) only [bo]) (by simp (disch:=omega) only [bo]) (by simp (disch:=omega) only [bo]) (by simp (disch:=omega) only [bo]) (by simp (disch:=omega) only [bo]) (by simp (disch:=omega) only [bo]) (by simp (disch:=omega) only [bo]) (by simp (disch:=omega) only [bo]) (by simp (disch:=omega) only [bo])
 try simp only [kf,kc h1,cz,co]
 by_cases h2':sx.2>x.s.2
 . try simp only [kf,js h2']
   exact next _ h2 a1 ae1 ah1 c1 L1 n1 (skip (by unfold ja;rw [ak_ (.inr h2')])) (.refl _) (by omega) (by omega) s2 d2 (by simp (disch:=omega) only [bo]) (by simp (disch:=omega) only [bo]) (by simp (disch:=omega) only [bo]) (by simp (disch:=omega) only [bo]) (by simp (disch:=omega) only [bo]) (by simp (disch:=omega) only [bo]) (by simp (disch:=omega) only [bo]) (by simp (disch:=omega) only [bo]) (by simp (disch:=omega) only [bo]) (by simp (disch:=omega) only [bo]) (by simp (disch:=omega) only [bo])
 try simp only [kf,kc h2']
 unfold Gc;try simp (disch:=decide) only [kf,cz,e2,g2,e9,g9,cw,max2w]
 refine (Rv.av5 (a:=max x.a sx.1) (b:=y.2.2.1)).mono ?_;rintro _ h2 ⟨rfl,rfl⟩;have hst:ja q.E x k y ((y.2.2.2.take i).foldl (ja q.E x k y) S) sx=if sumI (max x.a sx.1) y.2.2.1>sx.2\/sumI (max x.a sx.1) y.2.2.1>=FV then (y.2.2.2.take i).foldl (ja q.E x k y) S else note q.E ((y.2.2.2.take i).foldl (ja q.E x k y) S) y.2.1 (sumI (max x.a sx.1) y.2.2.1) (q.E.stamp y.1 (max x.a sx.1) (sumI (max x.a sx.1) y.2.2.1)) k:=by unfold ja;rw [ah_ (by omega)]
 have hlst:=(ok.lasts _ y hy).1;try simp only [kf,cz]
 obtain ⟨ev,hev⟩:∃ev,ev=sumI (max x.a sx.1) y.2.2.1:=⟨_,rfl⟩;rw [<- hev]at hst ⊢;have hgt:ev<FV->max x.a sx.1<ev:=fun h=>by rw [hev]at h ⊢;exact J7 (by omega) hlst h
 have skip2:(ev>sx.2\/ev>=FV)->∀(r':Rg),r' 0=r1 0->r' 2=r1 2->r' 4=r1 4->r' 7=r1 7->r' 9=r1 9->r' 31=r1 31->r' 32=r1 32->r' 33=r1 33->r' 38=r1 38->r' 39=r1 39->r' 40=r1 40->qa G (di X KK) r' h2:=fun he r' w0 w2 w4 w7 w9 w31 w32 w33 w38 w39 w40=>
  next r' h2 a1 ae1 ah1 c1 L1 n1 (skip (by rw [hst,ak_ he])) (.refl _) (by omega) (by omega) s2 d2 w0 w2 w4 w7 w9 w31 w32 w33 w38 w39 w40
 by_cases q1:max x.a sx.1>=sx.2
 . have hq:ev>sx.2\/ev>=FV:=by
    by_cases hf:ev<FV
    . have:=hgt hf;exact .inl (by omega)
    . exact .inr (by omega)
   try simp only [kf,js q1,fq]
   refine skip2 hq _ (by simp (disch:=omega) only [bo]) (by simp (disch:=omega) only [bo]) (by simp (disch:=omega) only [bo]) (by simp (disch:=omega) only [bo]) (by simp (disch:=omega) only [bo]) (by simp (disch:=omega) only [bo]) (by simp (disch:=omega) only [bo]) (by simp (disch:=omega) only [bo]) (by simp (disch:=omega) only [bo]) (by simp (disch:=omega) only [bo]) (by simp (disch:=omega) only [bo])
 try simp only [kf,kc q1,cz]
 by_cases q2:ev>sx.2
 . try simp only [kf,js q2,fq]
   refine skip2 (.inl q2) _ (by simp (disch:=omega) only [bo]) (by simp (disch:=omega) only [bo]) (by simp (disch:=omega) only [bo]) (by simp (disch:=omega) only [bo]) (by simp (disch:=omega) only [bo]) (by simp (disch:=omega) only [bo]) (by simp (disch:=omega) only [bo]) (by simp (disch:=omega) only [bo]) (by simp (disch:=omega) only [bo]) (by simp (disch:=omega) only [bo]) (by simp (disch:=omega) only [bo])
 try simp only [kf,kc q2]
 by_cases q3:ev>=4611686018427387904
 . try simp only [kf,js q3]
   refine skip2 (.inr q3) _ (by simp (disch:=omega) only [bo]) (by simp (disch:=omega) only [bo]) (by simp (disch:=omega) only [bo]) (by simp (disch:=omega) only [bo]) (by simp (disch:=omega) only [bo]) (by simp (disch:=omega) only [bo]) (by simp (disch:=omega) only [bo]) (by simp (disch:=omega) only [bo]) (by simp (disch:=omega) only [bo]) (by simp (disch:=omega) only [bo]) (by simp (disch:=omega) only [bo])
 try simp only [kf,kc q3]
 rw [ah_ (show ¬(ev>sx.2\/ev>=FV)by unfold FV;omega)]at hst;unfold Gb;have cn:∀k,bf G h2 ⟨xn,k,none⟩=_:=fun k=>bm (bj (s2.at 3 rfl fb.n));try simp -implicitDefEqProofs (maxSteps:=2000000) (disch:=first|decide|with_reducible exact aA_ rfl|exact b8|exact bw|omega|rfl|(simp;done)|fail) only [kf,Nat.reduceAdd,e0,g0,e4,g4,e9,g9,cw]
 intro xm hxm gxm;have s3:=s2.past (o:=jy (Aw y.1 (max x.a sx.1) ev)) hxm;have d3:=d2.set (o:=jy (Aw y.1 (max x.a sx.1) ev)) gxm;simp only [Aw]at s3 d3;generalize Hp.set h2 xm _=h3 at s3 d3 ⊢;have cn3:∀k,bf G h3 ⟨xn,k,none⟩=_:=fun k=>bm (bj (s3.at 3 rfl fb.n));try simp (disch:=first|decide|omega) only [kf,cn3]
 have hkl:k<((y.2.2.2.take i).foldl (ja q.E x k y) S).length:=(ad_.1 hx1).1;have hfk:ji q.w q.k ((y.2.2.2.take i).foldl (ja q.E x k y) S) (k:Int)=yh q.w q.k x:=by unfold ji;rw [ah_ (by omega),aP_,hx1]
 have hft:eu q.w q.k q.f y.1.t=true:=by rw [<- hy1];exact ok.to _ hox y hy
 have hlo:x.a<=ev:=by have:=hgt (by unfold FV;omega);omega
 have hr:=Kl (p:=y.1.t) (t:=ev) (m:=Aw y.1 (max x.a sx.1) ev) (b:=(k:Int)) ss1 bg v1 hlo hft (by omega) (.inr (by simpa using hkl)) s3;rw [hfk]at hr;simp only [yh,Aw]at hr;refine hr.mono ?_;rintro _ h4 ⟨a4,ae4,ah4,c4,L4,n4,ss4,cl4,l24,m1,m2,s4,d4⟩;refine next _ h4 a4 ae4 ah4 c4 L4 n4 (by rw [hst,hy1];exact ss4) cl4 m1 m2 s4 d4 (by simp (disch:=omega) only [bo]) (by simp (disch:=omega) only [bo]) (by simp (disch:=omega) only [bo]) (by simp (disch:=omega) only [bo]) (by simp (disch:=omega) only [bo]) (by simp (disch:=omega) only [bo]) (by simp (disch:=omega) only [bo]) (by simp (disch:=omega) only [bo]) (by simp (disch:=omega) only [bo]) (by simp (disch:=omega) only [bo]) (by simp (disch:=omega) only [bo])
def Io:=jq bC (jq (jq @al232 (jq @fa232_2 @ld142)) (jq @ld232 (jq @ln142 @st232w)))
theorem Sees.way {G h:Hp} {sa:Option Addr} {cap n:Nat} {L:List RawW} (s:Sees vj G h (.slice sa n cap) L) {i:Nat} {x:RawW} (hx:L[i]?=some x):
 ∃b o,sa=some ⟨b,o,none⟩/\∀j,j<13->bf G h ⟨b,o+i*13+j,none⟩=(vj.enc x)[j]?:=by
 obtain ⟨s',cap',e,_,hc⟩:=s;cases e;rcases hc with rfl|⟨b,o,rfl,hc⟩
 . simp at hx
 . exact ⟨b,o,rfl,fun j hj=>hc i x hx j hj⟩
theorem Jh {q:Par} {p:Pose} {j:Nat} {y:WayT} (h:(tn q.C q.w q.k q.f q.T q.r p)[j]?=some y):∃m,m∈ml q.w q.k q.f p/\y=wayE q.C q.w q.k q.f q.T q.r m:=by
 unfold tn at h;rw [aO_]at h;cases hm:(ml q.w q.k q.f p)[j]? with
 |none=>rw [hm]at h;cases h
 |some m=>rw [hm]at h;cases h;exact ⟨m,ab_ hm,rfl⟩
theorem am1 {q:Par} (gt:i7 q.T) (fw:Few q.T 100) (hw:q.w<=16) (hk:q.k<=16) (m:Move):(wayE q.C q.w q.k q.f q.T q.r m).2.2.2.length<=30301:=by show (ly q.T q.r ((me q.w q.k q.f m).map (numI q.w q.k))).length<=30301;have h1:=Fh gt fw q.r ((me q.w q.k q.f m).map (numI q.w q.k));rw [bq_]at h1;have h2:=Oh (w:=q.w) (k:=q.k) (f:=q.f) (m:=m) hw hk;have h3:(me q.w q.k q.f m).length*(100+1)<=300*101:=bw_ h2 (by omega);omega
theorem Yb {α β:Type} {f:β->α->β} {S:β} {L:List α} {i:Nat} {s:α} (h:L[i]?=some s):(L.take (i+1)).foldl f S=f ((L.take i).foldl f S) s:=Pf h
theorem aB0 {G h a ae ah Bx:Hp} {R:List Hp} {q:Par} {sp kp ms mw mp mt hp xn xo:Nat} {c:Cs} {S:SS} {L:List Go.Proofs.Wt.It} {n t0:Int} {p0:Pose} {z:Move} {x:St Pose Move} {k:Nat} {raws:List RawW} {sa:Option Addr} {cap:Nat} {KK:EK}
 (ss:Srs q a ae ah ms mw mp mt hp c S L n) (bg:Bg G q sp kp ms mw mp mt hp) (ok:rt q.E) (v:Inv q.E p0 t0 z x.a S) (hx:S[k]?=some x) (hd:x.dn=true) (ha:0<=x.a) (hox:eu q.w q.k q.f x.p=true) (hw16:q.w<=16) (hk16:q.k<=16)
 (fb:Fbx q Bx xn xo x) (wsl:Slc vj 232 c.P (.slice sa raws.length cap) raws) (hrl:raws.length=(tn q.C q.w q.k q.f q.T q.r x.p).length)
 (hraw:∀(i:Nat) (x':RawW) (y:WayT),raws[i]?=some x'->(tn q.C q.w q.k q.f q.T q.r x.p)[i]?=some y->x'.m=y.1/\x'.d=y.2.2.1/\x'.n=y.2.2.2.length/\Slc nx 151 c.P (.slice x'.a x'.n x'.c) y.2.2.2) (hn:n<=34000000000)
 (s:HL.Sep (a::ae::ah::Bx::R) h) (d:Dis G h) (r:Rg) (g0:r 0 = .pointer (some ⟨sp,0,none⟩)) (g2:r 2 = .int .i64 x.a) (g4:r 4 = .pointer (some ⟨xn,0,none⟩)) (g7:r 7 = .pointer (some ⟨xo,0,none⟩)) (g31:r 31 = .slice sa raws.length cap) (g32:r 32 = .int .i64 raws.length) (g33:r 33 = .int .i64 0)
 (H:∀(r':Rg) h' a' ae' ah' c' L' n',Srs q a' ae' ah' ms mw mp mt hp c' (Bq q.E x k S) L' n'->c.le c'->n<=n'->n'<=n+2000000->HL.Sep (a'::ae'::ah'::Bx::R) h'->Dis G h'->KK (.exit 0) r' h'):
 du (Y6 G) r h KK:=by
 have hn0:=ss.n0;have hml:(tn q.C q.w q.k q.f q.T q.r x.p).length<=65:=by unfold tn;rw [bq_];exact Gz
 refine dt (fun m r' h'=>∃(j:Nat) (a' ae' ah':Hp) (c':Cs) (L':List Go.Proofs.Wt.It) (n':Int),m=raws.length-j/\j<=raws.length/\Srs q a' ae' ah' ms mw mp mt hp c' (((tn q.C q.w q.k q.f q.T q.r x.p).take j).foldl (vm q.E x k) S) L' n'/\Inv q.E p0 t0 z x.a (((tn q.C q.w q.k q.f q.T q.r x.p).take j).foldl (vm q.E x k) S)/\(((tn q.C q.w q.k q.f q.T q.r x.p).take j).foldl (vm q.E x k) S)[k]?=some x/\
  c.le c'/\n<=n'/\n'<=n+j*30301/\HL.Sep (a'::ae'::ah'::Bx::R) h'/\Dis G h'/\r' 0=r 0/\r' 2=r 2/\r' 4=r 4/\r' 7=r 7/\r' 31=r 31/\r' 32=r 32/\r' 33 = .int .i64 j) ?_ (m:=raws.length)
  ⟨0,a,ae,ah,c,L,n,rfl,by omega,ss,v,hx,.refl _,by omega,by omega,s,d,rfl,rfl,rfl,rfl,rfl,rfl,g33⟩
 rintro m r1 h1 ⟨j,a1,ae1,ah1,c1,L1,n1,rfl,hj,ss1,v1,hx1,cl1,hn1,hn2,s1,d1,e0,e2,e4,e7,e31,e32,e33⟩ X hX;unfold Y6;simp only [Io,e32,g32,e33];refine df (fun hlt=>?_) (fun hge=>?_);rotate_left
 . obtain rfl:j=raws.length:=by omega
   rw [hrl,bt_]at ss1;exact H _ _ a1 ae1 ah1 c1 L1 n1 ss1 cl1 hn1 (by omega) s1 d1
 obtain ⟨y,hy⟩:∃u,(tn q.C q.w q.k q.f q.T q.r x.p)[j]?=some u:=⟨_,aa_ (by omega)⟩;obtain ⟨xr,hxr⟩:∃u,raws[j]?=some u:=⟨_,aa_ (by omega)⟩;obtain ⟨q1,q2,q3,q4⟩:=hraw j xr y hxr hy;obtain ⟨mv,hmv,hye⟩:=Jh hy;have hym:y∈q.E.ways x.p:=ab_ hy;have hyl:y.2.2.2.length<=30301:=by rw [hye];exact am1 bg.gt bg.fw hw16 hk16 mv
 have hstep:((tn q.C q.w q.k q.f q.T q.r x.p).take (j+1)).foldl (vm q.E x k) S=vm q.E x k (((tn q.C q.w q.k q.f q.T q.r x.p).take j).foldl (vm q.E x k) S) y:=Yb hy;obtain ⟨b,o,rfl,hc⟩:=Sees.way ((wsl.le cl1.p).see (G:=G) (by decide) (ss1.ch.pool.trans (s1.in 0 rfl))) hxr;have cr:∀(i:Nat),i<13->bf G h1 ⟨b,o+j*13+i,none⟩=(vj.enc xr)[i]?:=hc;have cr0:=cr 0 (by decide);have cr1:=cr 1 (by decide);have cr2:=cr 2 (by decide);have cr3:=cr 3 (by decide);have cr4:=cr 4 (by decide);have cr5:=cr 5 (by decide);have cr6:=cr 6 (by decide);have cr7:=cr 7 (by decide);have cr8:=cr 8 (by decide);have cr9:=cr 9 (by decide);have cr10:=cr 10 (by decide);have cr11:=cr 11 (by decide);have cr12:=cr 12 (by decide);simp only [vj,bc_,ar_,as_]at cr0 cr1 cr2 cr3 cr4 cr5 cr6 cr7 cr8 cr9 cr10 cr11 cr12;unfold Qa;simp (disch:=first|decide|exact b8|exact bw|omega|rfl) only [Io,e31,g31,e33,ix229 (ac_ j) hlt,cr0,cr1,cr2,cr3,cr4,cr5,cr6,cr7,cr8,cr9,cr10,cr11,cr12];intro xw hxw gxw;have s2:=s1.new (o:=wayO xr.m xr.d xr.a xr.n xr.c) hxw;have d2:=d1.set (o:=wayO xr.m xr.d xr.a xr.n xr.c) gxw;have hws:(h1.set xw (wayO xr.m xr.d xr.a xr.n xr.c)) xw=some (wayO xr.m xr.d xr.a xr.n xr.c):=bh;simp only [wayO]at s2 d2 hws;generalize Hp.set h1 xw _=h2 at s2 d2 hws ⊢;have hws':=hws;generalize hob:Obj.cells #[xr.m.k,xr.m.d,xr.m.n,xr.m.f.x,xr.m.f.y,.bool xr.m.f.d,xr.m.t.x,xr.m.t.y,.bool xr.m.t.d,xr.m.a,xr.m.e,xr.d,.slice xr.a xr.n xr.c] 232 (0,0)=ob at s2 d2 hws;have s3:=HL.Sep.fr [noHp.set xw ob,a1,ae1,ah1,Bx] (R:=R) s2 [4,0,1,2,3] (by decide) rfl;obtain ⟨Bx',s4,t4⟩:=HL.Sep.pack [Bx,noHp.set xw ob] (R:=a1::ae1::ah1::R) s3;have s5:=HL.Sep.fr [Bx',a1,ae1,ah1] (R:=R) s4 [1,2,3,0] (by decide) rfl;have hbw:Bx' xw=some (wayO y.1 y.2.2.1 xr.a y.2.2.2.length xr.c):=by have:=t4.at 1 rfl (x:=xw) (o:=ob) bh;rw [this,<- hob,q1,q2,q3]
 have fb':Fbx q Bx' xn xo x:=⟨t4.at 0 rfl fb.n,t4.at 0 rfl fb.o⟩;rw [q3]at q4;have hyp:y.2.1=y.1.t:=by rw [hye];rfl
 refine from_in ss1 bg ok v1 hx1 hd ha hox hym hyp fb' hbw (q4.le cl1.p) (by omega) s5 d2 _ (by simp (disch:=omega) only [bo,e0,g0]) (by simp (disch:=omega) only [bo,e2,g2]) (by simp (disch:=omega) only [bo,e4,g4]) (by simp (disch:=omega) only [bo,e7,g7]) (by simp (disch:=decide) only [Io]) (by simp (disch:=decide) only [Io,q3]) (by simp (disch:=decide) only [Io,q3]) (by simp only [Io]) ?_;intro r3 h3 a3 ae3 ah3 c3 L3 n3 ss3 v3 hx3 cl3 m1 m2 s6 d6 f0 f2 f4 f7 f31 f32 f33;have s7:HL.Sep (Bx'::a3::ae3::ah3::R) h3:=HL.Sep.fr [a3,ae3,ah3,Bx'] (R:=R) s6 [3,0,1,2] (by decide) rfl;have s8:HL.Sep (a3::ae3::ah3::Bx::R) h3:=HL.Sep.fr [Bx,noHp.set xw ob,a3,ae3,ah3] (R:=R) (HL.Sep.open (L:=[Bx,noHp.set xw ob]) (R:=a3::ae3::ah3::R) s7 t4) [2,3,4,0] (by decide) rfl;simp (disch:=omega) only [bo]at f0 f2 f4 f7 f31 f32 f33;show Hh G (di X KK) r3 h3;unfold Hh;simp (disch:=first|decide|omega) only [Io,f33,e33];refine hX (raws.length-(j+1)) _ _ (by omega) ⟨j+1,a3,ae3,ah3,c3,L3,n3,rfl,by omega,by rw [hstep];exact ss3,by rw [hstep];exact v3,by rw [hstep];exact hx3,cl1.trans cl3,by omega,by omega,s8,d6,by simp (disch:=omega) only [bo,f0,e0],by simp (disch:=omega) only [bo,f2,e2],by simp (disch:=omega) only [bo,f4,e4],by simp (disch:=omega) only [bo,f7,e7],by simp (disch:=omega) only [bo,f31,e31],by simp (disch:=omega) only [bo,f32,e32],by simp only [Io];rfl⟩
def Al:=jq bC (jq (jq (jq (jq @al151 @al30) (jq @cf121 @cf66)) (jq (jq @Lg @Wc) (jq @Wb @G3))) (jq (jq (jq @X1 @ld151p) (jq @ld30 @rz)) (jq (jq @ld3p @ln229) (jq @jc (jq @Xf @Ax)))))
theorem join3 {a b c h:Hp} {R:List Hp} (s:HL.Sep (a::b::c::R) h):∃q:Hp,a.le q/\b.le q/\c.le q/\∀h':Hp,a.le h'->b.le h'->c.le h'->q.le h':=by
 have a1:r9 a b:=s.apart (by simp);have a2:r9 a c:=s.apart (by simp);have a3:r9 b c:=s.drop.apart (by simp)
 have a4:r9 a (b.join c):=fun x=>by
  rcases a1 x with e|e
  . exact .inl e
  . rcases a2 x with e'|e'
    . exact .inl e'
    . right;unfold Hp.join;rw [e];exact e'
 refine ⟨a.join (b.join c),Hp.le_join,Hp.le_join.trans (Hp.le_join2 a4),(Hp.le_join2 a3).trans (Hp.le_join2 a4),fun h' l1 l2 l3 x o e=>?_⟩;unfold Hp.join at e;cases hx:a x with
 |some u=>rw [hx]at e;cases e;exact l1 _ _ hx
 |none=>
  rw [hx]at e;simp only at e;cases hy:b x with
  |some u=>rw [hy]at e;cases e;exact l2 _ _ hy
  |none=>rw [hy]at e;exact l3 _ _ e
theorem ar4 {G h a ae ah ak:Hp} {R:List Hp} {q:Par} {sp kp ms mw mp mt hp:Nat} {c:Cs} {S:SS} {L:List Go.Proofs.Wt.It} {n t0:Int} {p0:Pose} {z:Move} {x:St Pose Move} {k:Nat}
 (ss:Srs q a ae ah ms mw mp mt hp c S L n) (kpk:KP ak kp q.C.un q.C.ac q.C.sp) (bg:Bg G q sp kp ms mw mp mt hp) (ok:rt q.E) (v:Inv q.E p0 t0 z x.a S) (hx:S[k]?=some x) (hd:x.dn=true) (ha:0<=x.a) (hn:n<=34000000000)
 (s:HL.Sep (a::ae::ah::ak::R) h):
 bn P_ G 70 #[.pointer (some ⟨sp,0,none⟩),ndV (yh q.w q.k x),x.a] h (fun _ h'=>∃a' ae' ah' ak' c' L' n',Srs q a' ae' ah' ms mw mp mt hp c' (Bq q.E x k S) L' n'/\KP ak' kp q.C.un q.C.ac q.C.sp/\c.le c'/\n<=n'/\n'<=n+2000000/\HL.Sep (a'::ae'::ah'::ak'::R) h'/\Dis G h'):=by
 obtain ⟨ab,cb,ap,cp,ar,cr,az,cs,gp,tp,hbg⟩:=id bg.ex;have hxm:=ab_ hx;have hox:eu q.w q.k q.f x.p=true:=v.ok x hxm;obtain ⟨hsi,hs1,hs2⟩:=v.at_ x hxm;obtain ⟨hk1,hk3⟩:=ss.kept x hxm;refine bn.assume fun d=>enter70 (by simp) ?_;obtain ⟨_,_,gs,_⟩:=hbg h d;have hw16:=gs.w2;have hk16:=gs.k2;unfold S70;simp only [yh];simp only [Al];intro xn hxn gxn;have s1:=s.new (o := .cells #[(numP q.w q.k x.p),(x.i:Int)] 137 (0,0)) hxn;have d1:=d.set (o := .cells #[(numP q.w q.k x.p),(x.i:Int)] 137 (0,0)) gxn;generalize hon:Obj.cells #[(numP q.w q.k x.p),(x.i:Int)] 137 (0,0)=on at s1 d1 ⊢;generalize Hp.set h xn _=h1 at s1 d1 ⊢;have cn1:∀k,bf G h1 ⟨xn,k,none⟩=_:=fun k=>bm (bj ((s1.at 0 rfl bh).trans (by rw [hon])));obtain ⟨o1,o2,o3,m1,m2,m3,sa⟩:=id ss.ch.sep;have hmp:h1 mp=some o3:=(HL.Sep.open (s1.pick 1 rfl rfl) sa).at 2 rfl bh;have b1:=yx (hbg h1 d1).2.1;try simp only [Al,b1.mp,cn1]
 rw [H8 unmp un3r zerop (bj hmp) m3,hk3,bs_];intro xp hxp gxp;try simp (disch:=first|decide|exact b8|exact bw|omega|rfl) only [Al]
 have s2:=s1.new (o := .cells #[x.p.x,x.p.y,.bool x.p.d] 30 (0,0)) hxp;have d2:=d1.set (o := .cells #[x.p.x,x.p.y,.bool x.p.d] 30 (0,0)) gxp;generalize hop:Obj.cells #[x.p.x,x.p.y,.bool x.p.d] 30 (0,0)=op at s2 d2 ⊢;generalize Hp.set h1 xp _=h2 at s2 d2 ⊢;have s2o:HL.Sep ([noHp.set ms o1,noHp.set mw o2,noHp.set mp o3,c.P]++([noHp.set xp op,noHp.set xn on,ae,ah,ak]++R)) h2:=HL.Sep.open (R:=[noHp.set xp op,noHp.set xn on,ae,ah,ak]++R) (s2.pick 2 rfl rfl) sa
 obtain ⟨q9,l1,l2,l3,l4⟩:=join3 (R:=[]) (HL.Sep.sel (L':=[noHp.set xn on,noHp.set xp op,c.P]) (HL.Sep.take s2o 6 rfl) [5,4,3] (by decide) rfl);have lq2:q9.le h2:=l4 h2 (s2.in 1 rfl) (s2.in 0 rfl) (ss.ch.pool.trans (s2.in 2 rfl));have cq:∀k,bf G q9 ⟨xp,k,none⟩=_:=fun k=>bm (bj ((l2 _ _ bh).trans (by rw [hop])));have cqn:∀k,bf G q9 ⟨xn,k,none⟩=_:=fun k=>bm (bj ((l1 _ _ bh).trans (by rw [hon])));refine ⟨q9,lq2,?_⟩;try simp only [Al,cq]
 refine (nn ss.ch bg (HL.Sep.fr (R:=R) [noHp.set xp op,noHp.set xn on,a,ae,ah,ak] s2 [2,3,4,5,1,0] (by decide) rfl) hox).mono ?_;rintro u h3 ⟨a3,c3,ch3,cl3,e2,hu,hu3,s3,d3⟩;have s3:HL.Sep (a3::ae::ah::ak::noHp.set xn on::noHp.set xp op::R) h3:=s3;refine ⟨l4 h3 (s3.in 4 rfl) (s3.in 5 rfl) (cl3.p.trans (ch3.pool.trans (s3.in 0 rfl))),?_⟩;obtain ⟨u0,hu0⟩:=b2_.1 hk1;have huu:=cl3.l1 _ _ hu0;rw [hu]at huu;cases huu;have slu:=ss.ch.look1 hox hu0;obtain ⟨sv,cv,rfl,_⟩:=slu.len (by decide);have hsi':(mu q.w q.k q.T q.r x.p)[x.i]?=some x.s:=hsi;obtain ⟨b,o,rfl,z1,z2⟩:=Sees.span (slu.see (G:=G) (by decide) l3) hsi';have hlt:=(ad_.1 hsi').1;have hlti:(x.i:Int)<((mu q.w q.k q.T q.r x.p).length:Int):=Int.ofNat_lt.2 hlt;simp (disch:=first|decide|exact b8|exact bw|omega|rfl) only [Al,cqn,Vq (ac_ x.i) hlti,z1,z2];intro xo hxo gxo;have s4:=s3.new (o := .cells #[x.s.1,x.s.2] 151 (0,0)) hxo;have d4:=d3.set (o := .cells #[x.s.1,x.s.2] 151 (0,0)) gxo;generalize hoo:Obj.cells #[x.s.1,x.s.2] 151 (0,0)=oo at s4 d4 ⊢;generalize Hp.set h3 xo _=h4 at s4 d4 ⊢;have s4:HL.Sep (noHp.set xo oo::a3::ae::ah::ak::noHp.set xn on::noHp.set xp op::R) h4:=s4;have cx4:∀k,bf G h4 ⟨xp,k,none⟩=_:=fun k=>bm (bj ((s4.at 6 rfl bh).trans (by rw [hop])));try simp only [Al,cx4]
 refine (Uf ch3 kpk bg (HL.Sep.fr (R:=R) [noHp.set xo oo,a3,ae,ah,ak,noHp.set xn on,noHp.set xp op] s4 [1,4,2,3,0,5,6] (by decide) rfl) hox).mono ?_;rintro u h5 ⟨a5,ak5,c5,ch5,kp5,cl5,e5,hu5,s5,d5⟩;have s5:HL.Sep (a5::ak5::ae::ah::noHp.set xo oo::noHp.set xn on::noHp.set xp op::R) h5:=s5;obtain ⟨raws,wsl,hrl,hraw⟩:=ch5.look2 hox hu5;obtain ⟨sw,cw,rfl,_⟩:=wsl.len (by decide);try simp only [Al]
 have cl:=cl3.trans cl5;have ss5:Srs q a5 ae ah ms mw mp mt hp c5 S L n:=⟨ch5,ss.st,ss.hp,ss.ok,ss.qi,ss.kept.le cl,ss.n0,ss.ln⟩;have s6:HL.Sep ([noHp.set xn on,noHp.set xo oo]++(a5::ae::ah::ak5::R)) h5:=HL.Sep.fr (R:=R) [a5,ak5,ae,ah,noHp.set xo oo,noHp.set xn on,noHp.set xp op] s5 [5,4,0,2,3,1] (by decide) rfl;obtain ⟨Bx,s7,t7⟩:=HL.Sep.pack [noHp.set xn on,noHp.set xo oo] (R:=a5::ae::ah::ak5::R) s6;have fb:Fbx q Bx xn xo x:=⟨(t7.at 0 rfl bh).trans (by rw [hon]),(t7.at 1 rfl bh).trans (by rw [hoo])⟩;refine aB0 ss5 bg ok v hx hd ha hox hw16 hk16 fb wsl hrl hraw hn (R:=ak5::R) (HL.Sep.fr (R:=R) [Bx,a5,ae,ah,ak5] s7 [1,2,3,0,4] (by decide) rfl) d5 _ (by simp (disch:=omega) only [bo];rfl) (by simp (disch:=omega) only [bo];rfl) (by simp (disch:=decide) only [Al]) (by simp (disch:=decide) only [Al]) (by simp (disch:=decide) only [Al]) (by simp (disch:=decide) only [Al]) (by simp only [Al]) ?_;intro r' h8 a8 ae8 ah8 c8 L8 n8 ss8 cl8 m1 m2 s8 d8;exact ⟨a8,ae8,ah8,ak5,c8,L8,n8,ss8,kp5,cl.trans cl8,m1,m2,HL.Sep.fr (R:=R) [a8,ae8,ah8,Bx,ak5] s8 [0,1,2,4] (by decide) rfl,d8⟩
end Go.Proofs.YtfflipnhffknnaaGreatDoor
end

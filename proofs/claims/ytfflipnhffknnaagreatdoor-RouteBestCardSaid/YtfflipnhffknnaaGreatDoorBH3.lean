/- The layer of step rules over owned blocks. -/
import Derived.Test.YtfflipnhffknnaaGreatDoorBH2
import Derived.SizedLaws
set_option linter.unusedVariables false
set_option linter.unusedSimpArgs false
namespace Go.HL
open Go
section
variable {P:Program} {G:Hp}
def r9 (a b:Hp):Prop:=∀x,a x=none\/b x=none
def under (G h a:Hp):Hp:=fun x=>if a x=none then look G h x else none
theorem Hp.le.none {a h:Hp} (l:a.le h) {x:Nat} (e:h x=none):a x=none:=by
 cases q:a x with
 |none=>rfl
 |some o=>rw [l _ _ q]at e;cases e
theorem av3 {h a:Hp} (l:a.le h) {w:World} (i:In G h w):In (under G h a) a w:=by
 refine ⟨fun b o e=>i.sub b o (l _ _ e),fun b o e=>?_⟩;unfold under at e;split at e
 . rename_i q;exact ⟨Fa i e,q⟩
 . cases e
theorem bn.assume {f:FuncId} {args:Array Value} {h:Hp} {R:VK} (c:Dis G h->bn P G f args h R):bn P G f args h R:=
 fun w i=>c (fun b o e=>by
  cases q:G b with
  |none=>rfl
  |some p=>have:=(i.gnd b p q).2;rw [e]at this;cases this) w i
def over (h a a':Hp):Hp:=fun x=>match a' x with|some o=>some o|none=>if a x=none then h x else none
theorem bn.on {f:FuncId} {args:Array Value} {h a:Hp} {R:VK} (l:a.le h) (c:bn P (under G h a) f args a R):
 bn P G f args h (fun v h'=>∃a',R v a'/\a'.le h'/\Dis G h'/\∀b,b.le h->r9 a b->b.le h'/\r9 a' b):=by
 intro w i;refine (c w (av3 l i)).mono ?_;rintro e w' ⟨v,a',e1,m,r⟩
 have mv:Mv h w (over h a a') w':=by
  refine ⟨m.size,fun b o q=>?_,fun b o q1 q2=>?_,m.os,m.output,m.tape,m.drawn⟩
  . unfold over at q;split at q
    . rename_i p hp;rw [m.sub _ _ hp];exact q
    . split at q
      . rename_i hn;exact (m.frame b o (i.sub _ _ q) hn).1
      . cases q
  . have:=m.frame b o q1 (l.none q2);refine ⟨this.1,?_⟩;unfold over;rw [this.2];simp [q2]
 have i':=mv.keeps i;refine ⟨v,_,e1,mv,a',r,fun x o q=>by unfold over;rw [q],fun b o q=>?_,fun b lb ap=>?_⟩
 . cases q2:G b with
   |none=>rfl
   |some p=>have z:=(i'.gnd b p q2).2;rw [z]at q;cases q
 . have key:∀x o,b x=some o->a' x=none/\a x=none:=by
    intro x o q
    have ha:a x=none:=by
     rcases ap x with z|z
     . exact z
     . rw [q]at z;cases z
    exact ⟨(m.frame x o (i.sub _ _ (lb _ _ q)) ha).2,ha⟩
   refine ⟨fun x o q=>?_,fun x=>?_⟩
   . obtain ⟨k1,k2⟩:=key x o q;unfold over;rw [k1];simp only [k2,if_true];exact lb _ _ q
   . cases q:b x with
     |none=>exact .inr rfl
     |some o=>exact .inl (key x o q).1
theorem ku {h h':Hp} (l:h.le h') (d:Dis G h') {a:Addr} {v:Value} (e:bf G h a=some v):bf G h' a=some v:=by
 unfold bf look at*;cases hb:h a.block with
 |none=>
  rw [hb]at e;cases hb':h' a.block with
  |none=>exact e
  |some o=>rw [d _ _ hb']at e;simp at e
 |some o=>rw [l _ _ hb];rw [hb]at e;exact e
theorem Sees.up {α:Type} {c:Cod α} {h h':Hp} {v:Value} {L:List α} (s:Sees c G h v L) (l:h.le h') (d:Dis G h'):Sees c G h' v L:=s.keep fun _ _=>ku l d
def Sep (L:List Hp) (h:Hp):Prop:=(∀a∈L,a.le h)/\L.Pairwise r9
theorem r9.symm {a b:Hp} (h:r9 a b):r9 b a:=fun x=>(h x).symm
theorem Sep.hd {a:Hp} {L:List Hp} {h:Hp} (s:Sep (a::L) h):a.le h:=s.1 a (.head _)
theorem Sep.on {f:FuncId} {args:Array Value} {h a:Hp} {L:List Hp} {R:VK} (s:Sep (a::L) h) (c:bn P (under G h a) f args a R):
 bn P G f args h (fun v h'=>∃a',R v a'/\Sep (a'::L) h'/\Dis G h'):=by
 refine (bn.on s.hd c).mono ?_;rintro v h' ⟨a',r,l,d,k⟩;have ap:=(ap_.1 s.2);refine ⟨a',r,⟨fun b hb=>?_,ap_.2 ⟨fun b hb=>(k b (s.1 b (.tail _ hb)) (ap.1 b hb)).2,ap.2⟩⟩,d⟩;rcases al_.1 hb with rfl|hb
 . exact l
 . exact (k b (s.1 b (.tail _ hb)) (ap.1 b hb)).1
theorem Sep.swap {a b:Hp} {L:List Hp} {h:Hp} (s:Sep (a::b::L) h):Sep (b::a::L) h:=by obtain ⟨s1,s2⟩:=s;refine ⟨fun x hx=>s1 x (by simp only [al_]at hx ⊢;rcases hx with h|h|h<;>simp [h]),?_⟩;simp only [ap_,al_]at s2 ⊢;exact ⟨fun x hx=>by rcases hx with rfl|hx;exact (s2.1 _ (.inl rfl)).symm;exact s2.2.1 x hx,fun x hx=>s2.1 x (.inr hx),s2.2.2⟩
theorem Sep.rot {a b c:Hp} {L:List Hp} {h:Hp} (s:Sep (a::b::c::L) h):Sep (c::a::b::L) h:=by
 have s1:=s.2;refine ⟨fun x hx=>s.1 x (by simp only [al_]at hx ⊢;rcases hx with h|h|h|h<;>simp [h]),?_⟩;simp only [ap_,al_]at s1 ⊢;refine ⟨fun x hx=>?_,fun x hx=>?_,fun x hx=>?_,s1.2.2.2⟩
 . rcases hx with rfl|rfl|hx
   . exact (s1.1 _ (.inr (.inl rfl))).symm
   . exact (s1.2.1 _ (.inl rfl)).symm
   . exact s1.2.2.1 x hx
 . rcases hx with rfl|hx
   . exact s1.1 _ (.inl rfl)
   . exact s1.1 _ (.inr (.inr hx))
 . exact s1.2.1 x (.inr hx)
theorem Sep.drop {a:Hp} {L:List Hp} {h:Hp} (s:Sep (a::L) h):Sep L h:=⟨fun x hx=>s.1 x (.tail _ hx),(ap_.1 s.2).2⟩
theorem Sep.cut {a b:Hp} {L:List Hp} {h:Hp} (s:Sep (a::L) h) (l:b.le a):Sep (b::L) h:=by
 have ap:=ap_.1 s.2;refine ⟨fun x hx=>?_,ap_.2 ⟨fun c hc x=>?_,ap.2⟩⟩
 . rcases al_.1 hx with rfl|hx
   . exact l.trans s.hd
   . exact s.1 x (.tail _ hx)
 . rcases ap.1 c hc x with z|z
   . exact .inl (l.none z)
   . exact .inr z
theorem Sep.put {a:Hp} {L:List Hp} {h:Hp} (s:Sep (a::L) h) {b:Nat} {p o:Obj} (hb:a b=some p):Sep (a.set b o::L) (h.set b o):=by
 have ap:=ap_.1 s.2;have key:∀c∈L,c b=none:=fun c hc=>by rcases ap.1 c hc b with z|z;rw [hb]at z;cases z;exact z
 refine ⟨fun x hx=>?_,ap_.2 ⟨fun c hc x=>?_,ap.2⟩⟩
 . rcases al_.1 hx with rfl|hx
   . exact s.hd.both
   . exact (s.1 x (.tail _ hx)).set (key x hx)
 . by_cases hx:x=b
   . subst hx;exact .inr (key c hc)
   . rw [ci hx];exact ap.1 c hc x
theorem Sep.new {L:List Hp} {h:Hp} (s:Sep L h) {x:Nat} {o:Obj} (hx:h x=none):Sep (noHp.set x o::L) (h.set x o):=by
 refine ⟨fun a ha=>?_,ap_.2 ⟨fun c hc y=>?_,s.2⟩⟩
 . rcases al_.1 ha with rfl|ha
   . intro y p e;by_cases hy:y=x
     . subst hy;rw [bh]at e ⊢;exact e
     . rw [ci hy]at e;cases e
   . exact (s.1 a ha).set ((s.1 a ha).none hx)
 . by_cases hy:y=x
   . subst hy;exact .inr ((s.1 c hc).none hx)
   . rw [ci hy];exact .inl rfl
theorem Sep.past {L:List Hp} {h:Hp} (s:Sep L h) {x:Nat} {o:Obj} (hx:h x=none):Sep L (h.set x o):=(s.new hx).drop
theorem Sep.grow {a:Hp} {L:List Hp} {h:Hp} (s:Sep (a::L) h) {x:Nat} {o:Obj} (hx:h x=none):Sep (a.set x o::L) (h.set x o):=by
 have ap:=ap_.1 s.2;refine ⟨fun c hc=>?_,ap_.2 ⟨fun c hc y=>?_,ap.2⟩⟩
 . rcases al_.1 hc with rfl|hc
   . exact s.hd.both
   . exact (s.1 c (.tail _ hc)).set ((s.1 c (.tail _ hc)).none hx)
 . by_cases hy:y=x
   . subst hy;exact .inr ((s.1 c (.tail _ hc)).none hx)
   . rw [ci hy];exact ap.1 c hc y
theorem Sep.le {L:List Hp} {h h':Hp} (s:Sep L h) (l:h.le h'):Sep L h':=⟨fun a ha=>(s.1 a ha).trans l,s.2⟩
theorem Sep.one {h:Hp}:Sep [h] h:=⟨fun a ha=>by simp at ha;subst ha;exact Hp.le.refl _,by simp⟩
theorem Sep.take {L:List Hp} {h:Hp} (s:Sep L h) (n:Nat) {L':List Hp} (e:L.take n=L'):Sep L' h:=by subst e;exact ⟨fun a ha=>s.1 a (List.mem_of_mem_take ha),s.2.sublist (List.take_sublist n L)⟩
theorem T5 {h a b:Hp} (l:b.le h) (ap:r9 a b) {x:Nat} {o:Obj} (e:b x=some o):under G h a x=some o:=by
 unfold under look;rcases ap x with z|z
 . rw [z,l _ _ e];rfl
 . rw [e]at z;cases z
theorem Wr {h:Hp} (d:Dis G h) {x:Nat} {o:Obj} (e:G x=some o) {a:Addr} (ha:a.block=x):bf G h a=zf o a:=by
 unfold bf look;cases q:h a.block with
 |some p=>rw [ha]at q;rw [d _ _ q]at e;cases e
 |none=>rw [ha,e];rfl
theorem Sep.apart {a b h:Hp} {L:List Hp} (s:Sep (a::L) h) (hb:b∈L):r9 a b:=(ap_.1 s.2).1 b hb
def Hp.join (a b:Hp):Hp:=fun x=>match a x with|some o=>some o|none=>b x
theorem Hp.le_join {a b:Hp}:a.le (a.join b):=fun x o e=>by unfold Hp.join;rw [e]
theorem Hp.le_join2 {a b:Hp} (h:r9 a b):b.le (a.join b):=fun x o e=>by
 unfold Hp.join;rcases h x with z|z
 . rw [z];exact e
 . rw [e]at z;cases z
theorem Sep.join {a b:Hp} {L:List Hp} {h:Hp} (s:Sep (a::b::L) h):Sep (a.join b::L) h/\r9 a b:=by
 have s2:=s.2;simp only [ap_,al_]at s2;refine ⟨⟨fun c hc=>?_,ap_.2 ⟨fun c hc x=>?_,s2.2.2⟩⟩,s2.1 _ (.inl rfl)⟩
 . rcases al_.1 hc with rfl|hc
   . intro x o e;unfold Hp.join at e;split at e
     . rename_i p hp;rw [s.1 a (.head _) _ _ hp];exact e
     . exact s.1 b (.tail _ (.head _)) _ _ e
   . exact s.1 c (.tail _ (.tail _ hc))
 . cases q:c x with
   |none=>exact .inr rfl
   |some o=>
    left;unfold Hp.join;rcases s2.1 c (.inr hc) x with z|z
    . rw [z];rcases s2.2.1 c hc x with z2|z2
      . exact z2
      . rw [q]at z2;cases z2
    . rw [q]at z;cases z
end
end Go.HL
set_option linter.unusedVariables false
set_option linter.unusedSimpArgs false
namespace Go.HL
open Go
section
variable {P:Program} {G:Hp} {α:Type}
theorem F6 {T e:TypeId} {n bytes:Nat} (hu:P.underlying T=some (.slice e)) (k:iu P e n bytes) {ty:TypeId} {h:Hp} {base base':Option Addr} {len cap cap':Nat}
 (hc:len<=cap) {K:VK}:wpH P G (Builtin.append_ #[T,T] ty #[.slice base len cap,.slice base' 0 cap']) h K=K (.slice base len cap) h:=by
 obtain ⟨i,z,hi,rfl,rfl,hz,hzc⟩:=k.get;have hb':∀(α β:Type) (s:Sem α) (g:α->Sem β),(s >>= g)=s.bind g:=fun _ _ _ _=>rfl;have hl:∀K:Nat->Hp->Prop,wpH P G (Builtin.lenOf (.slice base' 0 cap')) h K=K 0 h:=fun _=>rfl
 have hf:∀K:Array Value->Hp->Prop,wpH P G (Builtin.firstCells i.size 0 (.slice base' 0 cap')) h K=K #[] h:=fun _=>by
  cases base' with
  |none=>rfl
  |some q=>simp only [Builtin.firstCells,bH_];rfl
 simp only [Builtin.append_,hb',underlying,program,sizeOf,typeInfo,Sem.bind,pure];cases base with
 |none=>simp only [wpH,dp,hu,hi,aV_,ar_,as_,hl,bc_,ak_ hc,bL_,if_true,aI_,if_false,hf]
 |some b=>simp only [wpH,dp,hu,hi,aV_,ar_,as_,hl,bc_,ak_ hc,bL_,if_true,aI_,if_false,hf];rfl
def Slc (c:Cod α) (e:TypeId) (a:Hp) (v:Value) (L:List α):Prop:=∃ob,Own c e a v L ob
theorem Own.le {c:Cod α} {e:TypeId} {h h':Hp} {v:Value} {L:List α} {ob:Option Nat} (o:Own c e h v L ob) (l:h.le h'):Own c e h' v L ob:=by
 cases ob with
 |none=>exact o
 |some b=>obtain ⟨cap,t,r1,r2,r3⟩:=o;exact ⟨cap,t,r1,l _ _ r2,r3⟩
theorem Slc.le {c:Cod α} {e:TypeId} {h h':Hp} {v:Value} {L:List α} (o:Slc c e h v L) (l:h.le h'):Slc c e h' v L:=o.imp fun _ o=>o.le l
theorem Slc.nil {c:Cod α} {e:TypeId} {h:Hp}:Slc c e h (.slice none 0 0) ([]:List α):=⟨none,rfl,rfl⟩
theorem Slc.len {c:Cod α} {e:TypeId} {h:Hp} {v:Value} {L:List α} (o:Slc c e h v L) (hn:0<c.n):∃s cap,v = .slice s L.length cap/\L.length<=cap:=by obtain ⟨ob,o⟩:=o;obtain ⟨s,cap,e,l,_⟩:=o.sees (G:=noHp) hn;exact ⟨s,cap,e,l⟩
theorem Slc.sees {c:Cod α} {e:TypeId} {a h:Hp} {v:Value} {L:List α} (o:Slc c e a v L) (hn:0<c.n) (l:a.le h):Sees c G h v L:=by obtain ⟨ob,o⟩:=o;exact (o.le l).sees hn
theorem Sees.row {c:Cod α} {h:Hp} {b cap:Nat} {e:TypeId} {cs:Array Value} {L:List α} (hb:h b=some (.cells cs e (0,0))) (hl:cs.toList=c.rows L) (hc:L.length<=cap):Sees c G h (.slice (some ⟨b,0,none⟩) L.length cap) L:=by
 refine ⟨_,cap,rfl,hc,.inr ⟨b,0,rfl,fun i x hx j hj=>?_⟩⟩;have e1:bf G h ⟨b,0+i*c.n+j,none⟩=cs[i*c.n+j]?:=by unfold bf;rw [bj hb];simp [zf]
 rw [e1,<- aQ_,hl];have h3:=c.rows_get (t:=[]) hx hj;rw [av_]at h3;exact h3
theorem Sees.src {c:Cod α} {h:Hp} {v:Value} {L:List α} (s:Sees c G h v L) (hn:0<c.n) (hL:L≠[]):Src G h c.n v L.length (c.rows L):=by
 obtain ⟨sl,cap,rfl,h1,h2⟩:=s;refine ⟨c.rows_length L,?_⟩
 . rcases h2 with h2|⟨b,o,rfl,hc⟩
   . exact (hL h2).elim
   . refine .inr ⟨b,o,cap,rfl,fun j hj=>?_⟩;rw [c.rows_length]at hj;have hi:j / c.n<L.length:=cc_ (by rw [bi_];exact hj);have hm:j % c.n<c.n:=Nat.mod_lt _ hn;have e1:j=(j / c.n)*c.n+j % c.n:=by rw [bi_];exact (b3_ j c.n).symm
     have:=hc (j / c.n) _ (aa_ hi) (j % c.n) hm;rw [ck_,<- e1]at this;rw [this];conv=>rhs;rw [e1]
     have h3:=c.rows_get (t:=[]) (aa_ hi) hm;rw [av_]at h3;exact h3.symm
theorem fh (c:Cod α) (hn:0<c.n) {T e:TypeId} {bytes:Nat} (hu:P.underlying T=some (.slice e)) (k:iu P e c.n bytes) (hb0:0<bytes) (hb1:bytes<=1000000) {ty:TypeId} {h a:Hp} {R:List Hp} {v x:Value} {L M:List α}
 (s:Sep (a::R) h) (d:Dis G h) (o:Slc c e a v L) (src:Sees c G h x M) (hlen:L.length+M.length<=1000000) {K:VK}
 (H:∀v' a' h',Slc c e a' v' (L++M)->Sep (a'::R) h'->Dis G h'->K v' h'):wpH P G (Builtin.append_ #[T,T] ty #[v,x]) h K:=by
 by_cases hM:M=[]
 . subst hM;obtain ⟨b,cap,rfl,hc⟩:=o.len hn;obtain ⟨b',cap',rfl,_⟩:=src;rw [show ([]:List α).length=0 from rfl,F6 hu k hc];exact H _ a h (by rw [av_];exact o) s d
 . obtain ⟨ob,ow⟩:=o;refine Y1 c hu k hb0 (ow.le s.hd) (src.src hn hM) hM ?_ (by omega) fun b' cap' ts hb hl=>?_
   . refine bo_ (bw_ (show 2*(L.length+M.length)+192<=2000192 by omega) hb1) (by decide)
   . rcases hb with rfl|⟨hb,gb⟩
     . obtain ⟨cap,t,rfl,h2,h3⟩:=ow;refine H _ _ _ ⟨some b',cap',ts,by rw [ae_],bh,hl⟩ (s.put h2) (d.set ?_);exact d _ _ (s.hd _ _ h2)
     . exact H _ _ _ ⟨some b',cap',ts,by rw [ae_],bh,hl⟩ (s.grow hb) (d.set gb)
theorem sees_to {c:Cod α} {T e:TypeId} (hu:P.underlying T=some (.slice e)) (hs:(P.info? e).map (·.size)=some c.n) {h:Hp} {v:Value} {L:List α} (s:Sees c G h v L) {j:Int} (h1:0<=j) (h2:j<=L.length) {K:VK}
 (H:∀v',Sees c G h v' (L.take j.toNat)->K v' h):wpH P G (Instr.sliceAt T v none (some (.int .i64 j)) none) h K:=by obtain ⟨a,cap,rfl,hc,st⟩:=s.take (k:=j.toNat) (by omega);rw [Ay hu hs h1 (by omega)];exact H _ st
theorem Sees.drop {c:Cod α} {h:Hp} {a:Addr} {cap:Nat} {L:List α} (s:Sees c G h (.slice (some a) L.length cap) L) {k:Nat} (hk:k<=L.length):
 Sees c G h (.slice (some (if cap=k then a else a.add (k*c.n))) (L.length-k) (cap-k)) (L.drop k):=by
 obtain ⟨s,cap',e,h1,h2⟩:=s;cases e;refine ⟨_,_,by rw [bJ_],by rw [bJ_];omega,?_⟩;by_cases hkl:k=L.length
 . left;rw [hkl];simp
 rcases h2 with rfl|⟨b,o,e,hc⟩
 . left;simp
 . cases e;right;rw [ah_ (by omega)];refine ⟨b,o+k*c.n,by simp [Addr.add],fun i x hx j hj=>?_⟩;rw [List.getElem?_drop]at hx;have:=hc _ x hx j hj;rw [bK_,<- ck_]at this;exact this
theorem an3 {c:Cod α} {T e:TypeId} (hu:P.underlying T=some (.slice e)) (hs:(P.info? e).map (·.size)=some c.n) {h:Hp} {v:Value} {L:List α} (s:Sees c G h v L) (hL:L≠[]) {j:Int} (h1:0<=j) (h2:j<=L.length) {K:VK}
 (H:∀v',Sees c G h v' (L.drop j.toNat)->K v' h):wpH P G (Instr.sliceAt T v (some (.int .i64 j)) none none) h K:=by
 obtain ⟨sa,cap,rfl,hc,h3⟩:=id s;rcases h3 with h3|⟨b,o,rfl,_⟩
 . exact (hL h3).elim
 . rw [pk hu hs h1 h2 hc];exact H _ (s.drop (by omega))
theorem Sep.none {L:List Hp} {h:Hp} (s:Sep L h):Sep (noHp::L) h:=⟨fun a ha=>by
 rcases al_.1 ha with rfl|ha
 . intro _ _ e;cases e
 . exact s.1 a ha,ap_.2 ⟨fun _ _ _ => .inl rfl,s.2⟩⟩
theorem Oq:∀{L:List Hp} {i:Nat} {a:Hp},L[i]?=some a->(a::L.eraseIdx i).Perm L
 |[],i,a,h=>by simp at h
 |x::L,0,a,h=>by simp only [ar_,Option.some.injEq]at h;subst h;exact .refl _
 |x::L,i+1,a,h=>by simp only [as_]at h;exact (List.Perm.swap x a _).trans ((Oq h).cons x)
theorem Sep.pick {L L':List Hp} {h a:Hp} (s:Sep L h) (i:Nat) (ha:L[i]?=some a) (hL:L.eraseIdx i=L'):Sep (a::L') h:=by subst hL;have hm:a∈L:=ab_ ha;have p:=Oq ha;exact ⟨fun x hx=>s.1 x (p.mem_iff.1 hx),(p.pairwise_iff r9.symm).2 s.2⟩
theorem Sep.at {L:List Hp} {h a:Hp} (s:Sep L h) (i:Nat) (ha:L[i]?=some a) {x:Nat} {o:Obj} (e:a x=some o):h x=some o:=s.1 a (ab_ ha) _ _ e
theorem Sep.in {L:List Hp} {h a:Hp} (s:Sep L h) (i:Nat) (ha:L[i]?=some a):a.le h:=s.1 a (ab_ ha)
theorem Sep.split {a b h:Hp} {L R:List Hp} (s:Sep (a::b::R) h) (t:Sep L b):Sep (a::(L++R)) h:=by
 have s2:=s.2;simp only [ap_,al_]at s2;have sub:∀{x y z:Hp},x.le y->r9 z y->r9 z x:=fun l ap w=>(ap w).imp id fun e=>l.none e;refine ⟨fun c hc=>?_,ap_.2 ⟨fun c hc=>?_,bd_.2 ⟨t.2,s2.2.2,fun x hx y hy=>?_⟩⟩⟩
 . rcases al_.1 hc with rfl|hc
   . exact s.hd
   . rcases ao_.1 hc with hc|hc
     . exact (t.1 c hc).trans s.drop.hd
     . exact s.1 c (.tail _ (.tail _ hc))
 . rcases ao_.1 hc with hc|hc
   . exact sub (t.1 c hc) (s2.1 b (.inl rfl))
   . exact s2.1 c (.inr hc)
 . exact (sub (t.1 x hx) (s2.2.1 y hy).symm).symm
theorem Slc.see {c:Cod α} {e:TypeId} {a h:Hp} {v:Value} {L:List α} (o:Slc c e a v L) (hn:0<c.n) (l:a.le h):Sees c G h v L:=o.sees hn l
end
end Go.HL
set_option linter.unusedVariables false
set_option linter.unusedSimpArgs false
namespace Go.HL
open Go Go.ChangeShapes Go.WideShapes Go.RowKit
def i8 (P:Program) (e:TypeId):Option (List (TypeId × Nat)):=match P.underlying e with
 |some (.struct fs)=>some (fs.toList.map fun f=>(f.type,f.offset))
 |_=>none
theorem D4 {H:Type} {enc:TypeId × Value->H} {P:Program} {w:World} {base:Nat} {spare:Nat->Bool} {held:Bool} {e:TypeId} {fuel:Nat} {cs:List Value} {y:DataW H × List MemPlace} {tos:List (TypeId × Nat)} (ht:i8 P e=some tos)
 (h:DataW.trod enc P w base spare held fuel e cs=some y):cs.length=P.cellsOf e/\∀(i:Nat) (t o:Nat),tos[i]?=some (t,o)->∃m z,DataW.trod enc P w base spare held m t ((cs.drop o).take (P.cellsOf t))=some z:=by
 unfold i8 at ht;split at ht
 . rename_i fs hfs;obtain ⟨h1,h2⟩:=Yk hfs h;refine ⟨h1,fun i t o hi=>?_⟩;simp only [Option.some.injEq]at ht;subst ht;rw [aO_,aQ_]at hi;cases q:fs[i]? with
   |none=>rw [q]at hi;cases hi
   |some f=>rw [q]at hi;simp only [a0_,Option.some.injEq,Prod.mk.injEq]at hi;obtain ⟨rfl,rfl⟩:=hi;exact h2 i f q
 . cases ht
end Go.HL
set_option linter.unusedVariables false
set_option linter.unusedSimpArgs false
namespace Go.HL
open Go
section
variable {P:Program} {G:Hp}
def midx (L:List (Int × Value)) (k:Int):Option Nat:=L.findIdx? fun p=>p.1==k
def mget (L:List (Int × Value)) (k:Int):Option Value:=(midx L k).bind fun j=>(L[j]?).map (·.2)
def mput (L:List (Int × Value)) (k:Int) (v:Value):List (Int × Value):=match midx L k with
 |some j=>L.set j (k,v)
 |none=>L++[(k,v)]
def MapO (o:Obj) (L:List (Int × Value)):Prop:=∃es clock,o = .map es clock/\es.toList.map (fun e=>(e.key,e.val))=L.map (fun p=>(Value.int .i64 p.1,p.2))
theorem MapO.cells {o:Obj} {L:List (Int × Value)} (m:MapO o L):iy o=false:=by obtain ⟨es,c,rfl,_⟩:=m;rfl
theorem Bt {κ:IntKind} {k:Int}:∀(es:List MapEntry) (L:List (Int × Value)) (i:Nat),es.map (fun e=>(e.key,e.val))=L.map (fun p=>(Value.int .i64 p.1,p.2))->
 Instr.findNow (.int κ) (.int .i64 k) es i=some ((midx L k).bind fun j=>(L[j]?).map fun p=>(i+j,p.2))
 |[],[],i,_=>rfl
 |[],_::_,i,h=>by simp at h
 |_::_,[],i,h=>by simp at h
 |e::es,p::L,i,h=>by
  simp only [bC_,List.cons.injEq,Prod.mk.injEq]at h;obtain ⟨⟨h1,h2⟩,h3⟩:=h;unfold Instr.findNow;rw [h1];simp only [Instr.sameNow,if_true];unfold midx;rw [List.findIdx?_cons];cases hk:(k==p.1)with
  |true=>
   have:(p.1==k)=true:=by simp at hk ⊢;exact hk.symm
   simp only [this,if_true];simp [h2]
  |false=>
   have:(p.1==k)=false:=by simp at hk ⊢;exact fun e=>hk e.symm
   simp only [this];rw [Bt es L (i+1) h3];unfold midx;cases hf:List.findIdx? (fun p=>p.1==k) L with
   |none=>simp [hf]
   |some j=>simp [hf];congr 1;funext q;simp;omega
theorem Bu {kt:TypeId} {κ:IntKind} (hk:P.underlying kt=some (.int κ)) {k:Int} {es:Array MapEntry} {L:List (Int × Value)} (he:es.toList.map (fun e=>(e.key,e.val))=L.map (fun p=>(Value.int .i64 p.1,p.2))) {h:Hp} {K:Option (Nat × Value)->Hp->Prop}:
 wpH P G (Instr.findKey kt (.int .i64 k) es.toList) h K=K ((midx L k).bind fun j=>(L[j]?).map fun p=>(j,p.2)) h:=by unfold Instr.findKey underlying;simp only [bind,dp,program,wpH,hk,pure,Bt _ _ 0 he,a1_]
theorem R5 {kt:TypeId} {κ:IntKind} (hk:P.underlying kt=some (.int κ)) {k:Int} {es:Array MapEntry} {L:List (Int × Value)} (he:es.toList.map (fun e=>(e.key,e.val))=L.map (fun p=>(Value.int .i64 p.1,p.2))) {h:Hp} {K:Option (Nat × Value)->Prop}:
 pw P G h (Instr.findKey kt (.int .i64 k) es.toList) K=K ((midx L k).bind fun j=>(L[j]?).map fun p=>(j,p.2)):=by unfold Instr.findKey underlying;simp only [bind,py,program,pw,hk,pure,Bt _ _ 0 he,a1_]
theorem zx {b:Bool} {kt:TypeId} {κ:IntKind} (hk:P.underlying kt=some (.int κ)) {v:Value} {h:Hp} {K:Unit->Hp->Prop}:wpH P G (Instr.checkKey b 10000 kt v) h K=K () h:=by rw [show (10000:Nat)=9999+1 from rfl];unfold Instr.checkKey underlying;simp only [bind,dp,program,wpH,hk,pure]
theorem Oa {b:Bool} {kt:TypeId} {κ:IntKind} (hk:P.underlying kt=some (.int κ)) {v:Value} {h:Hp} {K:Unit->Prop}:pw P G h (Instr.checkKey b 10000 kt v) K=K ():=by rw [show (10000:Nat)=9999+1 from rfl];unfold Instr.checkKey underlying;simp only [bind,py,program,pw,hk,pure]
def qv (P:Program) (e:TypeId):Option Value:=(P.info? e).bind (·.zero)
theorem G0 {L:List (Int × Value)} {k:Int}:mget L k=((midx L k).bind fun j=>(L[j]?).map fun p=>(j,p.2)).map (·.2):=by
 unfold mget;cases midx L k with
 |none=>rfl
 |some j=>cases h:L[j]?<;>simp [h]
theorem Xx {T kt et:TypeId} {κ:IntKind} (hT:P.underlying T=some (.map kt et)) (hk:P.underlying kt=some (.int κ)) {z:Value} (hz:qv P et=some z) {b:Nat} {o:Obj} {L:List (Int × Value)} {h:Hp} (hb:look G h b=some o) (m:MapO o L) {k:Int} {K:VK}:
 wpH P G (Instr.lookup T (.map (some b)) (.int .i64 k) false) h K=K ((mget L k).getD z) h:=by
 obtain ⟨es,clock,rfl,he⟩:=m;unfold qv at hz;cases hi:P.info? et with
 |none=>rw [hi]at hz;cases hz
 |some i=>
 rw [hi]at hz;simp only [bl_]at hz;rw [G0];unfold Instr.lookup underlying getObj;simp only [bind,dp,program,wpH,hT,hk,pure,hb,Option.some.injEq,exists_eq_left',iy,true_and,zx hk,Bu hk he];cases ((midx L k).bind fun j=>(L[j]?).map fun p=>(j,p.2))with
 |some q=>rfl
 |none=>simp [wpH,dp,zeroValue,typeInfo,program,bind,pure,hi,hz,Sem.bind]
theorem H8 {T kt et:TypeId} {κ:IntKind} (hT:P.underlying T=some (.map kt et)) (hk:P.underlying kt=some (.int κ)) {z:Value} (hz:qv P et=some z) {b:Nat} {o:Obj} {L:List (Int × Value)} {h:Hp} (hb:look G h b=some o) (m:MapO o L) {k:Int} {K:Value->Prop}:
 pw P G h (Instr.lookup T (.map (some b)) (.int .i64 k) false) K=K ((mget L k).getD z):=by
 obtain ⟨es,clock,rfl,he⟩:=m;unfold qv at hz;cases hi:P.info? et with
 |none=>rw [hi]at hz;cases hz
 |some i=>
 rw [hi]at hz;simp only [bl_]at hz;rw [G0];unfold Instr.lookup underlying getObj;simp only [bind,py,program,pw,hT,hk,pure,hb,Option.some.injEq,exists_eq_left',iy,true_and,Oa hk,R5 hk he];cases ((midx L k).bind fun j=>(L[j]?).map fun p=>(j,p.2))with
 |some q=>rfl
 |none=>simp [pw,py,zeroValue,typeInfo,program,bind,pure,hi,hz,Sem.bind]
theorem H9 {T kt et:TypeId} {κ:IntKind} (hT:P.underlying T=some (.map kt et)) (hk:P.underlying kt=some (.int κ)) {z:Value} (hz:qv P et=some z) {b:Nat} {o:Obj} {L:List (Int × Value)} {h:Hp} (hb:look G h b=some o) (m:MapO o L) {k:Int} {K:VK}:
 wpH P G (Instr.lookup T (.map (some b)) (.int .i64 k) true) h K=K (.tuple #[(mget L k).getD z,.bool (mget L k).isSome]) h:=by
 obtain ⟨es,clock,rfl,he⟩:=m;unfold qv at hz;cases hi:P.info? et with
 |none=>rw [hi]at hz;cases hz
 |some i=>
 rw [hi]at hz;simp only [bl_]at hz;rw [G0];unfold Instr.lookup underlying getObj;simp only [bind,dp,program,wpH,hT,hk,pure,hb,Option.some.injEq,exists_eq_left',iy,true_and,zx hk,Bu hk he];cases ((midx L k).bind fun j=>(L[j]?).map fun p=>(j,p.2))with
 |some q=>rfl
 |none=>simp [wpH,dp,zeroValue,typeInfo,program,bind,pure,hi,hz,Sem.bind]
theorem ap7 {T kt et t:TypeId} (hT:P.underlying T=some (.map kt et)) {b:Nat} {o:Obj} {L:List (Int × Value)} {h:Hp} (hb:look G h b=some o) (m:MapO o L) {K:VK}:
 wpH P G (Builtin.len_ #[T] t #[.map (some b)]) h K=K (.int .i64 L.length) h:=by obtain ⟨es,clock,rfl,he⟩:=m;have hl:=congrArg List.length he;simp only [bq_,b1_]at hl;unfold Builtin.len_ underlying getObj;simp only [bind,dp,program,wpH,hT,pure,hb,Option.some.injEq,exists_eq_left',iy,true_and,aV_,ar_];rw [hl];rfl
theorem zi {T kt et:TypeId} {κ:IntKind} (hT:P.underlying T=some (.map kt et)) (hk:P.underlying kt=some (.int κ)) {b:Nat} {o:Obj} {L:List (Int × Value)} {h:Hp} (hb:h b=some o) (m:MapO o L) {k:Int} {v:Value} {K:Unit->Hp->Prop}
 (H:∀o',MapO o' (mput L k v)->K () (h.set b o')):wpH P G (Instr.mapUpdate T (.map (some b)) (.int .i64 k) v) h K:=by
 obtain ⟨es,clock,rfl,he⟩:=m;have hlk:look G h b=some (.map es clock):=by unfold look;rw [hb]
 unfold Instr.mapUpdate underlying getObj;simp only [bind,dp,program,wpH,hT,hk,pure,hlk,Option.some.injEq,exists_eq_left',iy,true_and,zx hk,Bu hk he];unfold mput at H;have hl:=congrArg List.length he;simp only [bq_,b1_]at hl;cases hm:midx L k with
 |none=>rw [hm]at H;simp only [Option.bind_none];unfold setObj;refine ⟨⟨_,hb,rfl⟩,H _ ⟨_,_,rfl,?_⟩⟩;simp [he]
 |some j=>
  rw [hm]at H;have hj:j<L.length:=by unfold midx at hm;exact (List.findIdx?_eq_some_iff_getElem.1 hm).1
  have hkey:(L[j]).1=k:=by unfold midx at hm;have:=(List.findIdx?_eq_some_iff_getElem.1 hm).2.1;simpa using this
  have hej:j<es.size:=by omega
  have hent:(es[j].key,es[j].val)=(Value.int .i64 (L[j]).1,(L[j]).2):=by have:=congrArg (fun l=>l[j]?) he;simp only [aO_,aQ_,aJ_ hej,aa_ hj,a0_,Option.some.injEq]at this;exact this
  simp only [aa_ hj,bl_,a0_];have hks:∀K:Value->Hp->Prop,wpH P G (Instr.keyThatStays (((es[j]?).map (·.key)).getD (.int .i64 k)) (.int .i64 k)) h K=K (.int .i64 k) h:=by intro K;rw [aJ_ hej];simp only [a0_,bs_];rw [show es[j].key=Value.int .i64 k by rw [<- hkey];exact (Prod.mk.inj hent).1];unfold Instr.keyThatStays;rw [show Instr.sameBits 10000 (Value.int .i64 k) (Value.int .i64 k)=true by rw [show (10000:Nat)=9999+1 from rfl];simp [Instr.sameBits]];rfl
  simp only [dp,hks];unfold setObj;refine ⟨⟨_,hb,rfl⟩,H _ ⟨_,_,rfl,?_⟩⟩;apply bg_;intro q;simp only [aO_,aQ_,bk_,ci_];have heq:=congrArg (fun l=>l[q]?) he;simp only [aO_,aQ_]at heq;by_cases hq:j=q
  . subst hq;simp [aJ_ hej,hj]
  . simp [hq,heq]
theorem vc {p:Int × Value} {L:List (Int × Value)} {k:Int}:mget (p::L) k=if p.1=k then some p.2 else mget L k:=by
 unfold mget midx;rw [List.findIdx?_cons];by_cases h:p.1=k
 . simp [h]
 . have:(p.1==k)=false:=by simpa using h
   simp only [this,ah_ h];cases List.findIdx? (fun p=>p.1==k) L<;>simp
theorem Vb {k:Int} {v:Value}:mput [] k v=[(k,v)]:=rfl
theorem Oz {p:Int × Value} {L:List (Int × Value)} {k:Int} {v:Value}:mput (p::L) k v=if p.1=k then (k,v)::L else p::mput L k v:=by
 unfold mput midx;rw [List.findIdx?_cons];by_cases h:p.1=k
 . simp [h]
 . have:(p.1==k)=false:=by simpa using h
   simp only [this,ah_ h];cases List.findIdx? (fun p=>p.1==k) L<;>simp
theorem ql {k q:Int} {v:Value}:∀{L:List (Int × Value)},mget (mput L k v) q=if k=q then some v else mget L q
 |[]=>by rw [Vb,vc]
 |p::L=>by
  rw [Oz];by_cases h:p.1=k
  . rw [ak_ h,vc,vc,h];by_cases hq:k=q<;>simp [hq]
  . rw [ah_ h,vc,vc,ql];by_cases hq:k=q
    . subst hq;simp [h]
    . simp [hq]
theorem Oy {k:Int} {v:Value}:∀{L:List (Int × Value)},(mput L k v).map (·.1)=if k∈L.map (·.1)then L.map (·.1)else L.map (·.1)++[k]
 |[]=>by simp [Vb]
 |p::L=>by
  rw [Oz];by_cases h:p.1=k
  . simp [h]
  . rw [ah_ h,bC_,Oy];by_cases hm:k∈L.map (·.1)
    . rw [ak_ hm,ak_ (by simp only [bC_];exact .tail _ hm)];rfl
    . rw [ah_ hm,ah_ (by simp only [bC_,al_];rintro (e|e);exact h e.symm;exact hm e)];rfl
end
end Go.HL
set_option linter.unusedVariables false
set_option linter.unusedSimpArgs false
namespace Go.HL
open Go
section
variable {P:Program} {G:Hp}
theorem G5 {T e:TypeId} {n s:Nat} (hu:P.underlying T=some (.array n e)) (hs:(P.info? e).map (·.size)=some s) {a:Addr} {k:IntKind} {i:Int} (h1:0<=i) (h2:i<n) {h:Hp} {K:VK}:
 wpH P G (Instr.indexAt T (.pointer (some a)) (.int k i)) h K=K (.pointer (some (a.add (i.toNat*s)))) h:=by
 cases hi:P.info? e with
 |none=>rw [hi]at hs;cases hs
 |some x=>rw [hi]at hs;simp at hs;subst hs;simp [Instr.indexAt,Instr.sureAddr,asIntOf,underlying,program,bind,Sem.bind,pure,wpH,dp,hu,sizeOf,typeInfo,hi,h1,h2]
theorem Ky {T e:TypeId} {n s:Nat} (hu:P.underlying T=some (.array n e)) (hs:(P.info? e).map (·.size)=some s) {a:Addr} {k:IntKind} {i:Int} (h1:0<=i) (h2:i<n) {h:Hp} {K:Value->Prop}:
 pw P G h (Instr.indexAt T (.pointer (some a)) (.int k i)) K=K (.pointer (some (a.add (i.toNat*s)))):=by
 cases hi:P.info? e with
 |none=>rw [hi]at hs;cases hs
 |some x=>rw [hi]at hs;simp at hs;subst hs;simp [Instr.indexAt,Instr.sureAddr,asIntOf,underlying,program,bind,Sem.bind,pure,pw,py,hu,sizeOf,typeInfo,hi,h1,h2]
end
end Go.HL
set_option linter.unusedVariables false
set_option linter.unusedSimpArgs false
namespace Go.HL
open Go
section
variable {P:Program} {G:Hp} {α:Type}
theorem Wn (c:Cod α) (hn:0<c.n) {T e:TypeId} {bytes:Nat} (hu:P.underlying T=some (.slice e)) (k:iu P e c.n bytes) {ty:TypeId} {h:Hp} {b cap n:Nat} {e':TypeId} {x:Value} {L M:List α}
 (hb:h b=some (.cells (c.rows M).toArray e' (0,0))) (hM:M.length=L.length) (sv:Sees c G h x L) (hL:L≠[]) (hnl:n=L.length) {K:VK}:
 wpH P G (Builtin.copy_ #[T,T] ty #[.slice (some ⟨b,0,none⟩) n cap,x]) h K=K (.int .i64 n) (h.set b (.cells (c.rows L).toArray e' (0,0))):=by subst hnl;have s:=sv.src hn hL;obtain ⟨i,z,hi,hsz,rfl,hz,hzc⟩:=k.get;have hb':∀(α β:Type) (s:Sem α) (g:α->Sem β),(s >>= g)=s.bind g:=fun _ _ _ _=>rfl;have hs:i.size=c.n:=hsz;simp only [Builtin.copy_,hb',underlying,program,sizeOf,typeInfo,Sem.bind,pure];simp only [wpH,dp,hu,hi,aV_,ar_,as_,yo s,hs];rw [show Nat.min L.length L.length=L.length from Nat.min_self _,je s];rw [m7 (i:=0) (k:=0) (c.rows L).toArray.toList hb (by simp [c.rows_length,hM]) (by simpa using c.rows_one L)];congr 1;rw [ut _ _ _ (by simp [c.rows_length,hM])];simp only [List.toList_toArray,bc_,List.take_zero,a8_,a1_];rw [a5_ (by rw [c.rows_length,c.rows_length,hM];exact aj_ _),av_]
end
end Go.HL
set_option linter.unusedVariables false
set_option linter.unusedSimpArgs false
namespace Go.HL
open Go
section
variable {G:Hp} {α:Type}
def Cf (c:Cod α) (G:Hp) (v:Value) (L:List α):Prop:=∀h,Dis G h->Sees c G h v L
theorem pi {h h0 a h3:Hp} {x:Addr} {v:Value} (s:Sep [a,h0] h) (d:Dis G h) (d3:Dis (under G h a) h3) (e:bf G h0 x=some v):bf (under G h a) h3 x=some v:=by
 have key:∃o,under G h a x.block=some o/\zf o x=some v:=by
  unfold bf look at e;cases q:h0 x.block with
  |some o=>rw [q]at e;exact ⟨o,T5 (s.in 1 rfl) (s.apart (.head _)) q,e⟩
  |none=>
   rw [q]at e;cases q2:G x.block with
   |none=>rw [q2]at e;cases e
   |some o=>
    rw [q2]at e
    have hn:h x.block=none:=by
     cases q3:h x.block with
     |none=>rfl
     |some p=>rw [d _ _ q3]at q2;cases q2
    refine ⟨o,?_,e⟩;unfold under look;rw [s.hd.none hn,hn,q2];rfl
 obtain ⟨o,ho,hv⟩:=key;rw [Wr d3 ho rfl,hv]
theorem Sees.gnd {c:Cod α} {h h0 a:Hp} {v:Value} {L:List α} (s:Sep [a,h0] h) (d:Dis G h) (sv:Sees c G h0 v L):Cf c (under G h a) v L:=
 fun h3 d3=>by obtain ⟨sa,cap,rfl,h1,h2⟩:=sv;refine ⟨sa,cap,rfl,h1,h2.imp id fun ⟨b,o,e,hc⟩=>⟨b,o,e,fun i x hx j hj=>?_⟩⟩;have:=hc i x hx j hj;rw [aa_ (by rw [c.len];exact hj)]at this ⊢;exact pi s d d3 this
end
end Go.HL
set_option linter.unusedVariables false
set_option linter.unusedSimpArgs false
namespace Go.HL
open Go Go.ChangeShapes Go.WideShapes Go.RowKit
theorem as3 {α:Type} (c:Cod α) (Q:α->Prop) {H:Type} {enc:TypeId × Value->H} {P:Program} {w:World} {base:Nat} {spare:Nat->Bool} {held:Bool} {t e:TypeId} {fuel:Nat} {cs:List Value} {y:DataW H × List MemPlace}
 (ht:P.underlying t=some (.slice e)) (hn:P.cellsOf e=c.n) (h0:0<c.n)
 (hdec:∀fuel cs y,DataW.trod enc P w base spare held fuel e cs=some y->∃x,cs=c.enc x/\Q x)
 (h:DataW.trod enc P w base spare held fuel t cs=some y):∃a len cap L,cs=[.slice a len cap]/\len=L.length/\len<=maxLen/\Cf c (ground w) (.slice a len cap) L/\∀x∈L,Q x:=by
 rcases DataW.trod_slice ht h with ⟨rfl,_⟩|⟨a,len,cap,elems,rest,k,_,rfl,_,_,hlc,hcm,hlen,hel,_⟩
 . exact ⟨none,0,0,[],rfl,rfl,au_ _,fun h d=>⟨none,0,rfl,aj_ _,.inl rfl⟩,fun _ h=>by cases h⟩
 . rw [hn]at hel
   have each:∀i,i<len->∃x,Q x/\∀j,j<c.n->w.cell? ((a.add (i*c.n)).add j)=(c.enc x)[j]?:=by
    intro i hi;have h2:=hel i hi;rw [aa_ (by omega)]at h2;cases hc:w.cells? base (a.add (i*c.n)) c.n with
    |none=>rw [hc]at h2;cases h2
    |some cs=>rw [hc]at h2;obtain ⟨_,h3,h4⟩:=World.cells?_some hc;obtain ⟨x,rfl,hq⟩:=hdec k cs _ h2;exact ⟨x,hq,h4⟩
   obtain ⟨L,hL,hq⟩:=Jk len each;refine ⟨some a,len,cap,L,rfl,hL.symm,bo_ hlc hcm,?_,fun x hx=>?_⟩
   . intro h d;by_cases hl0:len=0
     . subst hl0;obtain rfl:=List.length_eq_zero_iff.1 hL;exact ⟨some a,cap,rfl,au_ _,.inl rfl⟩
     obtain ⟨x0,c1,c3⟩:=each 0 (by omega);have hs:((a.add (0*c.n)).add 0).spot=none:=by have:=c3 0 h0;rw [aa_ (by rw [c.len];omega)]at this;exact Pn this
     obtain ⟨b,o,sp⟩:=a
     have hsp:sp=none:=by
      cases sp with
      |none=>rfl
      |some s=>simp [Addr.add]at hs
     subst hsp;refine ⟨_,cap,by rw [hL],by omega,.inr ⟨b,o,rfl,fun i x hx j hj=>?_⟩⟩;obtain ⟨q1,q2⟩:=hq i x hx;have:=q2 j hj;rw [ox,ox]at this;rw [aa_ (by rw [c.len];omega)]at this ⊢;exact Ie this d
   . obtain ⟨i,hi⟩:=bn_ hx;exact (hq i x hi).1
section
variable {P:Program} {G:Hp} {α:Type}
theorem Ss {T e:TypeId} {n bytes:Nat} (hu:P.underlying T=some (.slice e)) (k:iu P e n bytes) (hb0:0<bytes) {ty:TypeId} {h:Hp} {base:Option Addr} {len cap m:Nat} {x:Value} {os vs:List Value}
 (s0:Src G h n (.slice base len cap) len os) (s:Src G h n x m vs) (hc:cap<len+m) (hmax:(2*(len+m)+192)*bytes<=281474976710656) {K:VK}
 (H:∀r cap' ts,h r=none->G r=none->len+m<=cap'->ts.length=(cap'-(len+m))*n->K (.slice (some ⟨r,0,none⟩) (len+m) cap') (h.set r (.cells (os++vs++ts).toArray e (0,0)))):
 wpH P G (Builtin.append_ #[T,T] ty #[.slice base len cap,x]) h K:=by
 obtain ⟨i,z,hi,rfl,rfl,hz,hzc⟩:=k.get;have hb':∀(α β:Type) (s:Sem α) (g:α->Sem β),(s >>= g)=s.bind g:=fun _ _ _ _=>rfl;have c1:¬len+m<=cap:=by omega
 have c2:¬(((len+m:Nat):Int)>IntKind.i64.max/\(False\/i.bytes=0)):=by
  rintro ⟨_,h2|h2⟩
  . cases h2
  . omega
 have c3:¬Builtin.nextslicecap (len+m) cap*i.bytes>2 ^ 48:=by have:=aU_ i.bytes (Rm hc);omega
 simp only [Builtin.append_,hb',underlying,program,sizeOf,typeInfo,Sem.bind,pure,zeroValue];simp only [wpH,dp,hu,hi,aV_,ar_,as_,yo s,ah_ c1,bL_,aI_,if_true,if_false];rw [ah_ c2];simp only [wpH,dp,hi];rw [ah_ c3];have cf:Question.forced (.appendCap (len+m) cap e)=false:=rfl;simp only [wpH,dp,choose,cf,vy,hi,hz,je s,je s0,newRow,newObj,bind,pure,aI_,if_false,Question.cut];intro t r hr gr;have:=H r (len+m+t % (2 ^ 63-(len+m))) (Builtin.zeroCells z.cells (len+m+t % (2 ^ 63-(len+m))-(len+m))).toList hr gr (by omega) (by simp [Builtin.zeroCells,hzc]);have e1:∀Z:Array Value,os.toArray++vs.toArray++Z=(os++vs++Z.toList).toArray:=fun Z=>by apply Array.ext';simp
 rw [e1];exact this
theorem Ir (c:Cod α) {T e:TypeId} {bytes:Nat} (hu:P.underlying T=some (.slice e)) (k:iu P e c.n bytes) (hb0:0<bytes) {ty:TypeId} {h:Hp} {v x:Value} {L M:List α} {ob:Option Nat}
 (o:Own c e h v L ob) (s:Src G h c.n x M.length (c.rows M)) (hM:M≠[]) (hmax:(2*(L.length+M.length)+192)*bytes<=281474976710656) {K:VK}
 (H:∀b' cap' ts,(ob=some b'\/(h b'=none/\G b'=none))->(c.rows (L++M)++ts).length=cap'*c.n->K (.slice (some ⟨b',0,none⟩) (L.length+M.length) cap') (h.set b' (.cells (c.rows (L++M)++ts).toArray e (0,0)))):
 wpH P G (Builtin.append_ #[T,T] ty #[v,x]) h K:=by
 have hMl:0<M.length:=bB_.2 hM
 have grow:∀base cap,v = .slice base L.length cap->cap<L.length+M.length->wpH P G (Builtin.append_ #[T,T] ty #[v,x]) h K:=by
  rintro base cap rfl hc;refine Ss hu k hb0 (Own.src o) s hc hmax fun r cap' ts hr gr hle hts=>?_
  have:=H r cap' ts (.inr ⟨hr,gr⟩) (by
   rw [ae_,c.rows_length,hts,ae_,<- bK_]
   congr 1;omega)
  rwa [c.rows_append]at this
 cases ob with
 |none=>obtain ⟨rfl,rfl⟩:=o;exact grow none 0 rfl (by simpa using hMl)
 |some b=>
  obtain ⟨cap,t,rfl,hb,hlen⟩:=o;by_cases hc:L.length+M.length<=cap
  . have hle:(L.length+M.length)*c.n<=(c.rows L++t).length:=by rw [hlen];exact aU_ _ hc
    rw [Lu hu k hb s (c.rows_one M) hc hle];have hput:putL (c.rows L++t) (L.length*c.n) (c.rows M)=c.rows (L++M)++t.drop (M.length*c.n):=by rw [ut _ _ _ (by rw [c.rows_length,<- bK_];exact hle),c.rows_length];rw [bu_ (by rw [c.rows_length];omega),am_ (by rw [c.rows_length];omega)];rw [cb_,a5_ (by rw [c.rows_length];omega),c.rows_length,c.rows_append];simp
    rw [hput];refine H b cap _ (.inl rfl) ?_;rw [<- hput,Bc];exact hlen
  . exact grow _ cap rfl (by omega)
theorem tc (c:Cod α) (hn:0<c.n) {T e:TypeId} {bytes:Nat} (hu:P.underlying T=some (.slice e)) (k:iu P e c.n bytes) (hb0:0<bytes) {ty:TypeId} {h a:Hp} {R:List Hp} {v x:Value} {L M:List α}
 (s:Sep (a::R) h) (d:Dis G h) (o:Slc c e a v L) (src:Sees c G h x M) (hlen:(2*(L.length+M.length)+192)*bytes<=281474976710656) {K:VK}
 (H:∀v' a' h',Slc c e a' v' (L++M)->Sep (a'::R) h'->Dis G h'->K v' h'):wpH P G (Builtin.append_ #[T,T] ty #[v,x]) h K:=by
 by_cases hM:M=[]
 . subst hM;obtain ⟨b,cap,rfl,hc⟩:=o.len hn;obtain ⟨b',cap',rfl,_⟩:=src;rw [show ([]:List α).length=0 from rfl,F6 hu k hc];exact H _ a h (by rw [av_];exact o) s d
 . obtain ⟨ob,ow⟩:=o;refine Ir c hu k hb0 (ow.le s.hd) (src.src hn hM) hM hlen fun b' cap' ts hb hl=>?_;rcases hb with rfl|⟨hb,gb⟩
   . obtain ⟨cap,t,rfl,h2,h3⟩:=ow;refine H _ _ _ ⟨some b',cap',ts,by rw [ae_],bh,hl⟩ (s.put h2) (d.set ?_);exact d _ _ (s.hd _ _ h2)
   . exact H _ _ _ ⟨some b',cap',ts,by rw [ae_],bh,hl⟩ (s.grow hb) (d.set gb)
end
end Go.HL
set_option linter.unusedVariables false
set_option linter.unusedSimpArgs false
namespace Go.HL
open Go Go.ChangeShapes Go.WideShapes Go.RowKit
def r6 {H:Type} (P:Program) (t:TypeId) (d:DataW H):Prop:=∀n∈d.weights P t,n<=reachBytes
theorem Bj {H:Type} {P:Program} {e:TypeId}:∀{ds:List (DataW H)} {d:DataW H},d∈ds->∀n∈d.weights P e,n∈DataW.weightsAll P e ds
 |d0::ds,d,hd,n,hn=>by
  simp only [DataW.weightsAll,ao_];rcases al_.1 hd with rfl|hd
  . exact .inl hn
  . exact .inr (Bj hd n hn)
theorem r6.slice {H:Type} {P:Program} {t e:TypeId} {el sp:List (DataW H)} (hu:P.underlying t=some (.slice e)) (h:r6 P t (.slice el sp:DataW H)):el.length*P.bytesOf e<=reachBytes/\∀d∈el,r6 P e d:=by unfold r6 at h;simp only [DataW.weights,hu,al_,ao_]at h;refine ⟨bo_ (aU_ _ (cm_ _ _)) (h _ (.inl rfl)),fun d hd n hn=>h n (.inr (.inl (Bj hd n hn)))⟩
theorem vu {α:Type} (c:Cod α) (Q:α->Prop) {H:Type} {enc:TypeId × Value->H} {P:Program} {w:World} {base:Nat} {spare:Nat->Bool} {held:Bool} {t e:TypeId} {fuel:Nat} {cs:List Value} {y:DataW H × List MemPlace}
 (ht:P.underlying t=some (.slice e)) (hn:P.cellsOf e=c.n) (h0:0<c.n)
 (hdec:∀fuel cs y,DataW.trod enc P w base spare held fuel e cs=some y->r6 P e y.1->∃x,cs=c.enc x/\Q x)
 (h:DataW.trod enc P w base spare held fuel t cs=some y) (hl:r6 P t y.1):∃a len cap L,cs=[.slice a len cap]/\len=L.length/\len*P.bytesOf e<=reachBytes/\Cf c (ground w) (.slice a len cap) L/\∀x∈L,Q x:=by
 rcases DataW.trod_slice ht h with ⟨rfl,_⟩|⟨a,len,cap,elems,rest,k,_,rfl,rfl,_,hlc,hcm,hlen,hel,_⟩
 . exact ⟨none,0,0,[],rfl,rfl,by simp,fun h d=>⟨none,0,rfl,aj_ _,.inl rfl⟩,fun _ h=>by cases h⟩
 . obtain ⟨hw1,hw2⟩:=hl.slice ht;rw [bq_,hlen]at hw1;rw [hn]at hel
   have each:∀i,i<len->∃x,Q x/\∀j,j<c.n->w.cell? ((a.add (i*c.n)).add j)=(c.enc x)[j]?:=by
    intro i hi;have h2:=hel i hi;rw [aa_ (by omega)]at h2;cases hc:w.cells? base (a.add (i*c.n)) c.n with
    |none=>rw [hc]at h2;cases h2
    |some cs=>rw [hc]at h2;obtain ⟨_,h3,h4⟩:=World.cells?_some hc;obtain ⟨x,rfl,hq⟩:=hdec k cs _ h2 (hw2 _ (ba_.2 ⟨_,cn_ _,rfl⟩));exact ⟨x,hq,h4⟩
   obtain ⟨L,hL,hq⟩:=Jk len each;refine ⟨some a,len,cap,L,rfl,hL.symm,hw1,?_,fun x hx=>?_⟩
   . intro h d;by_cases hl0:len=0
     . subst hl0;obtain rfl:=List.length_eq_zero_iff.1 hL;exact ⟨some a,cap,rfl,au_ _,.inl rfl⟩
     obtain ⟨x0,c1,c3⟩:=each 0 (by omega);have hs:((a.add (0*c.n)).add 0).spot=none:=by have:=c3 0 h0;rw [aa_ (by rw [c.len];omega)]at this;exact Pn this
     obtain ⟨b,o,sp⟩:=a
     have hsp:sp=none:=by
      cases sp with
      |none=>rfl
      |some s=>simp [Addr.add]at hs
     subst hsp;refine ⟨_,cap,by rw [hL],by omega,.inr ⟨b,o,rfl,fun i x hx j hj=>?_⟩⟩;obtain ⟨q1,q2⟩:=hq i x hx;have:=q2 j hj;rw [ox,ox]at this;rw [aa_ (by rw [c.len];omega)]at this ⊢;exact Ie this d
   . obtain ⟨i,hi⟩:=bn_ hx;exact (hq i x hi).1
theorem Il {H:Type} {enc:TypeId × Value->H} {P:Program} {w:World} {base:Nat} {spare:Nat->Bool} {held:Bool} {e:TypeId} {fuel:Nat} {cs:List Value} {y:DataW H × List MemPlace} {tos:List (TypeId × Nat)} (ht:i8 P e=some tos)
 (h:DataW.trod enc P w base spare held fuel e cs=some y) (hl:r6 P e y.1):cs.length=P.cellsOf e/\∀(i:Nat) (t o:Nat),tos[i]?=some (t,o)->∃m z,DataW.trod enc P w base spare held m t ((cs.drop o).take (P.cellsOf t))=some z/\r6 P t z.1:=by
 unfold i8 at ht;split at ht
 . rename_i fs hfs;obtain ⟨xs,n,_,rfl,h1,h2,h3⟩:=DataW.trod_struct hfs h;refine ⟨h1,fun i t o hi=>?_⟩;simp only [Option.some.injEq]at ht;subst ht;rw [aO_,aQ_]at hi;cases q:fs[i]? with
   |none=>rw [q]at hi;cases hi
   |some f=>
    rw [q]at hi;simp only [a0_,Option.some.injEq,Prod.mk.injEq]at hi;obtain ⟨rfl,rfl⟩:=hi;have hi2:i<xs.length:=by rw [h2];exact (ay_.1 q).1
    refine ⟨n,xs[i],?_,?_⟩
    . rw [h3 i f q,aa_ hi2]
    . intro m hm;refine hl m ?_;simp only [DataW.weights,hfs];refine DataW.weights_mem_each (j:=i) (t:=f.type) (d:=xs[i].1) ?_ ?_ m hm
      . rw [aO_,aQ_,q];rfl
      . rw [aO_,aa_ hi2];rfl
 . cases ht
end Go.HL

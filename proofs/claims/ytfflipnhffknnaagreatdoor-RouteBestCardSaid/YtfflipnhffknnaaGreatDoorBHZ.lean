/- The layer of step rules over owned blocks. -/
import Derived.Test.YtfflipnhffknnaaGreatDoorBH3
import Derived.Shelf.SlSortCmp.WholeK
set_option linter.unusedVariables false
namespace Go.HL
open Go Go.Proofs Go.Sort Go.Shelf
variable {P:Program} {G:Hp} {α:Type}
def hole (h:Hp) (b:Nat):Hp:=fun x=>if x=b then none else h x
theorem aa7 {h:Hp} {b:Nat}:(hole h b).le h:=fun x o e=>by
 unfold hole at e;split at e
 . cases e
 . exact e
theorem Kz {h:Hp} {b x:Nat} (hx:x≠b):hole h b x=h x:=by unfold hole;rw [ah_ hx]
theorem N5 {v:Value} (h:ls v=true):v.oneCell'=true:=by cases v<;>first|rfl|simp [ls]at h
theorem grow_of {h:Hp} {W w':World} (i:In G h W) (m:Mv h W h w'):∃q os',w'=grow (W.drewN q) os':=by
 refine ⟨w'.drawn-W.drawn,w'.heap.extract W.heap.size w'.heap.size,?_⟩;have hd:=m.drawn
 have e1:w'.heap=W.heap++w'.heap.extract W.heap.size w'.heap.size:=by
  apply Array.ext_getElem?;intro b;by_cases hb:b<W.heap.size
  . rw [bX_ hb];obtain ⟨o,ho⟩:∃o,W.heap[b]?=some o:=⟨_,aJ_ hb⟩;rw [ho];cases hh:h b with
    |some p=>have:=i.sub _ _ hh;rw [ho]at this;cases this;exact m.sub _ _ hh
    |none=>exact (m.frame _ _ ho hh).1
  . rw [Array.getElem?_append_right (by omega)];simp only [Array.getElem?_extract];have:=m.size;by_cases h2:b<w'.heap.size
    . rw [ak_ (by omega),show W.heap.size+(b-W.heap.size)=b by omega]
    . rw [ah_ (by omega),b7_ (by omega)]
 cases w' with
 |mk heap tape drawn os output=>have h1:=m.os;have h2:=m.output;have h3:=m.tape;simp only at h1 h2 h3 e1 hd;subst h1 h2 h3;unfold grow World.drewN;simp only;rw [<- e1,show W.drawn+(drawn-W.drawn)=drawn by omega]
theorem Q4 {enc:α->List Value} [Inhabited α] {k blk m:Nat} {w:World} {dk:Array α} {os:Array Obj}:(sortWorldK enc k w blk 0 m dk os).heap=(w.heap.modify blk (onCells (putCells id 0 (flatK enc k dk))))++os:=rfl
theorem Ep {enc:α->List Value} [Inhabited α] {k blk m:Nat} {w:World} {dk:Array α} {os:Array Obj} {b:Nat} {o:Obj} (hb:b≠blk) (h:w.heap[b]?=some o):(sortWorldK enc k w blk 0 m dk os).heap[b]?=some o:=by have hlt:=(ay_.1 h).1;rw [Q4,bX_ (by simpa using hlt),bk_,ah_ (Ne.symm hb)];exact h
theorem Pg (c:Cod α) [Inhabited α] (hn:0<c.n) (L:List α):(flatK c.enc c.n L.toArray).toList=c.rows L:=by
 apply bg_;intro i;rw [aQ_];by_cases hi:i<L.length*c.n
 . have h1:i / c.n<L.length:=cc_ (by rw [bi_];exact hi);have h2:i % c.n<c.n:=Nat.mod_lt _ hn;have e:=c.rows_get (t:=[]) (aa_ h1) h2;rw [av_,bi_,b3_]at e;rw [e];have hs:i<(flatK c.enc c.n L.toArray).size:=by rw [size_flatK];simpa using hi
   rw [aJ_ hs,<- getElem!_pos,get_flatK _ _ _ _ (by simpa using hi)];have e1:L.toArray[i / c.n]! = L[i / c.n]:=by rw [getElem!_pos _ _ (by simpa using h1)];simp
   rw [e1];have h3:i % c.n<(c.enc L[i / c.n]).length:=by rw [c.len];exact h2
   rw [getElem!_pos (c.enc L[i / c.n]) (i % c.n) h3,aa_ h3]
 . rw [b7_ (by rw [size_flatK];simpa using Nat.le_of_not_lt hi),a4_ (by rw [c.rows_length];omega)]
theorem ax2 (c:Cod α) [Inhabited α] (hn:0<c.n) {L S:List α} (hl:S.length=L.length) {t:List Value}:putCells id 0 (flatK c.enc c.n S.toArray) (c.rows L++t).toArray=(c.rows S++t).toArray:=by
 apply Array.ext_getElem?;intro i;unfold putCells;rw [Array.getElem?_mapIdx];have hsz:(flatK c.enc c.n S.toArray).size=S.length*c.n:=by rw [size_flatK];simp
 have hf:=Pg c hn S;rw [hsz];simp only [aV_,au_,true_and,a1_,Nat.sub_zero,id];by_cases hi:i<S.length*c.n
 . have h1:i<(c.rows L++t).length:=by rw [ae_,c.rows_length];rw [<- hl];omega
   rw [aa_ h1,a0_,ak_ hi,aq_ (by rw [c.rows_length];exact hi),<- hf,aQ_,getElem!_pos _ _ (by rw [hsz];exact hi),aJ_ (by rw [hsz];exact hi)]
 . have e1:(c.rows L++t)[i]?=(c.rows S++t)[i]?:=by rw [aF_ (by rw [c.rows_length,<- hl];omega),aF_ (by rw [c.rows_length];omega),c.rows_length,c.rows_length,hl]
   rw [<- e1];cases (c.rows L++t)[i]? with
   |none=>rfl
   |some v=>rw [a0_,ah_ hi]
theorem an0 {ρ:Ren} (Ly:SlLaysF0.n6 P ρ) (c:Cod α) [Inhabited α] (hn:0<c.n) (aE:∀w,(isAgg (ρ.t 24)).run P w = .ok true w) (zE:∀w,(Go.sizeOf (ρ.t 24)).run P w = .ok c.n w) {cf:α->α->Int} (hO:SWO (ltOf cf)) {g:Nat} {cb:Array Value}
 (eg:∀args w,(callFunc g args).run P w = .ok (.enter g args) w) {h a:Hp} {blk cap:Nat} {e:TypeId} {L:List α} {t:List Value} {R:List Hp} (s:Sep (a::R) h) (d:Dis G h) (ha:a blk=some (.cells (c.rows L++t).toArray e (0,0)))
 (hcmp:∀x y (h':Hp),Sep R h'->Dis G h'->bn P G g (#[.agg (c.enc x).toArray,.agg (c.enc y).toArray]++cb) h' (fun v h''=>v = .int .i64 (cf x y)/\h''=h')) (hsz:L.length<4611686018427387904):
 bn P G (ρ.f 6) #[.slice (some ⟨blk,0,none⟩) L.length cap,.func (.func g) #[] cb] h (fun v h'=>v = .tuple #[]/\∃S:List α,S.Perm L/\S.Pairwise (fun x y=>¬cf y x<0)/\h'=h.set blk (.cells (c.rows S++t).toArray e (0,0))):=by
 intro w i;have hb:=s.hd _ _ ha;have hw:=i.sub _ _ hb;have hlt:blk<w.heap.size:=(ay_.1 hw).1
 have hH:HoldsK c.enc c.n w blk 0 L.toArray:=by
  intro j hj;rw [size_flatK]at hj;have hj':j<L.length*c.n:=by simpa using hj
  have e1:(flatK c.enc c.n L.toArray)[j]?=(c.rows L)[j]?:=by rw [<- aQ_,Pg c hn]
  have e2:(flatK c.enc c.n L.toArray)[j]?=some (flatK c.enc c.n L.toArray)[j]! := by rw [aJ_ (by rw [size_flatK];simpa using hj'),getElem!_pos]
  constructor
  . unfold World.cell?;rw [hw];simp only [a1_,ce_,aI_,if_false,aV_,id];rw [aq_ (by rw [c.rows_length];exact hj'),<- e1,e2]
  . unfold World.frozen?;rw [hw];simp
 have hC:CmpLays P g cb c.enc c.n cf blk 0 L.toArray.size w:=by
  intro m os dk hdk x y
  have hs:Sep R (hole h blk):=⟨fun p hp b o hbo=>by
   have hne:b≠blk:=fun eb=>by
    subst eb;rcases (s.apart hp) b with z|z
    . rw [ha]at z;cases z
    . rw [hbo]at z;cases z
   rw [Kz hne]
   exact s.1 p (.tail _ hp) _ _ hbo,s.drop.2⟩
  have hd:Dis G (hole h blk):=fun b o hbo=>d _ _ (aa7 _ _ hbo)
  have iw:In G (hole h blk) (sortWorldK c.enc c.n w blk 0 m dk os):=⟨fun b o hbo=>by
   have hne:b≠blk:=fun eb=>by subst eb;simp [hole]at hbo
   exact Ep hne (i.sub _ _ (aa7 _ _ hbo)),fun b o hbo=>by
   obtain ⟨g1,g2⟩:=i.gnd _ _ hbo;have hne:b≠blk:=fun eb=>by subst eb;rw [hb]at g2;cases g2
   exact ⟨Ep hne g1,by rw [Kz hne];exact g2⟩⟩
  refine (hcmp x y _ hs hd _ iw).mono ?_;rintro e w'' ⟨v,h'',rfl,mv,rfl,rfl⟩;exact ⟨rfl,grow_of iw mv⟩
 refine (AnyQ.slices_SortFunc Ly c.n aE zE c.enc c.len (fun x v hv=>N5 (c.one x v hv)) cf hO g cb blk 0 cap L.toArray w eg hC hH hlt (by simpa using hsz)).mono ?_;rintro e' w' ⟨rfl,d',n,os,hp,hs,rfl⟩;obtain ⟨p1,_,p3⟩:=hp;have hl:d'.toList.length=L.length:=by simpa using p1
 have hperm:d'.toList.Perm L:=by
  have e1:d'.extract 0 L.toArray.size=d':=by rw [<- p1];simp
  have e2:L.toArray.extract 0 L.toArray.size=L.toArray:=by simp
  rw [e1,e2]at p3;simpa using p3
 have hblk:(sortWorldK c.enc c.n w blk 0 n d' os).heap[blk]?=some (.cells (c.rows d'.toList++t).toArray e (0,0)):=by rw [Q4,bX_ (by simpa using hlt),bk_,ak_ rfl,hw,a0_];have:=ax2 c hn (L:=L) (S:=d'.toList) hl (t:=t);unfold onCells;simp only;rw [show d'=d'.toList.toArray by simp]at*;rw [this]
 refine ⟨_,h.set blk (.cells (c.rows d'.toList++t).toArray e (0,0)),rfl,⟨?_,fun b o hbo=>?_,fun b o h1 h2=>?_,rfl,rfl,rfl,?_⟩,rfl,d'.toList,hperm,?_,rfl⟩
 . rw [Q4];simp
 . by_cases e1:b=blk
   . subst e1;rw [bh]at hbo;rw [hblk,hbo]
   . rw [ci e1]at hbo;exact Ep e1 (i.sub _ _ hbo)
 . have e1:b≠blk:=fun e=>by subst e;rw [hb]at h2;cases h2
   exact ⟨Ep e1 h1,by rw [ci e1];exact h2⟩
 . show w.drawn<=w.drawn+n;omega
 . rw [aT_];intro i j hi hj hij;have:=hs i j (au_ _) hij (by simp at hj;rw [p1]at hj;simpa using hj);unfold ltOf at this;rw [getElem!_pos d' j (by simpa using hj),getElem!_pos d' i (by simpa using hi)]at this;simpa using this
end Go.HL

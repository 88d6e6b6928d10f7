/- The layer of step rules over owned blocks. -/
import Derived.Orders
import Derived.Below
import Derived.KernelRfl
import Derived.Scope
import Derived.OrdersIn
import Derived.RangeFuncIn
import Derived.RangeFuncLeaves
import Derived.RangeFuncRecord
namespace Go
set_option linter.defProp false
abbrev aa_:=@List.getElem?_eq_getElem
abbrev ab_:=@List.mem_of_getElem?
abbrev ac_:=@Int.natCast_nonneg
abbrev ad_:=@List.getElem?_eq_some_iff
abbrev ae_:=@List.length_append
abbrev af_:=@decide_eq_true
abbrev ag_:=@Bool.and_eq_true
abbrev ah_:=@if_neg
abbrev ai_:=@decide_eq_false
abbrev aj_:=@Nat.le_refl
abbrev ak_:=@if_pos
abbrev al_:=@List.mem_cons
abbrev am_:=@List.take_of_length_le
abbrev an_:=@List.length_cons
abbrev ao_:=@List.mem_append
abbrev ap_:=@List.pairwise_cons
abbrev aq_:=@List.getElem?_append_left
abbrev ar_:=@List.getElem?_cons_zero
abbrev as_:=@List.getElem?_cons_succ
abbrev au_:=@Nat.zero_le
abbrev av_:=@List.append_nil
abbrev aw_:=@decide_eq_true_eq
abbrev ax_:=@List.getElem?_set_ne
abbrev ay_:=@Array.getElem?_eq_some_iff
abbrev az_:=@List.all_eq_true
abbrev aA_:=@Nat.ne_of_beq_eq_false
abbrev aB_:=@List.getElem?_set_self
abbrev aC_:=@List.append_assoc
abbrev aD_:=@Int.toNat_of_nonneg
abbrev aE_:=@List.mem_singleton
abbrev aF_:=@List.getElem?_append_right
abbrev aG_:=@List.getD_eq_getElem?_getD
abbrev aH_:=@Bool.true_and
abbrev aI_:=@Bool.false_eq_true
abbrev aJ_:=@Array.getElem?_eq_getElem
abbrev aK_:=@List.not_mem_nil
abbrev aL_:=@List.take_add_one
abbrev aM_:=@List.mem_range
abbrev aN_:=@List.length_take
abbrev aO_:=@List.getElem?_map
abbrev aP_:=@Int.toNat_natCast
abbrev aQ_:=@Array.getElem?_toList
abbrev aR_:=@decide_eq_false_iff_not
abbrev aS_:=@Int.le_refl
abbrev aT_:=@List.pairwise_iff_getElem
abbrev aU_:=@Nat.mul_le_mul_right
abbrev aV_:=@List.getElem?_toArray
abbrev aW_:=@Nat.mul_one
abbrev aX_:=@List.length_set
abbrev aY_:=@List.mem_flatMap
abbrev aZ_:=@List.mem_append_left
abbrev a0_:=@Option.map_some
abbrev a1_:=@Nat.zero_add
abbrev a2_:=@List.length_singleton
abbrev a3_:=@List.length_nil
abbrev a4_:=@List.getElem?_eq_none
abbrev a5_:=@List.drop_of_length_le
abbrev a6_:=@Bool.eq_iff_iff
abbrev a7_:=@List.mem_append_right
abbrev a8_:=@List.nil_append
abbrev a9_:=@List.nodup_append
abbrev ba_:=@List.mem_map
abbrev bb_:=@List.mem_or_eq_of_mem_set
abbrev bc_:=@Nat.add_zero
abbrev bd_:=@List.pairwise_append
abbrev be_:=@List.flatMap_append
abbrev bf_:=@List.any_eq_true
abbrev bg_:=@List.ext_getElem?
abbrev bh_:=@List.set_cons_zero
abbrev bi_:=@Nat.mul_comm
abbrev bj_:=@List.getElem_of_mem
abbrev bk_:=@Array.getElem?_modify
abbrev bl_:=@Option.bind_some
abbrev bm_:=@List.takeWhile_append_dropWhile
abbrev bn_:=@List.getElem?_of_mem
abbrev bo_:=@Nat.le_trans
abbrev bp_:=@List.count_eq_zero
abbrev bq_:=@List.length_map
abbrev br_:=@List.drop_eq_getElem_cons
abbrev bs_:=@Option.getD_some
abbrev bt_:=@List.take_length
abbrev bu_:=@List.take_append_of_le_length
abbrev bv_:=@List.flatMap_cons
abbrev bw_:=@Nat.mul_le_mul
abbrev bx_:=@Int.mul_le_mul
abbrev bz_:=@Bool.and_true
abbrev bA_:=@List.perm_append_singleton
abbrev bB_:=@List.length_pos_iff
abbrev bC_:=@List.map_cons
abbrev bD_:=@Nat.succ_mul
abbrev bE_:=@List.take_append_drop
abbrev bF_:=@List.mem_filter
abbrev bG_:=@List.length_replicate
abbrev bH_:=@Nat.zero_mul
abbrev bI_:=@List.all_eq_false
abbrev bJ_:=@List.length_drop
abbrev bK_:=@Nat.add_mul
abbrev bL_:=@Bool.not_false
abbrev bM_:=@List.nodup_iff_count
abbrev bN_:=@Nat.min_eq_left
abbrev bO_:=@List.range_succ
abbrev bP_:=@List.nodup_cons
abbrev bQ_:=@List.map_append
abbrev bR_:=@List.pairwise_singleton
abbrev bS_:=@List.getElem?_replicate
abbrev bT_:=@List.getElem_set
abbrev bU_:=@List.foldl_cons
abbrev bV_:=@Array.getD_eq_getD_getElem?
abbrev bW_:=@Bool.not_true
abbrev bX_:=@Array.getElem?_append_left
abbrev bY_:=@List.length_dropLast
abbrev bZ_:=@Bool.false_and
abbrev b0_:=@List.cons_append
abbrev b1_:=@Array.length_toList
abbrev b2_:=@Option.isSome_iff_exists
abbrev b3_:=@Nat.div_add_mod
abbrev b4_:=@List.set_eq_take_append_cons_drop
abbrev b5_:=@List.set_cons_succ
abbrev b6_:=@Int.natCast_mul
abbrev b7_:=@Array.getElem?_eq_none
abbrev b8_:=@List.idxOf_append
abbrev b9_:=@Array.getElem?_setIfInBounds_ne
abbrev ca_:=@Int.toNat_zero
abbrev cb_:=@List.drop_append
abbrev cc_:=@Nat.div_lt_of_lt_mul
abbrev cd_:=@List.take_succ_cons
abbrev ce_:=@Option.isSome_none
abbrev cf_:=@List.mem_filterMap
abbrev cg_:=@Nat.lt_succ_iff_lt_or_eq
abbrev ch_:=@List.getElem?_take_of_lt
abbrev ci_:=@List.getElem?_set
abbrev cj_:=@List.foldl_append
abbrev ck_:=@Nat.add_assoc
abbrev cl_:=@Option.getD_none
abbrev cm_:=@Nat.le_add_right
abbrev cn_:=@List.getElem_mem
end Go
namespace Go.HL
open Go
abbrev Hp:=Nat->Option Obj
abbrev VK:=Value->Hp->Prop
def Hp.set (h:Hp) (b:Nat) (o:Obj):Hp:=fun x=>if x=b then some o else h x
def look (G h:Hp) (b:Nat):Option Obj:=match h b with
 |some o=>some o
 |none=>G b
def zf:Obj->Addr->Option Value
 | .cells c _ _,a=>if a.spot.isSome then none else c[a.off]?
 |_,_=>none
def bf (G h:Hp) (a:Addr):Option Value:=(look G h a.block).bind fun o=>zf o a
def rh:Obj->Addr->Bool
 | .cells _ _ (lo,hi),a=>lo<=a.off&&a.off<hi
 |_,_=>false
def E5:Obj->Option (TypeId × Nat)
 | .cells c e _=>some (e,c.size)
 |_=>none
def iy:Obj->Bool
 | .cells .. => true
 |_=>false
def ls:Value->Bool
 | .agg _ | .tuple _=>false
 |_=>true
structure In (G h:Hp) (w:World):Prop where
 sub:∀b o,h b=some o->w.heap[b]?=some o
 gnd:∀b o,G b=some o->w.heap[b]?=some o/\h b=none
structure Mv (h:Hp) (w:World) (h':Hp) (w':World):Prop where
 size:w.heap.size<=w'.heap.size
 sub:∀b o,h' b=some o->w'.heap[b]?=some o
 frame:∀b o,w.heap[b]?=some o->h b=none->w'.heap[b]?=some o/\h' b=none
 os:w'.os=w.os
 output:w'.output=w.output
 tape:w'.tape=w.tape
 drawn:w.drawn<=w'.drawn
theorem Mv.refl {G h:Hp} {w:World} (hi:In G h w):Mv h w h w:=
 ⟨aj_ _,hi.sub,fun _ _ h1 h2=>⟨h1,h2⟩,rfl,rfl,rfl,aj_ _⟩
theorem Mv.trans {h h1 h2:Hp} {w w1 w2:World} (a:Mv h w h1 w1) (b:Mv h1 w1 h2 w2):Mv h w h2 w2:=
 ⟨bo_ a.size b.size,b.sub,fun x o e1 e2=>let ⟨f1,f2⟩:=a.frame x o e1 e2;b.frame x o f1 f2,
  b.os.trans a.os,b.output.trans a.output,b.tape.trans a.tape,bo_ a.drawn b.drawn⟩
theorem Mv.keeps {G h h':Hp} {w w':World} (m:Mv h w h' w') (hi:In G h w):In G h' w':=
 ⟨m.sub,fun b o hb=>let ⟨h1,h2⟩:=hi.gnd b o hb;m.frame b o h1 h2⟩
def Hp.le (h h':Hp):Prop:=∀b o,h b=some o->h' b=some o
theorem Hp.le.refl (h:Hp):h.le h:=fun _ _ e=>e
theorem Hp.le.trans {a b c:Hp} (x:a.le b) (y:b.le c):a.le c:=fun _ _ e=>y _ _ (x _ _ e)
theorem Hp.le.set {h h':Hp} {b:Nat} {o:Obj} (x:h.le h') (hb:h b=none):h.le (h'.set b o):=fun y p e=>by
 unfold Hp.set;split
 . rename_i e2;subst e2;rw [hb]at e;cases e
 . exact x _ _ e
theorem Hp.le.both {h h':Hp} {b:Nat} {o:Obj} (x:h.le h'):(h.set b o).le (h'.set b o):=fun y p e=>by
 unfold Hp.set at*;split
 . rename_i e2;rw [ak_ e2]at e;exact e
 . rename_i e2;rw [ah_ e2]at e;exact x _ _ e
theorem Mv.less {h h' h'':Hp} {w w':World} (m:Mv h w h' w') (l:h''.le h'):Mv h w h'' w':=
 ⟨m.size,fun b o e=>m.sub b o (l b o e),fun b o e1 e2=>(by
  obtain ⟨f1,f2⟩:=m.frame b o e1 e2;refine ⟨f1,?_⟩;cases hh:h'' b with
  |none=>rfl
  |some p=>rw [l _ _ hh]at f2;cases f2),
  m.os,m.output,m.tape,m.drawn⟩
theorem In.less {G h h':Hp} {w:World} (i:In G h' w) (l:h.le h'):In G h w:=
 ⟨fun b o e=>i.sub b o (l b o e),fun b o e=>(by
  obtain ⟨f1,f2⟩:=i.gnd b o e;refine ⟨f1,?_⟩;cases hh:h b with
  |none=>rfl
  |some p=>rw [l _ _ hh]at f2;cases f2)⟩
theorem bh {h:Hp} {b:Nat} {o:Obj}:(h.set b o) b=some o:=by simp [Hp.set]
theorem ci {h:Hp} {b c:Nat} {o:Obj} (e:c≠b):(h.set b o) c=h c:=by simp [Hp.set,e]
theorem Et {h:Hp} {b c:Nat} {o p:Obj} (e:b≠c):(h.set b o).set c p=(h.set c p).set b o:=by funext x;simp only [Hp.set];by_cases h1:x=b<;>by_cases h2:x=c<;>simp_all
theorem set_set {h:Hp} {b:Nat} {o p:Obj}:(h.set b o).set b p=h.set b p:=by funext x;simp only [Hp.set];by_cases h1:x=b<;>simp_all
theorem Fa {G h:Hp} {w:World} (i:In G h w) {b:Nat} {o:Obj} (e:look G h b=some o):w.heap[b]?=some o:=by
 unfold look at e;split at e
 . rename_i p hp;rw [i.sub _ _ hp];exact e
 . exact (i.gnd _ _ e).1
theorem cell_in {G h:Hp} {w:World} (i:In G h w) {a:Addr} {v:Value} (e:bf G h a=some v):w.cell? a=some v:=by
 unfold bf at e;cases hl:look G h a.block with
 |none=>rw [hl]at e;cases e
 |some o=>
  rw [hl]at e;have:=Fa i hl;unfold World.cell?;rw [this];cases o<;>simp [zf]at e ⊢
  exact e
def wpH (P:Program) (G:Hp) {α:Type}:Sem α->Hp->(α->Hp->Prop)->Prop
 | .pure a,h,K=>K a h
 | .load _ a k,h,K=>∃v,bf G h a=some v/\wpH P G (k v) h K
 | .store _ a v k,h,K=>ls v=true/\a.spot=none/\∃c e f,h a.block=some (.cells c e f)/\a.off<c.size/\rh (.cells c e f) a=false/\
  wpH P G k (h.set a.block (.cells (c.setIfInBounds a.off v) e f)) K
 | .new o k,h,K=>∀r,h r=none->G r=none->wpH P G (k r) (h.set r o) K
 | .shape r k,h,K=>∃o,look G h r=some o/\wpH P G (k (E5 o)) h K
 | .freeze _ _ _,_,_=>False
 | .frozen a k,h,K=>∃o,look G h a.block=some o/\wpH P G (k (rh o a)) h K
 | .getObj r k,h,K=>∃o,look G h r=some o/\iy o=false/\wpH P G (k o) h K
 | .setObj r o k,h,K=>(∃p,h r=some p/\iy p=false)/\wpH P G k (h.set r o) K
 | .choose q k,h,K=>if q.forced then wpH P G (k 0) h K else ∀t,wpH P G (k (q.cut t)) h K
 | .sys _ _,_,_=>False
 | .program k,h,K=>wpH P G (k P) h K
 | .mark _ k,h,K=>wpH P G k h K
 | .halt _,_,_=>False
theorem Jx {P:Program} {G:Hp} {α:Type} (s:Sem α):∀{h:Hp} {K K':α->Hp->Prop},(∀a h,K a h->K' a h)->wpH P G s h K->wpH P G s h K':=by
 induction s with
 |pure a=>intro h K K' hk H;exact hk _ _ H
 |load m a k ih=>intro h K K' hk H;obtain ⟨v,e,H⟩:=H;exact ⟨v,e,ih v hk H⟩
 |store m a v k ih=>intro h K K' hk H;obtain ⟨h1,h2,c,e,f,h3,h4,h5,H⟩:=H;exact ⟨h1,h2,c,e,f,h3,h4,h5,ih hk H⟩
 |new o k ih=>intro h K K' hk H r h1 h2;exact ih r hk (H r h1 h2)
 |shape r k ih=>intro h K K' hk H;obtain ⟨o,e,H⟩:=H;exact ⟨o,e,ih _ hk H⟩
 |freeze a n k ih=>intro h K K' hk H;exact H.elim
 |frozen a k ih=>intro h K K' hk H;obtain ⟨o,e,H⟩:=H;exact ⟨o,e,ih _ hk H⟩
 |getObj r k ih=>intro h K K' hk H;obtain ⟨o,e,e2,H⟩:=H;exact ⟨o,e,e2,ih _ hk H⟩
 |setObj r o k ih=>intro h K K' hk H;exact ⟨H.1,ih hk H.2⟩
 |choose q k ih=>
  intro h K K' hk H;unfold wpH at H ⊢;split at H
  . rename_i e;rw [ak_ e];exact ih _ hk H
  . rename_i e;rw [ah_ e];exact fun t=>ih _ hk (H t)
 |sys c k ih=>intro h K K' hk H;exact H.elim
 |program k ih=>intro h K K' hk H;exact ih _ hk H
 |mark m k ih=>intro h K K' hk H;exact ih hk H
 |halt x=>intro h K K' hk H;exact H.elim
theorem dp {P:Program} {G:Hp} {α β:Type} (s:Sem α) (f:α->Sem β):∀{h:Hp} {K:β->Hp->Prop},
 wpH P G (s.bind f) h K↔wpH P G s h (fun a h'=>wpH P G (f a) h' K):=by
 induction s with
 |pure a=>intro h K;exact Iff.rfl
 |load m a k ih=>intro h K;exact exists_congr fun v=>and_congr_right fun _=>ih v
 |store m a v k ih=>intro h K;simp only [Sem.bind,wpH,ih]
 |new o k ih=>intro h K;simp only [Sem.bind,wpH,ih]
 |shape r k ih=>intro h K;simp only [Sem.bind,wpH,ih]
 |freeze a n k ih=>intro h K;exact Iff.rfl
 |frozen a k ih=>intro h K;simp only [Sem.bind,wpH,ih]
 |getObj r k ih=>intro h K;simp only [Sem.bind,wpH,ih]
 |setObj r o k ih=>intro h K;simp only [Sem.bind,wpH,ih]
 |choose q k ih=>intro h K;simp only [Sem.bind,wpH,ih]
 |sys c k ih=>intro h K;exact Iff.rfl
 |program k ih=>intro h K;simp only [Sem.bind,wpH,ih]
 |mark m k ih=>intro h K;simp only [Sem.bind,wpH,ih]
 |halt x=>intro h K;exact Iff.rfl
theorem In.fresh {G h:Hp} {w:World} (i:In G h w):h w.heap.size=none/\G w.heap.size=none:=by
 constructor
 . cases e:h w.heap.size with
   |none=>rfl
   |some o=>have:=i.sub _ _ e;simp at this
 . cases e:G w.heap.size with
   |none=>rfl
   |some o=>have:=(i.gnd _ _ e).1;simp at this
theorem Mv.new {G h:Hp} {w:World} (i:In G h w) (o:Obj):Mv h w (h.set w.heap.size o) { w with heap:=w.heap.push o }:=by
 refine ⟨by simp,fun b p e=>?_,fun b p e1 e2=>?_,rfl,rfl,rfl,aj_ _⟩
 . by_cases hb:b=w.heap.size
   . subst hb;rw [bh]at e;simp at e ⊢;exact e
   . rw [ci hb]at e;have:=i.sub _ _ e;have hlt:b<w.heap.size:=(ay_.1 this).1;show (w.heap.push o)[b]?=some p;rw [Array.getElem?_push,ah_ (by omega)];exact this
 . have hlt:b<w.heap.size:=(ay_.1 e1).1;refine ⟨?_,by rw [ci (by omega)];exact e2⟩;show (w.heap.push o)[b]?=some p;rw [Array.getElem?_push,ah_ (by omega)];exact e1
theorem Mv.put {G h:Hp} {w:World} (i:In G h w) {b:Nat} {p o:Obj} (hb:h b=some p) {w':World} (hsz:w'.heap.size=w.heap.size) (hself:w'.heap[b]?=some o)
 (hoth:∀c,c≠b->w'.heap[c]?=w.heap[c]?) (h1:w'.os=w.os) (h2:w'.output=w.output) (h3:w'.tape=w.tape) (h4:w.drawn<=w'.drawn):Mv h w (h.set b o) w':=by
 refine ⟨by omega,fun c q e=>?_,fun c q e1 e2=>?_,h1,h2,h3,h4⟩
 . by_cases hc:c=b
   . subst hc;rw [bh]at e;rw [hself];exact e
   . rw [ci hc]at e;rw [hoth c hc];exact i.sub _ _ e
 . have hc:c≠b:=fun e=>by subst e;rw [hb]at e2;cases e2
   exact ⟨by rw [hoth c hc];exact e1,by rw [ci hc];exact e2⟩
theorem uo {P:Program} {G:Hp} {α:Type} (s:Sem α):∀{h:Hp} {w:World} {K:α->Hp->Prop},In G h w->wpH P G s h K->
 ∃a h' w',s.run P w = .ok a w'/\Mv h w h' w'/\K a h':=by
 induction s with
 |pure a=>intro h w K i H;exact ⟨a,h,w,rfl,.refl i,H⟩
 |load m a k ih=>intro h w K i H;obtain ⟨v,e,H⟩:=H;obtain ⟨x,h',w',e1,e2,e3⟩:=ih v i H;exact ⟨x,h',w',by simp only [Sem.run,cell_in i e];exact e1,e2,e3⟩
 |store m a v k ih=>
  intro h w K i H;obtain ⟨h1,h2,c,e,f,h3,h4,h5,H⟩:=H;have hw:=i.sub _ _ h3;have hcell:w.cell? a=some c[a.off]:=by unfold World.cell?;rw [hw];simp [h2,h4]
  have hfr:w.frozen? a=false:=by unfold World.frozen?;rw [hw];exact h5
  have hblk:(w.setCell a v).heap[a.block]?=some (.cells (c.setIfInBounds a.off v) e f):=by simp only [World.setCell,bk_,ak_,hw,a0_,h2];rfl
  have hmv:Mv h w (h.set a.block (.cells (c.setIfInBounds a.off v) e f)) (w.setCell a v):=
   Mv.put i h3 (by simp [World.setCell]) hblk (fun b hb=>by simp only [World.setCell,bk_];rw [ah_ (Ne.symm hb)]) rfl rfl rfl (aj_ _)
  obtain ⟨x,h',w',e1,e2,e3⟩:=ih (hmv.keeps i) H;refine ⟨x,h',w',?_,hmv.trans e2,e3⟩;cases v<;>first|(simp [ls]at h1;done)|(simp only [Sem.run,hcell,hfr];exact e1)
 |new o k ih=>intro h w K i H;have hmv:=Mv.new i o;obtain ⟨f1,f2⟩:=i.fresh;obtain ⟨x,h',w',e1,e2,e3⟩:=ih w.heap.size (hmv.keeps i) (H _ f1 f2);exact ⟨x,h',w',e1,hmv.trans e2,e3⟩
 |shape r k ih=>
  intro h w K i H;obtain ⟨o,e,H⟩:=H;obtain ⟨x,h',w',e1,e2,e3⟩:=ih _ i H;refine ⟨x,h',w',?_,e2,e3⟩;have:w.shape? r=E5 o:=by unfold World.shape?;rw [Fa i e];cases o<;>rfl
  simp only [Sem.run,this];exact e1
 |freeze a n k ih=>intro h w K i H;exact H.elim
 |frozen a k ih=>
  intro h w K i H;obtain ⟨o,e,H⟩:=H;obtain ⟨x,h',w',e1,e2,e3⟩:=ih _ i H;refine ⟨x,h',w',?_,e2,e3⟩;have:w.frozen? a=rh o a:=by unfold World.frozen?;rw [Fa i e];cases o<;>rfl
  simp only [Sem.run,this];exact e1
 |getObj r k ih=>intro h w K i H;obtain ⟨o,e,e0,H⟩:=H;obtain ⟨x,h',w',e1,e2,e3⟩:=ih _ i H;refine ⟨x,h',w',?_,e2,e3⟩;simp only [Sem.run,Fa i e];cases o<;>first|(simp [iy]at e0;done)|exact e1
 |setObj r o k ih=>
  intro h w K i H;obtain ⟨⟨p,e,e0⟩,H⟩:=H;have hw:=i.sub _ _ e;have hlt:r<w.heap.size:=(ay_.1 hw).1
  have hmv:Mv h w (h.set r o) { w with heap:=w.heap.setIfInBounds r o }:=
   Mv.put i e (by simp) (by simp [hlt]) (fun c hc=>by simp [b9_ (Ne.symm hc)]) rfl rfl rfl (aj_ _)
  obtain ⟨x,h',w',e1,e2,e3⟩:=ih (hmv.keeps i) H;refine ⟨x,h',w',?_,hmv.trans e2,e3⟩;simp only [Sem.run,hw];cases p<;>first|(simp [iy]at e0;done)|exact e1
 |choose q k ih=>
  intro h w K i H;unfold wpH at H;split at H
  . rename_i hf;obtain ⟨x,h',w',e1,e2,e3⟩:=ih _ i H;exact ⟨x,h',w',by simp only [Sem.run,hf,if_true];exact e1,e2,e3⟩
  . rename_i hf;have i':In G h { w with drawn:=w.drawn+1 }:=⟨i.sub,i.gnd⟩;obtain ⟨x,h',w',e1,e2,e3⟩:=ih _ i' (H (w.tape w.drawn q));exact ⟨x,h',w',by simp only [Sem.run,hf,if_false,aI_];exact e1,⟨e2.size,e2.sub,e2.frame,e2.os,e2.output,e2.tape,bo_ (Nat.le_succ _) e2.drawn⟩,e3⟩
 |sys c k ih=>intro h w K i H;exact H.elim
 |program k ih=>intro h w K i H;obtain ⟨x,h',w',e1,e2,e3⟩:=ih _ i H;exact ⟨x,h',w',e1,e2,e3⟩
 |mark m k ih=>intro h w K i H;obtain ⟨x,h',w',e1,e2,e3⟩:=ih i H;exact ⟨x,h',w',e1,e2,e3⟩
 |halt x=>intro h w K i H;exact H.elim
theorem Co {G h:Hp} {r b:Nat} {o p:Obj} (hr:h r=none) (gr:G r=none) (e:look G h b=some p):look G (h.set r o) b=some p:=by
 have hne:b≠r:=fun x=>by subst x;simp [look,hr,gr]at e
 simpa [look,ci hne]using e
theorem Oc {P:Program} {G:Hp} {α:Type} {r:Nat} {o:Obj} (gr:G r=none) (s:Sem α):∀{h:Hp} {K:α->Hp->Prop},h r=none->wpH P G s h K->
 wpH P G s (h.set r o) (fun a h'=>∃h1,h'=h1.set r o/\h1 r=none/\K a h1):=by
 induction s with
 |pure a=>intro h K hr H;exact ⟨h,rfl,hr,H⟩
 |load m a k ih=>
  intro h K hr H;obtain ⟨v,e,H⟩:=H;refine ⟨v,?_,ih v hr H⟩;unfold bf at*;cases hl:look G h a.block with
  |none=>rw [hl]at e;cases e
  |some p=>rw [Co hr gr hl];rw [hl]at e;exact e
 |store m a v k ih=>
  intro h K hr H;obtain ⟨h1,h2,c,e,f,h3,h4,h5,H⟩:=H;have hne:a.block≠r:=fun x=>by rw [x,hr]at h3;cases h3
  refine ⟨h1,h2,c,e,f,by rw [ci hne];exact h3,h4,h5,?_⟩;rw [Et (Ne.symm hne)];exact ih (by rw [ci (Ne.symm hne)];exact hr) H
 |new q k ih=>
  intro h K hr H x h1 h2;have hne:x≠r:=fun e=>by subst e;rw [bh]at h1;cases h1
  rw [ci hne]at h1;rw [Et (Ne.symm hne)];exact ih x (by rw [ci (Ne.symm hne)];exact hr) (H x h1 h2)
 |shape x k ih=>intro h K hr H;obtain ⟨p,e,H⟩:=H;exact ⟨p,Co hr gr e,ih _ hr H⟩
 |freeze a n k ih=>intro h K hr H;exact H.elim
 |frozen a k ih=>intro h K hr H;obtain ⟨p,e,H⟩:=H;exact ⟨p,Co hr gr e,ih _ hr H⟩
 |getObj x k ih=>intro h K hr H;obtain ⟨p,e,e2,H⟩:=H;exact ⟨p,Co hr gr e,e2,ih _ hr H⟩
 |setObj x q k ih=>
  intro h K hr H;obtain ⟨⟨p,e,e0⟩,H⟩:=H;have hne:x≠r:=fun y=>by rw [y,hr]at e;cases e
  refine ⟨⟨p,by rw [ci hne];exact e,e0⟩,?_⟩;rw [Et (Ne.symm hne)];exact ih (by rw [ci (Ne.symm hne)];exact hr) H
 |choose q k ih=>
  intro h K hr H;unfold wpH at H ⊢;split at H
  . rename_i e;rw [ak_ e];exact ih _ hr H
  . rename_i e;rw [ah_ e];exact fun t=>ih _ hr (H t)
 |sys c k ih=>intro h K hr H;exact H.elim
 |program k ih=>intro h K hr H;exact ih _ hr H
 |mark m k ih=>intro h K hr H;exact ih hr H
 |halt x=>intro h K hr H;exact H.elim
end Go.HL
namespace Go.HL
open Go
abbrev Rg:=Nat->Value
def im (r:Rg):Operand->Value
 | .tmp t=>r t
 | .const v=>v
 | .global g => .pointer (some ⟨g,0,none⟩)
 | .func f => .func (.func f) #[] #[]
def upd (r:Rg) (t:Nat) (v:Value):Rg:=fun x=>if x=t then v else r x
def putR (n:Nat) (r:Rg) (d:Option Tmp) (v:Value):Rg:=match d with
 |none=>r
 |some d=>if d<n then upd r d v else r
structure Fit (D:List Deferred) (n:Nat) (a:Act) (r:Rg):Prop where
 size:a.tmps.size=n
 is:∀t,a.tmps.getD t undef=r t
 defers:a.defers=D
theorem Fit.put {D:List Deferred} {n:Nat} {a:Act} {r:Rg} (f:Fit D n a r) (d:Option Tmp) (v:Value):Fit D n (a.put d v) (putR n r d v):=by
 cases d with
 |none=>exact f
 |some d=>
  refine ⟨by simp [Act.put,f.size],fun t=>?_,f.defers⟩;simp only [Act.put,putR];by_cases hd:d<n
  . rw [ak_ hd];unfold upd;by_cases ht:t=d
    . subst ht;simp [f.size,hd]
    . rw [ah_ ht,<- f.is t];simp [b9_ (Ne.symm ht)]
  . rw [ah_ hd,<- f.is t];by_cases ht:d=t
    . subst ht;have h0:¬d<a.tmps.size:=by rw [f.size];exact hd
      simp [h0]
    . simp [b9_ ht]
theorem Fit.eval {D:List Deferred} {n:Nat} {a:Act} {r:Rg} (f:Fit D n a r):a.eval=im r:=by
 funext x;cases x with
 |tmp t=>exact f.is t
 |const v=>rfl
 |global g=>rfl
 |func f=>rfl
def tl (ops:Array Oper) (r:Rg) (j:Nat):Option Bool:=
 match (ops[j]?).bind (·.dst)with
 |some d=>(match r d with | .bool b=>some b|_=>none)
 |none=>none
def lh (ops:Array Oper) (o:Oper) (r:Rg):Bool:=Region.wanted o (tl ops r)
theorem Fit.yielded {D:List Deferred} {n:Nat} {a:Act} {r:Rg} (f:Fit D n a r) (ops:Array Oper):yielded ops a.tmps=tl ops r:=by
 funext j;unfold Go.yielded tl;cases (ops[j]?).bind (·.dst)with
 |none=>rfl
 |some d=>
  have h:=f.is d;simp only [bl_];by_cases hd:d<a.tmps.size
  . simp only [bV_,aJ_ hd,bs_]at h;rw [aJ_ hd,h];cases r d<;>rfl
  . have h0:a.tmps[d]?=none:=b7_ (Nat.le_of_not_lt hd);rw [h0];simp only [bV_,h0,cl_]at h;rw [<- h];rfl
theorem Fit.wanted {D:List Deferred} {n:Nat} {a:Act} {r:Rg} (f:Fit D n a r) (ops:Array Oper) (o:Oper):Region.wanted o (Go.yielded ops a.tmps)=lh ops o r:=by rw [f.yielded];rfl
def bn (P:Program) (G:Hp) (f:FuncId) (args:Array Value) (h:Hp) (R:Value->Hp->Prop):Prop:=
 ∀w,In G h w->Calls P f args w fun e w'=>∃v h',e = .returned v/\Mv h w h' w'/\R v h'
theorem bn.mono {P:Program} {G:Hp} {f:FuncId} {args:Array Value} {h:Hp} {R R':Value->Hp->Prop} (c:bn P G f args h R) (hr:∀v h',R v h'->R' v h'):
 bn P G f args h R':=
 fun w i=>(c w i).mono fun _ _ ⟨v,h',e1,e2,e3⟩=>⟨v,h',e1,e2,hr _ _ e3⟩
theorem bn.less {P:Program} {G:Hp} {f:FuncId} {args:Array Value} {h:Hp} {R R':Value->Hp->Prop} (c:bn P G f args h R) (hr:∀v h',R v h'->∃h'',h''.le h'/\R' v h''):
 bn P G f args h R':=
 fun w i=>(c w i).mono fun _ _ ⟨v,_,e1,e2,e3⟩=>let ⟨h'',l,e⟩:=hr _ _ e3;⟨v,h'',e1,e2.less l,e⟩
theorem bn.frame {P:Program} {G:Hp} {f:FuncId} {args:Array Value} {h:Hp} {R:VK} {r:Nat} {o:Obj} (c:bn P G f args h R) (hr:h r=none):
 bn P G f args (h.set r o) (fun v h'=>∃h1,h'=h1.set r o/\h1 r=none/\R v h1):=by
 intro w i;have l:h.le (h.set r o):=(Hp.le.refl h).set hr;refine (c w (i.less l)).mono ?_;rintro e w' ⟨v,h1,e1,e2,e3⟩;obtain ⟨f1,f2⟩:=e2.frame r o (i.sub r o bh) hr;refine ⟨v,h1.set r o,e1,⟨e2.size,fun b p hb=>?_,fun b p e1' e2'=>?_,e2.os,e2.output,e2.tape,e2.drawn⟩,h1,rfl,f2,e3⟩
 . by_cases hbr:b=r
   . subst hbr;rw [bh]at hb;cases hb;exact f1
   . rw [ci hbr]at hb;exact e2.sub _ _ hb
 . have hbr:b≠r:=fun x=>by subst x;rw [bh]at e2';cases e2'
   rw [ci hbr]at e2';obtain ⟨g1,g2⟩:=e2.frame b p e1' e2';exact ⟨g1,by rw [ci hbr];exact g2⟩
def Fw (ro:Option Nat):Fence:={ Fence.wide with round:=ro }
theorem Ln {ro:Option Nat} {n:Nat} {P:Program} {f:FuncId} {args:Array Value} {w:World} {R:Ending->World->Prop} (h:Calls P f args w R):CallsIn (Fw ro) n P f args w R:=
 (callsIn_wide (n:=n)).2 h
def Ce (P:Program) (G:Hp) (l:Nat) (fn:FuncId) (tmps:Array Value) (assign body:Code) (h:Hp) (R:Value->Hp->Prop):Prop:=
 ∀w,In G h w->RoundIn (Fw none) 0 P l fn tmps assign body w fun e w'=>∃v h',e = .returned v/\Mv h w h' w'/\R v h'
theorem Ce.mono {P:Program} {G:Hp} {l:Nat} {fn:FuncId} {tmps:Array Value} {assign body:Code} {h:Hp} {R R':Value->Hp->Prop} (c:Ce P G l fn tmps assign body h R) (hr:∀v h',R v h'->R' v h'):
 Ce P G l fn tmps assign body h R':=
 fun w i=>(c w i).mono fun _ _ ⟨v,h',e1,e2,e3⟩=>⟨v,h',e1,e2,hr _ _ e3⟩
theorem Mv.frame1 {G h h1:Hp} {w w':World} {r:Nat} {o:Obj} (i:In G (h.set r o) w) (hr:h r=none) (e2:Mv h w h1 w'):Mv (h.set r o) w (h1.set r o) w'/\h1 r=none:=by
 obtain ⟨f1,f2⟩:=e2.frame r o (i.sub r o bh) hr;refine ⟨⟨e2.size,fun b p hb=>?_,fun b p e1' e2'=>?_,e2.os,e2.output,e2.tape,e2.drawn⟩,f2⟩
 . by_cases hbr:b=r
   . subst hbr;rw [bh]at hb;cases hb;exact f1
   . rw [ci hbr]at hb;exact e2.sub _ _ hb
 . have hbr:b≠r:=fun x=>by subst x;rw [bh]at e2';cases e2'
   rw [ci hbr]at e2';obtain ⟨g1,g2⟩:=e2.frame b p e1' e2';exact ⟨g1,by rw [ci hbr];exact g2⟩
theorem Ce.frame {P:Program} {G:Hp} {l:Nat} {fn:FuncId} {tmps:Array Value} {assign body:Code} {h:Hp} {R:VK} {r:Nat} {o:Obj} (c:Ce P G l fn tmps assign body h R) (hr:h r=none):
 Ce P G l fn tmps assign body (h.set r o) (fun v h'=>∃h1,h'=h1.set r o/\h1 r=none/\R v h1):=by intro w i;have l:h.le (h.set r o):=(Hp.le.refl h).set hr;refine (c w (i.less l)).mono ?_;rintro e w' ⟨v,h1,e1,e2,e3⟩;obtain ⟨m,f2⟩:=e2.frame1 i hr;exact ⟨v,h1.set r o,e1,m,h1,rfl,f2,e3⟩
def ue (P:Program) (G:Hp) (K:Value->Hp->Prop):Next->Hp->Prop
 | .value v,h'=>K v h'
 | .skip,h'=>K undef h'
 | .enter f args,h'=>bn P G f args h' K
 | .round l fn tmps assign body,h'=>Ce P G l fn tmps assign body h' K
 |_,_=>False
def opH (P:Program) (G:Hp) (s:Sem Next) (h:Hp) (K:Value->Hp->Prop):Prop:=wpH P G s h (ue P G K)
theorem U9 {P:Program} {G:Hp} {K K':Value->Hp->Prop} (hk:∀v h,K v h->K' v h) (n:Next) (h:Hp) (H:ue P G K n h):ue P G K' n h:=by cases n<;>first|exact hk _ _ H|exact bn.mono H hk|exact Ce.mono H hk|exact H.elim
theorem kx {P:Program} {G:Hp} {s:Sem Next} {h:Hp} {K K':Value->Hp->Prop} (hk:∀v h,K v h->K' v h) (H:opH P G s h K):opH P G s h K':=
 Jx s (U9 hk) H
theorem ay4 {P:Program} {G:Hp} {o:Oper} {ρ:Operand->Value} {c:Call} {h:Hp} {w:World} {K:VK} (i:In G h w) (ho:o.op = .defer c) (H:opH P G (execOp ρ o) h K):False:=by
 have e:execOp ρ o=(resolve ρ c o.type).bind fun d => .pure (.defer d):=by unfold execOp;rw [ho];rfl
 unfold opH at H;rw [e,dp]at H;obtain ⟨d,h',w',_,_,H⟩:=uo _ i H;exact H
theorem ay1 {P:Program} {G:Hp} {ro:Option Nat} {o:Oper} {a:Act} {h:Hp} {w:World} {K:VK} {next:Act->World->Prop} {Q:Exit->Act->World->Prop} (i:In G h w)
 (H:opH P G (execOp a.eval o) h K) (hn:∀v h' w',Mv h w h' w'->K v h'->next (a.put o.dst v) w'):o.wpIn (Fw ro) 0 P a w next Q:=by
 refine ⟨fun _ _=>trivial,?_⟩;rw [Oper.semAt_eq _ _ _ (fun c ho=>ay4 i ho H)];obtain ⟨n,h',w',e1,e2,e3⟩:=uo _ i H;rw [e1];cases n<;>simp only [ue]at e3<;>simp only [Oper.uponIn]
 case value v=>exact hn _ _ _ e2 e3
 case skip=>exact hn _ _ _ e2 e3
 case enter f args=>
  refine ⟨fun h=>(by cases h),CallsIn.mono (Ln (e3 w' (e2.keeps i))) ?_⟩;rintro e w'' ⟨v,h'',rfl,m2,k⟩;exact hn _ _ _ (e2.trans m2) k
 case round l fn tmps assign body=>
  have r:=e3 w' (e2.keeps i);refine ⟨fun h=>(by cases h),RoundIn.mono (show RoundIn (Fw ro) 0 P l fn tmps assign body w' _ from r) ?_⟩;rintro e w'' ⟨v,h'',rfl,m2,k⟩;exact hn _ _ _ (e2.trans m2) k
theorem yd {P:Program} {G:Hp} {s:Sem Next} {h:Hp} {w:World} {K:VK} (i:In G h w) (H:opH P G s h K):∃v h' w',Mv h w h' w'/\K v h':=by
 obtain ⟨n,h',w',e1,e2,e3⟩:=uo _ i H;cases n<;>simp only [ue]at e3
 case value v=>exact ⟨v,h',w',e2,e3⟩
 case skip=>exact ⟨undef,h',w',e2,e3⟩
 case enter f args=>
  obtain ⟨e,w'',fr,⟨v,h'',e4,m2,k⟩,_⟩:=e3 w' (e2.keeps i) [];exact ⟨v,h'',w'',e2.trans m2,k⟩
 case round l fn tmps assign body=>
  obtain ⟨e,w'',⟨v,h'',e4,m2,k⟩,_⟩:=(e3 w' (e2.keeps i)).2 default [] (fun _ h=>by cases h);exact ⟨v,h'',w'',e2.trans m2,k⟩
theorem Ov {P:Program} {G:Hp} {s:Sem Next} {h:Hp} {K:VK} {r:Nat} {o:Obj} (gr:G r=none) (hr:h r=none) (H:opH P G s h K):
 opH P G s (h.set r o) (fun v h'=>∃h1,h'=h1.set r o/\h1 r=none/\K v h1):=by
 refine Jx s ?_ (Oc gr s hr H);rintro n h' ⟨h1,rfl,e1,e2⟩;cases n<;>simp only [ue]at e2 ⊢
 case value v=>exact ⟨h1,rfl,e1,e2⟩
 case skip=>exact ⟨h1,rfl,e1,e2⟩
 case enter f args=>exact e2.frame e1
 case round l fn tmps assign body=>exact e2.frame e1
def opsH (P:Program) (G:Hp) (n:Nat) (ops:Array Oper):List Oper->Rg->Hp->(Rg->Hp->Prop)->Prop
 |[],r,h,K=>K r h
 |o::rest,r,h,K=>if lh ops o r=true then opH P G (execOp (im r) o) h (fun v h'=>opsH P G n ops rest (putR n r o.dst v) h' K)else opsH P G n ops rest (putR n r o.dst undef) h K
theorem Re {P:Program} {G:Hp} {D:List Deferred} {ro:Option Nat} {n:Nat} {ops:Array Oper} {Q:Exit->Act->World->Prop}:∀(l:List Oper) (k:Nat) (r:Rg) (h:Hp) (a:Act) (w:World) (K:Rg->Hp->Prop),
 (∀j,l[j]?=ops[k+j]?)->Fit D n a r->In G h w->opsH P G n ops l r h K->
 (∀r' h' a' w',Fit D n a' r'->Mv h w h' w'->K r' h'->Q .normal a' w')->wpOpsIn (Fw ro) 0 P ops Q (List.range' k l.length) a w
 |[],k,r,h,a,w,K,_,f,i,H,hq=>by simp only [a3_,List.range'_zero,wpOpsIn];exact hq r h a w f (.refl i) H
 |o::rest,k,r,h,a,w,K,hl,f,i,H,hq=>by
  have ho:ops[k]?=some o:=by simpa using (hl 0).symm
  have hl':∀j,rest[j]?=ops[k+1+j]?:=fun j=>by have:=hl (j+1);simpa [ck_,Nat.add_comm 1 j]using this
  simp only [an_,List.range'_succ];rw [wpOpsIn_cons];unfold wpOpIn;simp only [ho,f.wanted ops o];unfold opsH at H;split
  . rename_i hw;rw [ak_ hw]at H;refine ay1 i (by rw [f.eval];exact H) fun v h' w' m k'=>?_;exact Re rest (k+1) _ h' _ w' K hl' (f.put o.dst v) (m.keeps i) k' fun r2 h2 a2 w2 f2 m2 k2=>hq r2 h2 a2 w2 f2 (m.trans m2) k2
  . rename_i hw;rw [ah_ hw]at H;exact ⟨fun _ _=>trivial,Re rest (k+1) _ h _ w K hl' (f.put o.dst undef) i H hq⟩
end Go.HL
namespace Go.HL
open Go
def noHp:Hp:=fun _=>none
def qw (P:Program) (G:Hp) (h0:Hp) (s:Sem Next) (v:Value):Prop:=wpH P G s h0 (fun n h'=>h'=h0/\n = .value v)
inductive Kind where
 |pureN|pureM|late|alloc|store|eff
 deriving DecidableEq
def Ds:Op->Kind
 | .move _ | .assign _ | .pick .. | .nilCheck _ | .unOp .. | .fieldAddr .. | .field .. | .indexAddr .. | .index .. | .build .. | .extract .. | .slice .. | .makeFunc .. => .pureN
 | .binOp op _ _ _ _=>(match op with | .eql | .neq => .pureM|_ => .pureN)
 | .call { callee := .builtin b,.. }=>(match b with | .len | .cap => .pureM | .min | .max => .pureN|_ => .eff)
 | .load .. | .lookup .. | .convert .. | .makeInterface .. | .typeAssert .. => .pureM
 | .alloc _ | .box .. | .buildSlice .. | .makeMap _ none => .alloc
 | .store .. => .store
 |_ => .eff
def bit (B:Array Nat) (j i:Nat):Bool:=(B.getD j 0).testBit i
def D5 (ops:Array Oper) (B:Array Nat):Bool:=
 ops.zipIdx.all fun (o,j)=>
  o.after.all (fun e => !Region.binds .any e||decide (e.on<j))&&
  (let u:=o.after.foldl (fun s e=>if Region.binds .any e then s ||| 2 ^ e.on ||| B.getD e.on 0 else s) 0
   (B.getD j 0) ||| u==u)
def Kx:Kind->Bool
 | .store | .eff=>true
 |_=>false
def kop (ops:Array Oper) (i:Nat):Kind:=match ops[i]? with
 |none => .pureN
 |some o=>Ds o.op
def ui (all:Bool) (ops:Array Oper) (B:Array Nat) (j:Nat):Bool:=
 Kx (kop ops j)&&(List.range ops.size).any fun i=>kop ops i == .pureM && !bit B j i&&(all || !bit B i j)
def jo (all:Bool) (ops:Array Oper) (B:Array Nat) (j:Nat):Kind:=
 match kop ops j with
 | .pureM=>if (List.range j).any (fun i=>bit B j i&&Kx (kop ops i) && !ui all ops B i)then .late else .pureM
 |k=>k
def zh (ki kj:Kind):Bool:=
 match ki,kj with
 | .pureN,_|_,.pureN=>true
 | .pureM,_|_,.pureM=>true
 | .late,.late=>true
 | .late,_|_,.late=>false
 |_,.alloc=>true
 |_,_=>false
def og (all:Bool) (ops:Array Oper) (B:Array Nat):Bool:=
 D5 ops B&&Region.noSelect ops&&
 (List.range ops.size).all fun j=>(List.range j).all fun i=>bit B j i||
  (zh (jo all ops B i) (jo all ops B j)&&(match ops[i]?,ops[j]? with|some oi,some oj=>oi.apart ops oj|_,_=>true))
def Kp (P:Program) (G h0:Hp) (Rd:Sem Next->Prop) (h:Hp):Prop:=h0.le h\/∀s,Rd s->∀v,qw P G h0 s v->qw P G h s v
theorem Kp.set {P:Program} {G h0 h:Hp} {Rd:Sem Next->Prop} (k:Kp P G h0 Rd h) {x:Nat} {ob:Obj} (hx:h x=none) (gx:G x=none):Kp P G h0 Rd (h.set x ob):=by
 rcases k with l|k
 . refine .inl (l.set ?_);cases e:h0 x with
   |none=>rfl
   |some q=>rw [l _ _ e]at hx;cases hx
 . refine .inr fun s hs v hv=>?_;refine Jx _ ?_ (Oc (r:=x) (o:=ob) gx s hx (k s hs v hv));rintro a h' ⟨h1,rfl,_,rfl,e⟩;exact ⟨rfl,e⟩
section
variable (P:Program) (G:Hp) (n:Nat) (all:Bool) (ops:Array Oper) (B:Array Nat) (h0:Hp) (Rd:Sem Next->Prop)
def Sat (h:Hp):Prop:=∃w,In G h w
def i6 (i:Nat) (o:Oper) (r:Rg) (h:Hp) (K:Value->Hp->Prop):Prop:=
 match jo all ops B i with
 | .pureN=>∃v,qw P noHp noHp (execOp (im r) o) v/\K v h
 | .pureM=>∃v,(Rd (execOp (im r) o)/\qw P G h0 (execOp (im r) o) v)/\K v h
 | .late=>∃v,qw P G h (execOp (im r) o) v/\K v h
 |_=>match ui all ops B i with
  |true=>opH P G (execOp (im r) o) h (fun v h'=>Kp P G h0 Rd h'/\K v h')
  |false=>opH P G (execOp (im r) o) h K
def lexD:Nat->List Oper->Rg->Hp->(Rg->Hp->Prop)->Prop
 |_,[],r,h,K=>K r h
 |i,o::rest,r,h,K=>if lh ops o r=true then i6 P G all ops B h0 Rd i o r h (fun v h'=>lexD (i+1) rest (putR n r o.dst v) h' K)else lexD (i+1) rest (putR n r o.dst undef) h K
def Zm (i:Nat) (o:Oper) (r:Rg) (h:Hp) (K:Value->Hp->Prop):Prop:=i6 P G all ops B h0 Rd i o r h (fun v h'=>Sat G h'->K v h')
def dOp (i:Nat) (K:Rg->Hp->Prop) (r:Rg) (h:Hp):Prop:=
 match ops[i]? with
 |none=>K r h
 |some o=>if lh ops o r=true then Zm P G all ops B h0 Rd i o r h (fun v h'=>K (putR n r o.dst v) h')else K (putR n r o.dst undef) h
def anyD (K:Rg->Hp->Prop):Nat->Array Bool->Rg->Hp->Prop
 |0,listed,r,h=>Region.ready .any ops listed=[]/\K r h
 |fuel+1,listed,r,h=>
  (Region.ready .any ops listed=[]->K r h)/\
  ∀i∈Region.ready .any ops listed,dOp P G n all ops B h0 Rd i (anyD K fuel (listed.setIfInBounds i true)) r h
end
section
variable {P:Program} {G:Hp} {n:Nat} {all:Bool} {ops:Array Oper} {B:Array Nat} {h0:Hp} {Rd:Sem Next->Prop}
theorem od {i:Nat} {o:Oper} {r:Rg} {h:Hp} {K K':Value->Hp->Prop} (hk:∀v h,K v h->K' v h) (H:i6 P G all ops B h0 Rd i o r h K):i6 P G all ops B h0 Rd i o r h K':=by
 unfold i6 at*;split at H
 . obtain ⟨v,e,H⟩:=H;exact ⟨v,e,hk _ _ H⟩
 . obtain ⟨v,e,H⟩:=H;exact ⟨v,e,hk _ _ H⟩
 . obtain ⟨v,e,H⟩:=H;exact ⟨v,e,hk _ _ H⟩
 . split at H
   . exact kx (fun v h k=>⟨k.1,hk _ _ k.2⟩) H
   . exact kx hk H
theorem aL5 {i:Nat} {r:Rg} {h:Hp} {K K':Rg->Hp->Prop} (hk:∀r h,K r h->K' r h) (H:dOp P G n all ops B h0 Rd i K r h):dOp P G n all ops B h0 Rd i K' r h:=by
 unfold dOp at*;split
 . rename_i e;simp only [e]at H;exact hk _ _ H
 . rename_i o e;simp only [e]at H;split
   . rename_i e2;rw [ak_ e2]at H;exact od (fun v h H s=>hk _ _ (H s)) H
   . rename_i e2;rw [ah_ e2]at H;exact hk _ _ H
theorem av2 (r:Rg) {d e:Nat} (v u:Value) (h:d≠e):upd (upd r d v) e u=upd (upd r e u) d v:=by funext x;simp only [upd];by_cases h1:x=d<;>by_cases h2:x=e<;>simp_all
theorem ao7 (r:Rg) {x y:Option Tmp} (v u:Value) (h:∀d,x=some d->y≠some d):putR n (putR n r x v) y u=putR n (putR n r y u) x v:=by
 cases x with
 |none=>rfl
 |some d=>
  cases y with
  |none=>rfl
  |some e=>have hne:d≠e:=fun he=>h d rfl (he▸rfl);simp only [putR];split<;>split<;>first|rfl|exact av2 r v u hne
theorem as0 {r:Rg} {dst:Option Tmp} {v:Value} {x:Operand} (h:∀d,dst=some d->x ≠ .tmp d):im (putR n r dst v) x=im r x:=by
 cases dst with
 |none=>rfl
 |some d=>
  simp only [putR];split
  . cases x with
    |tmp t=>have hne:t≠d:=fun e=>h d rfl (e▸rfl);simp [im,upd,hne]
    |_=>rfl
  . rfl
theorem Vh {o:Oper} {d:Nat} (h:Operand.tmp d∈o.op.operands):d∈o.looksAt ops:=
 aZ_ _ (cf_.2 ⟨.tmp d,by simpa using h,rfl⟩)
theorem ar9 (o:Oper) (hs:∀cs b,o.op ≠ .select cs b) (r:Rg) (dst:Option Tmp) (v:Value) (h:∀d,dst=some d->d∉o.looksAt ops):
 execOp (im (putR n r dst v)) o=execOp (im r) o:=
 execOp_congr o hs fun _ hx=>as0 fun d hd hxd=>h d hd (Vh (hxd▸hx))
theorem Qx {r:Rg} {dst:Option Tmp} {v:Value} {g:Nat} (h:∀d,dst=some d->(ops[g]?).bind (·.dst)≠some d):tl ops (putR n r dst v) g=tl ops r g:=by
 cases dst with
 |none=>rfl
 |some d=>
  unfold tl;cases ht:(ops[g]?).bind (·.dst)with
  |none=>rfl
  |some t=>
   have hne:t≠d:=fun e=>h d rfl (by rw [ht,e])
   have:putR n r (some d) v t=r t:=by
    simp only [putR];split
    . simp [upd,hne]
    . rfl
   simp only [this]
theorem Hr (o:Oper) (r:Rg) (dst:Option Tmp) (v:Value) (h:∀d,dst=some d->d∉o.looksAt ops):lh ops o (putR n r dst v)=lh ops o r:=by
 unfold lh Region.wanted;cases hg:o.guard with
 |none=>rfl
 |some gw=>obtain ⟨g,want⟩:=gw;have:tl ops (putR n r dst v) g=tl ops r g:=Qx fun d hd e=>h d hd (by simp [Oper.looksAt,hg,e]);simp only [this]
theorem Ka {j:Nat} {o:Oper} (hs:∀cs b,o.op ≠ .select cs b) {r:Rg} {dst:Option Tmp} {v:Value} (hd:∀d,dst=some d->d∉o.looksAt ops) {h:Hp} {K:VK}:
 i6 P G all ops B h0 Rd j o (putR n r dst v) h K↔i6 P G all ops B h0 Rd j o r h K:=by unfold i6;rw [ar9 o hs r dst v hd]
theorem Xq {h:Hp} {s:Sem Next} {v u:Value} {w:World} (i:In G h w) (a:qw P G h s v) (b:qw P G h s u):v=u:=by obtain ⟨n1,h1,w1,e1,_,_,e3⟩:=uo _ i a;obtain ⟨n2,h2,w2,f1,_,_,f3⟩:=uo _ i b;rw [e1]at f1;cases f1;rw [e3]at f3;cases f3;rfl
theorem R3 (w:World):In noHp noHp w:=⟨fun _ _ h=>(by simp [noHp]at h),fun _ _ h=>(by simp [noHp]at h)⟩
theorem D7 {o:Oper} (hk:Ds o.op = .alloc) (ρ:Operand->Value):(∀h K,¬opH P G (execOp ρ o) h K)\/
 ∃(ob:Obj) (f:Nat->Value),∀h K,opH P G (execOp ρ o) h K↔∀x,h x=none->G x=none->K (f x) (h.set x ob):=by
 obtain ⟨dst,op,type,pos,after,guard⟩:=o;cases op<;>simp only [Ds]at hk<;>try (exact absurd hk (by decide))
 case alloc e=>
  cases hi:P.info? e with
  |none=>exact .inl fun h K H=>by simp [opH,execOp,Instr.alloc,zeroValue,typeInfo,program,bind,Sem.bind,pure,wpH,hi,stuck]at H
  |some i=>
   cases hz:i.zero with
   |none=>exact .inl fun h K H=>by simp [opH,execOp,Instr.alloc,zeroValue,typeInfo,program,bind,Sem.bind,pure,wpH,hi,hz,unsupported]at H
   |some z=>exact .inr ⟨.cells z.cells e,fun x => .pointer (some ⟨x,0,none⟩),fun h K=>by simp [opH,execOp,Instr.alloc,zeroValue,typeInfo,program,bind,Sem.bind,pure,wpH,hi,hz,newVar,newRow,newObj,ue]⟩
 case box e x=>exact .inr ⟨.cells (ρ x).cells e,fun x => .pointer (some ⟨x,0,none⟩),fun h K=>by simp [opH,execOp,Instr.box,bind,Sem.bind,pure,wpH,newVar,newRow,newObj,ue]⟩
 case makeMap t r=>
  cases r with
  |some r=>cases hk
  |none=>exact .inr ⟨.map #[] 0,fun x => .map (some x),fun h K=>by simp [opH,execOp,Instr.makeMap,bind,Sem.bind,pure,wpH,newObj,ue]⟩
 case buildSlice t len parts=>
  cases hu:P.underlying t with
  |none=>exact .inl fun h K H=>by simp [opH,execOp,Instr.buildSlice,underlying,program,bind,Sem.bind,pure,wpH,hu,stuck]at H
  |some d=>
   cases d
   case slice e=>
    cases hi:P.info? e with
    |none=>exact .inl fun h K H=>by simp [opH,execOp,Instr.buildSlice,underlying,sizeOf,typeInfo,program,bind,Sem.bind,pure,wpH,hu,hi,stuck]at H
    |some i=>
     by_cases hbig:len*i.size>2 ^ 24
     . refine .inl fun h K H=>?_;simp only [opH,execOp,Instr.buildSlice,underlying,sizeOf,typeInfo,program,bind,Sem.bind,pure,wpH,hu,hi,ak_ hbig,unsupported]at H
     . have form:∀zero:Array Value,(∀h K,¬wpH P G ((match Instr.fill (fun i_1=>some (i_1*i.size,i.size)) (Array.map (fun x=>zero[x % zero.size]!) (Array.range (len*i.size))) (Array.map (fun x=>(x.1,ρ x.2)) parts).toList with
        |some cells=>(newRow e cells).bind fun y=>Sem.pure (.slice (some y) len len)
        |none=>stuck "buildSlice: a part of the wrong size"):Sem Value) h K)\/
        ∃(ob:Obj),∀h K,wpH P G ((match Instr.fill (fun i_1=>some (i_1*i.size,i.size)) (Array.map (fun x=>zero[x % zero.size]!) (Array.range (len*i.size))) (Array.map (fun x=>(x.1,ρ x.2)) parts).toList with
         |some cells=>(newRow e cells).bind fun y=>Sem.pure (.slice (some y) len len)
         |none=>stuck "buildSlice: a part of the wrong size"):Sem Value) h K↔∀x,h x=none->G x=none->K (.slice (some ⟨x,0,none⟩) len len) (h.set x ob):=by
        intro zero;split
        . rename_i cells _;exact .inr ⟨.cells cells e,fun h K=>by simp [newRow,newObj,bind,Sem.bind,pure,wpH]⟩
        . exact .inl fun h K H=>H
       have hexec:∀h K,opH P G (execOp ρ { dst:=dst,op := .buildSlice t len parts,type:=type,pos:=pos,after:=after,guard:=guard }) h K↔
        wpH P G (if len*i.size=0 then (pure #[]:Sem (Array Value))else (zeroValue e).bind fun z=>pure z.cells) h (fun zero h'=>wpH P G ((match Instr.fill (fun i_1=>some (i_1*i.size,i.size)) (Array.map (fun x=>zero[x % zero.size]!) (Array.range (len*i.size))) (Array.map (fun x=>(x.1,ρ x.2)) parts).toList with
        |some cells=>(newRow e cells).bind fun y=>Sem.pure (.slice (some y) len len)
        |none=>stuck "buildSlice: a part of the wrong size"):Sem Value) h' (fun v h2=>ue P G K (.value v) h2)):=by
        intro h K;simp only [opH,execOp,Instr.buildSlice,underlying,sizeOf,typeInfo,program,bind,pure,wpH,hu,hi,ah_ hbig,dp];by_cases hz:len*i.size=0
        . simp only [ak_ hz,dp,wpH];constructor
          . intro H;split at H<;>simp_all [wpH,dp,stuck]
          . intro H;split at H<;>simp_all [wpH,dp,stuck]
        . simp only [ah_ hz,dp,wpH];refine iff_of_eq (congrArg _ (funext fun z=>funext fun h'=>propext ?_));constructor
          . intro H;split at H<;>simp_all [wpH,dp,stuck]
          . intro H;split at H<;>simp_all [wpH,dp,stuck]
       by_cases hz:len*i.size=0
       . rcases form #[]with hno|⟨ob,hf⟩
         . refine .inl fun h K H=>?_;rw [hexec,ak_ hz]at H;exact hno _ _ H
         . exact .inr ⟨ob,_,fun h K=>by rw [hexec,ak_ hz];exact hf _ _⟩
       . cases hzz:i.zero with
         |none=>refine .inl fun h K H=>?_;rw [hexec,ah_ hz]at H;simp [zeroValue,typeInfo,program,bind,Sem.bind,pure,wpH,hi,hzz,unsupported]at H
         |some z=>
          have hz2:∀h (K:Array Value->Hp->Prop),wpH P G ((zeroValue e).bind fun z=>pure z.cells) h K↔K z.cells h:=fun h K=>by simp [zeroValue,typeInfo,program,bind,Sem.bind,pure,wpH,hi,hzz]
          rcases form z.cells with hno|⟨ob,hf⟩
          . refine .inl fun h K H=>?_;rw [hexec,ah_ hz,hz2]at H;exact hno _ _ H
          . exact .inr ⟨ob,_,fun h K=>by rw [hexec,ah_ hz,hz2];exact hf _ _⟩
   all_goals exact .inl fun h K H=>by simp [opH,execOp,Instr.buildSlice,underlying,program,bind,Sem.bind,pure,wpH,hu,stuck]at H
 case binOp op _ _ _ _=>cases op<;>simp at hk
 case call c=>
  obtain ⟨ca,args,ts⟩:=c;cases ca with
  |builtin b=>cases b<;>simp at hk
  |_=>simp at hk
theorem Sat.less {h h':Hp} (s:Sat G h') (l:h.le h'):Sat G h:=let ⟨w,i⟩:=s;⟨w,i.less l⟩
theorem zm {j:Nat} {k:Kind} (hk:jo all ops B j=k) (h1:k ≠ .late):kop ops j=k:=by
 unfold jo at hk;cases e:kop ops j<;>simp only [e]at hk<;>first|exact hk|skip
 split at hk
 . exact absurd hk.symm h1
 . exact hk
theorem Fc {j:Nat} {o:Oper} (hj:ops[j]?=some o) (k:jo all ops B j = .alloc):Ds o.op = .alloc:=by have:=zm k (by decide);unfold kop at this;rw [hj]at this;exact this
theorem swapD {i j:Nat} {oi oj:Oper} (hi:ops[i]?=some oi) (hj:ops[j]?=some oj) (hsi:∀cs b,oi.op ≠ .select cs b) (hsj:∀cs b,oj.op ≠ .select cs b)
 (hp:zh (jo all ops B i) (jo all ops B j)=true) (hap:oi.apart ops oj=true) {K:Rg->Hp->Prop} {r:Rg} {h:Hp} (hs:Sat G h) (hs0:Sat G h0)
 (H:dOp P G n all ops B h0 Rd i (dOp P G n all ops B h0 Rd j K) r h):dOp P G n all ops B h0 Rd j (dOp P G n all ops B h0 Rd i K) r h:=by
 obtain ⟨a1,a2,a3⟩:=Oper.apart_spec hap;have comm:∀v u,putR n (putR n r oi.dst v) oj.dst u=putR n (putR n r oj.dst u) oi.dst v:=fun v u=>ao7 r v u a2;unfold dOp at*;simp only [hi,hj]at H ⊢;have w1:∀v,lh ops oj (putR n r oi.dst v)=lh ops oj r:=fun v=>Hr oj r oi.dst v a1;have w2:∀u,lh ops oi (putR n r oj.dst u)=lh ops oi r:=fun u=>Hr oi r oj.dst u a3;simp only [w1,w2]at H ⊢;have s1:∀v h K,i6 P G all ops B h0 Rd j oj (putR n r oi.dst v) h K↔i6 P G all ops B h0 Rd j oj r h K:=fun v h K=>Ka hsj a1;have s2:∀u h K,i6 P G all ops B h0 Rd i oi (putR n r oj.dst u) h K↔i6 P G all ops B h0 Rd i oi r h K:=fun u h K=>Ka hsi a3;unfold Zm at*;simp only [s1,s2]at H ⊢;by_cases wi:lh ops oi r=true
 case neg=>
  simp only [ah_ wi]at H ⊢;by_cases wj:lh ops oj r=true
  . simp only [ak_ wj]at H ⊢;exact od (fun v h H s=>by rw [<- comm];exact H s) H
  . simp only [ah_ wj]at H ⊢;rw [<- comm];exact H
 simp only [ak_ wi]at H ⊢;by_cases wj:lh ops oj r=true
 case neg=>
  simp only [ah_ wj]at H ⊢;exact od (fun v h H s=>by rw [<- comm];exact H s) H
 simp only [ak_ wj]at H ⊢;simp only [comm]at H
 have pureI:(∃v,(∀h' (K':Value->Hp->Prop),K' v h'->i6 P G all ops B h0 Rd i oi r h' K')/\
  (Sat G h->i6 P G all ops B h0 Rd j oj r h (fun u h'=>Sat G h'->K (putR n (putR n r oj.dst u) oi.dst v) h')))->
  i6 P G all ops B h0 Rd j oj r h (fun u h'=>Sat G h'->i6 P G all ops B h0 Rd i oi r h' (fun v h'=>Sat G h'->K (putR n (putR n r oj.dst u) oi.dst v) h')):=by rintro ⟨v,hv,H⟩;exact od (fun u h' H s=>hv _ _ (fun s=>H s)) (H hs)
 have pureJ:(∃(Gx hx:Hp) (Rx:Sem Next->Prop),Sat Gx hx/\∀h' K',i6 P G all ops B h0 Rd j oj r h' K'↔∃v,(Rx (execOp (im r) oj)/\qw P Gx hx (execOp (im r) oj) v)/\K' v h')->
  i6 P G all ops B h0 Rd j oj r h (fun u h'=>Sat G h'->i6 P G all ops B h0 Rd i oi r h' (fun v h'=>Sat G h'->K (putR n (putR n r oj.dst u) oi.dst v) h')):=by
  rintro ⟨Gx,hx,Rx,⟨wx,hwx⟩,pj⟩;simp only [pj]at H ⊢
  have some1:∃u,Rx (execOp (im r) oj)/\qw P Gx hx (execOp (im r) oj) u:=by
   unfold i6 at H;split at H
   . obtain ⟨v,_,H⟩:=H;obtain ⟨u,hu,_⟩:=H hs;exact ⟨u,hu⟩
   . obtain ⟨v,_,H⟩:=H;obtain ⟨u,hu,_⟩:=H hs;exact ⟨u,hu⟩
   . obtain ⟨v,_,H⟩:=H;obtain ⟨u,hu,_⟩:=H hs;exact ⟨u,hu⟩
   . obtain ⟨w,hw⟩:=hs;split at H
     . obtain ⟨v,h1,w1,m1,_,k1⟩:=yd hw H;obtain ⟨u,hu,_⟩:=k1 ⟨w1,m1.keeps hw⟩;exact ⟨u,hu⟩
     . obtain ⟨v,h1,w1,m1,k1⟩:=yd hw H;obtain ⟨u,hu,_⟩:=k1 ⟨w1,m1.keeps hw⟩;exact ⟨u,hu⟩
  obtain ⟨u,hu⟩:=some1;refine ⟨u,hu,fun _=>od (fun v h' H s=>?_) H⟩;obtain ⟨u',hu',k'⟩:=H s;obtain rfl:=Xq hwx hu.2 hu'.2;exact k' s
 have pureJN:jo all ops B j = .pureN->i6 P G all ops B h0 Rd j oj r h (fun u h'=>Sat G h'->i6 P G all ops B h0 Rd i oi r h' (fun v h'=>Sat G h'->K (putR n (putR n r oj.dst u) oi.dst v) h')):=fun kj=>
  pureJ ⟨noHp,noHp,fun _=>True,⟨_,R3 default⟩,fun h' K'=>by unfold i6;simp only [kj,true_and]⟩
 have pureJM:jo all ops B j = .pureM->i6 P G all ops B h0 Rd j oj r h (fun u h'=>Sat G h'->i6 P G all ops B h0 Rd i oi r h' (fun v h'=>Sat G h'->K (putR n (putR n r oj.dst u) oi.dst v) h')):=fun kj=>
  pureJ ⟨G,h0,Rd,hs0,fun h' K'=>by unfold i6;simp only [kj]⟩
 cases ki:jo all ops B i with
 |pureN=>apply pureI;unfold i6 at H;simp only [ki]at H;obtain ⟨v,e,H⟩:=H;exact ⟨v,fun h' K' k=>by unfold i6;simp only [ki];exact ⟨v,e,k⟩,H⟩
 |pureM=>apply pureI;unfold i6 at H;simp only [ki]at H;obtain ⟨v,e,H⟩:=H;exact ⟨v,fun h' K' k=>by unfold i6;simp only [ki];exact ⟨v,e,k⟩,H⟩
 |late=>
  have lateI:∀h' K',i6 P G all ops B h0 Rd i oi r h' K'↔∃v,qw P G h' (execOp (im r) oi) v/\K' v h':=fun h' K'=>by unfold i6;simp only [ki]
  cases kj:jo all ops B j with
  |pureN=>exact pureJN kj
  |pureM=>exact pureJM kj
  |late=>
   have lateJ:∀h' K',i6 P G all ops B h0 Rd j oj r h' K'↔∃v,qw P G h' (execOp (im r) oj) v/\K' v h':=fun h' K'=>by unfold i6;simp only [kj]
   simp only [lateI,lateJ]at H ⊢;obtain ⟨v,e,H⟩:=H;obtain ⟨u,e2,H⟩:=H hs;exact ⟨u,e2,fun _=>⟨v,e,H⟩⟩
  |_=>rw [ki,kj]at hp;exact absurd hp (by simp [zh])
 |_=>
  all_goals
   cases kj:jo all ops B j with
   |pureN=>exact pureJN kj
   |pureM=>exact pureJM kj
   |alloc=>
    have kop:=Fc hj kj
    have nj:ui all ops B j=false:=by unfold ui;rw [zm kj (by decide)];rfl
    have effJ:∀h' K',i6 P G all ops B h0 Rd j oj r h' K'↔opH P G (execOp (im r) oj) h' K':=fun h' K'=>by unfold i6;simp only [kj,nj]
    cases ni:ui all ops B i with
    |false=>
     have effI:∀h' K',i6 P G all ops B h0 Rd i oi r h' K'↔opH P G (execOp (im r) oi) h' K':=fun h' K'=>by unfold i6;simp only [ki,ni]
     simp only [effI,effJ]at H ⊢
     rcases D7 (P:=P) (G:=G) kop (im r)with hno|⟨ob,f,hform⟩
     . obtain ⟨w,hw⟩:=hs
       obtain ⟨v,h1,w1,m1,k1⟩:=yd hw H
       exact absurd (k1 ⟨w1,m1.keeps hw⟩) (hno _ _)
     . rw [hform]
       simp only [hform]at H
       intro x hx gx _
       refine kx (fun v h' H s=>?_) (Ov (r:=x) (o:=ob) gx hx H)
       obtain ⟨h1,rfl,e1,k1⟩:=H
       exact k1 (s.less ((Hp.le.refl h1).set e1)) x e1 gx s
    |true=>
     have effI:∀h' K',i6 P G all ops B h0 Rd i oi r h' K'↔opH P G (execOp (im r) oi) h' (fun v h''=>Kp P G h0 Rd h''/\K' v h''):=fun h' K'=>by unfold i6;simp only [ki,ni]
     simp only [effI,effJ]at H ⊢
     rcases D7 (P:=P) (G:=G) kop (im r)with hno|⟨ob,f,hform⟩
     . obtain ⟨w,hw⟩:=hs
       obtain ⟨v,h1,w1,m1,_,k1⟩:=yd hw H
       exact absurd (k1 ⟨w1,m1.keeps hw⟩) (hno _ _)
     . rw [hform]
       simp only [hform]at H
       intro x hx gx _
       refine kx (fun v h' H=>?_) (Ov (r:=x) (o:=ob) gx hx H)
       obtain ⟨h1,rfl,e1,l1,k1⟩:=H
       exact ⟨l1.set e1 gx,fun s=>k1 (s.less ((Hp.le.refl h1).set e1)) x e1 gx s⟩
   |_=>rw [ki,kj]at hp;exact absurd hp (by simp [zh])
end
end Go.HL
namespace Go.HL
open Go
section
variable {P:Program} {G:Hp} {n:Nat} {all:Bool} {ops:Array Oper} {B:Array Nat} {h0:Hp} {Rd:Sem Next->Prop}
theorem as4 {i:Nat} {r:Rg} {h:Hp} {K K':Rg->Hp->Prop} (hs:Sat G h) (hk:∀r h,Sat G h->K r h->K' r h) (H:dOp P G n all ops B h0 Rd i K r h):
 dOp P G n all ops B h0 Rd i K' r h:=by
 unfold dOp at*;split
 . rename_i e;simp only [e]at H;exact hk _ _ hs H
 . rename_i o e;simp only [e]at H;split
   . rename_i e2;rw [ak_ e2]at H;exact od (fun v h H s=>hk _ _ s (H s)) H
   . rename_i e2;rw [ah_ e2]at H;exact hk _ _ hs H
theorem aL4 {i:Nat} {r:Rg} {h:Hp} {K:Rg->Hp->Prop} (hs:Sat G h) (H:dOp P G n all ops B h0 Rd i K r h):∃r' h',Sat G h'/\K r' h':=by
 unfold dOp at H;split at H
 . exact ⟨_,_,hs,H⟩
 . split at H
   . unfold Zm i6 at H;split at H
     . obtain ⟨v,_,H⟩:=H;exact ⟨_,_,hs,H hs⟩
     . obtain ⟨v,_,H⟩:=H;exact ⟨_,_,hs,H hs⟩
     . obtain ⟨v,_,H⟩:=H;exact ⟨_,_,hs,H hs⟩
     . obtain ⟨w,hw⟩:=hs;split at H
       . obtain ⟨v,h1,w1,m1,_,k1⟩:=yd hw H;exact ⟨_,_,⟨w1,m1.keeps hw⟩,k1 ⟨w1,m1.keeps hw⟩⟩
       . obtain ⟨v,h1,w1,m1,k1⟩:=yd hw H;exact ⟨_,_,⟨w1,m1.keeps hw⟩,k1 ⟨w1,m1.keeps hw⟩⟩
   . exact ⟨_,_,hs,H⟩
def Down (ops:Array Oper) (listed:Array Bool):Prop:=∀j o,ops[j]?=some o->listed.getD j false=true->∀e∈o.after,Region.binds .any e=true->listed.getD e.on false=true
theorem tg {listed:Array Bool} {j:Nat} (h:listed.getD j true=false):listed.getD j false=false:=by
 by_cases hj:j<listed.size
 . simp [hj]at h ⊢;exact h
 . simp [hj]at h
theorem Down.take {listed:Array Bool} (d:Down ops listed) {j:Nat} (hj:j∈Region.ready .any ops listed):Down ops (listed.setIfInBounds j true):=by
 intro k o hk hl e he hb;by_cases hkj:j=k
 . subst hkj;obtain ⟨_,o',ho',hall⟩:=mem_ready.1 hj;rw [hk]at ho';cases ho';exact getD_set_true (hall e he hb)
 . rw [getD_set_ne false hkj]at hl;exact getD_set_true (d k o hk hl e he hb)
theorem aB3 (B:Array Nat) (l:List Edge):∀(s i:Nat),(l.foldl (fun s e=>if Region.binds .any e then s ||| 2 ^ e.on ||| B.getD e.on 0 else s) s).testBit i=true->
 s.testBit i=true\/∃e∈l,Region.binds .any e=true/\(e.on=i\/bit B e.on i=true):=by
 induction l with
 |nil=>intro s i h;exact .inl h
 |cons e l ih=>
  intro s i h;rw [bU_]at h;rcases ih _ _ h with h1|⟨e',he',hb,h2⟩
  . split at h1
    . rename_i hb;simp only [Nat.testBit_or,Bool.or_eq_true]at h1;rcases h1 with (h1|h1)|h1
      . exact .inl h1
      . rw [Nat.testBit_two_pow]at h1;exact .inr ⟨e,.head _,hb,.inl (by simpa using h1)⟩
      . exact .inr ⟨e,.head _,hb,.inr h1⟩
    . exact .inl h1
  . exact .inr ⟨e',.tail _ he',hb,h2⟩
theorem wz (h:D5 ops B=true) {j:Nat} {o:Oper} (hj:ops[j]?=some o):
 (∀e∈o.after,Region.binds .any e=true->e.on<j)/\∀i,bit B j i=true->∃e∈o.after,Region.binds .any e=true/\(e.on=i\/bit B e.on i=true):=by
 unfold D5 at h;rw [Array.all_eq_true_iff_forall_mem]at h;have hmem:(o,j)∈ops.zipIdx:=by rw [Array.mem_zipIdx_iff_getElem?];simpa using hj
 have h1:=h _ hmem;simp only [ag_,beq_iff_eq]at h1;obtain ⟨h1,h2⟩:=h1;constructor
 . intro e he hb;have:=Array.all_eq_true_iff_forall_mem.1 h1 e he;simpa [hb]using this
 . intro i hi;have h3:(o.after.foldl (fun s e=>if Region.binds .any e then s ||| 2 ^ e.on ||| B.getD e.on 0 else s) 0).testBit i=true:=by rw [<- h2,Nat.testBit_or];unfold bit at hi;rw [hi];rfl
   rw [<- Array.foldl_toList]at h3;rcases aB3 B _ _ _ h3 with h4|⟨e,he,hb,h4⟩
   . simp at h4
   . exact ⟨e,by simpa using he,hb,h4⟩
theorem C6 (hB:D5 ops B=true) {listed:Array Bool} (d:Down ops listed):∀(j:Nat) (i:Nat) (o:Oper),ops[j]?=some o->
 (∀e∈o.after,Region.binds .any e=true->listed.getD e.on false=true)->bit B j i=true->listed.getD i false=true:=by
 intro j;induction j using Nat.strongRecOn with
 |_ j ih=>
  intro i o hj hall hb;obtain ⟨h1,h2⟩:=wz hB hj;obtain ⟨e,he,hbe,h3⟩:=h2 i hb;rcases h3 with rfl|h3
  . exact hall e he hbe
  . have hl:=hall e he hbe;cases ho:ops[e.on]? with
    |none=>unfold bit at h3;exfalso;have hlt:=h1 e he hbe;have:=(ay_.1 hj).1;have:=Array.getElem?_eq_none_iff.1 ho;omega
    |some oe=>exact ih e.on (h1 e he hbe) i oe ho (fun e' he' hb'=>d e.on oe ho hl e' he' hb') h3
theorem N2 (h:og all ops B=true) {i j:Nat} {oi oj:Oper} (hi:ops[i]?=some oi) (hj:ops[j]?=some oj) (hlt:i<j):
 bit B j i=true\/(zh (jo all ops B i) (jo all ops B j)=true/\oi.apart ops oj=true):=by simp only [og,ag_,az_,aM_]at h;have:=h.2 j (ay_.1 hj).1 i hlt;simpa [hi,hj]using this
theorem xt (h:og all ops B=true):D5 ops B=true:=by simp only [og,ag_]at h;exact h.1.1
theorem Je (h:og all ops B=true):Region.noSelect ops=true:=by simp only [og,ag_]at h;exact h.1.2
theorem Y2 (hok:og all ops B=true) (hs0:Sat G h0) {K:Rg->Hp->Prop} {i:Nat} {oi:Oper} (hi:ops[i]?=some oi):
 ∀(fuel:Nat) (listed:Array Bool) (r:Rg) (h:Hp),Sat G h->Down ops listed->
  (∀j oj,ops[j]?=some oj->j≠i->listed.getD j true=false->bit B j i=true\/(zh (jo all ops B i) (jo all ops B j)=true/\oi.apart ops oj=true))->
  i∈Region.ready .any ops listed->dOp P G n all ops B h0 Rd i (anyD P G n all ops B h0 Rd K fuel (listed.setIfInBounds i true)) r h->anyD P G n all ops B h0 Rd K (fuel+1) listed r h:=by
 have hB:=xt hok;have hsel:=Region.noSelect_spec (Je hok);intro fuel;induction fuel with
 |zero=>
  intro listed r h hs d hfree hr H;refine ⟨fun h=>(by rw [h]at hr;cases hr),fun j hj=>?_⟩;by_cases hji:j=i
  . subst hji;exact H
  . obtain ⟨r',h',_,k⟩:=aL4 hs H;have:=ready_mono hj hji;rw [k.1]at this;cases this
 |succ fuel ih=>
  intro listed r h hs d hfree hr H;refine ⟨fun h=>(by rw [h]at hr;cases hr),fun j hj=>?_⟩;by_cases hji:j=i
  . subst hji;exact H
  . obtain ⟨hjun,oj,hoj,hall⟩:=mem_ready.1 hj
    have hnb:bit B j i=false:=by
     cases hb:bit B j i with
     |false=>rfl
     |true=>have h1:=C6 hB d j i oj hoj hall hb;have h2:=tg (mem_ready.1 hr).1;rw [h1]at h2;cases h2
    have hpair:=(hfree j oj hoj hji hjun).resolve_left (by rw [hnb];simp)
    have H1:dOp P G n all ops B h0 Rd i (dOp P G n all ops B h0 Rd j (anyD P G n all ops B h0 Rd K fuel ((listed.setIfInBounds i true).setIfInBounds j true))) r h:=
     aL5 (fun r' h' k=>k.2 j (ready_mono hj hji)) H
    have H2:=swapD hi hoj (fun cs b=>hsel i oi cs b hi) (fun cs b=>hsel j oj cs b hoj) hpair.1 hpair.2 hs hs0 H1;refine as4 hs (fun r' h' hs' k=>ih (listed.setIfInBounds j true) r' h' hs' (d.take hj) ?_ (ready_mono hr (Ne.symm hji)) ?_) H2
    . intro k ok hk hki hun;refine hfree k ok hk hki ?_;by_cases hjk:j=k
      . subst hjk;exact hjun
      . rw [getD_set_ne true hjk]at hun;exact hun
    . rw [Array.setIfInBounds_comm _ _ hji];exact k
theorem Rt (hok:og all ops B=true) (hs0:Sat G h0) {K:Rg->Hp->Prop}:∀(l:List Oper) (k:Nat) (listed:Array Bool) (r:Rg) (h:Hp),(∀j,l[j]?=ops[k+j]?)->k+l.length=ops.size->
 listed.size=ops.size->(∀j,j<ops.size->listed.getD j false=decide (j<k))->Sat G h->
 lexD P G n all ops B h0 Rd k l r h K->anyD P G n all ops B h0 Rd K l.length listed r h
 |[],k,listed,r,h,_,hk,hsz,hlist,_,H=>by refine ⟨?_,H⟩;rw [List.eq_nil_iff_forall_not_mem];intro j hj;obtain ⟨hjun,oj,hoj,_⟩:=mem_ready.1 hj;have hlt:=(ay_.1 hoj).1;have h1:=hlist j hlt;rw [tg hjun]at h1;simp at h1 hk;omega
 |o::rest,k,listed,r,h,hl,hk,hsz,hlist,hs,H=>by
  have hB:=xt hok;have h0':ops[k]?=some o:=by simpa using (hl 0).symm
  have hlt:=(ay_.1 h0').1;have hl':∀j,rest[j]?=ops[k+1+j]?:=fun j=>by have:=hl (j+1);simpa [ck_,Nat.add_comm 1 j]using this
  have hlist':∀j,j<ops.size->(listed.setIfInBounds k true).getD j false=decide (j<k+1):=fun j hj=>by
   by_cases hjk:k=j
   . subst hjk;simp [hsz,hj]
   . rw [getD_set_ne false hjk,hlist j hj];simp only [decide_eq_decide];omega
  have hlk:listed.getD k true=false:=by have:=hlist k hlt;simp only [bV_]at this ⊢;rw [aJ_ (by omega)]at this ⊢;simpa using this
  have hready:k∈Region.ready .any ops listed:=mem_ready.2 ⟨hlk,o,h0',fun e he hb=>by
   have:=(wz hB h0').1 e he hb
   rw [hlist e.on (by omega)];simpa using this⟩
  have hdown:Down ops listed:=fun j oj hj hlj e he hb=>by have hjlt:=(ay_.1 hj).1;rw [hlist j hjlt]at hlj;have:=(wz hB hj).1 e he hb;simp at hlj;rw [hlist e.on (by omega)];simp;omega
  refine Y2 hok hs0 h0' rest.length listed r h hs hdown ?_ hready ?_
  . intro j oj hj hjk hun;have hjlt:=(ay_.1 hj).1;have h1:=hlist j hjlt;rw [tg hun]at h1;simp at h1;exact N2 hok h0' hj (by omega)
  . unfold dOp;simp only [h0'];unfold lexD at H;split
    . rename_i hw;rw [ak_ hw]at H;exact od (fun v h' k' s=>Rt hok hs0 rest (k+1) _ _ h' hl' (by simp at hk;omega) (by simp [hsz]) hlist' s k') H
    . rename_i hw;rw [ah_ hw]at H;exact Rt hok hs0 rest (k+1) _ _ h hl' (by simp at hk;omega) (by simp [hsz]) hlist' hs H
end
end Go.HL
namespace Go.HL
open Go
section
variable {P:Program} {G:Hp} {D:List Deferred} {ro:Option Nat} {n:Nat} {all:Bool} {ops:Array Oper} {B:Array Nat} {h0:Hp} {Rd:Sem Next->Prop}
theorem Mv.more {h0 h:Hp} {w w':World} (i:In G h w) (l:h0.le h) (m:Mv h0 w h0 w'):Mv h w h w':=by
 refine ⟨m.size,fun b o e=>?_,fun b o e1 e2=>?_,m.os,m.output,m.tape,m.drawn⟩
 . cases e0:h0 b with
   |none=>exact (m.frame b o (i.sub _ _ e) e0).1
   |some p=>have:=l _ _ e0;rw [e]at this;cases this;exact m.sub _ _ e0
 . have e0:h0 b=none:=by
    cases e0:h0 b with
    |none=>rfl
    |some p=>rw [l _ _ e0]at e2;cases e2
   exact ⟨(m.frame b o e1 e0).1,e2⟩
theorem Ey {G':Hp} {h h0:Hp} {w:World} {s:Sem Next} {v:Value} (i:In G h w) (i0:In G' h0 w) (l:h0.le h) (p:qw P G' h0 s v):∃w',s.run P w = .ok (.value v) w'/\Mv h w h w':=by obtain ⟨x,h',w',e1,e2,e3,e4⟩:=uo _ i0 p;subst e3 e4;exact ⟨w',e1,Mv.more i l e2⟩
theorem noHp_le (h:Hp):noHp.le h:=fun b o e=>by simp [noHp]at e
theorem xi {t:TypeId} {ad:Addr} {v:Value} {h:Hp} {K:Unit->Hp->Prop}:
 wpH P G (storeVar t ad v) h K↔∃i,P.info? t=some i/\v.cells.size=i.size/\wpH P G (storeCells ad v.cells.toList) h K:=by
 unfold storeVar sizeOf typeInfo;simp only [bind,dp,program,wpH];cases hi:P.info? t with
 |none=>simp [stuck,wpH]
 |some i=>
  simp only [pure,wpH];by_cases hc:v.cells.size=i.size
  . simp [hc]
  . simp [hc,stuck,wpH,Sem.bind]
theorem as1 {j i':Nat} (hj:Kx (kop ops j)=true) (hn:ui all ops B j=false) (hk:jo all ops B i' = .pureM) (hb:D5 ops B=true):bit B j i'=true:=by
 have hm:=zm hk (by decide)
 have hlt:i'<ops.size:=by
  unfold kop at hm;cases e:ops[i']? with
  |none=>rw [e]at hm;cases hm
  |some oi=>exact (ay_.1 e).1
 cases h1:bit B j i' with
 |true=>rfl
 |false=>
  exfalso;cases h2:bit B i' j with
  |true=>
   have hlt2:j<i':=by
    obtain ⟨o,ho⟩:∃o,ops[i']?=some o:=⟨_,aJ_ hlt⟩
    have key:∀(m:Nat) (o:Oper),ops[m]?=some o->bit B m j=true->j<m:=by
     intro m;induction m using Nat.strongRecOn with
     |_ m ih=>
      intro o ho hb2;obtain ⟨g1,g2⟩:=wz hb ho;obtain ⟨e,he,hbe,h3⟩:=g2 j hb2;have hem:=g1 e he hbe;rcases h3 with rfl|h3
      . exact hem
      . have hml:=(ay_.1 ho).1;have:=ih e.on hem _ (aJ_ (by omega)) h3;omega
    exact key i' o ho h2
   unfold jo at hk;rw [hm]at hk;simp only at hk;split at hk
   . cases hk
   . rename_i hx;apply hx;rw [bf_];exact ⟨j,aM_.2 hlt2,by rw [h2,hj,hn];rfl⟩
  |false=>
   have:ui all ops B j=true:=by unfold ui;rw [hj,aH_,bf_];exact ⟨i',aM_.2 hlt,by rw [hm,h1,h2];cases all<;>rfl⟩
   rw [hn]at this;cases this
def Pend (P:Program) (G:Hp) (all:Bool) (ops:Array Oper) (B:Array Nat) (h0:Hp) (Rd:Sem Next->Prop) (listed:Array Bool) (h:Hp):Prop:=(∃i,listed.getD i true=false/\jo all ops B i = .pureM)->Kp P G h0 Rd h
theorem Pend.take {listed:Array Bool} {h h':Hp} {j:Nat} (p:Pend P G all ops B h0 Rd listed h) (l:Kp P G h0 Rd h->Kp P G h0 Rd h'):Pend P G all ops B h0 Rd (listed.setIfInBounds j true) h':=by
 rintro ⟨i,hi,hk⟩;by_cases hji:j=i
 . subst hji;exfalso;by_cases hlt:j<listed.size
   . simp [hlt]at hi
   . simp [hlt]at hi
 . rw [getD_set_ne true hji]at hi;exact l (p ⟨i,hi,hk⟩)
theorem Su (hok:og all ops B=true) {Q:Exit->Act->World->Prop} {K:Rg->Hp->Prop}:∀(fuel:Nat) (listed:Array Bool) (r:Rg) (h:Hp) (a:Act) (w:World),
 Fit D n a r->In G h w->Down ops listed->Pend P G all ops B h0 Rd listed h->anyD P G n all ops B h0 Rd K fuel listed r h->
 (∀r' h' a' w',Fit D n a' r'->Mv h w h' w'->K r' h'->Q .normal a' w')->wpAnyIn (Fw ro) 0 P .any ops Q fuel listed a w
 |0,listed,r,h,a,w,f,i,_,_,H,hq=>⟨H.1,hq r h a w f (.refl i) H.2⟩
 |fuel+1,listed,r,h,a,w,f,i,d,p,H,hq=>by
  have hB:=xt hok;refine ⟨fun h1=>hq r h a w f (.refl i) (H.1 h1),fun j hj=>?_⟩;obtain ⟨hjun,o,ho,hall⟩:=mem_ready.1 hj;have H1:=H.2 j hj;unfold dOp at H1
  have nd:∀{G1 h1:Hp} {w1:World} (v:Value),In G1 h1 w1->qw P G1 h1 (execOp (im r) o) v->∀c,o.op ≠ .defer c:=fun v i1 hv c hc=>by
   have e:execOp (im r) o=(resolve (im r) c o.type).bind fun d => .pure (.defer d):=by unfold execOp;rw [hc];rfl
   unfold qw at hv;rw [e,dp]at hv;obtain ⟨d,h',w',_,_,hv⟩:=uo _ i1 hv;cases hv.2
  unfold wpOpIn;simp only [ho,f.wanted ops o]at H1 ⊢
  have next:∀v h' w',Mv h w h' w'->(Kp P G h0 Rd h->Kp P G h0 Rd h')->anyD P G n all ops B h0 Rd K fuel (listed.setIfInBounds j true) (putR n r o.dst v) h'->wpAnyIn (Fw ro) 0 P .any ops Q fuel (listed.setIfInBounds j true) (a.put o.dst v) w':=
   fun v h' w' m l k=>Su hok fuel _ _ h' _ w' (f.put o.dst v) (m.keeps i) (d.take hj) (p.take l) k fun r2 h2 a2 w2 f2 m2 k2=>hq r2 h2 a2 w2 f2 (m.trans m2) k2
  split
  . rename_i hw;rw [ak_ hw]at H1;unfold Zm i6 at H1;split at H1
    . obtain ⟨v,hv,k⟩:=H1;obtain ⟨w',e,m⟩:=Ey i (R3 w) (noHp_le h) hv;refine ⟨fun _ _=>trivial,?_⟩;rw [Oper.semAt_eq _ _ _ (nd _ (R3 w) hv),f.eval,e];exact next v h w' m id (k ⟨w,i⟩)
    . rename_i hk;obtain ⟨v,hv,k⟩:=H1;rcases p ⟨j,hjun,hk⟩with l|l
      . obtain ⟨w',e,m⟩:=Ey i (i.less l) l hv.2;refine ⟨fun _ _=>trivial,?_⟩;rw [Oper.semAt_eq _ _ _ (nd _ (i.less l) hv.2),f.eval,e];exact next v h w' m id (k ⟨w,i⟩)
      . have hv':=l _ hv.1 v hv.2;obtain ⟨w',e,m⟩:=Ey i i (Hp.le.refl h) hv';refine ⟨fun _ _=>trivial,?_⟩;rw [Oper.semAt_eq _ _ _ (nd _ i hv'),f.eval,e];exact next v h w' m id (k ⟨w,i⟩)
    . obtain ⟨v,hv,k⟩:=H1;obtain ⟨w',e,m⟩:=Ey i i (Hp.le.refl h) hv;refine ⟨fun _ _=>trivial,?_⟩;rw [Oper.semAt_eq _ _ _ (nd _ i hv),f.eval,e];exact next v h w' m id (k ⟨w,i⟩)
    . rename_i n1 n2 n3
      have key:opH P G (execOp (im r) o) h (fun v h'=>(Sat G h'->anyD P G n all ops B h0 Rd K fuel (listed.setIfInBounds j true) (putR n r o.dst v) h')/\(Kp P G h0 Rd h->Pend P G all ops B h0 Rd (listed.setIfInBounds j true) h')):=by
       cases hn:ui all ops B j with
       |true=>simp only [hn]at H1;exact kx (fun v h' k=>⟨k.2,fun _ _=>k.1⟩) H1
       |false=>
        simp only [hn]at H1;cases hk:jo all ops B j with
        |pureN=>exact absurd hk n1
        |pureM=>exact absurd hk n2
        |late=>exact absurd hk n3
        |alloc=>
         rcases D7 (P:=P) (G:=G) (Fc ho hk) (im r)with hno|⟨ob,f,hform⟩
         . exact absurd H1 (hno _ _)
         . rw [hform]at H1 ⊢;exact fun x hx gx=>⟨H1 x hx gx,fun l _=>l.set hx gx⟩
        |_=>
         all_goals
          refine kx (fun v h' k=>⟨k,fun _=>?_⟩) H1
          rintro ⟨i',hi',hk'⟩
          exfalso
          have hne:j≠i':=fun x=>by subst x;rw [hk]at hk';cases hk'
          rw [getD_set_ne true hne]at hi'
          have hb:=as1 (by rw [zm hk (by decide)];rfl) hn hk' hB
          have:=C6 hB d j i' o ho hall hb
          rw [tg hi']at this
          cases this
      refine ay1 i (K:=fun v h'=>(Sat G h'->anyD P G n all ops B h0 Rd K fuel (listed.setIfInBounds j true) (putR n r o.dst v) h')/\(Kp P G h0 Rd h->Pend P G all ops B h0 Rd (listed.setIfInBounds j true) h')) (by rw [f.eval];exact key) ?_;intro v h' w' m kl;obtain ⟨k,l⟩:=kl
      have pend':Pend P G all ops B h0 Rd (listed.setIfInBounds j true) h':=by
       intro hx
       have hle:Kp P G h0 Rd h:=by
        obtain ⟨i',hi',hk'⟩:=hx;refine p ⟨i',?_,hk'⟩;by_cases hji:j=i'
        . subst hji;exact hjun
        . rw [getD_set_ne true hji]at hi';exact hi'
       exact l hle hx
      exact Su hok fuel _ _ h' _ w' (f.put o.dst v) (m.keeps i) (d.take hj) pend' (k ⟨w',m.keeps i⟩) fun r2 h2 a2 w2 f2 m2 k2=>hq r2 h2 a2 w2 f2 (m.trans m2) k2
  . rename_i hw;rw [ah_ hw]at H1;exact ⟨fun _ _=>trivial,next undef h w (.refl i) id H1⟩
theorem Ba (hm:P.follows .mixedOrders=true) (hok:og all ops B=true) {id:Nat} {Q:Exit->Act->World->Prop} {K:Rg->Hp->Prop} {r:Rg} {h:Hp} {a:Act} {w:World}
 (f:Fit D n a r) (i:In G h w) (l0:h0.le h) (H:lexD P G n all ops B h0 Rd 0 ops.toList r h K) (hq:∀r' h' a' w',Fit D n a' r'->Mv h w h' w'->K r' h'->Q .normal a' w'):(Code.region id ops true).wpIn (Fw ro) 0 P Q a w:=by
 refine wpIn_region_any hm ?_;have i':In G h { w with drawn:=w.drawn+1 }:=⟨i.sub,i.gnd⟩;have hs:Sat G h:=⟨_,i⟩;have hs0:Sat G h0:=hs.less l0;refine Su (h0:=h0) (Rd:=Rd) hok ops.size _ r h a _ f i' ?_ ?_ ?_ (fun r' h' a' w' f' m k=>hq r' h' a' w' f' ⟨m.size,m.sub,m.frame,m.os,m.output,m.tape,bo_ (Nat.le_succ _) m.drawn⟩ k)
 . intro j o hj hl;simp [Array.getElem?_replicate]at hl;split at hl<;>simp at hl
 . exact fun _ => .inl l0
 . have:=Rt hok hs0 ops.toList 0 (Array.replicate ops.size false) r h (by simp) (by simp) (by simp) (fun j hj=>by simp [hj]) hs H;simpa using this
end
end Go.HL

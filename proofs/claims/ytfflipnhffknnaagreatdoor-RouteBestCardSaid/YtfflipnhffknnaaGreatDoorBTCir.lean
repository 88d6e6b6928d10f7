/- The card. -/
import Derived.Test.YtfflipnhffknnaaGreatDoorBM8
import Derived.Test.YtfflipnhffknnaaGreatDoorCards
import Derived.Test.YtfflipnhffknnaaGreatDoorTie
import Derived.SevenTiedAt
set_option linter.unusedSimpArgs false
set_option linter.unusedVariables false
set_option maxRecDepth 100000
namespace Go.Proofs.YtfflipnhffknnaaGreatDoor.routeBest
open Go Go.HL Go.ChangeShapes Go.WideShapes Go.RowKit
theorem len6 {α:Type} {L:List α} (h:L.length=6):∃a b c d e f,L=[a,b,c,d,e,f]:=by
 match L,h with
 |[a,b,c,d,e,f],_=>exact ⟨a,b,c,d,e,f,rfl⟩
theorem contract (H:Type) (enc:TypeId × Value->H) (W:World) (base:Nat) (args:Array Value) (ds gs:List (DataW H)) (before:List MemPlace)
 (hval:∀(j:Nat) t v,Tryz.f13.params[j]?=some t->args[j]?=some v->Value.okWide Tryz.prog W .any base t v)
 (hW:DataW.Whole enc Tryz.prog Tryz.f13.params.toList Rows.routeBestSpec.vars false W args.toList ds gs before)
 (hz:(DataW.weightsEach Tryz.prog (Tryz.f13.params.toList++Rows.routeBestSpec.plain.varTypes Tryz.prog) (ds++gs)).all (· <= reachBytes)=true) (hL:laidMetH Tryz.prog O4 W):
 Calls Tryz.prog 13 args W fun e W'=>∃v,e = .returned v/\Rows.routeBestSpec.post enc Tryz.prog Tryz.f13 false true false false W args v W':=by
 have hW':=hW
 obtain ⟨p,q,hA,hV,rfl,hfz,hnd⟩:=hW
 obtain ⟨rfl,rfl⟩:=trodVars_none hV
 rw [show Tryz.f13.params.toList=[26,77,3,30,3,30]by kernel_rfl]at hA
 obtain ⟨v0,vs0,d0,ds0,p0,q0,hargs,rfl,rfl,h0,r0⟩:=trodAll_cons hA
 obtain ⟨v1,vs1,d1,ds1,p1,q1,rfl,rfl,rfl,h1,r1⟩:=trodAll_cons r0
 obtain ⟨v2,vs2,d2,ds2,p2,q2,rfl,rfl,rfl,h2,r2⟩:=trodAll_cons r1
 obtain ⟨v3,vs3,d3,ds3,p3,q3,rfl,rfl,rfl,h3,r3⟩:=trodAll_cons r2
 obtain ⟨v4,vs4,d4,ds4,p4,q4,rfl,rfl,rfl,h4,r4⟩:=trodAll_cons r3
 obtain ⟨v5,vs5,d5,ds5,p5,q5,rfl,rfl,rfl,h5,r5⟩:=trodAll_cons r4
 obtain ⟨rfl,rfl,rfl⟩:=trodAll_nil r5
 obtain rfl:args=#[v0,v1,v2,v3,v4,v5]:=by cases args;simp_all
 have k0:=hval 0 26 v0 (by kernel_rfl) rfl
 have l0:r6 Tryz.prog 26 d0:=yn hz (j:=0) (by kernel_rfl) rfl
 have k1:=hval 1 77 v1 (by kernel_rfl) rfl
 have l1:r6 Tryz.prog 77 d1:=yn hz (j:=1) (by kernel_rfl) rfl
 have k2:=hval 2 3 v2 (by kernel_rfl) rfl
 have l2:r6 Tryz.prog 3 d2:=yn hz (j:=2) (by kernel_rfl) rfl
 have k3:=hval 3 30 v3 (by kernel_rfl) rfl
 have l3:r6 Tryz.prog 30 d3:=yn hz (j:=3) (by kernel_rfl) rfl
 have k4:=hval 4 3 v4 (by kernel_rfl) rfl
 have l4:r6 Tryz.prog 3 d4:=yn hz (j:=4) (by kernel_rfl) rfl
 have k5:=hval 5 30 v5 (by kernel_rfl) rfl
 have l5:r6 Tryz.prog 30 d5:=yn hz (j:=5) (by kernel_rfl) rfl
 have st:=of_laid hL
 obtain ⟨C,hC,fit,hp⟩:=aL7 k0 h0 l0
 obtain ⟨l,hl,hlb⟩:=aq6 k1 h1
 obtain ⟨rb,rfl,br⟩:=aa6 k2 h2
 obtain ⟨p,rfl,pb⟩:=U6 k3 h3
 obtain ⟨t,rfl,bt⟩:=aa6 k4 h4
 obtain ⟨g,rfl,gb⟩:=U6 k5 h5
 refine (Sj (at9 pb gb bt hl hlb st (hC _ Dis.start) fit hp)).mono ?_
 rintro e W' ⟨⟨v,rfl,rfl⟩,hB⟩
 exact ⟨_,rfl,az7 az9 rfl (by kernel_rfl) (show Tryz.prog.underlying 4=some .bool by kernel_rfl) (by kernel_rfl) (fun ds hl=>by
  obtain ⟨d0,d1,d2,d3,d4,d5,rfl⟩:=len6 hl
  exact ⟨rfl,rfl,rfl⟩) hW' hB⟩
theorem lifted (os:Os) (started:os.Started) (H:Type) (enc:TypeId × Value->H):
 ReturnsInHanded {} Tryz.checked os 13 .any (fun w args=>(Rows.routeBestSpec.pre enc Tryz.prog Tryz.f13 [] false w args/\laidMetH Tryz.prog O4 w)/\sizedMet enc Tryz.prog Tryz.f13 (OpenSpec.ofChange Rows.routeBestSpec) false w args)
  (Rows.routeBestSpec.post enc Tryz.prog Tryz.f13 false true false false):=by
 refine returnsInHanded_of_change_and (C:=Tryz.checked) (X:=fun w _=>laidMetH Tryz.prog O4 w) (fun _ _ _ hh h=>h.of_heap hh) ax9 started (by kernel_rfl) Tryz.func13
  (ChangeSpec.witness_shaped (enc:=enc) (C:=Tryz.checked) (os:=os) (X:=fun w _=>laidMetH Tryz.prog O4 w) false (World.doorLaid Tryz.prog 400 os) #[.agg #[(0:Int),(0:Int),(0:Int),.slice none 0 0,.slice none 0 0,.slice none 0 0,.slice none 0 0,(0:Int),(0:Int),(0:Int),(0:Int),(0:Int),(0:Int),(0:Int),(0:Int),.bool false],.slice none 0 0,(0:Int),.agg #[(0:Int),(0:Int),.bool false],(0:Int),.agg #[(0:Int),(0:Int),.bool false]] 8 rfl (World.shaped_of_RefB (by kernel_rfl) (by kernel_rfl)) (by kernel_rfl) (by kernel_rfl) (by kernel_rfl) (aL1 os _)) ?_
 intro W base args ds gs before hval hW _ hz hL _
 exact contract H enc W base args ds gs before hval hW hz hL
theorem and_t {a b:Bool} (h1:a=true) (h2:b=true):(a&&b)=true:=by rw [h1,h2];rfl
set_option maxHeartbeats 40000000 in
theorem closed:joinedFacts Tryz.pinned.checked.prog 13 Tryz.f13 Rows.routeBestSpec Rows.routeBestRow=true:=by
 unfold joinedFacts
 repeat (first|refine and_t ?_ ?_)
 all_goals (as_aux_lemma=>kernel_rfl)
theorem an8:Rows.RouteBestSaid:=
 OpenClaim.holds_of_wide 13 Tryz.f13 rfl rfl rfl rfl rfl rfl rfl ⟨rfl,rfl,rfl,rfl,rfl⟩ rfl rfl rfl rfl rfl (by kernel_rfl) Tryz.func13 closed
  (of_decide_eq_true (by kernel_rfl)) (by unfold Func.isWrapper;first|(rw [if_pos (by decide +kernel)];kernel_rfl)|(rw [if_neg (by decide +kernel)];exact ⟨rfl,rfl⟩))
  (fun os started H enc _=>lifted os started H enc)
theorem holds:Rows.RouteBestCardSaid:=
 Claim7.holds_tied_plain_at .later [] [.data] true (true,"a88b1d9fe9f5d1385b16150ec9349171fc4538417ed9695b8ad811efedf37785") false
  an8 (fun _ h=>by cases h) (by as_aux_lemma=>kernel_rfl) (fun _ h=>by cases h) routeBest_row_tie rfl ⟨rfl,rfl⟩ (by as_aux_lemma=>kernel_rfl) rfl
  (fun f fn hf hfn=>by
   obtain rfl:f=13:=Option.some.inj ((show Tryz.prog.funcNamed "skep/skeplaw12.RouteBest" = some 13 by as_aux_lemma=>kernel_rfl).symm.trans hf) |>.symm
   obtain rfl:fn=Tryz.f13:=(Option.some.inj (Tryz.func13.symm.trans hfn)).symm
   exact ⟨by as_aux_lemma=>kernel_rfl,fun j t ht=>by
    rw [show Tryz.f13.params=#[26,77,3,30,3,30]by as_aux_lemma=>kernel_rfl]at ht
    have hm:t∈[26,77,3,30,3,30]:=by simpa using Array.mem_of_getElem? ht
    have hall:([26,77,3,30,3,30].all fun u => !Tryz.prog.wantsStandIn u)=true:=by as_aux_lemma=>kernel_rfl
    exact (show Tryz.prog.wantsStandIn t=false by simpa using List.all_eq_true.1 hall t hm)⟩)
  (by as_aux_lemma=>kernel_rfl)
end Go.Proofs.YtfflipnhffknnaaGreatDoor.routeBest

/- Texts of the proof, one behind the other. -/
import Derived.Test.YtfflipnhffknnaaGreatDoorM7
import Derived.Test.YtfflipnhffknnaaGreatDoorH2
import Derived.Test.YtfflipnhffknnaaGreatDoorH3
import Derived.Test.YtfflipnhffknnaaGreatDoorRows
import Derived.Test.YtfflipnhffknnaaGreatDoorTie
import Derived.JoinedOf
import Derived.Handed
import Derived.LaidMore
import Derived.LaidHandle
import Derived.LaidLaws
import Derived.MakeChecks
set_option linter.unusedSimpArgs false
set_option linter.unusedVariables false
set_option maxRecDepth 100000
set_option linter.defProp false
section
namespace Go.Proofs.YtfflipnhffknnaaGreatDoor
open Go Go.HL Go.ChangeShapes Go.WideShapes Go.RowKit
theorem af9:ownKnob P_.godebug=none:=by kernel_rfl
theorem ai6:laidOutB P_=true:=by kernel_rfl
theorem aj4:P_.globalNamed "skep/grid.steps" = some 0:=by kernel_rfl
theorem tSteps:(P_.globals[0]?).map (·.type)=some 245:=by kernel_rfl
abbrev La:List (String × DataW Unit):=[("skep/grid.steps",Rows.laid_skep_grid_steps)]
theorem au1 (os:Os) (args:Array Value):laidMetH P_ La ((World.doorLaid P_ 400 os).forCall (fun _ _=>0) ⟨#[],args,[]⟩).memory:=
 laidMetH_of_parts3 (fuel:=8) (laidMet_of_run' 8 (by kernel_rfl) (by kernel_rfl)) (by kernel_rfl) (by kernel_rfl)
theorem Sl {H:Type} {enc:TypeId × Value->H} {P:Program} {w:World} {base:Nat} {spare:Nat->Bool} {held:Bool} {e:TypeId} {fuel:Nat} {cs:List Value} {y:DataW H × List MemPlace} {tos:List (TypeId × Nat)} (ht:ia P e=some tos)
 (h:DataW.trod enc P w base spare held fuel e cs=some y):cs.length=P.cellsOf e/\∃(xs:List (DataW H × List MemPlace)) (m:Nat),y=(.agg (xs.map (·.1)),xs.flatMap (·.2))/\xs.length=tos.length/\∀(i:Nat) (t o:Nat),tos[i]?=some (t,o)->DataW.trod enc P w base spare held m t ((cs.drop o).take (P.cellsOf t))=xs[i]?:=by
 unfold ia at ht
 split at ht
 . rename_i fs hfs
   obtain ⟨xs,n,_,h0,h1,h2,h3⟩:=DataW.trod_struct hfs h
   simp only [Option.some.injEq]at ht
   subst ht
   refine ⟨h1,xs,n,h0,by simp [h2],fun i t o hi=>?_⟩
   rw [List.getElem?_map,Array.getElem?_toList]at hi
   cases q:fs[i]? with
   |none=>rw [q]at hi;cases hi
   |some f=>
    rw [q]at hi
    simp only [Option.map_some,Option.some.injEq,Prod.mk.injEq]at hi
    obtain ⟨rfl,rfl⟩:=hi
    exact h3 i f q
 . cases ht
theorem un3i:P_.underlying 3=some (.int .i64):=by kernel_rfl
theorem c3:P_.cellsOf 3=1:=by kernel_rfl
theorem c28:P_.cellsOf 28=2:=by kernel_rfl
theorem c81:P_.cellsOf 245=8:=by kernel_rfl
theorem sf28:ia P_ 28=some [(3,0),(3,1)]:=by kernel_rfl
theorem B2 {H:Type} {enc:TypeId × Value->H} {w:World} {base:Nat} {spare:Nat->Bool} {held:Bool} {m:Nat} {cs:List Value} {x:DataW H × List MemPlace} {a b:Int}
 (h:DataW.trod enc P_ w base spare held m 28 cs=some x) (e:x.1 = .agg [.lit (.int .i64 a),.lit (.int .i64 b)]):cs=[.int .i64 a,.int .i64 b]:=by
 obtain ⟨hl,xs,n,rfl,hxl,d⟩:=Sl sf28 h
 rw [c28]at hl
 match cs,hl,xs,hxl with
 |[v0,v1],_,[x0,x1],_=>
 have h0:=d 0 3 0 rfl
 have h1:=d 1 3 1 rfl
 rw [c3]at h0 h1
 obtain ⟨k0,e0,f0,_⟩:=DataW.trod_int un3i (show DataW.trod _ _ _ _ _ _ n 3 _=some x0 from h0)
 obtain ⟨k1,e1,f1,_⟩:=DataW.trod_int un3i (show DataW.trod _ _ _ _ _ _ n 3 _=some x1 from h1)
 simp at e0 e1
 subst e0 e1 f0 f1
 simp at e
 obtain ⟨rfl,rfl⟩:=e
 rfl
theorem len8 {α:Type} {L:List α} (h:L.length=8):∃a b c d e f g i,L=[a,b,c,d,e,f,g,i]:=by
 match L,h with
 |[a,b,c,d,e,f,g,i],_=>exact ⟨a,b,c,d,e,f,g,i,rfl⟩
theorem of_laid {W:World} (h:laidMetH P_ La W):j9 (ground W):=by
 rw [MakeChecks.laidMetH_plain _ _ _ (by kernel_rfl)]at h
 obtain ⟨ps,⟨g0,t0,cs0,f0,p0,q0,hg0,ht0,hv0,hd0,_,_⟩,_,_⟩:=h
 obtain rfl:=Option.some.inj (aj4.symm.trans hg0)
 obtain rfl:=Option.some.inj (tSteps.symm.trans ht0)
 obtain ⟨xs,m,rfl,hx,hl,hxl,hel⟩:=DataW.trod_array un81 hd0
 rw [c81]at hl
 rw [c28]at hel
 simp only [Prod.mk.injEq]at hx
 obtain ⟨hx,_⟩:=hx
 have hobj:∃e f,W.heap[0]?=some (.cells cs0 e f):=by
  unfold World.var? at hv0
  rw [aj4]at hv0
  simp only [Option.bind_some]at hv0
  split at hv0
  . rename_i c e f hc
    cases hv0
    exact ⟨e,f,hc⟩
  . cases hv0
 obtain ⟨e,f,hobj⟩:=hobj
 refine ⟨e,f,?_⟩
 show W.heap[0]?=_
 rw [hobj]
 match xs,hxl with
 |[x0,x1,x2,x3],_=>
 have h0:=hel 0 (by decide)
 have h1:=hel 1 (by decide)
 have h2:=hel 2 (by decide)
 have h3:=hel 3 (by decide)
 unfold Rows.laid_skep_grid_steps at hx
 simp only [List.map_cons,List.map_nil,DataW.agg.injEq,List.cons.injEq]at hx
 have k0:=B2 (show DataW.trod _ _ _ _ _ _ m 28 _=some x0 from h0) hx.1.symm
 have k1:=B2 (show DataW.trod _ _ _ _ _ _ m 28 _=some x1 from h1) hx.2.1.symm
 have k2:=B2 (show DataW.trod _ _ _ _ _ _ m 28 _=some x2 from h2) hx.2.2.1.symm
 have k3:=B2 (show DataW.trod _ _ _ _ _ _ m 28 _=some x3 from h3) hx.2.2.2.1.symm
 obtain ⟨cs⟩:=cs0
 obtain ⟨a0,a1,a2,a3,a4,a5,a6,a7,rfl⟩:=len8 hl
 simp at k0 k1 k2 k3
 obtain ⟨rfl,rfl⟩:=k0
 obtain ⟨rfl,rfl⟩:=k1
 obtain ⟨rfl,rfl⟩:=k2
 obtain ⟨rfl,rfl⟩:=k3
 rfl
section
theorem rr {H:Type} {P:Program} {ts:List TypeId} {ds:List (DataW H)} (h:(DataW.weightsEach P ts ds).all (· <= reachBytes)=true) {j:Nat} {t:TypeId} {d:DataW H} (ht:ts[j]?=some t) (hd:ds[j]?=some d):pv P t d:=fun n hn=>by
 simpa using List.all_eq_true.1 h n (DataW.weights_mem_each ht hd n hn)
theorem yf {P:Program} {w:World} {r:Reach} {base:Nat} {t:TypeId} {v:Value} {tos:List (TypeId × Nat)} (ht:ia P t=some tos) (hv:Value.okWide P w r base t v):∃cs:Array Value,v = .agg cs:=by
 unfold ia at ht
 split at ht
 . rename_i fs hfs
   obtain ⟨cs,rfl,_⟩:=okWide_struct hfs hv
   exact ⟨cs,rfl⟩
 . cases ht
theorem sf30:ia P_ 30=some [(28,0),(4,2)]:=by kernel_rfl
theorem sf95:ia P_ 234=some [(28,0),(168,2)]:=by kernel_rfl
theorem sf26:ia P_ 26=some [(3,0),(3,1),(3,2),(22,3),(22,4),(23,5),(24,6),(3,7),(3,8),(3,9),(3,10),(3,11),(3,12),(3,13),(3,14),(4,15)]:=by kernel_rfl
theorem un4b:P_.underlying 4=some .bool:=by kernel_rfl
theorem c4:P_.cellsOf 4=1:=by kernel_rfl
theorem c22:P_.cellsOf 22=1:=by kernel_rfl
theorem c23:P_.cellsOf 23=1:=by kernel_rfl
theorem c24:P_.cellsOf 24=1:=by kernel_rfl
theorem c26:P_.cellsOf 26=16:=by kernel_rfl
theorem c30:P_.cellsOf 30=3:=by kernel_rfl
theorem c57:P_.cellsOf 168=1:=by kernel_rfl
theorem c95:P_.cellsOf 234=3:=by kernel_rfl
section
variable {H:Type} {enc:TypeId × Value->H} {w:World} {base:Nat} {spare:Nat->Bool} {held:Bool}
theorem len2 {α:Type} {L:List α} (h:L.length=2):∃a b,L=[a,b]:=by
 match L,h with
 |[a,b],_=>exact ⟨a,b,rfl⟩
theorem len3 {α:Type} {L:List α} (h:L.length=3):∃a b c,L=[a,b,c]:=by
 match L,h with
 |[a,b,c],_=>exact ⟨a,b,c,rfl⟩
theorem C1 {m:Nat} {cs:List Value} {y:DataW H × List MemPlace} (h:DataW.trod enc P_ w base spare held m 28 cs=some y):∃c:Cell,cs=cj.enc c/\Bd c.1/\Bd c.2:=by
 obtain ⟨hl,d⟩:=Bf sf28 h
 rw [c28]at hl
 obtain ⟨v0,v1,rfl⟩:=len2 hl
 obtain ⟨m0,z0,e0⟩:=d 0 _ _ rfl
 obtain ⟨m1,z1,e1⟩:=d 1 _ _ rfl
 rw [c3]at e0 e1
 obtain ⟨x0,f0,b0⟩:=kc un3i e0
 obtain ⟨x1,f1,b1⟩:=kc un3i e1
 simp at f0 f1
 subst f0 f1
 exact ⟨(x0,x1),rfl,b0,b1⟩
theorem Q1 {m:Nat} {cs:List Value} {y:DataW H × List MemPlace} (h:DataW.trod enc P_ w base spare held m 30 cs=some y):∃p:Pose,cs=yc.enc p/\PB p:=by
 obtain ⟨hl,d⟩:=Bf sf30 h
 rw [c30]at hl
 obtain ⟨v0,v1,v2,rfl⟩:=len3 hl
 obtain ⟨m0,z0,e0⟩:=d 0 _ _ rfl
 obtain ⟨m1,z1,e1⟩:=d 1 _ _ rfl
 rw [c28]at e0
 rw [c4]at e1
 obtain ⟨c,f0,b0⟩:=C1 e0
 obtain ⟨b,f1⟩:=Sm un4b e1
 simp [cj]at f0 f1
 obtain ⟨rfl,rfl⟩:=f0
 subst f1
 exact ⟨⟨c.1,c.2,b⟩,rfl,b0⟩
def RawOk (G:Hp) (r:Raw):Prop:=∃L:List Int,r.n=L.length/\Room L.length 8/\∀h,Dis G h->Sees icC G h (.slice r.a r.n r.c) L
theorem B5 {n bytes:Nat} (h:n*bytes<=reachBytes) (hb:bytes<=40):Room n bytes:=by
 unfold Room
 rw [show reachBytes=140737488351232 from rfl]at h
 rw [Nat.add_mul,Nat.mul_assoc]
 have:192*bytes<=7680:=by omega
 omega
theorem raw_dec {m:Nat} {cs:List Value} {y:DataW H × List MemPlace} (h:DataW.trod enc P_ w base spare held m 234 cs=some y) (hw:pv P_ 234 y.1):∃r:Raw,cs=rawC.enc r/\RawOk (ground w) r:=by
 obtain ⟨hl,d⟩:=Fa sf95 h hw
 rw [c95]at hl
 obtain ⟨v0,v1,v2,rfl⟩:=len3 hl
 obtain ⟨m0,z0,e0,_⟩:=d 0 _ _ rfl
 obtain ⟨m1,z1,e1,w1⟩:=d 1 _ _ rfl
 rw [c28]at e0
 rw [c57]at e1
 obtain ⟨c,f0,b0⟩:=C1 e0
 obtain ⟨a,n,cap,L,f1,hL,hs,hg,_⟩:=rz icC (fun _=>True) Ep c3 (by decide) (fun _ _ _ h _=>let ⟨x,e,_⟩:=kc un3i h;⟨x,e,trivial⟩) e1 w1
 simp [cj]at f0 f1
 obtain ⟨rfl,rfl⟩:=f0
 subst f1
 rw [show P_.bytesOf 3=8 by kernel_rfl]at hs
 subst hL
 exact ⟨⟨c.1,c.2,a,L.length,cap⟩,rfl,L,rfl,B5 hs (by decide),hg⟩
theorem len16 {α:Type} {L:List α} (h:L.length=16):∃a b c d e f g i j k l m n o p q,L=[a,b,c,d,e,f,g,i,j,k,l,m,n,o,p,q]:=by
 match L,h with
 |[a,b,c,d,e,f,g,i,j,k,l,m,n,o,p,q],_=>exact ⟨a,b,c,d,e,f,g,i,j,k,l,m,n,o,p,q,rfl⟩
theorem au6 {m:Nat} {cs:List Value} {y:DataW H × List MemPlace} (h:DataW.trod enc P_ w base spare held m 26 cs=some y) (hw:pv P_ 26 y.1):
 ∃C:Conf,(∀h,Dis (ground w) h->CV (ground w) h (.agg cs.toArray) C)/\Fit0 C/\∀p∈C.ro,PB p:=by
 obtain ⟨hl,d⟩:=Fa sf26 h hw
 rw [c26]at hl
 obtain ⟨v0,v1,v2,v3,v4,v5,v6,v7,v8,v9,v10,v11,v12,v13,v14,v15,rfl⟩:=len16 hl
 obtain ⟨_,_,e0,_⟩:=d 0 _ _ rfl
 obtain ⟨_,_,e1,_⟩:=d 1 _ _ rfl
 obtain ⟨_,_,e2,_⟩:=d 2 _ _ rfl
 obtain ⟨_,_,e3,w3⟩:=d 3 _ _ rfl
 obtain ⟨_,_,e4,w4⟩:=d 4 _ _ rfl
 obtain ⟨_,_,e5,w5⟩:=d 5 _ _ rfl
 obtain ⟨_,_,e6,w6⟩:=d 6 _ _ rfl
 obtain ⟨_,_,e7,_⟩:=d 7 _ _ rfl
 obtain ⟨_,_,e8,_⟩:=d 8 _ _ rfl
 obtain ⟨_,_,e9,_⟩:=d 9 _ _ rfl
 obtain ⟨_,_,e10,_⟩:=d 10 _ _ rfl
 obtain ⟨_,_,e11,_⟩:=d 11 _ _ rfl
 obtain ⟨_,_,e12,_⟩:=d 12 _ _ rfl
 obtain ⟨_,_,e13,_⟩:=d 13 _ _ rfl
 obtain ⟨_,_,e14,_⟩:=d 14 _ _ rfl
 obtain ⟨_,_,e15,_⟩:=d 15 _ _ rfl
 simp only [c3,c4,c22,c23,c24]at e0 e1 e2 e3 e4 e5 e6 e7 e8 e9 e10 e11 e12 e13 e14 e15
 obtain ⟨x0,f0,_⟩:=kc un3i e0
 obtain ⟨x1,f1,_⟩:=kc un3i e1
 obtain ⟨x2,f2,_⟩:=kc un3i e2
 obtain ⟨ab,nb,cb,B,f3,hB,sB,gB,_⟩:=rz cj (fun _=>True) un22 c28 (by decide) (fun _ _ _ h _=>let ⟨x,e,_⟩:=C1 h;⟨x,e,trivial⟩) e3 w3
 obtain ⟨ap,np,cp,PO,f4,hP,sP,gP,_⟩:=rz cj (fun _=>True) un22 c28 (by decide) (fun _ _ _ h _=>let ⟨x,e,_⟩:=C1 h;⟨x,e,trivial⟩) e4 w4
 obtain ⟨ar,nr,cr,R,f5,hR,sR,gR,qR⟩:=rz yc PB un23 c30 (by decide) (fun _ _ _ h _=>Q1 h) e5 w5
 obtain ⟨az,nz,cz,Z,f6,hZ,sZ,gZ,qZ⟩:=rz rawC (RawOk (ground w)) un24 c95 (by decide) (fun _ _ _ h hw=>raw_dec h hw) e6 w6
 obtain ⟨x7,f7,_⟩:=kc un3i e7
 obtain ⟨x8,f8,_⟩:=kc un3i e8
 obtain ⟨x9,f9,_⟩:=kc un3i e9
 obtain ⟨x10,f10,_⟩:=kc un3i e10
 obtain ⟨x11,f11,_⟩:=kc un3i e11
 obtain ⟨x12,f12,_⟩:=kc un3i e12
 obtain ⟨x13,f13,_⟩:=kc un3i e13
 obtain ⟨x14,f14,_⟩:=kc un3i e14
 obtain ⟨x15,f15⟩:=Sm un4b e15
 simp at f0 f1 f2 f3 f4 f5 f6 f7 f8 f9 f10 f11 f12 f13 f14 f15
 subst f0 f1 f2 f3 f4 f5 f6 f7 f8 f9 f10 f11 f12 f13 f14 f15
 subst hB hP hR hZ
 rw [show P_.bytesOf 28=16 by kernel_rfl]at sB sP
 rw [show P_.bytesOf 30=24 by kernel_rfl]at sR
 rw [show P_.bytesOf 234=40 by kernel_rfl]at sZ
 obtain ⟨S,hS,qS⟩:=F0 (Q:=fun i (s:Cell × List Int)=>∀r,Z[i]?=some r->(r.x,r.y)=s.1/\r.n=s.2.length/\Room s.2.length 8/\∀h,Dis (ground w) h->Sees icC (ground w) h (.slice r.a s.2.length r.c) s.2) Z.length (fun i hi=>by
  obtain ⟨L,e,rm,se⟩:=qZ _ (List.getElem_mem hi)
  refine ⟨((Z[i].x,Z[i].y),L),fun r hr=>?_⟩
  rw [List.getElem?_eq_getElem hi]at hr
  cases hr
  exact ⟨rfl,e,rm,fun h d=>by rw [<- e];exact se h d⟩)
 refine ⟨⟨x0,x1,x2,B,PO,R,S,x7,x8,x9,x10,x11,x12,x13,x14,x15⟩,fun h d=>⟨ab,cb,ap,cp,ar,cr,az,cz,by simp only [Lr,hS],gB h d,gP h d,gR h d,Z,by show Sees rawC _ h (.slice az S.length cz) Z;rw [hS];exact gZ h d,fun i r s hr hs=>?_⟩,⟨B5 sB (by decide),B5 sP (by decide),B5 sR (by decide),by show Room S.length 40;rw [hS];exact B5 sZ (by decide),fun s hs=>?_⟩,qR⟩
 . obtain ⟨a,b,c,e⟩:=qS i s hs r hr
   exact ⟨a,b,e h d⟩
 . obtain ⟨i,hi⟩:=List.getElem?_of_mem hs
   have hi2:i<Z.length:=by rw [<- hS];exact (List.getElem?_eq_some_iff.1 hi).1
   exact (qS i s hi _ (List.getElem?_eq_getElem hi2)).2.2.1
theorem Q2 {r:Reach} {b0:Nat} {v:Value} {d:DataW H} {ps:List MemPlace} (k:Value.okWide P_ w r b0 30 v) (h:DataW.Trod enc P_ w base spare held 30 v d ps):∃p:Pose,v=jy p/\PB p:=by
 obtain ⟨cs,rfl⟩:=yf sf30 k
 obtain ⟨m,h⟩:=h
 obtain ⟨c,e,b⟩:=Q1 (cs:=cs.toList) h
 exact ⟨c,by rw [<- Array.toArray_toList (xs:=cs),e];rfl,b⟩
theorem V7 {r:Reach} {b0:Nat} {v:Value} {d:DataW H} {ps:List MemPlace} (k:Value.okWide P_ w r b0 3 v) (h:DataW.Trod enc P_ w base spare held 3 v d ps):∃n:Int,v = .int .i64 n/\Bd n:=by
 obtain ⟨n,rfl,rfl,rfl,wf⟩:=open_int un3i k h
 exact ⟨n,rfl,by simpa [Lit.wf,IntKind.min,IntKind.max,IntKind.signed,IntKind.bits,Bd]using wf⟩
theorem av3 {r:Reach} {b0:Nat} {v:Value} {d:DataW H} {ps:List MemPlace} (k:Value.okWide P_ w r b0 4 v) (h:DataW.Trod enc P_ w base spare held 4 v d ps):∃b:Bool,v = .bool b:=by
 obtain ⟨b,rfl,rfl,rfl⟩:=open_bool un4b k h
 exact ⟨b,rfl⟩
theorem au7 {r:Reach} {b0:Nat} {v:Value} {d:DataW H} {ps:List MemPlace} (k:Value.okWide P_ w r b0 26 v) (h:DataW.Trod enc P_ w base spare held 26 v d ps) (hl:pv P_ 26 d):
 ∃C:Conf,(∀h,Dis (ground w) h->CV (ground w) h v C)/\Fit0 C/\∀p∈C.ro,PB p:=by
 obtain ⟨cs,rfl⟩:=yf sf26 k
 obtain ⟨m,h⟩:=h
 obtain ⟨C,hC,f,hp⟩:=au6 (cs:=cs.toList) h hl
 exact ⟨C,fun h d=>by simpa using hC h d,f,hp⟩
end
end
end Go.Proofs.YtfflipnhffknnaaGreatDoor
end
section
namespace Go.Proofs.YtfflipnhffknnaaGreatDoor
open Go Go.HL Go.ChangeShapes Go.WideShapes Go.RowKit Go.Proofs.Resv
section
theorem chold:P_.cellsOf 97=4:=by kernel_rfl
theorem sfhold:ia P_ 97=some [(3,0),(3,1),(3,2),(3,3)]:=by kernel_rfl
section
variable {H:Type} {enc:TypeId × Value->H} {w:World} {base:Nat} {spare:Nat->Bool} {held:Bool}
theorem lenh4 {α:Type} {L:List α} (h:L.length=4):∃a b c d,L=[a,b,c,d]:=by
 match L,h with
 |[a,b,c,d],_=>exact ⟨a,b,c,d,rfl⟩
theorem aj0 {m:Nat} {cs:List Value} {y:DataW H × List MemPlace} (h:DataW.trod enc P_ w base spare held m 97 cs=some y):∃x:Hold,cs=Le.enc x/\S5 x:=by
 obtain ⟨hl,d⟩:=Bf sfhold h
 rw [chold]at hl
 obtain ⟨v0,v1,v2,v3,rfl⟩:=lenh4 hl
 obtain ⟨m0,z0,e0⟩:=d 0 _ _ rfl
 obtain ⟨m1,z1,e1⟩:=d 1 _ _ rfl
 obtain ⟨m2,z2,e2⟩:=d 2 _ _ rfl
 obtain ⟨m3,z3,e3⟩:=d 3 _ _ rfl
 rw [c3]at e0 e1 e2 e3
 obtain ⟨x0,f0,b0⟩:=kc un3i e0
 obtain ⟨x1,f1,b1⟩:=kc un3i e1
 obtain ⟨x2,f2,b2⟩:=kc un3i e2
 obtain ⟨x3,f3,b3⟩:=kc un3i e3
 simp at f0 f1 f2 f3
 subst f0 f1 f2 f3
 exact ⟨⟨x0,x1,x2,x3⟩,rfl,b0,b1,b2,b3⟩
theorem Z3 {r:Reach} {b0:Nat} {v:Value} {d:DataW H} {ps:List MemPlace} (k:Value.okWide P_ w r b0 77 v) (h:DataW.Trod enc P_ w base spare held 77 v d ps):∃l:List Hold,zh Le (ground w) v l/\∀x∈l,S5 x:=by
 obtain ⟨a,len,cap,rfl⟩:=okWide_slice un77 k
 obtain ⟨m,h⟩:=h
 obtain ⟨a',len',cap',L,e,hl,_,hg,hq⟩:=aa8 Le S5 un77 chold (by decide) (fun _ _ _ h=>aj0 h) h
 simp [Value.cells]at e
 obtain ⟨rfl,rfl,rfl⟩:=e
 exact ⟨L,hg,hq⟩
end
end
end Go.Proofs.YtfflipnhffknnaaGreatDoor
end

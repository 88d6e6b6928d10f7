/- Texts of the proof, one behind the other. -/
import Derived.Test.YtfflipnhffknnaaGreatDoorM6
import Derived.Test.YtfflipnhffknnaaGreatDoorH3
import Derived.Test.YtfflipnhffknnaaGreatDoorM2
import Derived.Test.YtfflipnhffknnaaGreatDoorM4
import Derived.Test.YtfflipnhffknnaaGreatDoorM5
import Derived.Test.YtfflipnhffknnaaGreatDoorM1
import Derived.Test.YtfflipnhffknnaaGreatDoorM3
set_option linter.unusedSimpArgs false
set_option linter.unusedVariables false
set_option maxRecDepth 100000
set_option linter.unusedSectionVars false
set_option maxHeartbeats 8000000
set_option linter.defProp false
section
namespace Go.Proofs.YtfflipnhffknnaaGreatDoor
open Go Go.HL
def bRpY:=jq bC (jq (jq (jq (jq @al26 @Uu) (jq @av1 (jq @cf122 @cf71))) (jq (jq @Hu @R9) (jq @Ht (jq @Ol @Hs)))) (jq (jq (jq @Ug @N7) (jq @ld22 (jq @ld23 @ld24))) (jq (jq @ld26 @ur) (jq @ln24 (jq @xu @uh)))))
theorem eoraw:gu P_ 234 rawC.n 40:=⟨by kernel_rfl,by kernel_rfl,by kernel_rfl⟩
theorem eopose:gu P_ 30 yc.n 24:=⟨by kernel_rfl,by kernel_rfl,by kernel_rfl⟩
def Room (n bytes:Nat):Prop:=(2*n+192)*bytes<=281474976710656
theorem Kd {G h:Hp} {v:Value} {L:List Int} (sv:Sees icC G h v L) (hl:Room L.length 8):aj P_ G 122 #[v] h (fun u h'=>∃ip,Slc icC 3 ip u L/\Sep [ip,h] h'/\Dis G h'):=by
 refine aj.assume fun d=>as3 (by simp) ?_
 unfold S122
 simp only [bRpY]
 refine qd icC (by decide) Ep eoint (by decide) (Sep.one (h:=h)).none d Slc.nil sv (by simpa [Room]using hl) fun v' a' h' o' s' d'=>?_
 try simp (disch:=first|decide|omega) only [bRpY,Nat.reduceAdd,Nat.reduceMul]
 exact ⟨a',o',s',d'⟩
def Rel (pb:Hp) (raws:List Raw) (st:List (Cell × List Int)):Prop:=∀(i:Nat) (r:Raw) (s:Cell × List Int),raws[i]?=some r->st[i]?=some s->(r.x,r.y)=s.1/\r.n=s.2.length/\Slc icC 3 pb (.slice r.a s.2.length r.c) s.2
def StkO (pz:Hp) (v:Value) (st:List (Cell × List Int)):Prop:=∃raws pr pb,Slc rawC 234 pr v raws/\Sep [pr,pb] pz/\raws.length=st.length/\Rel pb raws st
theorem Rel.le {pb pb':Hp} {raws:List Raw} {st:List (Cell × List Int)} (r:Rel pb raws st) (l:pb.le pb'):Rel pb' raws st:=fun i x s h1 h2=>let ⟨a,b,c⟩:=r i x s h1 h2;⟨a,b,c.le l⟩
theorem Fv {G h:Hp} {C:Conf} {ab:Option Addr} {cb:Nat} {ap:Option Addr} {cp:Nat} {ar:Option Addr} {cr:Nat} {az:Option Addr} {cs:Nat} (ca:CA G h C ab cb ap cp ar cr az cs)
 (hst:Room C.st.length 40) (hb:∀s∈C.st,Room s.2.length 8):aj P_ G 71 #[.slice az C.st.length cs] h (fun u h'=>∃pz,StkO pz u C.st/\Sep [pz,h] h'/\Dis G h'):=by
 refine aj.assume fun d=>enter71 (by simp) ?_
 unfold S71
 have hlb:C.st.length<=7036874417664:=by unfold Room at hst;omega
 refine ci (fun m r h3=>∃(i:Nat) (raws:List Raw) (pr pb:Hp) (v:Value),m=C.st.length-i/\i<=C.st.length/\r 0 = .slice az C.st.length cs/\r 3=v/\r 4 = .int .i64 i/\Slc rawC 234 pr v raws/\raws.length=i/\Rel pb raws C.st/\Sep [pr,pb,h] h3/\Dis G h3) ?_
  (m:=C.st.length) ⟨0,[],noHp,noHp,_,rfl,Nat.zero_le _,by simp (disch:=decide) only [bRpY],by simp (disch:=decide) only [bRpY],by simp only [bRpY]<;>rfl,Slc.nil,rfl,fun i r s h1=>by simp at h1,(Sep.one.none).none,d⟩
 rintro m r h3 ⟨i,raws,pr,pb,v,rfl,hi,g0,g3,g4,o,hlen,rel,s3,d3⟩ X HX
 unfold ay6
 simp only [bRpY,g0,g4]
 refine bh (fun hlt=>?_) (fun hge=>?_)
 rotate_left
 . obtain rfl:i=C.st.length:=by omega
   try simp (disch:=first|decide|omega) only [bRpY,Nat.reduceAdd,Nat.reduceMul]
   unfold ay7
   try simp (disch:=decide) only [bRpY,g3]
   obtain ⟨pz,s4,t4⟩:=s3.pack2
   exact ⟨pz,⟨raws,pr,pb,o,t4,hlen,rel⟩,s4,d3⟩
 have hlt':i<C.st.length:=by omega
 obtain ⟨s,hs⟩:∃s,C.st[i]?=some s:=⟨_,List.getElem?_eq_getElem hlt'⟩
 have ca3:=ca.up (s3.in 2 rfl) d3
 obtain ⟨b,ofs,a,c,rfl,z0,z1,z2,sv⟩:=ca3.stk hs
 unfold Ml
 refine ⟨h3,Hp.le.refl _,?_⟩
 try simp (disch:=decide) only [bRpY,g0,g4,Rm (Int.natCast_nonneg i) hlt,z0,z1,z2]
 refine (Kd sv (hb s (List.mem_of_getElem? hs))).mono ?_
 rintro u h4 ⟨ip,o4,s4,d4⟩
 refine ⟨s4.in 1 rfl,?_⟩
 obtain ⟨sa,cap,rfl,hcap⟩:=o4.len (by decide)
 try simp only [bRpY]
 intro x hx gx
 have s5:Sep [ip,pr,pb,h] h4:=by
  have:=s4.split s3
  simpa using this
 let rw0:Raw:=⟨s.1.1,s.1.2,sa,s.2.length,cap⟩
 have s6:Sep [pr,ip,pb,h] (h4.set x (.cells #[s.1.1,s.1.2,.slice sa s.2.length cap] 234 (0,0))):=(s5.past hx).pick 1 rfl rfl
 have d6:Dis G (h4.set x (.cells #[s.1.1,s.1.2,.slice sa s.2.length cap] 234 (0,0))):=d4.set gx
 have b6:(h4.set x (.cells #[s.1.1,s.1.2,.slice sa s.2.length cap] 234 (0,0))) x=some (.cells #[s.1.1,s.1.2,.slice sa s.2.length cap] 234 (0,0)):=af
 generalize Hp.set h4 x _=h6 at s6 d6 b6 ⊢
 rw [g3]
 refine qd rawC (by decide) un24 eoraw (by decide) (M:=[rw0]) s6 d6 o (Sees.row (c:=rawC) (L:=[rw0]) b6 rfl (Nat.le_refl _)) (by
  unfold Room at hst
  refine Nat.le_trans (Nat.mul_le_mul_right _ ?_) hst
  rw [hlen,List.length_singleton]
  omega) fun v7 pr7 h7 o7 s7 d7=>?_
 have s7':Sep [ip,pb,pr7,h] h7:=(s7.pick 2 rfl rfl).pick 2 rfl rfl
 obtain ⟨pb7,s8,t8⟩:=s7'.pack2
 unfold Mk
 try simp (disch:=first|decide|omega) only [bRpY,g4]
 refine HX (C.st.length-(i+1)) _ _ (by omega) ⟨i+1,raws++[rw0],pr7,pb7,v7,rfl,hlt',by simp (disch:=decide) only [bRpY,g0],by simp (disch:=decide) only [bRpY],by simp only [bRpY]<;>rfl,o7,by simp [hlen],?_,s8.pick 1 rfl rfl,d7⟩
 intro j r' s' hr' hs'
 by_cases hj:j<i
 . rw [List.getElem?_append_left (by omega)]at hr'
   exact (rel.le (t8.in 1 rfl)) j r' s' hr' hs'
 . have hj2:j<(raws++[rw0]).length:=(List.getElem?_eq_some_iff.1 hr').1
   obtain rfl:j=i:=by simp at hj2;omega
   rw [List.getElem?_append_right (by omega),hlen,Nat.sub_self]at hr'
   cases hr'
   rw [hs]at hs'
   cases hs'
   exact ⟨rfl,rfl,o4.le (t8.in 0 rfl)⟩
abbrev j5 (C:Conf) (vb vp vr vz:Value):Obj := .cells #[C.w,C.h,C.ht,vb,vp,vr,vz,C.un,C.ac,C.sp,C.tu,C.ho,C.qu,C.re,C.bu,.bool C.back] 26 (0,0)
abbrev confA (C:Conf) (vb vp vr vz:Value):Value := .agg #[C.w,C.h,C.ht,vb,vp,vr,vz,C.un,C.ac,C.sp,C.tu,C.ho,C.qu,C.re,C.bu,.bool C.back]
theorem store26 {G h:Hp} {y:Nat} {C:Conf} {D:Conf} {v1 v2 v3 v4:Value} {a1 a2 a3 a4:Option Addr} {n1 n2 n3 n4 c1 c2 c3 c4:Nat} {K:Unit->Hp->Prop} (hb:h y=some (j5 D v1 v2 v3 v4)):
 wpH P_ G (Instr.storeAt 26 (.pointer (some ⟨y,0,none⟩)) (confA C (.slice a1 n1 c1) (.slice a2 n2 c2) (.slice a3 n3 c3) (.slice a4 n4 c4))) h K=K () (h.set y (j5 C (.slice a1 n1 c1) (.slice a2 n2 c2) (.slice a3 n3 c3) (.slice a4 n4 c4))):=by
 conv=>lhs;rw [<- xh hb]
 exact st26w
structure Fit0 (C:Conf):Prop where
 bl:Room C.bl.length 16
 po:Room C.po.length 16
 ro:Room C.ro.length 24
 st:Room C.st.length 40
 bins:∀s∈C.st,Room s.2.length 8
def Cz:Conf:=⟨0,0,0,[],[],[],[],0,0,0,0,0,0,0,0,false⟩
abbrev nilV:Value := .slice none 0 0
structure CO (h:Hp) (C:Conf) (u:Value) (h' pb pp pr pz:Hp) (vb vp vr vz:Value):Prop where
 v:u=confA C vb vp vr vz
 bl:Slc cj 28 pb vb C.bl
 po:Slc cj 28 pp vp C.po
 ro:Slc yc 30 pr vr C.ro
 st:StkO pz vz C.st
 sep:Sep [pb,pp,pr,pz,h] h'
def CopyR (G h:Hp) (C:Conf) (u:Value) (h':Hp):Prop:=(∃pb pp pr pz vb vp vr vz,CO h C u h' pb pp pr pz vb vp vr vz)/\Dis G h'
theorem Ke {G h:Hp} {v:Value} {C:Conf} (hv:CV G h v C) (fit:Fit0 C):aj P_ G 28 #[v] h (CopyR G h C):=by
 obtain ⟨ab,cb,ap,cp,ar,cr,az,cs,rfl,ca⟩:=hv
 refine aj.assume fun d=>enter28 (by simp) ?_
 unfold S28
 simp (disch:=decide) only [bRpY]
 intro x hx gx y hy gy
 have exy:=i4 hy
 have s2:Sep [noHp,noHp.set x (j5 C (.slice ab C.bl.length cb) (.slice ap C.po.length cp) (.slice ar C.ro.length cr) (.slice az C.st.length cs)),noHp.set y (j5 Cz nilV nilV nilV nilV),h] _:=(((Sep.one (h:=h)).new (o:=j5 C (.slice ab C.bl.length cb) (.slice ap C.po.length cp) (.slice ar C.ro.length cr) (.slice az C.st.length cs)) hx).new (o:=j5 Cz nilV nilV nilV nilV) hy).swap.none
 have d2:=(d.set (o:=j5 C (.slice ab C.bl.length cb) (.slice ap C.po.length cp) (.slice ar C.ro.length cr) (.slice az C.st.length cs)) gx).set (o:=j5 Cz nilV nilV nilV nilV) gy
 unfold Cz at s2 d2
 generalize Hp.set (Hp.set h x _) y _=h2 at s2 d2 ⊢
 have cx:∀j,aa G h2 ⟨x,j,none⟩=_:=fun j=>ai (ag (s2.at 1 rfl af))
 have ca2:=ca.up (s2.in 3 rfl) d2
 try simp only [bRpY,cx]
 refine qd cj (by decide) un22 eocell (by decide) s2 d2 Slc.nil ca2.bl (by simpa [Room]using fit.bl) fun vb pb h3 ob s3 d3=>?_
 obtain ⟨sb,cpb,rfl,_⟩:=ob.len (by decide)
 rw [List.nil_append]at ob
 have hx3:=s3.at 1 rfl af
 try simp (disch:=first|decide|omega) only [bRpY,Nat.reduceAdd,Nat.reduceMul]
 rw [di sz22 rfl hx3 (by simp)]
 have s4:Sep [noHp,noHp.set x (j5 C (.slice sb C.bl.length cpb) (.slice ap C.po.length cp) (.slice ar C.ro.length cr) (.slice az C.st.length cs)),pb,noHp.set y (j5 ⟨0,0,0,[],[],[],[],0,0,0,0,0,0,0,0,false⟩ nilV nilV nilV nilV),h] (h3.set x (j5 C (.slice sb C.bl.length cpb) (.slice ap C.po.length cp) (.slice ar C.ro.length cr) (.slice az C.st.length cs))):=by
  have:=(s3.pick 1 rfl rfl).put (o:=j5 C (.slice sb C.bl.length cpb) (.slice ap C.po.length cp) (.slice ar C.ro.length cr) (.slice az C.st.length cs)) af
  rw [set_set]at this
  exact this.none
 have d4:Dis G (h3.set x (j5 C (.slice sb C.bl.length cpb) (.slice ap C.po.length cp) (.slice ar C.ro.length cr) (.slice az C.st.length cs))):=d3.set gx
 try simp only [bRpY,List.nil_append]
 generalize Hp.set h3 x _=h4 at s4 d4 ⊢
 refine qd cj (by decide) un22 eocell (by decide) s4 d4 Slc.nil (ca.up (s4.in 4 rfl) d4).po (by simpa [Room]using fit.po) fun vp pp h5 op s5 d5=>?_
 obtain ⟨sp,cpp,rfl,_⟩:=op.len (by decide)
 rw [List.nil_append]at op
 have hx5:=s5.at 1 rfl af
 try simp (disch:=first|decide|omega) only [bRpY,Nat.reduceAdd,Nat.reduceMul]
 rw [di sz22 rfl hx5 (by simp)]
 have s6:Sep [noHp,noHp.set x (j5 C (.slice sb C.bl.length cpb) (.slice sp C.po.length cpp) (.slice ar C.ro.length cr) (.slice az C.st.length cs)),pp,pb,noHp.set y (j5 ⟨0,0,0,[],[],[],[],0,0,0,0,0,0,0,0,false⟩ nilV nilV nilV nilV),h] (h5.set x (j5 C (.slice sb C.bl.length cpb) (.slice sp C.po.length cpp) (.slice ar C.ro.length cr) (.slice az C.st.length cs))):=by
  have:=(s5.pick 1 rfl rfl).put (o:=j5 C (.slice sb C.bl.length cpb) (.slice sp C.po.length cpp) (.slice ar C.ro.length cr) (.slice az C.st.length cs)) af
  rw [set_set]at this
  exact this.none
 have d6:Dis G (h5.set x (j5 C (.slice sb C.bl.length cpb) (.slice sp C.po.length cpp) (.slice ar C.ro.length cr) (.slice az C.st.length cs))):=d5.set gx
 try simp only [bRpY,List.nil_append]
 generalize Hp.set h5 x _=h6 at s6 d6 ⊢
 refine qd yc (by decide) un23 eopose (by decide) s6 d6 Slc.nil (ca.up (s6.in 5 rfl) d6).ro (by simpa [Room]using fit.ro) fun vr pr h7 or s7 d7=>?_
 obtain ⟨sr,cpr,rfl,_⟩:=or.len (by decide)
 rw [List.nil_append]at or
 have hx7:=s7.at 1 rfl af
 try simp (disch:=first|decide|omega) only [bRpY,Nat.reduceAdd,Nat.reduceMul]
 rw [di sz23 rfl hx7 (by simp)]
 have s8:Sep [noHp.set x (j5 C (.slice sb C.bl.length cpb) (.slice sp C.po.length cpp) (.slice sr C.ro.length cpr) (.slice az C.st.length cs)),pr,pp,pb,noHp.set y (j5 ⟨0,0,0,[],[],[],[],0,0,0,0,0,0,0,0,false⟩ nilV nilV nilV nilV),h] (h7.set x (j5 C (.slice sb C.bl.length cpb) (.slice sp C.po.length cpp) (.slice sr C.ro.length cpr) (.slice az C.st.length cs))):=by
  have:=(s7.pick 1 rfl rfl).put (o:=j5 C (.slice sb C.bl.length cpb) (.slice sp C.po.length cpp) (.slice sr C.ro.length cpr) (.slice az C.st.length cs)) af
  rw [set_set]at this
  exact this
 have d8:Dis G (h7.set x (j5 C (.slice sb C.bl.length cpb) (.slice sp C.po.length cpp) (.slice sr C.ro.length cpr) (.slice az C.st.length cs))):=d7.set gx
 try simp only [bRpY,List.nil_append]
 generalize Hp.set h7 x _=h8 at s8 d8 ⊢
 refine (Fv (ca.up (s8.in 5 rfl) d8) fit.st fit.bins).mono ?_
 rintro vz h9 ⟨pz,oz,s9,d9⟩
 have s9':Sep [pz,noHp.set x (j5 C (.slice sb C.bl.length cpb) (.slice sp C.po.length cpp) (.slice sr C.ro.length cpr) (.slice az C.st.length cs)),pr,pp,pb,noHp.set y (j5 ⟨0,0,0,[],[],[],[],0,0,0,0,0,0,0,0,false⟩ nilV nilV nilV nilV),h] h9:=by
  have:=s9.split s8
  simpa using this
 obtain ⟨sz,cpz,rfl⟩:∃sz cpz,vz = .slice sz C.st.length cpz:=by
  obtain ⟨raws,_,_,o,_,e,_⟩:=oz
  obtain ⟨a,b,e2,_⟩:=o.len (by decide)
  exact ⟨a,b,by rw [e2,e]⟩
 have hx9:=s9'.at 1 rfl af
 try simp (disch:=first|decide|omega) only [bRpY,Nat.reduceAdd,Nat.reduceMul]
 rw [di sz24 rfl hx9 (by simp)]
 have s10:Sep [noHp.set x (j5 C (.slice sb C.bl.length cpb) (.slice sp C.po.length cpp) (.slice sr C.ro.length cpr) (.slice sz C.st.length cpz)),pz,pr,pp,pb,noHp.set y (j5 ⟨0,0,0,[],[],[],[],0,0,0,0,0,0,0,0,false⟩ nilV nilV nilV nilV),h] (h9.set x (j5 C (.slice sb C.bl.length cpb) (.slice sp C.po.length cpp) (.slice sr C.ro.length cpr) (.slice sz C.st.length cpz))):=by
  have:=(s9'.pick 1 rfl rfl).put (o:=j5 C (.slice sb C.bl.length cpb) (.slice sp C.po.length cpp) (.slice sr C.ro.length cpr) (.slice sz C.st.length cpz)) af
  rw [set_set]at this
  exact this
 have d10:Dis G (h9.set x (j5 C (.slice sb C.bl.length cpb) (.slice sp C.po.length cpp) (.slice sr C.ro.length cpr) (.slice sz C.st.length cpz))):=d9.set gx
 try simp only [bRpY]
 generalize Hp.set h9 x _=h10 at s10 d10 ⊢
 have hy10:=s10.at 5 rfl af
 rw [store26 hy10]
 try simp only [bRpY]
 refine ⟨⟨pb,pp,pr,pz,_,_,_,_,rfl,ob,op,or,oz,?_⟩,d10.set gy⟩
 have s11:=((s10.pick 5 rfl rfl).put (o:=j5 C (.slice sb C.bl.length cpb) (.slice sp C.po.length cpp) (.slice sr C.ro.length cpr) (.slice sz C.st.length cpz)) af).drop.drop
 have s12:Sep [pz,pr,pp,pb,h] _:=s11
 exact ((s12.pick 1 rfl rfl).pick 2 rfl rfl).pick 3 rfl rfl
theorem StkO.len {pz:Hp} {v:Value} {st:List (Cell × List Int)} (o:StkO pz v st):∃sz cpz,v = .slice sz st.length cpz:=by
 obtain ⟨raws,_,_,o,_,e,_⟩:=o
 obtain ⟨a,b,e2,_⟩:=o.len (by decide)
 exact ⟨a,b,by rw [e2,e]⟩
theorem CO.cv {G h h' h2 pb pp pr pz:Hp} {C:Conf} {u vb vp vr vz:Value} (c:CO h C u h' pb pp pr pz vb vp vr vz) (l:h'.le h2):CV G h2 u C:=by
 obtain ⟨rfl,ob,op,or,oz,s⟩:=c
 obtain ⟨sb,cb,rfl,_⟩:=ob.len (by decide)
 obtain ⟨sp,cp,rfl,_⟩:=op.len (by decide)
 obtain ⟨sr,cr,rfl,_⟩:=or.len (by decide)
 obtain ⟨sz,cz,rfl⟩:=oz.len
 refine ⟨sb,cb,sp,cp,sr,cr,sz,cz,rfl,ob.sees (by decide) ((s.in 0 rfl).trans l),op.sees (by decide) ((s.in 1 rfl).trans l),or.sees (by decide) ((s.in 2 rfl).trans l),?_⟩
 obtain ⟨raws,pr',pb',o,t,e,rel⟩:=oz
 refine ⟨raws,o.sees (by decide) (((t.in 0 rfl).trans (s.in 3 rfl)).trans l),fun i r x h1 h2=>?_⟩
 obtain ⟨a,b,c⟩:=rel i r x h1 h2
 exact ⟨a,b,c.sees (by decide) (((t.in 1 rfl).trans (s.in 3 rfl)).trans l)⟩
end Go.Proofs.YtfflipnhffknnaaGreatDoor
end
section
namespace Go.Proofs.YtfflipnhffknnaaGreatDoor
open Go Go.HL Go.Proofs.Resv Go.Proofs.Srch
def Ah:=jq bC (jq (jq (jq @pu (jq @cf38 @Be)) (jq @Eb (jq @Cv @Cu))) (jq (jq @F3 (jq @Hs @Hr)) (jq (jq @ld23 @ld26) (jq @ld3 @ln23))))
structure SmO (C:Conf):Prop where
 w:C.w<=6
 h:C.h<=6
 bu:C.bu<=4000
 un:C.un<=100
 tu:C.tu<=200
 ho:C.ho<=200
 ro:C.ro.length<=4
 may:Yv C
theorem small12 {G h:Hp} {v:Value} {C:Conf} (hv:CV G h v C):aj P_ G 21 #[v] h (fun u h'=>(∃b,u = .bool b/\(b=true->SmO C))/\h'=h):=by
 have hv0:=hv
 obtain ⟨ab,cb,ap,cp,ar,cr,az,cs,rfl,ca⟩:=hv
 refine aj.assume fun d=>quietly (enter21 (by simp) ?_)
 unfold S21
 simp only [Ah]
 intro x hx gx
 generalize e1:Hp.set h x _=h1
 obtain ⟨l1,d1,b1⟩:=boxed e1 hx d gx
 have cx:∀j,aa G h1 ⟨x,j,none⟩=_:=fun j=>ai (ag b1)
 by_cases g1:C.w<=6
 rotate_left
 . try simp only [Ah,cx,decide_eq_false g1,fg]
   exact ⟨⟨false,rfl,by simp⟩,l1⟩
 by_cases g2:C.h<=6
 rotate_left
 . try simp only [Ah,cx,decide_eq_true g1,decide_eq_false g2,fg]
   exact ⟨⟨false,rfl,by simp⟩,l1⟩
 by_cases g3:C.bu<=4000
 rotate_left
 . try simp only [Ah,cx,decide_eq_true g1,decide_eq_true g2,decide_eq_false g3,fg]
   exact ⟨⟨false,rfl,by simp⟩,l1⟩
 by_cases g4:C.un<=100
 rotate_left
 . try simp only [Ah,cx,decide_eq_true g1,decide_eq_true g2,decide_eq_true g3,decide_eq_false g4,fg]
   exact ⟨⟨false,rfl,by simp⟩,l1⟩
 by_cases g5:C.tu<=200
 rotate_left
 . try simp only [Ah,cx,decide_eq_true g1,decide_eq_true g2,decide_eq_true g3,decide_eq_true g4,decide_eq_false g5,fg]
   exact ⟨⟨false,rfl,by simp⟩,l1⟩
 by_cases g6:C.ho<=200
 rotate_left
 . try simp only [Ah,cx,decide_eq_true g1,decide_eq_true g2,decide_eq_true g3,decide_eq_true g4,decide_eq_true g5,decide_eq_false g6,fg]
   exact ⟨⟨false,rfl,by simp⟩,l1⟩
 by_cases g7:((C.ro.length:Nat):Int)<=4
 rotate_left
 . try simp only [Ah,cx,decide_eq_true g1,decide_eq_true g2,decide_eq_true g3,decide_eq_true g4,decide_eq_true g5,decide_eq_true g6,decide_eq_false g7,fg]
   exact ⟨⟨false,rfl,by simp⟩,l1⟩
 try simp only [Ah,cx,decide_eq_true g1,decide_eq_true g2,decide_eq_true g3,decide_eq_true g4,decide_eq_true g5,decide_eq_true g6,decide_eq_true g7]
 refine (Ze (hv0.up l1 d1)).mono ?_
 rintro _ h1 ⟨⟨b,rfl,hb⟩,rfl⟩
 try simp (disch:=first|decide|omega) only [Ah,Nat.reduceAdd,Nat.reduceMul]
 exact ⟨⟨b,rfl,fun e=>⟨g1,g2,g3,g4,g5,g6,by omega,hb.1 e⟩⟩,l1⟩
end Go.Proofs.YtfflipnhffknnaaGreatDoor
end
section
namespace Go.Proofs.Srch
open Go.Proofs.Resv
section
variable {P M:Type} [DecidableEq P] {E:Env P M}
structure Flat (E:Env P M) (D:Int):Prop where
 sp:∀p,E.ok p->E.spans p=[(0,FV)]
 wy:∀p,E.ok p->∀w∈E.ways p,w.2.2.2=[(0,FV)]/\1<=w.2.2.1/\w.2.2.1<=D/\E.ok w.2.1
theorem sum_ge2 {a d:Int} (h0:0<=a) (hd:0<=d) (h:sumI a d<FV):sumI a d=a+d:=by
 unfold sumI cutI FV at*
 split at h
 . omega
 . rw [if_neg (by assumption)];omega
section
variable {by_:Int} {shM:M->M}
def Low (E:Env P M) (B:Int) (S:List (St P M)):Prop:=∀x∈S,x.s=(0,FV)/\E.ok x.p/\0<=x.a/\x.a<=B
theorem Low.up {B B':Int} {S:List (St P M)} (l:Low E B S) (h:B<=B'):Low E B' S:=fun x hx=>let ⟨a,b,c,d⟩:=l x hx;⟨a,b,c,Int.le_trans d h⟩
end
inductive Rch (E:Env P M) (p0:P):P->Int->Prop where
 |start:Rch E p0 p0 0
 |step {p:P} {n:Int} {w:M × P × Int × List Sp} (h:Rch E p0 p n) (hw:w∈E.ways p):Rch E p0 w.2.1 (n+w.2.2.1)
theorem Rch.ok {D:Int} (fl:Flat E D) {p0 p:P} {n:Int} (h:Rch E p0 p n) (ho:E.ok p0):E.ok p/\0<=n:=by
 induction h with
 |start=>exact ⟨ho,Int.le_refl _⟩
 |step h hw ih=>obtain ⟨_,e2,_,e4⟩:=fl.wy _ ih.1 _ hw;exact ⟨e4,by omega⟩
theorem Rch.pre {p0 p1:P} {w:M × P × Int × List Sp} (hw:w∈E.ways p0) (e:w.2.1=p1):∀{p:P} {n:Int},Rch E p1 p n->Rch E p0 p (w.2.2.1+n)
 |_,_,.start=>by subst e;have:=Rch.step (.start (E:=E) (p0:=p0)) hw;rw [Int.zero_add]at this;rw [Int.add_zero];exact this
 |_,_,.step h hv=>by have:=Rch.step (Rch.pre hw e h) hv;rw [<- Int.add_assoc];exact this
inductive Wk (E:Env P M) (p0:P) (t0:Int):List M->P->Nat->Int->Prop where
 |nil {i:Nat} (h:inside (E.spans p0) t0=some i):Wk E p0 t0 [] p0 i t0
 |snoc {l:List M} {p:P} {i j:Nat} {a:Int} {s0 s:Sp} {w:M × P × Int × List Sp} (h:Wk E p0 t0 l p i a) (h0:(E.spans p)[i]?=some s0) (ha1:s0.1<=a) (ha2:a<s0.2) (hw:w∈E.ways p) (hs:s∈w.2.2.2) (h1:s0.1<=s.1) (h2:s.2<=s0.2)
  (he:sumI (max a s.1) w.2.2.1<=s.2) (he2:sumI (max a s.1) w.2.2.1<FV) (hj:inside (E.spans w.2.1) (sumI (max a s.1) w.2.2.1)=some j):Wk E p0 t0 (l++[E.stamp w.1 (max a s.1) (sumI (max a s.1) w.2.2.1)]) w.2.1 j (sumI (max a s.1) w.2.2.1)
theorem Um {S:List (St P M)} {k:Nat} {l:List (Nat × St P M)} (c:Dr S k l):∃x l',S[k]?=some x/\l=(k,x)::l':=by
 cases c with
 |start h hb=>exact ⟨_,_,h,rfl⟩
 |step h hb c=>exact ⟨_,_,h,rfl⟩
theorem au8 (r:Bz E) {p0:P} {t0 lo:Int} {z:M} {S:List (St P M)} (v:Inv E p0 t0 z lo S) {k:Nat} {l:List (Nat × St P M)} (c:Dr S k l):∀{x:St P M},S[k]?=some x->Wk E p0 t0 (mr l).reverse x.p x.i x.a:=by
 induction c with
 |@start k x h hb=>
  intro x' h'
  rw [h]at h';cases h'
  have hxm:=List.mem_of_getElem? h
  obtain ⟨a1,a2,a3⟩:=v.at_ x hxm
  rcases v.by_ x hxm with ⟨_,e1,e2,_⟩|⟨y,h0,_⟩
  . have hin:=D4 (r.ris x.p) a1 a2 a3
    rw [e1,e2]at hin ⊢
    exact .nil hin
  . omega
 |@step k j x l h hb c ih=>
  intro x' h'
  rw [h]at h';cases h'
  have hxm:=List.mem_of_getElem? h
  obtain ⟨a1,a2,a3⟩:=v.at_ x hxm
  rcases v.by_ x hxm with ⟨e,_⟩|⟨y,h0,hy,hd,hlt,w,hw,s,hs,l1,l2,l3,l4,l5,l6,l7⟩
  . omega
  . rw [show x.b.toNat=j by omega]at hy
    obtain ⟨b1,b2,b3⟩:=v.at_ y (List.mem_of_getElem? hy)
    have ih:=ih hy
    have hin:=D4 (r.ris x.p) a1 a2 a3
    have:=Wk.snoc ih b1 b2 b3 hw hs l1 l2 (by rw [<- l4];exact l5) (by rw [<- l4];exact l6) (j:=x.i) (by rw [<- l4,<- l3];exact hin)
    rw [<- l4,<- l3,<- l7]at this
    have e:(mr ((k,x)::l)).reverse=(mr l).reverse++[x.mv]:=by
     obtain ⟨x1,l',_,rfl⟩:=Um c
     show (x.mv::mr ((j,x1)::l')).reverse=_
     rw [List.reverse_cons]
    rw [e]
    exact this
theorem path_wk (r:Bz E) {p0:P} {t0 lo:Int} {z:M} {S:List (St P M)} (v:Inv E p0 t0 z lo S) {k:Nat} {x:St P M} (hk:S[k]?=some x):Wk E p0 t0 (path S S.length k []) x.p x.i x.a:=by
 obtain ⟨l,c,hl⟩:=Lu v hk
 rw [G5 c _ _ hl,List.append_nil]
 exact au8 r v c hk
end
theorem Z7 {T:Tb} (g:ja T) {r n a b:Int} {u:Sp} (hu:u∈nq T r n) (h1:u.1<=a) (h2:b<=u.2):inT T.length n=true/\kg (rowT T n) r a b=true:=by
 unfold nq at hu
 split at hu
 . rename_i hn
   refine ⟨hn,Ct.2 fun s hs hr=>?_⟩
   have gr:=ri g n
   obtain ⟨_,h3⟩:=Lh (r:=r) gr (Int.le_refl 0) (by decide) (fun s hs => .inl (gr.ok s hs).1)
   rcases (h3 u hu).2.2.2.2.2 s hs hr with h4|h4<;>omega
 . cases hu
theorem R0 {T:Tb} {r:Int}:∀(N:List Int) (l:List Sp) (s:Sp),s∈N.foldl (fun l n=>qm l (nq T r n)) l->(∃u∈l,u.1<=s.1/\s.2<=u.2)/\∀n∈N,∃u∈nq T r n,u.1<=s.1/\s.2<=u.2
 |[],l,s,h=>⟨⟨s,h,Int.le_refl _,Int.le_refl _⟩,fun _ h=>by cases h⟩
 |n::N,l,s,h=>by
  rw [List.foldl_cons]at h
  obtain ⟨⟨u,hu,h1,h2⟩,h3⟩:=R0 N _ s h
  obtain ⟨x,hx,y,hy,rfl,_⟩:=Ci.1 hu
  simp only at h1 h2
  refine ⟨⟨x,hx,by omega,by omega⟩,fun m hm=>?_⟩
  rcases List.mem_cons.1 hm with rfl|hm
  . exact ⟨y,hy,by omega,by omega⟩
  . exact h3 m hm
theorem R3 {T:Tb} {r a b:Int} (hab:a<b):∀(N:List Int) (l:List Sp),(∃u∈l,u.1<=a/\b<=u.2)->(∀n∈N,∃u∈nq T r n,u.1<=a/\b<=u.2)->∃s∈N.foldl (fun l n=>qm l (nq T r n)) l,s.1<=a/\b<=s.2
 |[],l,h,_=>h
 |n::N,l,⟨u,hu,h1,h2⟩,h=>by
  obtain ⟨v,hv,h3,h4⟩:=h n (.head _)
  rw [List.foldl_cons]
  exact R3 hab N _ ⟨(max u.1 v.1,min u.2 v.2),Ci.2 ⟨u,hu,v,hv,rfl,by omega⟩,by simp only;omega,by simp only;omega⟩ fun m hm=>h m (.tail _ hm)
theorem Rz {T:Tb} {r:Int} {N:List Int} {s:Sp} (h:s∈lh T r N):∀n∈N,∃u∈nq T r n,u.1<=s.1/\s.2<=u.2:=(R0 N _ s h).2
theorem aj8 {T:Tb} {r a b:Int} {N:List Int} (h0:0<=a) (h1:a<b) (h2:b<=FV) (h:∀n∈N,∃u∈nq T r n,u.1<=a/\b<=u.2):∃s∈lh T r N,s.1<=a/\b<=s.2:=
 R3 h1 N _ ⟨_,.head _,h0,h2⟩ h
theorem aa0 {T:Tb} (g:ja T) {r:Int} {N N':List Int} (hN:∀n∈N',n∈N) {s:Sp} (h:s∈lh T r N):∃s'∈lh T r N',s'.1<=s.1/\s.2<=s'.2:=by
 obtain ⟨b1,b2,b3⟩:=(xt g r N).bd s h
 exact aj8 b1 b2 b3 fun n hn=>Rz h n (hN n hn)
theorem A5 {T:Tb} (g:ja T) {r a b:Int} {N:List Int} {s:Sp} (h:s∈lh T r N) (h1:s.1<=a) (h2:b<=s.2):∀n∈N,inT T.length n=true/\kg (rowT T n) r a b=true:=fun n hn=>by
 obtain ⟨u,hu,e1,e2⟩:=Rz h n hn
 exact Z7 g hu (by omega) (by omega)
def Pz (r:Int) (T U:Tb):Prop:=T.length=U.length/\∀n,others (rowT T n) r=others (rowT U n) r
theorem Pz.trans {r:Int} {T U V:Tb} (a:Pz r T U) (b:Pz r U V):Pz r T V:=⟨a.1.trans b.1,fun n=>(a.2 n).trans (b.2 n)⟩
end Go.Proofs.Srch
end
section
namespace Go.Proofs.YtfflipnhffknnaaGreatDoor
open Go Go.HL
theorem Lo {α:Type} {D:Nat->List α} {b:Nat} (h:∀i,(D i).length<=b):∀{k i:Nat},(jz D i k).length<=k*b
 |0,i=>by simp [jz]
 |k+1,i=>by
  unfold jz
  have:=Lo h (k:=k) (i:=i+1)
  have:=h i
  rw [List.length_append,Nat.succ_mul]
  omega
theorem Cd {α:Type} {p:Nat->Bool} {mk:Nat->α}:∀{k n:Nat},(ib p mk n k).length<=k
 |0,n=>Nat.le_refl _
 |k+1,n=>by
  rw [zj]
  have:=Cd (p:=p) (mk:=mk) (k:=k) (n:=n+1)
  split<;>(try simp only [List.length_cons])<;>omega
def du:=jq bC (jq (jq (jq (jq @yw @kf) (jq @pu (jq @fh @av2))) (jq (jq @cf100 @cf40) (jq @cf45 (jq @cf83 @cf99)))) (jq (jq (jq @Be @Eb) (jq @Ba (jq @Oh @Hq))) (jq (jq @Uf @ld26) (jq @ld3 (jq @ld30 @ld48)))))
def nu (m:Move):List Cell:=if m.k=1 then (List.range (m.n.toNat+1)).flatMap (fun (i:Nat)=>bo (bz m.f m.d i))else if m.k=2 then dv (m.f.x,m.f.y)else bo m.f
def gc (C:Conf) (m:Move):List Cell:=if dx C m=true then kq (wC C) (kC C) (nu m)else []
theorem Gi {w k:Nat} {W:List Cell} (hw:w<=16) (hk:k<=16):(kq w k W).length<=256:=by
 have:=Lo (D:=fun y=>ib (fun x=>decide ((((x:Nat):Int),((y:Nat):Int))∈W)) (fun x=>(((x:Nat):Int),((y:Nat):Int))) 0 w) (b:=16) (fun i=>Nat.le_trans Cd hw) (k:=k) (i:=0)
 have h2:k*16<=16*16:=Nat.mul_le_mul_right _ hk
 unfold kq
 omega
theorem Tj {G h hb:Hp} {C:Conf} {x:Nat} {av:Value} {A:List Cell} {r:Rg} {KK:EK} (d:Dis G h)
 (hx:∀hh,h.le hh->Dis G hh->aa G hh ⟨x,0,none⟩=some (.int .i64 C.w)/\aa G hh ⟨x,1,none⟩=some (.int .i64 C.h)) (ha:Sees cj G h av A) (hA:A.length<=100000) (ew:C.w=(wC C:Int)) (ek:C.h=(kC C:Int)) (w16:wC C<=16) (k16:kC C<=16)
 (g2:r 2 = .pointer (some ⟨x,0,none⟩)) (g5:r 5=av)
 (H:∀(r':Rg) (hh ip:Hp) (u:Value),Slc cj 28 ip u (kq (wC C) (kC C) A)->HL.Sep [ip,h] hh->Dis G hh->r' 7=u->U7 G KK r' hh):Eh G KK r h:=by
 generalize hT:kq (wC C) (kC C) A=T at H
 have hlenT:T.length<=256:=by rw [<- hT];exact Gi w16 k16
 unfold kq at hT
 unfold Eh
 refine ci (fun m r h3=>∃(i:Nat) (ip:Hp) (u:Value) (M:List Cell),m=kC C-i/\i<=kC C/\r 2 = .pointer (some ⟨x,0,none⟩)/\r 5=av/\r 7=u/\r 8 = .int .i64 i/\Slc cj 28 ip u M/\M++jz (fun y=>ib (fun x=>decide ((((x:Nat):Int),((y:Nat):Int))∈A)) (fun x=>(((x:Nat):Int),((y:Nat):Int))) 0 (wC C)) i (kC C-i)=T/\HL.Sep [ip,h] h3/\Dis G h3) ?_
  (m:=kC C) ⟨0,noHp,.slice none 0 0,[],rfl,Nat.zero_le _,by simp (disch:=decide) only [du,g2],by simp (disch:=decide) only [du,g5],by simp (disch:=decide) only [du],by simp only [du]<;>rfl,Slc.nil,hT,Sep.one.none,d⟩
 rintro m r h3 ⟨i,ip,u,M,rfl,hi,q2,q5,q7,q8,o,hM,s3,d3⟩ X HX
 have cx0:=(hx h3 (s3.in 1 rfl) d3).1
 have cx1:=(hx h3 (s3.in 1 rfl) d3).2
 unfold az9
 simp only [du,q2,q8,cx1,ek]
 refine bh (fun hlt=>?_) (fun hge=>?_)
 rotate_left
 . obtain rfl:i=kC C:=by omega
   rw [Nat.sub_self]at hM
   unfold jz at hM
   rw [List.append_nil]at hM
   subst hM
   try simp (disch:=first|decide|omega) only [du,Nat.reduceAdd,Nat.reduceMul]
   exact H _ _ ip u o s3 d3 (by simp (disch:=decide) only [du,q7])
 have hlt':i<kC C:=by omega
 unfold Mu
 refine ci (fun m r2 h3=>∃(n:Nat) (ip:Hp) (u:Value) (M:List Cell),m=wC C-n/\n<=wC C/\r2 2 = .pointer (some ⟨x,0,none⟩)/\r2 5=av/\r2 7=u/\r2 8 = .int .i64 i/\r2 9 = .int .i64 n/\Slc cj 28 ip u M/\M++(ib (fun x=>decide ((((x:Nat):Int),((i:Nat):Int))∈A)) (fun x=>(((x:Nat):Int),((i:Nat):Int))) n (wC C-n)++jz (fun y=>ib (fun x=>decide ((((x:Nat):Int),((y:Nat):Int))∈A)) (fun x=>(((x:Nat):Int),((y:Nat):Int))) 0 (wC C)) (i+1) (kC C-(i+1)))=T/\HL.Sep [ip,h] h3/\Dis G h3) ?_
  (m:=wC C) ⟨0,ip,u,M,rfl,Nat.zero_le _,by simp (disch:=decide) only [du,q2],by simp (disch:=decide) only [du,q5],by simp (disch:=decide) only [du,q7],by simp (disch:=decide) only [du,q8],by simp only [du]<;>rfl,o,by rw [<- hM,show kC C-i=(kC C-(i+1))+1 by omega];rfl,s3,d3⟩
 clear q2 q5 q7 q8 o hM s3 d3 cx0 cx1
 rintro m r2 h3 ⟨n,ip,u,M,rfl,hn,q2,q5,q7,q8,q9,o,hM,s3,d3⟩ X2 HX2
 have cx0:=(hx h3 (s3.in 1 rfl) d3).1
 have hlenM:M.length<=256:=by
  have:M.length<=T.length:=by rw [<- hM,List.length_append];omega
  omega
 unfold Ms
 simp only [du,q2,q9,cx0,ew]
 refine bh (fun hlt=>?_) (fun hge=>?_)
 rotate_left
 . obtain rfl:n=wC C:=by omega
   rw [Nat.sub_self,show ∀(p:Nat->Bool) (mk:Nat->Cell),ib p mk (wC C) 0=[]from fun _ _=>rfl,List.nil_append]at hM
   try simp (disch:=first|decide|omega) only [du,Nat.reduceAdd,Nat.reduceMul]
   unfold Mt
   try simp (disch:=first|decide|omega) only [du,q8]
   exact HX (kC C-(i+1)) _ _ (by omega) ⟨i+1,ip,u,M,rfl,hlt',by simp (disch:=decide) only [du,q2],by simp (disch:=decide) only [du,q5],by simp (disch:=decide) only [du,q7],by simp only [du]<;>rfl,o,hM,s3,d3⟩
 have hnw:n<wC C:=by omega
 rw [show wC C-n=(wC C-(n+1))+1 by omega,zj]at hM
 unfold Dh
 try simp (disch:=decide) only [du,q5,q8,q9]
 refine (o0 (c:=((n:Int),(i:Int))) (ha.up (s3.in 1 rfl) d3) (by omega)).mono ?_
 rintro _ h3 ⟨rfl,rfl⟩
 have next:∀(r3:Rg) (h5 ip:Hp) (u:Value) (M:List Cell),r3 2=r2 2->r3 5=r2 5->r3 7=u->r3 8=r2 8->r3 9=r2 9->Slc cj 28 ip u M->M++(ib (fun x=>decide ((((x:Nat):Int),((i:Nat):Int))∈A)) (fun x=>(((x:Nat):Int),((i:Nat):Int))) (n+1) (wC C-(n+1))++jz (fun y=>ib (fun x=>decide ((((x:Nat):Int),((y:Nat):Int))∈A)) (fun x=>(((x:Nat):Int),((y:Nat):Int))) 0 (wC C)) (i+1) (kC C-(i+1)))=T->HL.Sep [ip,h] h5->Dis G h5->
  ∀KK,ra G (bw X2 KK) r3 h5:=by
  intro r3 h5 ip u M v2 v5 v7 v8 v9 o5 hM5 s5 d5 KK
  unfold ra
  have v9':=v9.trans q9
  simp (disch:=first|decide|omega) only [du,v9']
  exact HX2 (wC C-(n+1)) _ _ (by omega) ⟨n+1,ip,u,M,rfl,hnw,by simp (disch:=decide) only [du,v2,q2],by simp (disch:=decide) only [du,v5,q5],by simp (disch:=decide) only [du,v7],by simp (disch:=decide) only [du,v8,q8],by simp only [du]<;>rfl,o5,hM5,s5,d5⟩
 by_cases hb:((n:Int),(i:Int))∈A
 . have hc:((A.count ((n:Int),(i:Int)):Nat):Int)>0:=by have:=List.count_pos_iff.2 hb;omega
   rw [if_pos (decide_eq_true hb),List.cons_append]at hM
   try simp only [du,decide_eq_true hc,q7,q8,q9]
   intro b hbb gb
   have s5:=s3.past (o:=W3 ((n:Int),(i:Int))) hbb
   have d5:=d3.set (o:=W3 ((n:Int),(i:Int))) gb
   have hb5:(h3.set b (W3 ((n:Int),(i:Int)))) b=some (W3 ((n:Int),(i:Int))):=af
   generalize Hp.set h3 b _=h5 at s5 d5 hb5 ⊢
   refine dw cj (by decide) un22 eocell (by decide) (by decide) (M:=[((n:Int),(i:Int))]) s5 d5 o (Sees.row (c:=cj) (L:=[((n:Int),(i:Int))]) hb5 rfl (Nat.le_refl _)) (by simp;omega) fun v6 a6 h6 o6 s6 d6=>?_
   exact next _ _ a6 v6 (M++[((n:Int),(i:Int))]) (by simp (disch:=decide) only [du]) (by simp (disch:=decide) only [du]) (by simp only [du]) (by simp (disch:=decide) only [du]) (by simp (disch:=decide) only [du]) o6 (by rw [List.append_assoc];exact hM) s6 d6 _
 . have hc:¬(((A.count ((n:Int),(i:Int)):Nat):Int)>0):=by have:=List.count_eq_zero.2 hb;omega
   rw [if_neg (by simpa using hb)]at hM
   try simp only [du,decide_eq_false hc]
   exact next _ _ ip u M (by simp (disch:=decide) only [du]) (by simp (disch:=decide) only [du]) (by simp (disch:=decide) only [du,q7]) (by simp (disch:=decide) only [du]) (by simp (disch:=decide) only [du]) o hM s3 d3 _
theorem Qk {G h:Hp} {v:Value} {C:Conf} {m:Move} (hv:CV G h v C) (hL:C.bl.length<=100000000000000) (ew:C.w=(wC C:Int)) (ek:C.h=(kC C:Int)) (w16:wC C<=16) (k16:kC C<=16):aj P_ G 48 #[v,Cg m] h (fun u h'=>∃ip,Slc cj 28 ip u (gc C m)/\HL.Sep [ip,h] h'/\Dis G h'):=by
 have hv0:=hv
 obtain ⟨ab,cb,ap,cp,ar,cr,az,cs,rfl,ca⟩:=hv
 refine aj.assume fun d=>enter48 (by simp) ?_
 unfold S48
 simp only [du]
 intro x hx gx
 generalize e1:Hp.set h x _=h1
 obtain ⟨l1,d1,b1⟩:=boxed e1 hx d gx
 intro y hy gy
 generalize e2:Hp.set h1 y _=h2
 obtain ⟨l2,d2,b2⟩:=boxed e2 hy d1 gy
 have cx:∀j,aa G h2 ⟨x,j,none⟩=_:=fun j=>ai (ag (l2 _ _ b1))
 have cy:∀j,aa G h2 ⟨y,j,none⟩=_:=fun j=>ai (ag b2)
 have l02:=l1.trans l2
 try simp only [du,cx,cy]
 refine (Ev (m:=m) (hv0.up l02 d2) hL).mono ?_
 rintro _ h2 ⟨rfl,rfl⟩
 cases hl:dx C m with
 |false=>
  try simp only [du]
  refine ⟨noHp,?_,((Sep.one (h:=h2)).cut l02).none,d2⟩
  unfold gc
  rw [hl]
  exact Slc.nil
 |true=>
 try simp only [du]
 unfold aA0
 generalize hKK:retK P_ G _ _=KK
 have fin:∀(hh:Hp) (av:Value) (A:List Cell) (r:Rg),h2.le hh->Dis G hh->Sees cj G hh av A->A.length<=100000->A=nu m->r 2 = .pointer (some ⟨x,0,none⟩)->r 5=av->Eh G KK r hh:=by
  intro hh av A r l dd ha hA eA g2 g5
  refine Tj (hb:=h) dd (fun h3 l3 d3=>?_) ha hA ew ek w16 k16 g2 g5 fun r' h3 ip u o s3 d3 g7=>?_
  . have b3:=l3 _ _ (l _ _ (l2 _ _ b1))
    exact ⟨ai (ag b3),ai (ag b3)⟩
  . unfold U7
    rw [<- hKK]
    try simp only [du,g7]
    refine ⟨ip,?_,((s3.pick 1 rfl rfl).cut (l02.trans l)).pick 1 rfl rfl,d3⟩
    unfold gc
    rw [hl,if_pos rfl,<- eA]
    exact o
 have hlg:=hl
 unfold dx at hlg
 rw [Bool.and_eq_true]at hlg
 by_cases hk1:(m.k==1)=true
 . have ek1:m.k=1:=eq_of_beq hk1
   rw [if_pos ek1,Bool.and_eq_true]at hlg
   have hn:=dt.1 hlg.2.1
   have eA:nu m=(List.range (m.n.toNat+1)).flatMap (fun (i:Nat)=>bo (bz m.f m.d i)):=by unfold nu;rw [if_pos ek1]
   try simp (disch:=decide) only [du,Nat.reduceAdd,cy,hk1]
   refine ci (fun mm r h3=>∃(i:Nat) (ip:Hp) (u:Value),mm=m.n.toNat+1-i/\i<=m.n.toNat+1/\r 2 = .pointer (some ⟨x,0,none⟩)/\r 3 = .pointer (some ⟨y,0,none⟩)/\r 5=u/\r 6 = .int .i64 i/\Slc cj 28 ip u ((List.range i).flatMap (fun (i:Nat)=>bo (bz m.f m.d i)))/\HL.Sep [ip,h2] h3/\Dis G h3) ?_
    (m:=m.n.toNat+1) ⟨0,noHp,.slice none 0 0,rfl,Nat.zero_le _,by simp (disch:=decide) only [du],by simp (disch:=decide) only [du],by simp (disch:=decide) only [du],by simp only [du]<;>rfl,Slc.nil,Sep.one.none,d2⟩
   rintro mm r h3 ⟨i,ip,u,rfl,hi,q2,q3,q5,q6,o,s3,d3⟩ X HX
   have l3:=s3.in 1 rfl
   have cy3:∀j,aa G h3 ⟨y,j,none⟩=_:=fun j=>ai (ag (l3 _ _ b2))
   have hlen:=Hk (D:=fun (i:Nat)=>bo (bz m.f m.d i)) (fun i=>rfl) i
   unfold Xa
   simp only [du,q3,q6,cy3]
   refine bh (fun hlt=>?_) (fun hge=>?_)
   . unfold Fm
     try simp (disch:=decide) only [du,Nat.reduceAdd,q3,q6,cy3]
     refine (xi (p:=m.f) (dir:=m.d) (n:=(i:Int))).mono ?_
     rintro _ h3 ⟨rfl,rfl⟩
     try simp (disch:=first|decide|omega) only [du,Nat.reduceAdd,Nat.reduceMul]
     refine (m8 (p:=bz m.f m.d i)).mono ?_
     rintro _ _ ⟨b,rfl,hb,gb,rfl⟩
     have s4:=s3.past (o := .cells #[(bz m.f m.d i).x,(bz m.f m.d i).y,(east (bz m.f m.d i)).1,(east (bz m.f m.d i)).2] 28 (0,0)) hb
     have d4:=d3.set (o := .cells #[(bz m.f m.d i).x,(bz m.f m.d i).y,(east (bz m.f m.d i)).1,(east (bz m.f m.d i)).2] 28 (0,0)) gb
     have b4:(h3.set b (.cells #[(bz m.f m.d i).x,(bz m.f m.d i).y,(east (bz m.f m.d i)).1,(east (bz m.f m.d i)).2] 28 (0,0))) b=_:=af
     generalize Hp.set h3 b _=h4 at s4 d4 b4 ⊢
     try simp only [du,q5]
     refine dw cj (by decide) un22 eocell (by decide) (by decide) (M:=bo (bz m.f m.d i)) s4 d4 o (Sees.row (c:=cj) (L:=bo (bz m.f m.d i)) b4 rfl (Nat.le_refl _)) (by rw [hlen,show (bo (bz m.f m.d i)).length=2 from rfl];omega) fun v5 a5 h5 o5 s5 d5=>?_
     unfold Fl
     try simp (disch:=first|decide|omega) only [du,q6]
     exact HX (m.n.toNat+1-(i+1)) _ _ (by omega) ⟨i+1,a5,v5,rfl,by omega,by simp (disch:=decide) only [du,q2],by simp (disch:=decide) only [du,q3],by simp (disch:=decide) only [du],by simp only [du]<;>rfl,by rw [List.range_succ,List.flatMap_append];simpa using o5,s5,d5⟩
   . obtain rfl:i=m.n.toNat+1:=by omega
     try simp (disch:=first|decide|omega) only [du,Nat.reduceAdd,Nat.reduceMul]
     exact fin _ u _ _ l3 d3 (o.sees (by decide) (s3.in 0 rfl)) (by rw [hlen];omega) eA.symm (by simp (disch:=decide) only [du,q2]) (by simp (disch:=decide) only [du,q5])
 have hk1':(m.k==1)=false:=by simpa using hk1
 have nk1:¬m.k=1:=fun e=>hk1 (by rw [e];rfl)
 by_cases hk2:(m.k==2)=true
 . have ek2:m.k=2:=eq_of_beq hk2
   try simp (disch:=decide) only [du,Nat.reduceAdd,cy,hk1',hk2]
   refine (B4 (p:=m.f)).mono ?_
   rintro _ h3 ⟨ip,sl,rfl,o,s3,d3⟩
   try simp (disch:=first|decide|omega) only [du,Nat.reduceAdd,Nat.reduceMul]
   exact fin _ _ (dv (m.f.x,m.f.y)) _ (s3.in 1 rfl) d3 (o.sees (by decide) (s3.in 0 rfl)) (by simp [dv]) (by unfold nu;rw [if_neg nk1,if_pos ek2]) (by simp (disch:=decide) only [du]) (by simp only [du])
 have hk2':(m.k==2)=false:=by simpa using hk2
 have nk2:¬m.k=2:=fun e=>hk2 (by rw [e];rfl)
 try simp (disch:=decide) only [du,Nat.reduceAdd,cy,hk1',hk2']
 refine (m8 (p:=m.f)).mono ?_
 rintro _ _ ⟨b,rfl,hb,gb,rfl⟩
 try simp (disch:=first|decide|omega) only [du,Nat.reduceAdd,Nat.reduceMul]
 exact fin _ _ (bo m.f) _ (b8 hb) (d2.set gb) (Sees.row (c:=cj) (L:=bo m.f) af rfl (Nat.le_refl _)) (by simp [bo]) (by unfold nu;rw [if_neg nk1,if_neg nk2]) (by simp (disch:=decide) only [du]) (by simp only [du]<;>rfl)
theorem rway_eq {C:Conf} {m:Move} (hp:PB m.f) (hl:dx C m=true):nu m=wayL m:=by
 unfold nu wayL
 by_cases h1:m.k=1
 . rw [if_pos h1,if_pos h1]
   unfold dx at hl
   rw [Bool.and_eq_true,if_pos h1]at hl
   simp only [Bool.and_eq_true]at hl
   have hd:=dt.1 hl.2.2.1
   congr 1
   funext i
   rw [uf hp hd]
 . rw [if_neg h1,if_neg h1]
theorem ad1 {C:Conf} (mk:fc C) {m:Move} (hp:PB m.f):jv (wC C) (kC C) (f3C C) m=gc C m:=by
 unfold jv gc
 rw [Rf mk hp]
 cases hl:dx C m with
 |false=>rfl
 |true=>rw [if_pos rfl,if_pos rfl,rway_eq hp hl]
section
variable {C:Conf}
theorem Ex {α:Type} {ok:Nat->Bool} {mk:Nat->α} {x:α}:∀{k n:Nat},x∈ka ok mk n k↔∃j,n<=j/\j<n+k/\x=mk j/\∀i,n<=i->i<=j->ok i=true
 |0,n=>by
  unfold ka
  simp only [List.not_mem_nil,false_iff]
  rintro ⟨j,h1,h2,_⟩
  omega
 |k+1,n=>by
  unfold ka
  cases hb:ok n with
  |false=>
   simp only [Bool.false_eq_true,if_false,List.not_mem_nil,false_iff]
   rintro ⟨j,h1,h2,_,h⟩
   have:=h n (Nat.le_refl _) h1
   rw [hb]at this;cases this
  |true=>
   simp only [if_true,List.mem_cons]
   rw [Ex]
   constructor
   . rintro (rfl|⟨j,h1,h2,rfl,h⟩)
     . exact ⟨n,Nat.le_refl _,by omega,rfl,fun i a b=>by obtain rfl:i=n:=by omega
                                                         exact hb⟩
     . exact ⟨j,by omega,by omega,rfl,fun i a b=>by
        by_cases hi:i=n
        . subst hi;exact hb
        . exact h i (by omega) b⟩
   . rintro ⟨j,h1,h2,rfl,h⟩
     by_cases hj:j=n
     . subst hj;exact .inl rfl
     . exact .inr ⟨j,by omega,by omega,rfl,fun i a b=>h i (by omega) b⟩
theorem K6 {α:Type} {D:Nat->List α} {x:α}:∀{k i:Nat},x∈jz D i k↔∃j,i<=j/\j<i+k/\x∈D j
 |0,i=>by
  unfold jz
  simp only [List.not_mem_nil,false_iff]
  rintro ⟨j,h1,h2,_⟩
  omega
 |k+1,i=>by
  unfold jz
  rw [List.mem_append,K6]
  constructor
  . rintro (h|⟨j,h1,h2,h⟩)
    . exact ⟨i,Nat.le_refl _,by omega,h⟩
    . exact ⟨j,by omega,by omega,h⟩
  . rintro ⟨j,h1,h2,h⟩
    by_cases hj:j=i
    . subst hj;exact .inl h
    . exact .inr ⟨j,by omega,by omega,h⟩
theorem ah5 {p:Pose} {d:Nat} {x:Move} (h:x∈rrunD C p d):∃n,1<=n/\n<17/\x=mkR p d n/\dx C x=true:=by
 obtain ⟨n,h1,h2,rfl,h3⟩:=Ex.1 h
 exact ⟨n,h1,by omega,rfl,h3 n h1 (Nat.le_refl _)⟩
theorem vi {m:Move} (h:dx C m=true):gk C m.f=true:=by
 unfold dx at h
 exact (Bool.and_eq_true _ _▸h).1
end
section
variable {C:Conf}
def mx (m:Move):Move:=⟨m.k,if m.k=1 then (m.d+2).tmod 4 else m.d,m.n,m.t,m.f,m.a,m.e⟩
theorem xz {p q:Pose} (h1:p.x=q.x) (h2:p.y=q.y) (h3:p.d=q.d):p=q:=by cases p;cases q;simp_all
theorem Fy (mk:fc C) {c:Cell} (h:mq C c=true):(0<=c.1/\c.1<wC C/\0<=c.2/\c.2<kC C)/\c.1<16/\c.2<16:=by
 obtain ⟨e1,e2,_,w2,_,k2⟩:=rg mk.laid.w mk.laid.h
 unfold mq inB at h
 simp only [Bool.and_eq_true,decide_eq_true_eq,ge_iff_le]at h
 omega
theorem wr_s {x:Int} (h : -100<=x/\x<=100):wr x=x:=Kh (by unfold Bd;omega)
theorem rl {p:Pose} {d n:Int} (hx:0<=p.x/\p.x<16) (hy:0<=p.y/\p.y<16) (hn:0<=n/\n<=16):
 (bz p d n).x=(if d=1 then p.x+n else if d=3 then p.x-n else p.x)/\(bz p d n).y=(if d=0 then p.y-n else if d=2 then p.y+n else p.y)/\(bz p d n).d=p.d:=by
 unfold bz
 rw [wr_s (x:=p.x+n) (by omega),wr_s (x:=p.x-n) (by omega),wr_s (x:=p.y-n) (by omega),wr_s (x:=p.y+n) (by omega)]
 exact ⟨rfl,rfl,rfl⟩
theorem Uy {p:Pose} {d n i:Int} (hx:0<=p.x/\p.x<16) (hy:0<=p.y/\p.y<16) (hd:0<=d/\d<=3) (hn:0<=n/\n<=16) (hi:0<=i/\i<=n) (tx:0<=(bz p d n).x/\(bz p d n).x<16) (ty:0<=(bz p d n).y/\(bz p d n).y<16):
 bz (bz p d n) ((d+2).tmod 4) i=bz p d (n-i):=by
 obtain ⟨a1,a2,a3⟩:=rl (d:=(d+2).tmod 4) (n:=i) tx ty (by omega)
 obtain ⟨b1,b2,b3⟩:=rl (d:=d) (n:=n) hx hy hn
 obtain ⟨c1,c2,c3⟩:=rl (d:=d) (n:=n-i) hx hy (by omega)
 have hd4:d=0\/d=1\/d=2\/d=3:=by omega
 refine xz ?_ ?_ (by rw [a3,b3,c3])
 . rw [a1,b1,c1]
   rcases hd4 with rfl|rfl|rfl|rfl<;>simp [show ((0:Int)+2).tmod 4=2 from rfl,show ((1:Int)+2).tmod 4=3 from rfl,show ((2:Int)+2).tmod 4=0 from rfl,show ((3:Int)+2).tmod 4=1 from rfl]<;>omega
 . rw [a2,b2,c2]
   rcases hd4 with rfl|rfl|rfl|rfl<;>simp [show ((0:Int)+2).tmod 4=2 from rfl,show ((1:Int)+2).tmod 4=3 from rfl,show ((2:Int)+2).tmod 4=0 from rfl,show ((3:Int)+2).tmod 4=1 from rfl]<;>omega
theorem Ni {w k:Nat} {W V:List Cell} (h:∀x,x∈W↔x∈V):kq w k W=kq w k V:=
 Gw (n:=numW w) qx qx fun x=>by rw [o8,o8,h]
theorem na {L:List Cell} {a b c:Cell} (ha:a∈L) (hb:b∈L) (hc:c∈L) (ab:a≠b) (ac:a≠c) (bc:b≠c):3<=L.length:=by
 match L,ha,hb,hc with
 |[],ha,_,_=>cases ha
 |[x],ha,hb,_=>simp at ha hb;exact absurd (ha.trans hb.symm) ab
 |[x,y],ha,hb,hc=>
  simp at ha hb hc
  rcases ha with rfl|rfl<;>rcases hb with rfl|rfl<;>rcases hc with rfl|rfl<;>first|exact absurd rfl ab|exact absurd rfl ac|exact absurd rfl bc
 |x::y::z::L,_,_,_=>simp
theorem tk (mk:fc C) {p:Pose} (h:gk C p=true):(0<=p.x/\p.x<16)/\(0<=p.y/\p.y<16):=by
 unfold gk at h
 rw [Bool.and_eq_true]at h
 have:=Fy mk h.1
 simp only at this
 omega
theorem Gv (mk:fc C) {m:Move} (hl:dx C m=true) (h1:m.k=1):1<=m.n/\m.n<=16/\(0<=m.d/\m.d<=3)/\m.t=bz m.f m.d m.n/\∀i:Int,0<=i->i<=m.n->gk C (bz m.f m.d i)=true:=by
 have hf:=vi hl
 unfold dx at hl
 rw [hf,Bool.true_and,if_pos h1]at hl
 simp only [Bool.and_eq_true,decide_eq_true_eq,List.all_eq_true,List.mem_range]at hl
 obtain ⟨hn,hd,ht,hs⟩:=hl
 obtain ⟨n1,n2⟩:=dt.1 hn
 refine ⟨n1,n2,dt.1 hd,ht,fun i h0 hi=>?_⟩
 by_cases hz:i=0
 . subst hz
   obtain ⟨fx,fy⟩:=tk mk hf
   obtain ⟨a1,a2,a3⟩:=rl (d:=m.d) (n:=0) fx fy (by omega)
   rw [show bz m.f m.d 0=m.f from xz (by rw [a1];simp) (by rw [a2];simp) a3]
   exact hf
 . have:=hs (i-1).toNat (by omega)
   unfold rn at this
   rw [show (((i-1).toNat:Nat):Int)+1=i by omega]at this
   exact this
theorem aw2 (mk:fc C) {m:Move} (hl:dx C m=true) (h1:m.k=1):dx C (mx m)=true/\gc C m=gc C (mx m)/\gk C m.t=true/\3<=(gc C m).length:=by
 obtain ⟨n1,n2,hd,ht,hs⟩:=Gv mk hl h1
 have hf:=vi hl
 obtain ⟨fx,fy⟩:=tk mk hf
 have hft:gk C m.t=true:=by rw [ht];exact hs m.n (by omega) (Int.le_refl _)
 obtain ⟨tx,ty⟩:=tk mk hft
 have hbs:∀i:Int,0<=i->i<=m.n->bz m.t ((m.d+2).tmod 4) i=bz m.f m.d (m.n-i):=fun i h0 hi=>by
  have tx':=tx
  have ty':=ty
  rw [ht]at tx' ty'
  rw [ht]
  exact Uy fx fy hd (by omega) ⟨h0,hi⟩ tx' ty'
 have ed:(mx m).d=(m.d+2).tmod 4:=by unfold mx;simp only [if_pos h1]
 have hd':0<=(m.d+2).tmod 4/\(m.d+2).tmod 4<=3:=by
  have hd4:m.d=0\/m.d=1\/m.d=2\/m.d=3:=by omega
  rcases hd4 with e|e|e|e<;>rw [e]<;>decide
 have e0:bz m.f m.d (m.n-m.n)=m.f:=by
  rw [Int.sub_self]
  obtain ⟨a1,a2,a3⟩:=rl (d:=m.d) (n:=0) fx fy (by omega)
  exact xz (by rw [a1];simp) (by rw [a2];simp) a3
 have hlb:dx C (mx m)=true:=by
  unfold dx
  rw [if_pos (show (mx m).k=1 from h1),ed]
  simp only [Bool.and_eq_true,decide_eq_true_eq,List.all_eq_true,List.mem_range]
  refine ⟨hft,dt.2 ⟨n1,n2⟩,dt.2 hd',?_,fun i hi=>?_⟩
  . show m.f=bz m.t ((m.d+2).tmod 4) m.n
    rw [hbs m.n (by omega) (Int.le_refl _),e0]
  . have hi':i<m.n.toNat:=hi
    unfold rn
    rw [ed]
    show gk C (bz m.t _ ((i:Int)+1))=true
    rw [hbs _ (by omega) (by omega)]
    exact hs _ (by omega) (by omega)
 have mem1:∀x,x∈nu m↔∃i:Nat,i<=m.n.toNat/\x∈bo (bz m.f m.d i):=fun x=>by
  unfold nu
  rw [if_pos h1,List.mem_flatMap]
  constructor
  . rintro ⟨i,hi,hx⟩;exact ⟨i,by have:=List.mem_range.1 hi;omega,hx⟩
  . rintro ⟨i,hi,hx⟩;exact ⟨i,List.mem_range.2 (by omega),hx⟩
 have mem2:∀x,x∈nu (mx m)↔∃i:Nat,i<=m.n.toNat/\x∈bo (bz m.t ((m.d+2).tmod 4) i):=fun x=>by
  unfold nu
  rw [if_pos (show (mx m).k=1 from h1),ed,List.mem_flatMap]
  constructor
  . rintro ⟨i,hi,hx⟩;exact ⟨i,by have:i<m.n.toNat+1:=List.mem_range.1 hi;omega,hx⟩
  . rintro ⟨i,hi,hx⟩;exact ⟨i,List.mem_range.2 (show i<m.n.toNat+1 by omega),hx⟩
 refine ⟨hlb,?_,hft,?_⟩
 . unfold gc
   rw [if_pos hl,if_pos hlb]
   refine Ni fun x=>?_
   rw [mem1,mem2]
   constructor
   . rintro ⟨i,hi,hx⟩
     refine ⟨m.n.toNat-i,by omega,?_⟩
     rw [hbs _ (by omega) (by omega),show m.n-((m.n.toNat-i:Nat):Int)=(i:Int)by omega]
     exact hx
   . rintro ⟨i,hi,hx⟩
     refine ⟨m.n.toNat-i,by omega,?_⟩
     rw [hbs _ (by omega) (by omega)]at hx
     rw [show ((m.n.toNat-i:Nat):Int)=m.n-(i:Int)by omega]
     exact hx
 . unfold gc
   rw [if_pos hl]
   have hin:∀(i:Nat) (x:Cell),i<=m.n.toNat->x∈bo (bz m.f m.d i)->x∈kq (wC C) (kC C) (nu m):=fun i x hi hx=>by
    rw [o8]
    have hfi:=hs i (by omega) (by omega)
    unfold gk at hfi
    rw [Bool.and_eq_true]at hfi
    refine ⟨?_,(mem1 x).2 ⟨i,hi,hx⟩⟩
    simp only [bo,List.mem_cons,List.not_mem_nil,or_false]at hx
    rcases hx with rfl|rfl
    . exact (Fy mk hfi.1).1
    . exact (Fy mk hfi.2).1
   have z0:bz m.f m.d ((0:Nat):Int)=m.f:=by
    obtain ⟨a1,a2,a3⟩:=rl (d:=m.d) (n:=((0:Nat):Int)) fx fy (by omega)
    exact xz (by rw [a1];simp) (by rw [a2];simp) a3
   obtain ⟨a1,a2,a3⟩:=rl (d:=m.d) (n:=1) fx fy (by omega)
   have eA:east m.f=if m.f.d=true then (m.f.x,m.f.y+1)else (m.f.x+1,m.f.y):=by
    unfold east
    rw [wr_s (by omega),wr_s (by omega)]
   have h1f:=hs 1 (by omega) (by omega)
   obtain ⟨sx,sy⟩:=tk mk h1f
   have eB:east (bz m.f m.d 1)=if m.f.d=true then ((bz m.f m.d 1).x,(bz m.f m.d 1).y+1)else ((bz m.f m.d 1).x+1,(bz m.f m.d 1).y):=by
    unfold east
    rw [wr_s (by omega),wr_s (by omega),a3]
   have c0:(m.f.x,m.f.y)∈kq (wC C) (kC C) (nu m):=hin 0 _ (by omega) (by rw [z0];exact .head _)
   have c1:east m.f∈kq (wC C) (kC C) (nu m):=hin 0 _ (by omega) (by rw [z0];exact .tail _ (.head _))
   have c2:((bz m.f m.d 1).x,(bz m.f m.d 1).y)∈kq (wC C) (kC C) (nu m):=hin 1 _ (by omega) (.head _)
   have c3:east (bz m.f m.d 1)∈kq (wC C) (kC C) (nu m):=hin 1 _ (by omega) (.tail _ (.head _))
   rw [eA]at c1
   rw [eB]at c3
   rw [a1,a2]at c2 c3
   have hd4:m.d=0\/m.d=1\/m.d=2\/m.d=3:=by omega
   cases hdn:m.f.d with
   |false=>
    rw [hdn]at c1 c3
    simp only [Bool.false_eq_true,if_false]at c1 c3
    rcases hd4 with e|e|e|e<;>simp only [e]at c2 c3
    . exact na c0 c1 c2 (by simp<;>omega) (by simp<;>omega) (by simp<;>omega)
    . exact na c0 c1 c3 (by simp<;>omega) (by simp<;>omega) (by simp<;>omega)
    . exact na c0 c1 c2 (by simp<;>omega) (by simp<;>omega) (by simp<;>omega)
    . exact na c0 c1 c2 (by simp<;>omega) (by simp<;>omega) (by simp<;>omega)
   |true=>
    rw [hdn]at c1 c3
    simp only [if_true]at c1 c3
    rcases hd4 with e|e|e|e<;>simp only [e]at c2 c3
    . exact na c0 c1 c2 (by simp<;>omega) (by simp<;>omega) (by simp<;>omega)
    . exact na c0 c1 c2 (by simp<;>omega) (by simp<;>omega) (by simp<;>omega)
    . exact na c0 c1 c3 (by simp<;>omega) (by simp<;>omega) (by simp<;>omega)
    . exact na c0 c1 c2 (by simp<;>omega) (by simp<;>omega) (by simp<;>omega)
theorem ac5 (mk:fc C) {m:Move} (hl:dx C m=true) (h2:m.k=2):dx C (mx m)=true/\gc C m=gc C (mx m)/\gk C m.t=true/\3<=(gc C m).length:=by
 have h1:¬m.k=1:=by omega
 have hf:=vi hl
 obtain ⟨fx,fy⟩:=tk mk hf
 have hl0:=hl
 unfold dx at hl0
 rw [hf,Bool.true_and,if_neg h1,if_pos h2]at hl0
 simp only [Bool.and_eq_true,decide_eq_true_eq,List.all_eq_true]at hl0
 obtain ⟨hs,hn,hd,ht⟩:=hl0
 have e1:dv (m.f.x,m.f.y)=[(m.f.x,m.f.y),(m.f.x+1,m.f.y),(m.f.x,m.f.y+1),(m.f.x+1,m.f.y+1)]:=by
  unfold dv
  simp only
  rw [wr_s (by omega),wr_s (by omega)]
 have hft:gk C m.t=true:=by
  rw [ht]
  unfold gk east xa
  simp only [Bool.and_eq_true]
  rw [e1]at hs
  refine ⟨hs _ (.head _),?_⟩
  cases hdn:m.f.d with
  |false=>simp only [Bool.not_false,if_true];rw [wr_s (by omega)];exact hs _ (.tail _ (.tail _ (.head _)))
  |true=>simp only [Bool.not_true,Bool.false_eq_true,if_false];rw [wr_s (by omega)];exact hs _ (.tail _ (.head _))
 have etx:m.t.x=m.f.x/\m.t.y=m.f.y:=by rw [ht];exact ⟨rfl,rfl⟩
 have hlb:dx C (mx m)=true:=by
  unfold dx
  rw [if_neg (show ¬(mx m).k=1 from h1),if_pos (show (mx m).k=2 from h2)]
  simp only [Bool.and_eq_true,decide_eq_true_eq,List.all_eq_true]
  refine ⟨hft,?_,hn,?_,?_⟩
  . show ∀x∈dv (m.t.x,m.t.y),_
    rw [etx.1,etx.2]
    exact hs
  . show (if m.k=1 then _ else m.d)=0
    rw [if_neg h1];exact hd
  . show m.f=xa m.t
    rw [ht]
    unfold xa
    simp
 refine ⟨hlb,?_,hft,?_⟩
 . unfold gc
   rw [if_pos hl,if_pos hlb]
   unfold nu
   rw [if_neg h1,if_pos h2,if_neg (show ¬(mx m).k=1 from h1),if_pos (show (mx m).k=2 from h2)]
   show _=kq _ _ (dv (m.t.x,m.t.y))
   rw [etx.1,etx.2]
 . unfold gc nu
   rw [if_pos hl,if_neg h1,if_pos h2]
   have hin:∀x∈dv (m.f.x,m.f.y),x∈kq (wC C) (kC C) (dv (m.f.x,m.f.y)):=fun x hx=>by
    rw [o8]
    exact ⟨(Fy mk (hs x hx)).1,hx⟩
   rw [e1]at hin ⊢
   exact na (hin _ (.head _)) (hin _ (.tail _ (.head _))) (hin _ (.tail _ (.tail _ (.head _)))) (by simp;omega) (by simp;omega) (by simp;omega)
theorem aw3 (mk:fc C) {p:Pose} (hp:PB p) {m:Move} (h:m∈B6 C p):m.f=p/\MB m/\MB (mx m)/\(m.k=1\/m.k=2)/\(m.k=1->0<=m.d/\m.d<=3)/\dx C m=true/\dx C (mx m)=true/\gc C m=gc C (mx m)/\gk C m.t=true/\3<=(gc C m).length:=by
 have key:m.f=p/\dx C m=true/\(m.k=1\/m.k=2):=by
  unfold B6 at h
  split at h
  . rcases List.mem_append.1 h with h|h
    . obtain ⟨j,_,_,hj⟩:=K6.1 h
      obtain ⟨n,_,_,e1,e2⟩:=ah5 hj
      exact ⟨by rw [e1];rfl,e2,.inl (by rw [e1];rfl)⟩
    . split at h
      . rename_i hl
        simp at h
        exact ⟨by rw [h];rfl,by rw [h];exact hl,.inr (by rw [h];rfl)⟩
      . cases h
  . cases h
 obtain ⟨ef,hl,hk⟩:=key
 have hall:dx C (mx m)=true/\gc C m=gc C (mx m)/\gk C m.t=true/\3<=(gc C m).length:=by
  rcases hk with hk|hk
  . exact aw2 mk hl hk
  . exact ac5 mk hl hk
 have hn:Bd m.n:=by
  rcases hk with hk|hk
  . obtain ⟨n1,n2,_⟩:=Gv mk hl hk
    unfold Bd;omega
  . have hl0:=hl
    unfold dx at hl0
    rw [if_neg (by omega),if_pos hk]at hl0
    simp only [Bool.and_eq_true,decide_eq_true_eq]at hl0
    rw [hl0.2.2.1]
    unfold Bd;omega
 obtain ⟨tx,ty⟩:=tk mk hall.2.2.1
 refine ⟨ef,⟨hn,by rw [ef];exact hp⟩,⟨hn,⟨by show Bd m.t.x;unfold Bd;omega,by show Bd m.t.y;unfold Bd;omega⟩⟩,hk,fun hk1=>(Gv mk hl hk1).2.2.1,hl,hall.1,hall.2.1,hall.2.2.1,hall.2.2.2⟩
end
end Go.Proofs.YtfflipnhffknnaaGreatDoor
end
section
namespace Go.Proofs.YtfflipnhffknnaaGreatDoor
open Go Go.HL Go.Proofs.Resv Go.Proofs.Srch
section
abbrev envC (C:Conf) (T:Tb) (r:Int):Env Pose Move:=envE C (wC C) (kC C) (f3C C) T r
variable {C:Conf}
theorem Wv (mk:fc C) {T:Tb} (gt:ja T) {r:Int}:px (envC C T r):=ao2 (q:=⟨C,wC C,kC C,f3C C,T,r⟩) mk gt
theorem Gb {T:Tb} {r:Int} {p:Pose} {w:Move × Pose × Int × List Sp} (h:w∈(envC C T r).ways p):∃m∈kz (wC C) (kC C) (f3C C) p,w=wayE C (wC C) (kC C) (f3C C) T r m:=by
 obtain ⟨m,hm,rfl⟩:=List.mem_map.1 h
 exact ⟨m,hm,rfl⟩
theorem fits_pb (mk:fc C) {p:Pose} (h:gk C p=true):PB p:=by
 obtain ⟨a,b⟩:=tk mk h
 exact ⟨by unfold Bd;omega,by unfold Bd;omega⟩
theorem ag6 (mk:fc C) {p:Pose} {m:Move} (h:m∈kz (wC C) (kC C) (f3C C) p):gk C p=true/\m∈B6 C p/\m.f=p/\MB m/\MB (mx m)/\(m.k=1\/m.k=2)/\(m.k=1->0<=m.d/\m.d<=3)/\dx C m=true/\dx C (mx m)=true/\gc C m=gc C (mx m)/\gk C m.t=true/\jv (wC C) (kC C) (f3C C) m=gc C m:=by
 have hf:gk C p=true:=by
  unfold kz at h
  split at h
  . rename_i h1;rw [uv mk]at h1;exact h1
  . cases h
 have hp:=fits_pb mk hf
 rw [ag8 mk hp]at h
 obtain ⟨e1,e2,e3,e4,e5,e6,e7,e8,e9,_⟩:=aw3 mk hp h
 exact ⟨hf,h,e1,e2,e3,e4,e5,e6,e7,e8,e9,ad1 mk (by rw [e1];exact hp)⟩
theorem R4 (mk:fc C) {p:Pose} (h:gk C p=true):∀c∈bo p,inW (wC C) (kC C) c=true:=fun c hc=>(ox (by rw [uv mk];exact h) c hc).1
theorem wk_of (mk:fc C):C.w=(wC C:Int)/\C.h=(kC C:Int)/\1<=wC C/\wC C<=16/\1<=kC C/\kC C<=16:=by
 have hb:=(G8.1 mk).nums
 unfold nw at hb
 simp only [Bool.and_eq_true]at hb
 exact rg (by simp_all) (by simp_all)
theorem wr16 {x:Int} (h:0<=x/\x<16):wr x=x:=Kh (by unfold Bd;omega)
theorem Gj (mk:fc C) {m:Move} (hl:dx C m=true) (hk:m.k=1\/m.k=2):∀c∈bo m.f,c∈gc C m:=by
 have hf:=vi hl
 have hin:=R4 mk hf
 intro c hc
 have h0:=ix.1 (hin c hc)
 unfold gc
 rw [if_pos hl,o8]
 refine ⟨by omega,?_⟩
 unfold nu
 by_cases h1:m.k=1
 . rw [if_pos h1,List.mem_flatMap]
   refine ⟨0,by simp,?_⟩
   have e:bz m.f m.d ((0:Nat):Int)=m.f:=by
    obtain ⟨ha,hb⟩:=tk mk hf
    unfold bz
    simp [wr16 ha,wr16 hb]
   rw [e];exact hc
 . have h2:m.k=2:=by omega
   rw [if_neg h1,if_pos h2]
   rcases List.mem_cons.1 hc with rfl|hc
   . simp [dv]
   . rw [List.mem_singleton]at hc;subst hc
     unfold east dv
     split<;>simp
theorem Ta (mk:fc C) {p:Pose} {m:Move} (h:m∈kz (wC C) (kC C) (f3C C) p):(∀c∈bo p,c∈jv (wC C) (kC C) (f3C C) m)/\(∀c∈bo m.t,c∈jv (wC C) (kC C) (f3C C) m)/\∀c∈jv (wC C) (kC C) (f3C C) m,inW (wC C) (kC C) c=true:=by
 obtain ⟨hf,hr,e1,e2,e3,e4,e5,e6,e7,e8,e9,e10⟩:=ag6 mk h
 rw [e10]
 refine ⟨fun c hc=>Gj mk e6 e4 c (by rw [e1];exact hc),fun c hc=>?_,fun c hc=>?_⟩
 . rw [e8]
   exact Gj mk e7 (by unfold mx;exact e4) c hc
 . unfold gc at hc
   rw [if_pos e6,o8]at hc
   exact ix.2 (by omega)
theorem env_ris (mk:fc C) {T:Tb} (gt:ja T) {r:Int}:Bz (envC C T r):=by
 refine ⟨fun p=>xt gt r _,fun p w hw=>?_,fun p w hw s hs=>?_⟩
 . obtain ⟨m,hm,rfl⟩:=Gb hw
   exact xt gt r _
 . obtain ⟨m,hm,rfl⟩:=Gb hw
   obtain ⟨_,h2,_⟩:=Ta mk hm
   refine aa0 gt (fun n hn=>?_) hs
   obtain ⟨c,hc,rfl⟩:=List.mem_map.1 hn
   exact List.mem_map.2 ⟨c,h2 c hc,rfl⟩
end
section
variable {C:Conf}
inductive Out (C:Conf) (T:Tb) (r:Int) (p:Pose) (t:Int) (gp:Pose) (any:Bool):Res Move->Prop where
 |ok {l:List Move} {q:Pose} {i:Nat} {a:Int} {s:Sp} (w:Wk (envC C T r) p t l q i a) (hs:((envC C T r).spans q)[i]?=some s) (h1:s.1<=a) (h2:a<s.2) (g:lg gp any q s=true)
  (best:∀p' i' t' s',Rc (envC C T r) p t p' i' t'->((envC C T r).spans p')[i']?=some s'->lg gp any p' s'=true->a<=t'):Out C T r p t gp any (.ok l)
 |route (h:(inside ((envC C T r).spans p) t).isSome=true) (none:∀p' i' t' s',Rc (envC C T r) p t p' i' t'->((envC C T r).spans p')[i']?=some s'->lg gp any p' s'=false):Out C T r p t gp any (.no 6)
 |budget:Out C T r p t gp any (.no 7)
 |taken (h:inside ((envC C T r).spans p) t=none):Out C T r p t gp any (.no 18)
theorem R6 (mk:fc C) {T:Tb} (gt:ja T) {r:Int} {p gp:Pose} {t:Int} {any:Bool} {n:Nat} (hp:df (wC C) (kC C) (f3C C) p=true):Out C T r p t gp any (find (envC C T r) (lg gp any) p t zM n):=by
 have ris:=env_ris mk gt (r:=r)
 rcases ak2 (Wv mk gt (r:=r)) ris (goal:=lg gp any) (t0:=t) (z:=zM) (p0:=p) hp n with ⟨h,h2⟩|⟨h0,⟨lo',S',k,x,h1,v,hk,hg,hb⟩|⟨h1,h2⟩|h1⟩
 . rw [h];exact .taken h2
 . rw [h1]
   obtain ⟨a1,a2,a3⟩:=v.at_ x (List.mem_of_getElem? hk)
   exact .ok (path_wk ris v hk) a1 a2 a3 hg hb
 . rw [h1];exact .route h0 h2
 . rw [h1];exact .budget
abbrev L0 (C:Conf) (T:Tb) (rb:Int) (p:Pose) (t:Int) (gp:Pose) (any:Bool):Prop:=(T.length:Int)≠C.w*C.h\/rb<0\/t<0\/t>=FV\/df (wC C) (kC C) (f3C C) p=false\/aimB C gp any=false
theorem Hn {T:Tb} {rb t:Int} {p gp:Pose} {any:Bool} (h:L0 C T rb p t gp any):pq C (some T) rb p t gp any = .no 1:=by
 unfold pq
 exact if_pos h
theorem R7 {T:Tb} {rb t:Int} {p gp:Pose} {any:Bool} (h:¬L0 C T rb p t gp any):pq C (some T) rb p t gp any=find (envC C T rb) (lg gp any) p t zM C.bu.toNat:=by
 unfold pq
 exact if_neg h
def shM (by_:Int) (m:Move):Move:={ m with a:=m.a+by_,e:=m.e+by_ }
theorem W6 {T:Tb} {rb t:Int} {p gp:Pose} {any:Bool} (h:¬L0 C T rb p t gp any):(T.length:Int)=C.w*C.h/\0<=rb/\0<=t/\t<FV/\df (wC C) (kC C) (f3C C) p=true/\aimB C gp any=true:=by
 unfold L0 at h
 simp only [not_or,Decidable.not_not,Bool.not_eq_false]at h
 obtain ⟨a,b,c,d,e,f⟩:=h
 exact ⟨a,by omega,by omega,by omega,e,f⟩
end
section
variable {C:Conf}
def Yw (C:Conf) (T:Tb) (r:Int) (L:List Cell) (a b:Int):Prop:=∀c∈L,inT T.length (numI (wC C) (kC C) c)=true/\kg (rowT T (numI (wC C) (kC C) c)) r a b=true
def tf (p:Pose) (l:List Move):Nat->Pose
 |0=>p
 |j+1=>(l.getD j zM).t
def ly (t:Int) (l:List Move):Nat->Int
 |0=>t
 |j+1=>(l.getD j zM).e
structure MvOk (C:Conf) (T:Tb) (r:Int) (P:Pose) (N:Int) (m:Move):Prop where
 k:m.k=1\/m.k=2
 nb:Bd m.n
 leg:dx C m=true
 f:m.f=P
 n0:0<=N
 at_:N<=m.a
 e:m.e=m.a+gi C m
 e2:m.a<m.e/\m.e<FV
 stand:Yw C T r (bo P) N m.a
 go:Yw C T r (gc C m) m.a m.e
 to:gk C m.t=true
theorem Kt {p:Pose} {l:List Move} {m:Move} {j:Nat} (h:j<=l.length):tf p (l++[m]) j=tf p l j:=by
 cases j with
 |zero=>rfl
 |succ j=>
  show ((l++[m]).getD j zM).t=(l.getD j zM).t
  rw [List.getD_eq_getElem?_getD,List.getD_eq_getElem?_getD,List.getElem?_append_left (by omega)]
theorem Ky {t:Int} {l:List Move} {m:Move} {j:Nat} (h:j<=l.length):ly t (l++[m]) j=ly t l j:=by
 cases j with
 |zero=>rfl
 |succ j=>
  show ((l++[m]).getD j zM).e=(l.getD j zM).e
  rw [List.getD_eq_getElem?_getD,List.getD_eq_getElem?_getD,List.getElem?_append_left (by omega)]
theorem wk_all (mk:fc C) {T:Tb} (gt:ja T) {r:Int} {p q:Pose} {t a:Int} {l:List Move} {i:Nat} (hp:gk C p=true) (ht:0<=t) (w:Wk (envC C T r) p t l q i a):
 (∀j m,l[j]?=some m->MvOk C T r (tf p l j) (ly t l j) m)/\q=tf p l l.length/\a=ly t l l.length/\gk C q=true/\0<=a:=by
 induction w with
 |nil h=>exact ⟨fun j m hm=>by simp at hm,rfl,rfl,hp,ht⟩
 |@snoc l q i j a s0 s w h h0 ha1 ha2 hw hs h1 h2 he he2 hj ih=>
  obtain ⟨ih1,rfl,rfl,ih4,ih5⟩:=ih
  obtain ⟨m,hm,rfl⟩:=Gb hw
  obtain ⟨hf,hr,e1,e2,e3,e4,e5,e6,e7,e8,e9,e10⟩:=ag6 mk hm
  obtain ⟨l1,l2⟩:=Rj mk hm
  have es:=sum_ge2 (show 0<=max (ly t l l.length) s.1 by omega) (show 0<=gi C m by omega) he2
  have e11:(l++[xd m (max (ly t l l.length) s.1) (sumI (max (ly t l l.length) s.1) (gi C m))]).getD l.length zM=xd m (max (ly t l l.length) s.1) (sumI (max (ly t l l.length) s.1) (gi C m)):=by
   rw [List.getD_eq_getElem?_getD,List.getElem?_append_right (Nat.le_refl _)];simp
  have hb:=(Wv mk gt (r:=r)).pos _ s0 (List.mem_of_getElem? h0)
  have hsum:sumI (max (ly t l l.length) s.1) (gi C m)<=s.2:=he
  have hsum2:sumI (max (ly t l l.length) s.1) (gi C m)<FV:=he2
  refine ⟨fun j m' hm'=>?_,?_,?_,e9,?_⟩
  . by_cases hjl:j<l.length
    . rw [List.getElem?_append_left hjl]at hm'
      rw [Kt (by omega),Ky (by omega)]
      exact ih1 j m' hm'
    . have hjl':j=l.length:=by
       have:=(List.getElem?_eq_some_iff.1 hm').1
       simp at this
       omega
      subst hjl'
      rw [Kt (Nat.le_refl _),Ky (Nat.le_refl _)]
      rw [List.getElem?_append_right (Nat.le_refl _)]at hm'
      simp at hm'
      subst hm'
      refine ⟨e4,e2.1,e6,e1,ih5,by show ly t l l.length<=max (ly t l l.length) s.1;omega,es,⟨?_,hsum2⟩,fun c hc=>?_,fun c hc=>?_,e9⟩
      . show max (ly t l l.length) s.1<sumI (max (ly t l l.length) s.1) (gi C m)
        omega
      . refine A5 gt (List.mem_of_getElem? h0) ha1 (show max (ly t l l.length) s.1<=s0.2 by omega) _ (List.mem_map.2 ⟨c,hc,rfl⟩)
      . refine A5 gt hs (show s.1<=max (ly t l l.length) s.1 by omega) hsum _ (List.mem_map.2 ⟨c,?_,rfl⟩)
        rw [e10]
        exact hc
  . rw [List.length_append]
    exact (congrArg Move.t e11).symm
  . rw [List.length_append]
    exact (congrArg Move.e e11).symm
  . show 0<=sumI (max (ly t l l.length) s.1) (gi C m)
    omega
theorem aa3 (mk:fc C) {T:Tb} (gt:ja T) {rb t:Int} {p gp:Pose} {any:Bool} {l:List Move} (h:pq C (some T) rb p t gp any = .ok l):
 ((T.length:Int)=C.w*C.h/\0<=rb/\0<=t/\t<FV/\gk C p=true)/\(∀j m,l[j]?=some m->MvOk C T rb (tf p l j) (ly t l j) m)/\∃s:Sp,s∈(envC C T rb).spans (tf p l l.length)/\s.1<=ly t l l.length/\ly t l l.length<s.2/\lg gp any (tf p l l.length) s=true/\gk C (tf p l l.length)=true/\0<=ly t l l.length:=by
 have ha:¬L0 C T rb p t gp any:=fun ha=>by rw [Hn ha]at h;cases h
 obtain ⟨c1,c2,c3,c4,c5,c6⟩:=W6 ha
 have hf:gk C p=true:=by rw [<- uv mk];exact c5
 rw [R7 ha]at h
 have o1:=R6 mk gt (r:=rb) (gp:=gp) (t:=t) (any:=any) (n:=C.bu.toNat) c5
 rw [h]at o1
 cases o1 with
 |ok w hs h1 h2 g best=>
  obtain ⟨w1,rfl,rfl,w4,w5⟩:=wk_all mk gt hf c3 w
  exact ⟨⟨c1,c2,c3,c4,hf⟩,w1,_,List.mem_of_getElem? hs,h1,h2,g,w4,w5⟩
end
theorem Qe {C:Conf} (sm:SmO C):1<=C.w*C.h/\C.w*C.h<=36/\IntKind.i64.wrap (C.w*C.h)=(((C.w*C.h).toNat:Nat):Int)/\(((C.w*C.h).toNat:Nat):Int)=C.w*C.h:=by
 have hnb:1<=C.w/\1<=C.h:=by
  have hb:=sm.may.nums
  unfold nw ax at hb
  simp only [Bool.and_eq_true,decide_eq_true_eq]at hb
  omega
 obtain ⟨hw1,hh1⟩:=hnb
 have b2:C.w*C.h<=6*6:=Int.mul_le_mul sm.w sm.h (by omega) (by omega)
 have b1:1*1<=C.w*C.h:=Int.mul_le_mul hw1 hh1 (by omega) (by omega)
 refine ⟨by omega,by omega,?_,by omega⟩
 rw [li (by omega) (by omega)];omega
abbrev confB1 (C:Conf) (ab:Option Addr) (cb:Nat) (ap:Option Addr) (cp:Nat) (ar:Option Addr) (cr:Nat) (az:Option Addr) (cs:Nat):Obj := .cells #[C.w,C.h,C.ht,.slice ab C.bl.length cb,.slice ap C.po.length cp,.slice ar C.ro.length cr,.slice az C.st.length cs,C.un,C.ac,C.sp,C.tu,C.ho,C.qu,C.re,C.bu,.bool C.back] 26 (0,0)
abbrev vd (p:Pose):Obj := .cells #[p.x,p.y,.bool p.d] 30 (0,0)
theorem TabV.up {G h h':Hp} {vt:Value} {To:Option Tb} (t:TabV G h vt To) (l:h.le h') (d:Dis G h'):TabV G h' vt To:=by
 cases To with
 |none=>exact t
 |some T=>obtain ⟨tp,e,ts,x⟩:=t;exact ⟨tp,e,ts.up l d,x⟩
structure FindO (G:Hp) (h:Hp) (W:Res Move) (u:Value) (h':Hp):Prop where
 ex:∃ip vs,u = .tuple #[vs,(outE W)]/\Slc mu 48 ip vs (outL W)/\(outL W).length<=110000/\HL.Sep [ip,h] h'/\Dis G h'
theorem aa2 {G h:Hp} {C:Conf} {v vt:Value} {To:Option Tb} {p gp:Pose} {rb t:Int} {any:Bool} (mk:fc C) (hv:CV G h v C) (st:j9 G) (hro:∀p∈C.ro,PB p) (fit:Fit0 C) (hbu:C.bu<=4000)
 (tv:TabV G h vt To) (hp:PB p) (hgp:PB gp):
 aj P_ G 27 #[v,vt,rb,jy p,t,.agg #[gp.x,gp.y,.bool gp.d,.bool any]] h (FindO G h (pq C To rb p t gp any)):=by
 refine (Lm hv st hro (by have:=fit.st;unfold Room at this;omega) (fun _=>hbu) tv hp hgp).mono ?_
 rintro u h' ⟨W,⟨ip,vs,e1,e2,e3,e4,e5⟩,⟨hno,_⟩|⟨_,rfl⟩⟩
 . exact absurd mk hno
 . exact ⟨ip,vs,e1,e2,e3,e4,e5⟩
theorem R8 {C:Conf} (mk:fc C) {T:Tb} (gt:ja T) {rb t e:Int} {p gp:Pose} {any:Bool} (h:pq C (some T) rb p t gp any = .no e):e=1\/e=6\/e=7\/e=18:=by
 by_cases ha:L0 C T rb p t gp any
 . rw [Hn ha]at h;cases h;exact .inl rfl
 . have c5:=(W6 ha).2.2.2.2.1
   rw [R7 ha]at h
   have o1:=R6 mk gt (r:=rb) (gp:=gp) (t:=t) (any:=any) (n:=C.bu.toNat) c5
   rw [h]at o1
   cases o1<;>simp
end Go.Proofs.YtfflipnhffknnaaGreatDoor
end
section
namespace Go.Proofs.YtfflipnhffknnaaGreatDoor.Rv
open Go Go.HL Go.Proofs.Resv
def uz:=jq bC (jq (jq (jq (jq @Bool.and_true @al103) (jq @Ed @W5)) (jq (jq @ab7 @C2) (jq @cf107 @cf164))) (jq (jq (jq @eq106s @ld103) (jq @ld203p @ld3)) (jq (jq @ln103 @ln99) (jq @ne203p @true_and))))
def Ad:Cod (Int × Int):=⟨2,fun g=>[.int .i64 g.1,.int .i64 g.2],fun _=>rfl,fun _ v hv=>by simp at hv;rcases hv with rfl|rfl<;>rfl⟩
theorem eopair:gu P_ 110 Ad.n 16:=eo110
abbrev Vv (g:Int × Int):Obj := .cells #[g.1,g.2] 110 (0,0)
theorem store39 {G h:Hp} {lb:Nat} {z:Value} {a:Option Addr} {n c:Nat} {K:Unit->Hp->Prop} (hb:h lb=some (.cells #[z] 103 (0,0))):
 wpH P_ G (Instr.storeAt 103 (.pointer (some ⟨lb,0,none⟩)) (.slice a n c)) h K=K () (h.set lb (.cells #[.slice a n c] 103 (0,0))):=by
 rw [di sz103 rfl hb (by simp)]
 rfl
theorem S6 {G a:Hp} {lb mb:Nat} {most:Int} {L:List (Int × Int)} {m:Int × Int} (y:HL.GYb Ad 110 103 most lb mb L a) (hm:most<=100000):
 aj P_ G 107 #[m.1,m.2,.pointer (some ⟨lb,0,none⟩),.pointer (some ⟨mb,0,none⟩)] a (fun v a'=>v = .bool (HL.Af most (L++[m]))/\HL.GY Ad 110 103 most lb mb (L++[m]) a'):=by
 obtain ⟨⟨ip,v,o,s⟩,hlen⟩:=y
 refine aj.assume fun d=>at4 (by simp) ?_
 unfold S107
 have clb:∀j,aa G a ⟨lb,j,none⟩=_:=fun j=>ai (ag (s.at 1 rfl af))
 simp only [uz,clb]
 intro b hb gb
 have s2:=s.past (o:=Vv m) hb
 have d2:=d.set (o:=Vv m) gb
 have hb2:(a.set b (Vv m)) b=some (Vv m):=af
 generalize Hp.set a b _=h2 at s2 d2 hb2 ⊢
 refine dw Ad (by decide) un103 eopair (by decide) (by decide) (M:=[m]) s2 d2 o (Sees.row (c:=Ad) (L:=[m]) hb2 rfl (Nat.le_refl _)) (by simp;omega) fun v3 a3 h3 o3 s3 d3=>?_
 obtain ⟨sa,cap,rfl,hcap⟩:=o3.len (by decide)
 have hlb3:=s3.at 1 rfl af
 try simp (disch:=first|decide|omega) only [uz,Nat.reduceAdd,Nat.reduceMul]
 rw [store39 hlb3]
 have s4:=(s3.pick 1 rfl rfl).put (o := .cells #[.slice sa (L++[m]).length cap] 103 (0,0)) af
 rw [set_set]at s4
 have clb4:∀j,aa G (h3.set lb (.cells #[.slice sa (L++[m]).length cap] 103 (0,0))) ⟨lb,j,none⟩=_:=fun j=>ai (ag (s4.at 0 rfl af))
 have cmb4:∀j,aa G (h3.set lb (.cells #[.slice sa (L++[m]).length cap] 103 (0,0))) ⟨mb,j,none⟩=_:=fun j=>ai (ag (s4.at 2 rfl af))
 try simp only [uz,clb4,cmb4]
 refine ⟨?_,a3,_,o3,s4.swap⟩
 first|rfl|simp [HL.Af]
theorem Z6 {G:Hp} {lb mb:Nat} {most:Int} (hm:most<=100000):HL.Yl P_ gapA G (.func (.func 107) #[] #[.pointer (some ⟨lb,0,none⟩),.pointer (some ⟨mb,0,none⟩)]) (HL.GYb Ad 110 103 most lb mb) (HL.GY Ad 110 103 most lb mb) (HL.Af most):=by
 intro L m a q h y s d
 simp only [uz]
 refine (s.on (S6 y hm)).mono ?_
 rintro v h' ⟨a',⟨rfl,gy⟩,s',d'⟩
 refine ⟨a',rfl,s',d',?_⟩
 split
 . rename_i hc
   exact ⟨gy,of_decide_eq_true hc⟩
 . exact gy
theorem lm {G h:Hp} {b1 b2 b3 tp:Nat} {T:Tb} {c r most:Int} (h1:h b1=some (.cells #[.pointer (some ⟨tp,0,none⟩)] 34 (0,0))) (h2:h b2=some (.cells #[c] 3 (0,0))) (h3:h b3=some (.cells #[r] 3 (0,0))) (ts:TSee G h tp T)
 (fw:∀L∈T,L.length<=50000) (hm1:1<=most) (hm2:most<=100000):
 aj P_ G 53 #[.func (.func 164) #[] #[.pointer (some ⟨b1,0,none⟩),.pointer (some ⟨b2,0,none⟩),.pointer (some ⟨b3,0,none⟩)],most] h (fun u h'=>∃ip,Slc Ad 110 ip u ((if inT T.length c=true then E7 (rowT T c) r else []).take most.toNat)/\HL.Sep [ip,h] h'/\Dis G h'):=by
 refine aj.assume fun d=>enter53 (by simp) ?_
 unfold S53
 simp only [uz]
 intro mb hmb gmb lb hlb glb
 have s2:=((Sep.one (h:=h)).new (o := .cells #[most] 3 (0,0)) hmb).new (o := .cells #[.slice none 0 0] 103 (0,0)) hlb
 have d2:=(d.set (o := .cells #[most] 3 (0,0)) gmb).set (o := .cells #[.slice none 0 0] 103 (0,0)) glb
 generalize Hp.set (Hp.set h mb _) lb _=k2 at s2 d2 ⊢
 have cmb:∀j,aa G k2 ⟨mb,j,none⟩=_:=fun j=>ai (ag (s2.at 1 rfl af))
 have e1:decide (most<1)=false:=decide_eq_false (by omega)
 try simp only [uz,cmb,e1]
 unfold az2
 try simp (disch:=decide) only [uz]
 obtain ⟨a,s3,sa⟩:=rh s2.none
 have ya:HL.GYb Ad 110 103 most lb mb [] a:=⟨⟨noHp,_,Slc.nil,sa⟩,by simp;omega⟩
 refine (T8 (r:=r) (Z6 hm2) ya s3 h1 h2 h3 ts fw).mono ?_
 rintro _ h4 ⟨a4,s4,d4,z4⟩
 rw [HL.zv (by simp;omega)]at z4
 generalize (if inT T.length c=true then E7 (rowT T c) r else [])=GL at*
 have gy:HL.GY Ad 110 103 most lb mb (GL.take most.toNat) a4:=by
  unfold HL.Fin at z4
  simp only [List.nil_append,List.length_nil,Nat.sub_zero]at z4
  split at z4
  . exact z4.1
  . exact z4
 obtain ⟨ip,v,o,t4⟩:=gy
 have s5:HL.Sep [h,ip,noHp.set lb (.cells #[v] 103 (0,0)),noHp.set mb (.cells #[most] 3 (0,0))] h4:=by
  have:=s4.swap.split t4
  simpa using this
 have clb:∀j,aa G h4 ⟨lb,j,none⟩=_:=fun j=>ai (ag (s5.at 2 rfl af))
 try simp only [uz,clb]
 exact ⟨ip,o,(s5.take 2 rfl).swap,d4⟩
def Bd (x:Int):Prop := -9223372036854775808<=x/\x<=9223372036854775807
theorem Aw {G h:Hp} {a n:Int} (ha:Bd a) (hn:0<n) (hn2:n<=1000000):aj P_ G 25 #[a,n] h (fun v h'=>v = .int .i64 (a % n)/\h'=h):=by
 refine quietly (Wx (by simp) ?_)
 obtain ⟨ha1,ha2⟩:=ha
 unfold S25
 have e1:a.tmod n=if 0<=a\/a % n=0 then a % n else a % n-n:=by
  rw [Int.tmod_eq_emod]
  have:(n.natAbs:Int)=n:=by omega
  by_cases h0:0<=a
  . simp [h0]
  . simp [h0,this,Int.dvd_iff_emod_eq_zero]
    split<;>omega
 have hb:=Int.emod_nonneg a (show n≠0 by omega)
 have hb2:=Int.emod_lt_of_pos a hn
 simp (disch:=first|decide|omega) only [uz]
 by_cases hc:0<=a\/a % n=0
 . rw [if_pos hc]at e1
   rw [e1,i9 (show ¬a % n<0 by omega)]
   simp only [uz]
   unfold Em
   simp (disch:=decide) only [uz]
   exact Hp.le.refl h
 . rw [if_neg hc]at e1
   have:a % n≠0:=fun e=>hc (.inr e)
   rw [e1,iy (show a % n-n<0 by omega)]
   simp only [uz]
   unfold Em
   simp only [uz]
   exact ⟨by congr 1;omega,Hp.le.refl h⟩
end Go.Proofs.YtfflipnhffknnaaGreatDoor.Rv
end
section
namespace Go.Proofs.YtfflipnhffknnaaGreatDoor
open Go Go.HL
section
variable (G:Hp) (K:EK) (r:Rg) (h:Hp)
def md91:Nat->Hint
 |_=>mh false [] [] [] false
def ax0:Prop:=
 o_ G (Instr.makeSlice 98 (r 0) (r 0)) h fun v4 h4=>o_ G (Instr.build 188 #[(0,v4)]) h4 fun v5 h5=>o_ G (Instr.box 188 v5) h5 fun v6 h6=>
 K .ret (u5 r 9 (r 0) 10 v4 11 v5 12 v6 2 v6) h6
def S91:Prop:=
 o_ G (binOp .lss 3 (r 0) (.int .i64 1)) h fun v0 h0=>g_ v0 false (fun K1=>K1 (r 0) h0) h0 fun v1 h1=>g_ v0 false (o_ G (binOp .gtr 3 v1 (.int .i64 256)) h1) h1 fun v2 h2=>
 opH P_ G (bf v0 (.bool true) v2) h2 fun v3 h3=>
 (fun q=>cond v3
 (K .ret (upd q 2 (.pointer none)) h3)
 (ax0 G K q h3))
 (u7 r 2 (.pointer none) 3 (r 0) 4 v0 5 v0 6 v1 7 v2 8 v3)
theorem enter91:Ent 13 91 [.tmp 2] S91:=ent_ (m:=md91) (c:=(Tryz.f91.body.getD .skip)) (fun _ _ _ _=>by kernel_rfl) Tryz.func91 rfl rfl rfl
def md92:Nat->Hint
 |6=>⟨false,[0,0,0,6,14,30,63,127,255,511,511,2047,4095,8191,16383,32767,65535,131071,131071,524287,1048575,2097151,131071,131071,12713983,29491199,63045631,134217727,268435455,536870911,1073741823,1073741823,4294967295,8589934591,17179869183,34359738367,68719476735],[.pureN,.pureN,.pureN,.pureN,.pureN,.pureM,.eff,.pureN,.pureN,.pureN,.pureN,.pureN,.pureN,.pureM,.pureN,.pureN,.pureN,.pureN,.pureN,.pureN,.pureN,.pureM,.pureN,.pureN,.pureN,.pureN,.pureM,.pureN,.pureN,.pureN,.pureN,.pureN,.pureN,.pureN,.pureM,.pureN,.pureN],[.pureN,.pureN,.pureN,.pureN,.pureN,.pureM,.eff,.pureN,.pureN,.pureN,.pureN,.pureN,.pureN,.late,.pureN,.pureN,.pureN,.pureN,.pureN,.pureN,.pureN,.late,.pureN,.pureN,.pureN,.pureN,.late,.pureN,.pureN,.pureN,.pureN,.pureN,.pureN,.pureN,.late,.pureN,.pureN],[false,false,false,false,false,false,false,false,false,false,false,false,false,false,false,false,false,false,false,false,false,false,false,false,false,false,false,false,false,false,false,false,false,false,false,false,false],false⟩
 |11=>mh false [0,0,0,0,12,28,60,0,0,384,896,1920,0,0,12288,28672,61440,131071] [n_,n_,n_,n_,n_,n_,m_,n_,n_,n_,n_,m_,n_,n_,n_,n_,m_,e_] (fs 18) false
 |16=>mh false [0,0,0,0,12,28,60,0,0,384,896,1920,0,0,12288,28672,61440,131071] [n_,n_,n_,n_,n_,n_,m_,n_,n_,n_,n_,m_,n_,n_,n_,n_,m_,e_] (fs 18) false
 |_=>mh false [] [] [] false
def aw6 (G:Hp) (K:EK) (r:Rg) (h:Hp):Prop:=
 K .ret (upd r 6 (.int .i64 0)) h
def L9:Prop:=
 o_ G (binOp .add 3 (r 9) (.int .i64 1)) h fun v3 h3=>
 K .normal (u3 r 83 (r 9) 84 v3 9 v3) h3
def Ma:Prop:=
 p_ (Instr.indexAt 114 (r 2) (r 9)) h fun v4 h4=>
 p_ (Instr.fieldAt 186 v4 0) h4 fun v5 h5=>
 w_ G h (Instr.loadAt 3 v5) h5 fun v6 h6=>
 p_ (Instr.indexAt 114 (r 2) (r 9)) h6 fun v7 h7=>
 p_ (Instr.fieldAt 186 v7 1) h7 fun v8 h8=>
 w_ G h (Instr.loadAt 3 v8) h8 fun v9 h9=>
 p_ (Instr.indexAt 114 (r 2) (r 9)) h9 fun v10 h10=>
 p_ (Instr.fieldAt 186 v10 2) h10 fun v11 h11=>
 w_ G h (Instr.loadAt 3 v11) h11 fun v12 h12=>
 c_ G 139 #[(r 0),(r 1),v6,v9,v12] h12 fun v13 h13=>
 L9 G K (u8 (u10 r 85 (r 0) 86 (r 1) 87 (r 2) 88 (r 9) 89 v4 90 v5 91 v6 92 (r 2) 93 (r 9) 94 v7) 95 v8 96 v9 97 (r 2) 98 (r 9) 99 v10 100 v11 101 v12 102 v13) h13
def aw5 (r:Rg) (h:Hp) (K:EK):Prop:=
 o_ G (Builtin.len_ #[114] 3 #[(r 2)]) h fun v1 h1=>o_ G (binOp .lss 3 (r 9) v1) h1 fun v2 h2=>
 cond v2
 (Ma G K (u4 r 79 (r 9) 80 (r 2) 81 v1 82 v2) h2)
 (K (.exit 4) (u4 r 79 (r 9) 80 (r 2) 81 v1 82 v2) h2)
def aw7:Prop:=
 dc (aw5 G) (upd r 9 (.int .i64 0)) h (bj 4 (bw (aw6 G K) K))
def Ih:Prop:=
 o_ G (binOp .add 3 (r 8) (.int .i64 1)) h fun v16 h16=>
 K .normal (u3 r 59 (r 8) 60 v16 8 v16) h16
def L6:Prop:=
 p_ (Instr.indexAt 114 (r 2) (r 8)) h fun v17 h17=>
 p_ (Instr.fieldAt 186 v17 0) h17 fun v18 h18=>
 w_ G h (Instr.loadAt 3 v18) h18 fun v19 h19=>
 p_ (Instr.indexAt 114 (r 2) (r 8)) h19 fun v20 h20=>
 p_ (Instr.fieldAt 186 v20 1) h20 fun v21 h21=>
 w_ G h (Instr.loadAt 3 v21) h21 fun v22 h22=>
 p_ (Instr.indexAt 114 (r 2) (r 8)) h22 fun v23 h23=>
 p_ (Instr.fieldAt 186 v23 2) h23 fun v24 h24=>
 w_ G h (Instr.loadAt 3 v24) h24 fun v25 h25=>
 c_ G 138 #[(r 0),(r 1),v19,v22,v25] h25 fun v26 h26=>
 (fun q=>cond v26
 (K .ret (upd q 6 (.int .i64 18)) h26)
 (Ih G K q h26))
 (u8 (u10 r 61 (r 0) 62 (r 1) 63 (r 2) 64 (r 8) 65 v17 66 v18 67 v19 68 (r 2) 69 (r 8) 70 v20) 71 v21 72 v22 73 (r 2) 74 (r 8) 75 v23 76 v24 77 v25 78 v26)
def aw4 (r:Rg) (h:Hp) (K:EK):Prop:=
 o_ G (Builtin.len_ #[114] 3 #[(r 2)]) h fun v14 h14=>o_ G (binOp .lss 3 (r 8) v14) h14 fun v15 h15=>
 cond v15
 (L6 G K (u4 r 55 (r 8) 56 (r 2) 57 v14 58 v15) h15)
 (K (.exit 2) (u4 r 55 (r 8) 56 (r 2) 57 v14 58 v15) h15)
def aw8:Prop:=
 dc (aw4 G) (upd r 8 (.int .i64 0)) h (bj 2 (bw (aw7 G K) K))
def yy:Prop:=
 o_ G (binOp .add 3 (r 7) (.int .i64 1)) h fun v29 h29=>
 K .normal (u3 r 16 (r 7) 17 v29 7 v29) h29
def Fg:Prop:=
 p_ (Instr.indexAt 114 (r 2) (r 7)) h fun v30 h30=>
 p_ (Instr.fieldAt 186 v30 0) h30 fun v31 h31=>
 w_ G h (Instr.loadAt 3 v31) h31 fun v32 h32=>
 c_ G 137 #[(r 0),v32] h32 fun v33 h33=>
 p_ (Op.unary .not v33) h33 fun v34 h34=>g_ v34 false (fun K1=>K1 (r 2) h34) h34 fun v35 h35=>g_ v34 false (fun K1=>K1 (r 7) h35) h35 fun v36 h36=>g_ v34 false (p_ (Instr.indexAt 114 v35 v36) h36) h36 fun v37 h37=>g_ v34 false (p_ (Instr.fieldAt 186 v37 1) h37) h37 fun v38 h38=>g_ v34 false (w_ G h38 (Instr.loadAt 3 v38) h38) h38 fun v39 h39=>g_ v34 false (p_ (binOp .lss 3 v39 (.int .i64 0)) h39) h39 fun v40 h40=>
 bm P_ noHp noHp (bf v34 (.bool true) v40) h40 fun v41 h41=>g_ v41 false (fun K1=>K1 (r 2) h41) h41 fun v42 h42=>g_ v41 false (fun K1=>K1 (r 7) h42) h42 fun v43 h43=>g_ v41 false (p_ (Instr.indexAt 114 v42 v43) h43) h43 fun v44 h44=>g_ v41 false (p_ (Instr.fieldAt 186 v44 1) h44) h44 fun v45 h45=>g_ v41 false (w_ G h45 (Instr.loadAt 3 v45) h45) h45 fun v46 h46=>g_ v41 false (fun K1=>K1 (r 2) h46) h46 fun v47 h47=>g_ v41 false (fun K1=>K1 (r 7) h47) h47 fun v48 h48=>g_ v41 false (p_ (Instr.indexAt 114 v47 v48) h48) h48 fun v49 h49=>g_ v41 false (p_ (Instr.fieldAt 186 v49 2) h49) h49 fun v50 h50=>g_ v41 false (w_ G h50 (Instr.loadAt 3 v50) h50) h50 fun v51 h51=>g_ v41 false (p_ (binOp .geq 3 v46 v51) h51) h51 fun v52 h52=>
 bm P_ noHp noHp (bf v41 (.bool true) v52) h52 fun v53 h53=>g_ v53 false (fun K1=>K1 (r 2) h53) h53 fun v54 h54=>g_ v53 false (fun K1=>K1 (r 7) h54) h54 fun v55 h55=>g_ v53 false (p_ (Instr.indexAt 114 v54 v55) h55) h55 fun v56 h56=>g_ v53 false (p_ (Instr.fieldAt 186 v56 2) h56) h56 fun v57 h57=>g_ v53 false (w_ G h57 (Instr.loadAt 3 v57) h57) h57 fun v58 h58=>g_ v53 false (p_ (binOp .gtr 3 v58 (.int .i64 4611686018427387904)) h58) h58 fun v59 h59=>
 bm P_ noHp noHp (bf v53 (.bool true) v59) h59 fun v60 h60=>
 (fun q=>cond v60
 (K .ret (upd q 6 (.int .i64 1)) h60)
 (yy G K q h60))
 (u7 (u10 (u10 (u10 r 18 (r 0) 19 (r 2) 20 (r 7) 21 v30 22 v31 23 v32 24 v33 25 v34 26 v34 27 v35) 28 v36 29 v37 30 v38 31 v39 32 v40 33 v41 34 v41 35 v42 36 v43 37 v44) 38 v45 39 v46 40 v47 41 v48 42 v49 43 v50 44 v51 45 v52 46 v53 47 v53) 48 v54 49 v55 50 v56 51 v57 52 v58 53 v59 54 v60)
def W7 (r:Rg) (h:Hp) (K:EK):Prop:=
 o_ G (Builtin.len_ #[114] 3 #[(r 2)]) h fun v27 h27=>o_ G (binOp .lss 3 (r 7) v27) h27 fun v28 h28=>
 cond v28
 (Fg G K (u4 r 12 (r 7) 13 (r 2) 14 v27 15 v28) h28)
 (K (.exit 0) (u4 r 12 (r 7) 13 (r 2) 14 v27 15 v28) h28)
def aw9:Prop:=
 dc (W7 G) (upd r 7 (.int .i64 0)) h (bj 0 (bw (aw8 G K) K))
def S92:Prop:=
 o_ G (binOp .lss 3 (r 1) (.int .i64 0)) h fun v0 h0=>
 cond v0
 (K .ret (u4 r 6 (.int .i64 0) 10 (r 1) 11 v0 6 (.int .i64 1)) h0)
 (aw9 G K (u3 r 6 (.int .i64 0) 10 (r 1) 11 v0) h0)
theorem enter92:Ent 103 92 [.tmp 6] S92:=ent_ (m:=md92) (c:=(Tryz.f92.body.getD .skip)) (fun _ _ _ _=>by kernel_rfl) Tryz.func92 rfl rfl rfl
def md101:Nat->Hint
 |_=>mh false [] [] [] false
def Yu:Prop:=
 opH P_ G (xNil (r 0)) h fun v2 h2=>o_ G (Instr.fieldAt 188 v2 0) h2 fun v3 h3=>o_ G (Instr.loadAt 98 v3) h3 fun v4 h4=>o_ G (Instr.indexAt 98 v4 (r 1)) h4 fun v5 h5=>o_ G (Instr.loadAt 99 v5) h5 fun v6 h6=>
 K .ret (u8 r 9 (r 0) 10 v2 11 v3 12 v4 13 (r 1) 14 v5 15 v6 4 v6) h6
def S101:Prop:=
 c_ G 137 #[(r 0),(r 1)] h fun v0 h0=>o_ G (Op.unary .not v0) h0 fun v1 h1=>
 (fun q=>cond v1
 (K .ret (upd q 4 (.slice none 0 0)) h1)
 (Yu G K q h1))
 (u5 r 4 (.slice none 0 0) 5 (r 0) 6 (r 1) 7 v0 8 v1)
theorem at9:Ent 16 101 [.tmp 4] S101:=ent_ (m:=md101) (c:=(Tryz.f101.body.getD .skip)) (fun _ _ _ _=>by kernel_rfl) Tryz.func101 rfl rfl rfl
def md137:Nat->Hint
 |_=>mh false [] [] [] false
def S137:Prop:=
 o_ G (binOp .geq 3 (r 1) (.int .i64 0)) h fun v0 h0=>g_ v0 true (fun K1=>K1 (r 1) h0) h0 fun v1 h1=>g_ v0 true (fun K1=>K1 (r 0) h1) h1 fun v2 h2=>g_ v0 true (opH P_ G (xNil v2) h2) h2 fun v3 h3=>g_ v0 true (o_ G (Instr.fieldAt 188 v3 0) h3) h3 fun v4 h4=>g_ v0 true (o_ G (Instr.loadAt 98 v4) h4) h4 fun v5 h5=>g_ v0 true (o_ G (Builtin.len_ #[98] 3 #[v5]) h5) h5 fun v6 h6=>g_ v0 true (o_ G (binOp .lss 3 v1 v6) h6) h6 fun v7 h7=>
 opH P_ G (bf v0 v7 (.bool false)) h7 fun v8 h8=>
 K .ret (u3 (u10 r 4 (.bool false) 5 (r 1) 6 v0 7 v0 8 v1 9 v2 10 v3 11 v4 12 v5 13 v6) 14 v7 15 v8 4 v8) h8
theorem aq8:Ent 16 137 [.tmp 4] S137:=ent_ (m:=md137) (c:=(Tryz.f137.body.getD .skip)) (fun _ _ _ _=>by kernel_rfl) Tryz.func137 rfl rfl rfl
def md138:Nat->Hint
 |_=>mh false [] [] [] false
def Xy (G:Hp) (K:EK) (r:Rg) (h:Hp):Prop:=
 K .ret (upd r 10 (.bool false)) h
def Bo:Prop:=
 o_ G (binOp .add 3 (r 12) (.int .i64 1)) h fun v7 h7=>
 K .normal (u3 r 24 (r 12) 25 v7 12 v7) h7
def I6:Prop:=
 o_ G (Instr.indexAt 99 (r 11) (r 12)) h fun v8 h8=>o_ G (Instr.fieldAt 203 v8 2) h8 fun v9 h9=>o_ G (Instr.loadAt 3 v9) h9 fun v10 h10=>
 opH P_ G (xEq .neq 3 (.tmp 0) (.tmp 0) v10 (r 1)) h10 fun v11 h11=>g_ v11 true (fun K1=>K1 (r 11) h11) h11 fun v12 h12=>g_ v11 true (fun K1=>K1 (r 12) h12) h12 fun v13 h13=>g_ v11 true (o_ G (Instr.indexAt 99 v12 v13) h13) h13 fun v14 h14=>g_ v11 true (o_ G (Instr.fieldAt 203 v14 0) h14) h14 fun v15 h15=>g_ v11 true (o_ G (Instr.loadAt 3 v15) h15) h15 fun v16 h16=>g_ v11 true (fun K1=>K1 (r 4) h16) h16 fun v17 h17=>g_ v11 true (o_ G (binOp .lss 3 v16 v17) h17) h17 fun v18 h18=>
 opH P_ G (bf v11 v18 (.bool false)) h18 fun v19 h19=>g_ v19 true (fun K1=>K1 (r 3) h19) h19 fun v20 h20=>g_ v19 true (fun K1=>K1 (r 11) h20) h20 fun v21 h21=>g_ v19 true (fun K1=>K1 (r 12) h21) h21 fun v22 h22=>g_ v19 true (o_ G (Instr.indexAt 99 v21 v22) h22) h22 fun v23 h23=>g_ v19 true (o_ G (Instr.fieldAt 203 v23 1) h23) h23 fun v24 h24=>g_ v19 true (o_ G (Instr.loadAt 3 v24) h24) h24 fun v25 h25=>g_ v19 true (o_ G (binOp .lss 3 v20 v25) h25) h25 fun v26 h26=>
 opH P_ G (bf v19 v26 (.bool false)) h26 fun v27 h27=>
 (fun q=>cond v27
 (K .ret (upd q 10 (.bool true)) h27)
 (Bo G K q h27))
 (u5 (u10 (u10 r 26 (r 11) 27 (r 12) 28 v8 29 v9 30 v10 31 (r 1) 32 v11 33 v11 34 v12 35 v13) 36 v14 37 v15 38 v16 39 v17 40 v18 41 v19 42 v19 43 v20 44 v21 45 v22) 46 v23 47 v24 48 v25 49 v26 50 v27)
def Xx (r:Rg) (h:Hp) (K:EK):Prop:=
 o_ G (Builtin.len_ #[99] 3 #[(r 11)]) h fun v5 h5=>o_ G (binOp .lss 3 (r 12) v5) h5 fun v6 h6=>
 cond v6
 (I6 G K (u4 r 20 (r 12) 21 (r 11) 22 v5 23 v6) h6)
 (K (.exit 0) (u4 r 20 (r 12) 21 (r 11) 22 v5 23 v6) h6)
def S138:Prop:=
 opH P_ G (xNil (r 0)) h fun v0 h0=>o_ G (Instr.fieldAt 188 v0 0) h0 fun v1 h1=>o_ G (Instr.loadAt 98 v1) h1 fun v2 h2=>o_ G (Instr.indexAt 98 v2 (r 2)) h2 fun v3 h3=>o_ G (Instr.loadAt 99 v3) h3 fun v4 h4=>
 dc (Xx G) (u10 r 10 (.bool false) 13 (r 0) 14 v0 15 v1 16 v2 17 (r 2) 18 v3 19 v4 11 v4 12 (.int .i64 0)) h4 (bj 0 (bw (Xy G K) K))
theorem aq7:Ent 51 138 [.tmp 10] S138:=ent_ (m:=md138) (c:=(Tryz.f138.body.getD .skip)) (fun _ _ _ _=>by kernel_rfl) Tryz.func138 rfl rfl rfl
def md139:Nat->Hint
 |11=>mh false [0,0,2,7,15,31,31,127,255,511,31,1055,4095,8191] [n_,n_,m_,n_,n_,n_,n_,n_,n_,m_,n_,m_,n_,n_] (fs 14) false
 |_=>mh false [] [] [] false
def Po:Prop:=
 o_ G (Instr.sliceAt 99 (r 11) none (some (r 14)) none) h fun v3 h3=>o_ G (Builtin.append_ #[99,99] 99 #[(.slice none 0 0),v3]) h3 fun v4 h4=>o_ G (Instr.loadAt 203 (r 10)) h4 fun v5 h5=>o_ G (Instr.buildSlice 99 1 #[(0,v5)]) h5 fun v6 h6=>o_ G (Builtin.append_ #[99,99] 99 #[v4,v6]) h6 fun v7 h7=>o_ G (Instr.sliceAt 99 (r 11) (some (r 14)) none none) h7 fun v8 h8=>o_ G (Builtin.append_ #[99,99] 99 #[v7,v8]) h8 fun v9 h9=>
 opH P_ G (xNil (r 0)) h9 fun v10 h10=>o_ G (Instr.fieldAt 188 v10 0) h10 fun v11 h11=>o_ G (Instr.loadAt 98 v11) h11 fun v12 h12=>o_ G (Instr.indexAt 98 v12 (r 2)) h12 fun v13 h13=>
 opH P_ G (su (Instr.storeAt 99 v13 v9)) h13 fun v14 h14=>
 K .normal (u5 (u10 (u10 r 15 (.slice none 0 0) 92 (.slice none 0 0) 93 (r 11) 94 (r 14) 95 v3 96 v4 15 v4 97 v4 98 v5 99 v6) 100 v7 15 v7 101 v7 102 (r 11) 103 (r 14) 104 v8 105 v9 15 v9 106 (r 0) 107 v10) 108 v11 109 v12 110 (r 2) 111 v9 112 v13) h14
def I5:Prop:=
 o_ G (binOp .add 3 (r 14) (.int .i64 1)) h fun v26 h26=>
 K .normal (u3 r 90 (r 14) 91 v26 14 v26) h26
def Xv (r:Rg) (h:Hp) (K:EK):Prop:=
 w_ G h (Builtin.len_ #[99] 3 #[(r 11)]) h fun v15 h15=>
 p_ (binOp .lss 3 (r 14) v15) h15 fun v16 h16=>g_ v16 true (fun K1=>K1 (r 11) h16) h16 fun v17 h17=>g_ v16 true (fun K1=>K1 (r 14) h17) h17 fun v18 h18=>g_ v16 true (p_ (Instr.indexAt 99 v17 v18) h18) h18 fun v19 h19=>g_ v16 true (p_ (Instr.fieldAt 203 v19 0) h19) h19 fun v20 h20=>g_ v16 true (w_ G h (Instr.loadAt 3 v20) h20) h20 fun v21 h21=>g_ v16 true (p_ (Instr.fieldAt 203 (r 10) 0) h21) h21 fun v22 h22=>g_ v16 true (w_ G h (Instr.loadAt 3 v22) h22) h22 fun v23 h23=>g_ v16 true (p_ (binOp .lss 3 v21 v23) h23) h23 fun v24 h24=>
 bm P_ noHp noHp (bf v16 v24 (.bool false)) h24 fun v25 h25=>
 (fun q=>cond v25
 (I5 G K q h25)
 (K (.exit 2) q h25))
 (u4 (u10 r 76 (r 14) 77 (r 11) 78 v15 79 v16 80 v16 81 v17 82 v18 83 v19 84 v20 85 v21) 86 v22 87 v23 88 v24 89 v25)
def Xw:Prop:=
 dc (Xv G) (upd r 14 (.int .i64 0)) h (bj 2 (bw (Po G K) K))
def vy:Prop:=
 o_ G (binOp .add 3 (r 12) (.int .i64 1)) h fun v34 h34=>
 K .normal (u3 r 30 (r 12) 31 v34 12 v34) h34
def Bn:Prop:=
 o_ G (Instr.loadAt 203 (r 13)) h fun v59 h59=>o_ G (Instr.buildSlice 99 1 #[(0,v59)]) h59 fun v60 h60=>o_ G (Builtin.append_ #[99,99] 99 #[(r 11),v60]) h60 fun v61 h61=>
 vy G K (u5 r 72 (r 11) 73 v59 74 v60 75 v61 11 v61) h61
def I4:Prop:=
 opH P_ G (xNil (r 0)) h fun v35 h35=>o_ G (Instr.fieldAt 188 v35 0) h35 fun v36 h36=>o_ G (Instr.loadAt 98 v36) h36 fun v37 h37=>o_ G (Instr.indexAt 98 v37 (r 2)) h37 fun v38 h38=>o_ G (Instr.loadAt 99 v38) h38 fun v39 h39=>o_ G (Instr.indexAt 99 v39 (r 12)) h39 fun v40 h40=>o_ G (Instr.loadAt 203 v40) h40 fun v41 h41=>o_ G (Instr.alloc 203 true (.tuple #[])) h41 fun v42 h42=>
 opH P_ G (su (Instr.storeAt 203 v42 v41)) h42 fun v43 h43=>o_ G (Instr.fieldAt 203 v42 2) h43 fun v44 h44=>o_ G (Instr.loadAt 3 v44) h44 fun v45 h45=>
 opH P_ G (xEq .eql 3 (.tmp 0) (.tmp 0) v45 (r 1)) h45 fun v46 h46=>g_ v46 true (o_ G (Instr.fieldAt 203 v42 0) h46) h46 fun v47 h47=>g_ v46 true (o_ G (Instr.loadAt 3 v47) h47) h47 fun v48 h48=>g_ v46 true (o_ G (Instr.fieldAt 203 (r 10) 1) h48) h48 fun v49 h49=>g_ v46 true (o_ G (Instr.loadAt 3 v49) h49) h49 fun v50 h50=>g_ v46 true (o_ G (binOp .leq 3 v48 v50) h50) h50 fun v51 h51=>
 opH P_ G (bf v46 v51 (.bool false)) h51 fun v52 h52=>g_ v52 true (o_ G (Instr.fieldAt 203 (r 10) 0) h52) h52 fun v53 h53=>g_ v52 true (o_ G (Instr.loadAt 3 v53) h53) h53 fun v54 h54=>g_ v52 true (o_ G (Instr.fieldAt 203 v42 1) h54) h54 fun v55 h55=>g_ v52 true (o_ G (Instr.loadAt 3 v55) h55) h55 fun v56 h56=>g_ v52 true (o_ G (binOp .leq 3 v54 v56) h56) h56 fun v57 h57=>
 opH P_ G (bf v52 v57 (.bool false)) h57 fun v58 h58=>
 cond v58
 (o_ G (Instr.fieldAt 203 (r 10) 0) h58 fun v62 h62=>o_ G (Instr.loadAt 3 v62) h62 fun v63 h63=>o_ G (Instr.fieldAt 203 v42 0) h63 fun v64 h64=>o_ G (Instr.loadAt 3 v64) h64 fun v65 h65=>o_ G (Builtin.min_ #[3,3] 3 #[v63,v65]) h65 fun v66 h66=>o_ G (Instr.fieldAt 203 (r 10) 0) h66 fun v67 h67=>
 opH P_ G (su (Instr.storeAt 3 v67 v66)) h67 fun v68 h68=>o_ G (Instr.fieldAt 203 (r 10) 1) h68 fun v69 h69=>o_ G (Instr.loadAt 3 v69) h69 fun v70 h70=>o_ G (Instr.fieldAt 203 v42 1) h70 fun v71 h71=>o_ G (Instr.loadAt 3 v71) h71 fun v72 h72=>o_ G (Builtin.max_ #[3,3] 3 #[v70,v72]) h72 fun v73 h73=>o_ G (Instr.fieldAt 203 (r 10) 1) h73 fun v74 h74=>
 opH P_ G (su (Instr.storeAt 3 v74 v73)) h74 fun v75 h75=>
 vy G K (upd (u10 (u10 (u10 (u10 r 32 (r 0) 33 v35 34 v36 35 v37 36 (r 2) 37 v38 38 v39 39 (r 12) 40 v40 41 v41) 13 v42 42 v44 43 v45 44 (r 1) 45 v46 46 v46 47 v47 48 v48 49 v49 50 v50) 51 v51 52 v52 53 v52 54 v53 55 v54 56 v55 57 v56 58 v57 59 v58 60 v62) 61 v63 62 v64 63 v65 64 v66 65 v67 66 v69 67 v70 68 v71 69 v72 70 v73) 71 v74) h75)
 (Bn G K (u9 (u10 (u10 r 32 (r 0) 33 v35 34 v36 35 v37 36 (r 2) 37 v38 38 v39 39 (r 12) 40 v40 41 v41) 13 v42 42 v44 43 v45 44 (r 1) 45 v46 46 v46 47 v47 48 v48 49 v49 50 v50) 51 v51 52 v52 53 v52 54 v53 55 v54 56 v55 57 v56 58 v57 59 v58) h58)
def Xu (r:Rg) (h:Hp) (K:EK):Prop:=
 opH P_ G (xNil (r 0)) h fun v27 h27=>o_ G (Instr.fieldAt 188 v27 0) h27 fun v28 h28=>o_ G (Instr.loadAt 98 v28) h28 fun v29 h29=>o_ G (Instr.indexAt 98 v29 (r 2)) h29 fun v30 h30=>o_ G (Instr.loadAt 99 v30) h30 fun v31 h31=>o_ G (Builtin.len_ #[99] 3 #[v31]) h31 fun v32 h32=>o_ G (binOp .lss 3 (r 12) v32) h32 fun v33 h33=>
 (fun q=>cond v33
 (I4 G K q h33)
 (K (.exit 0) q h33))
 (u10 r 20 (r 12) 21 (r 0) 22 v27 23 v28 24 v29 25 (r 2) 26 v30 27 v31 28 v32 29 v33)
def S139:Prop:=
 o_ G (Instr.build 203 #[(0,(r 3)),(1,(r 4)),(2,(r 1))]) h fun v0 h0=>o_ G (Instr.alloc 203 true (.tuple #[])) h0 fun v1 h1=>
 opH P_ G (su (Instr.storeAt 203 v1 v0)) h1 fun v2 h2=>
 dc (Xu G) (u7 r 16 (r 3) 17 (r 4) 18 (r 1) 19 v0 10 v1 11 (.slice none 0 0) 12 (.int .i64 0)) h2 (bj 0 (bw (Xw G K) K))
theorem aq6:Ent 113 139 [] S139:=ent_ (m:=md139) (c:=(Tryz.f139.body.getD .skip)) (fun _ _ _ _=>by kernel_rfl) Tryz.func139 rfl rfl rfl
end
end Go.Proofs.YtfflipnhffknnaaGreatDoor
end
section
namespace Go.Proofs.YtfflipnhffknnaaGreatDoor.Rv
open Go Go.HL Go.Proofs.Resv
def fe:=jq bC (jq (jq (jq (jq @Bool.true_and @and_true) (jq @bd188_0 @tq)) (jq (jq @kf @cf128) (jq @cf137 (jq @Wj @vn)))) (jq (jq (jq @vm @vl) (jq @ld3 @ld98)) (jq (jq @ld99 @ln98) (jq @ln99 (jq @jo @true_and)))))
theorem Gf {G h:Hp} {tp:Nat} {T:Tb} {c:Int} (ts:TSee G h tp T):aj P_ G 137 #[.pointer (some ⟨tp,0,none⟩),c] h (fun u h'=>u = .bool (inT T.length c)/\h'=h):=by
 obtain ⟨rb,e1,_⟩:=ts
 refine aq8 (by simp) ?_
 unfold S137 inT
 try simp only [fe]
 by_cases h0:0<=c
 . try simp only [fe,decide_eq_true h0,show decide (c>=0)=true from decide_eq_true h0,e1]
 . try simp only [fe,decide_eq_false h0,show decide (c>=0)=false from decide_eq_false h0,fg,Bool.false_and]
theorem Ql {G h:Hp} {tp:Nat} {T:Tb} {c:Int} (ts:TSee G h tp T):aj P_ G 101 #[.pointer (some ⟨tp,0,none⟩),c] h (fun u h'=>Sees bn G h u (rowT T c)/\h'=h):=by
 refine at9 (by simp) ?_
 unfold S101
 try simp only [fe]
 refine (Gf ts).mono ?_
 rintro _ h ⟨rfl,rfl⟩
 cases hc:inT T.length c with
 |false=>
  try simp only [fe]
  rw [xq (fun e=>by rw [th.2 e]at hc;cases hc)]
  exact ⟨_,0,rfl,Nat.le_refl _,.inl rfl⟩
 |true=>
  obtain ⟨h0,h1⟩:=th.1 hc
  obtain ⟨rb,e1,e2⟩:=ts
  obtain ⟨a,cap,e3,e4⟩:=e2 _ _ (m7 h0 h1)
  try simp only [fe]
  unfold Yu
  try simp (disch:=decide) only [fe,e1,ix98 h0 h1,Nat.mul_one,e3]
  exact e4
theorem Zd {G h:Hp} {n:Nat} (h1:1<=n) (h2:n<=256):aj P_ G 91 #[n] h (fun u h'=>∃a tp,u = .pointer (some ⟨tp,0,none⟩)/\Tab 188 a tp (List.replicate n [])/\HL.Sep [a,h] h'/\Dis G h'):=by
 refine aj.assume fun d=>enter91 (by simp) ?_
 unfold S91
 simp only [fe,decide_eq_false (show ¬(n:Int)<1 by omega),show decide ((n:Int)>256)=false from decide_eq_false (by omega)]
 unfold ax0
 simp (disch:=decide) only [fe]
 rw [tg svC (none,0,0) (by decide) un98 eosv (by kernel_rfl) (by omega) (by omega)]
 intro rb hrb grb
 simp only [fe]
 intro tp htp gtp
 have s1:=(Sep.one (h:=h)).new (o := .cells (svC.rows (List.replicate n (none,0,0))).toArray 99 (0,0)) hrb
 have d1:=d.set (o := .cells (svC.rows (List.replicate n (none,0,0))).toArray 99 (0,0)) grb
 have s2:=s1.new (o := .cells #[.slice (some ⟨rb,0,none⟩) n n] 188 (0,0)) htp
 have s3:=(s2.none.pick 2 rfl rfl).pick 2 rfl rfl
 obtain ⟨a,s4,t4⟩:=rh s3
 refine ⟨a,tp,rfl,⟨rb,List.replicate n (none,0,0),noHp,?_,by simp,fun i s L h1 h2=>?_⟩,s4,d1.set gtp⟩
 . rw [List.length_replicate]
   exact t4
 . rw [List.getElem?_replicate]at h1 h2
   split at h1
   . rename_i hi
     rw [if_pos hi]at h2
     cases h1
     cases h2
     exact ⟨rfl,Slc.nil⟩
   . cases h1
theorem ah0 {G h:Hp} {tp:Nat} {T:Tb} {L:List Slot} {c r f t:Int} (ts:TSee G h tp T) (h0:0<=c) (hL:T[c.toNat]?=some L) (hlen:L.length<=100000):
 aj P_ G 138 #[.pointer (some ⟨tp,0,none⟩),r,c,f,t] h (fun u h'=>u = .bool (!kg L r f t)/\h'=h):=by
 have h1:c<T.length:=by have:=(List.getElem?_eq_some_iff.1 hL).1;omega
 obtain ⟨rb,e1,e2⟩:=ts
 obtain ⟨a,cap,e3,e4⟩:=e2 _ _ hL
 refine aq7 (by simp) ?_
 unfold S138
 simp only [fe,e1,ix98 h0 h1,Nat.mul_one,e3]
 refine ci (fun m q h3=>∃i:Nat,m=L.length-i/\i<=L.length/\q 1 = .int .i64 r/\q 3 = .int .i64 f/\q 4 = .int .i64 t/\q 11 = .slice a L.length cap/\q 12 = .int .i64 i/\h3=h/\kg (L.take i) r f t=true) ?_
  (m:=L.length) ⟨0,rfl,Nat.zero_le _,by simp (disch:=decide) only [fe],by simp (disch:=decide) only [fe],by simp (disch:=decide) only [fe],by simp (disch:=decide) only [fe],by simp only [fe]<;>rfl,rfl,rfl⟩
 rintro m q h ⟨i,rfl,hi,q1,q3,q4,q19,q21,rfl,hf⟩ X HX
 unfold Xx
 simp only [fe,q19,q21]
 refine bh (fun hlt=>?_) (fun hge=>?_)
 rotate_left
 . obtain rfl:i=L.length:=by omega
   rw [List.take_of_length_le (Nat.le_refl _)]at hf
   try simp (disch:=first|decide|omega) only [fe,Nat.reduceAdd,Nat.reduceMul]
   unfold Xy
   try simp only [fe]
   rw [hf]
   rfl
 obtain ⟨s,hs⟩:∃s,L[i]?=some s:=⟨_,List.getElem?_eq_getElem (by omega)⟩
 obtain ⟨b,o,rfl,z0,z1,z2⟩:=Sees.slot e4 hs
 unfold I6
 simp (disch:=decide) only [fe,q19,q21,ix99 (Int.natCast_nonneg i) hlt,z0,z1,z2,q1]
 have k4:∀(K0:Exit->Rg->Hp->Prop) (q':Rg),q' 1 = .int .i64 r->q' 3 = .int .i64 f->q' 4 = .int .i64 t->q' 11=q 11->q' 12=q 12->(s.r==r || !(decide (s.f<t)&&decide (f<s.t)))=true->Bo G (bw X K0) q' h:=by
  intro K0 q' p1 p3 p4 p19 p21 hc
  unfold Bo
  simp (disch:=first|decide|omega) only [fe,p21,q21]
  exact HX (L.length-(i+1)) _ _ (by omega) ⟨i+1,rfl,by omega,by simp (disch:=decide) only [fe,p1],by simp (disch:=decide) only [fe,p3],by simp (disch:=decide) only [fe,p4],by simp (disch:=decide) only [fe,p19,q19],by simp only [fe]<;>rfl,rfl,by rw [D7 hs,hf,hc];rfl⟩
 cases hb:(s.r != r)with
 |false=>
  try simp only [fe,fg,hb]
  exact k4 _ _ (by simp (disch:=decide) only [fe,q1]) (by simp (disch:=decide) only [fe,q3]) (by simp (disch:=decide) only [fe,q4]) (by simp (disch:=decide) only [fe]) (by simp (disch:=decide) only [fe]) (by simp at hb;simp [hb])
 |true=>
  try simp only [fe,q4,q19,q21,ix99 (Int.natCast_nonneg i) hlt,z0,z1,z2]
  by_cases hb2:s.f<t
  . try simp only [fe,decide_eq_true hb2,q3,q19,q21,ix99 (Int.natCast_nonneg i) hlt,z0,z1,z2]
    refine bh (fun hb3=>?_) (fun hb3=>?_)
    . try simp (disch:=first|decide|omega) only [fe,Nat.reduceAdd,Nat.reduceMul]
      have:(s.r==r || !(decide (s.f<t)&&decide (f<s.t)))=false:=by simp at hb;simp [hb,hb2,hb3]
      rw [Hi hs this]
      rfl
    . exact k4 _ _ (by simp (disch:=decide) only [fe,q1]) (by simp (disch:=decide) only [fe,q3]) (by simp (disch:=decide) only [fe,q4]) (by simp (disch:=decide) only [fe]) (by simp (disch:=decide) only [fe]) (by simp [hb3])
  . try simp only [fe,decide_eq_false hb2,fg]
    exact k4 _ _ (by simp (disch:=decide) only [fe,q1]) (by simp (disch:=decide) only [fe,q3]) (by simp (disch:=decide) only [fe,q4]) (by simp (disch:=decide) only [fe]) (by simp (disch:=decide) only [fe]) (by simp [hb2])
def ec:=jq bC (jq (jq (jq (jq @S4 @Sy) (jq @pu (jq @Sx @Wj))) (jq (jq @vn (jq @Sb @vm)) (jq @vl (jq @ix99p @Ri)))) (jq (jq (jq @ld3 @ld3p) (jq @ld98 (jq @ld99 @ln99))) (jq (jq @ln99p (jq @jo @ls)) (jq @ji (jq @Gq @true_and)))))
theorem Vs {L:List Slot} {v:Int} {k:Nat} (h:∀s∈L.take k,s.f<v) (hk:k<=L.length) (h2:∀s,L[k]?=some s->¬s.f<v):rank L v=k:=by
 unfold rank
 have e:=List.take_append_drop k L
 conv=>lhs;rw [<- e]
 rw [List.takeWhile_append_of_pos (fun s hs=>by simpa using h s hs),List.length_append,List.length_take,Nat.min_eq_left hk]
 cases hd:L.drop k with
 |nil=>simp
 |cons s M=>
  have hs:L[k]?=some s:=by
   have:=congrArg (fun l=>l[0]?) hd
   simpa [List.getElem?_drop]using this
  rw [List.takeWhile_cons,if_neg (by simpa using h2 s hs)]
  simp
theorem ad7 {G a h:Hp} {v:Value} {L:List Slot} (o:Slc bn 203 a v L) (l:a.le h) {k:Nat} (hk:k<=L.length) {K:VK} (H:∀v',Sees bn G h v' (L.drop k)->K v' h):wpH P_ G (Instr.sliceAt 99 v (some (.int .i64 k)) none none) h K:=by
 by_cases hL:L=[]
 . subst hL
   obtain rfl:k=0:=by simpa using hk
   obtain ⟨ob,o'⟩:=id o
   cases ob with
   |none=>
    obtain ⟨rfl,_⟩:=o'
    rw [show ((0:Nat):Int)=0 from rfl,Et un99 p7]
    exact H _ ⟨none,0,rfl,Nat.le_refl _,.inl rfl⟩
   |some b=>
    obtain ⟨cap,t,rfl,hb,hl⟩:=o'
    rw [show ([]:List Slot).length=0 from rfl,mz un99 p7 (Int.natCast_nonneg _) (Int.natCast_nonneg _) (Nat.zero_le _)]
    exact H _ ⟨_,_,rfl,Nat.zero_le _,.inl rfl⟩
 . exact Y8 (c:=bn) (j:=(k:Int)) un99 p7 (o.sees (by decide) l) hL (Int.natCast_nonneg _) (by omega) H
theorem Za {G h a:Hp} {R:List Hp} {tp:Nat} {T:List (List Slot)} {L:List Slot} {c r f t:Int} (tb:Tab 188 a tp T) (sp:HL.Sep (a::R) h) (h0:0<=c) (hL:T[c.toNat]?=some L) (g:Resv.Good L) (hlen:L.length<=50000) (hf:0<=f) (hft:f<t) (ht:t<=FV):
 aj P_ G 139 #[.pointer (some ⟨tp,0,none⟩),r,c,f,t] h (fun u h'=>u = .tuple #[]/\∃a',Tab 188 a' tp (T.set c.toNat (Resv.putL L r f t))/\HL.Sep (a'::R) h'/\Dis G h'):=by
 have h1:c<T.length:=by have:=(List.getElem?_eq_some_iff.1 hL).1;omega
 refine aj.assume fun d=>aq6 (by simp) ?_
 have da:Dis G a:=fun b o e=>d _ _ (sp.hd _ _ e)
 obtain ⟨rb,e1,e2⟩:=tb.see (G:=G) (Hp.le.refl a)
 obtain ⟨sa,cap,e3,e4⟩:=e2 _ _ hL
 unfold S139
 simp (disch:=first|decide|exact ao|exact am|omega|rfl) only [ec]
 intro xb hxb gxb
 generalize eh:Hp.set h xb _=hb
 obtain ⟨lb,db,bb⟩:=boxed eh hxb d gxb
 have sb:HL.Sep (noHp::noHp.set xb (nt ⟨f,t,r⟩)::a::R) hb:=by rw [<- eh];exact (sp.new hxb).none
 clear eh
 refine ci (fun m q h3=>∃(i:Nat) (fi ti:Int) (io:Hp) (v:Value) (out:List Slot),m=L.length-i/\i<=L.length/\q 0 = .pointer (some ⟨tp,0,none⟩)/\q 1 = .int .i64 r/\q 2 = .int .i64 c/\q 10 = .pointer (some ⟨xb,0,none⟩)/\q 11=v/\q 12 = .int .i64 i/\
  Slc bn 203 io v out/\out.length<=i/\HL.Sep (io::noHp.set xb (nt ⟨fi,ti,r⟩)::a::R) h3/\Dis G h3/\ld r (L.drop i) fi ti out=ld r L f t []) ?_
  (m:=L.length) ⟨0,f,t,noHp,_,[],rfl,Nat.zero_le _,by simp (disch:=decide) only [ec],by simp (disch:=decide) only [ec],by simp (disch:=decide) only [ec],by simp (disch:=decide) only [ec],rfl,by simp only [ec]<;>rfl,by simp (disch:=decide) only [ec];exact Slc.nil,Nat.zero_le _,sb,db,rfl⟩
 clear lb db bb sb hb
 rintro m q h3 ⟨i,fi,ti,io,v,out,rfl,hi,q0,q1,q2,q10,q11,q12,o,ho,s3,d3,hm⟩ X HX
 have l3:=s3.in 2 rfl
 have bx3:h3 xb=some (nt ⟨fi,ti,r⟩):=s3.at 1 rfl af
 unfold Xu
 simp only [ec,q0,q2,q12,jg l3 d3 e1,ix98 h0 h1,Nat.mul_one,jg l3 d3 e3]
 refine bh (fun hlt=>?_) (fun hge=>?_)
 . obtain ⟨s,hs⟩:∃s,L[i]?=some s:=⟨_,List.getElem?_eq_getElem (by omega)⟩
   obtain ⟨b,of,rfl,z0,z1,z2⟩:=Sees.slot (e4.up l3 d3) hs
   unfold I4
   simp -implicitDefEqProofs (maxSteps:=2000000) (disch:=first|decide|with_reducible exact Nat.ne_of_beq_eq_false rfl|exact ao|exact am|omega|rfl|(simp;done)|fail) only [ec,q0,q2,q12,jg l3 d3 e1,ix98 h0 h1,Nat.mul_one,jg l3 d3 e3,ix99 (Int.natCast_nonneg i) hlt,z0,z1,z2]
   intro y hy gy
   simp only [ec,q1]
   generalize eh:Hp.set h3 y _=h4
   obtain ⟨l4,d4,b4⟩:=boxed eh hy d3 gy
   have s4:HL.Sep (io::noHp.set xb (nt ⟨fi,ti,r⟩)::a::R) h4:=by rw [<- eh];exact s3.past hy
   have cy:∀j,aa G h4 ⟨y,j,none⟩=_:=fun j=>ai (ag b4)
   have bx4:h4 xb=some (nt ⟨fi,ti,r⟩):=s4.at 1 rfl af
   have cb:∀j,aa G h4 ⟨xb,j,none⟩=_:=fun j=>ai (ag bx4)
   have k8:∀(K0:Exit->Rg->Hp->Prop) (q':Rg),(∀k,k<=12->q' k=q k)->q' 13 = .pointer (some ⟨y,0,none⟩)->jb r fi ti s=false->Bn G (bw X K0) q' h4:=by
    intro K0 q' hq q'13 htb
    unfold Bn
    simp only [ec,q'13,cy]
    intro z hz gz
    generalize ez:Hp.set h4 z _=h5
    obtain ⟨l5,d5,b5⟩:=boxed ez hz d4 gz
    have s5:HL.Sep (io::noHp.set xb (nt ⟨fi,ti,r⟩)::a::R) h5:=by rw [<- ez];exact s4.past hz
    rw [hq 11 (by decide),q11]
    refine dw bn (by decide) un99 eoslot (by decide) (by decide) (M:=[s]) s5 d5 o (Sees.row (c:=bn) (L:=[s]) b5 rfl (Nat.le_refl _)) (by simp;omega) fun v' a' h' o' s' d'=>?_
    unfold vy
    simp (disch:=first|decide|omega) only [ec,hq 12 (by decide),q12]
    refine HX (L.length-(i+1)) _ _ (by omega) ⟨i+1,fi,ti,a',v',out++[s],rfl,by omega,by simp (disch:=decide) only [ec,hq 0 (by decide),q0],by simp (disch:=decide) only [ec,hq 1 (by decide),q1],by simp (disch:=decide) only [ec,hq 2 (by decide),q2],by simp (disch:=decide) only [ec,hq 10 (by decide),q10],by simp (disch:=decide) only [ec],by simp only [ec]<;>rfl,o',by simp;omega,s',d',?_⟩
    rw [<- hm,vf hs,if_neg (by rw [htb];decide)]
   cases hb:(s.r==r)with
   |false=>
    simp only [ec,hb,fg]
    exact k8 _ _ (fun k hk=>by simp (disch:=omega) only [aq]) (by simp (disch:=decide) only [ec]) (by unfold jb;rw [hb];rfl)
   |true=>
   simp only [ec,cy,q10,cb]
   by_cases hb2:s.f<=ti
   rotate_left
   . simp only [ec,decide_eq_false hb2,fg]
     exact k8 _ _ (fun k hk=>by simp (disch:=omega) only [aq]) (by simp (disch:=decide) only [ec]) (by unfold jb;rw [decide_eq_false hb2];simp)
   simp only [ec,decide_eq_true hb2,q10,cb,cy]
   refine bh (fun hb3=>?_) (fun hb3=>?_)
   rotate_left
   . exact k8 _ _ (fun k hk=>by simp (disch:=omega) only [aq]) (by simp (disch:=decide) only [ec]) (by unfold jb;rw [decide_eq_false hb3];simp)
   simp only [ec,cy,cb,q10,Vz]
   rw [di sz3 rfl bx4 (by simp)]
   generalize e5:Hp.set h4 xb _=h5
   have b5:=Tg e5
   have c5:∀j,aa G h5 ⟨xb,j,none⟩=_:=fun j=>ai (ag b5)
   have y5:∀j,aa G h5 ⟨y,j,none⟩=_:=fun j=>ai (ag (by rw [Dv e5 (fun e=>by rw [e]at hy;rw [bx3]at hy;cases hy)];exact b4))
   simp only [ec,c5,y5,q10,V1]
   rw [di sz3 rfl b5 (by simp)]
   unfold vy
   simp (disch:=first|decide|omega) only [ec,q12]
   have s6:=((s4.pick 1 rfl rfl).put (o:=nt ⟨min fi s.f,max ti s.t,r⟩) af)
   rw [set_set]at s6
   refine HX (L.length-(i+1)) _ _ (by omega) ⟨i+1,min fi s.f,max ti s.t,io,v,out,rfl,by omega,by simp (disch:=decide) only [ec,q0],by simp (disch:=decide) only [ec,q1],by simp (disch:=decide) only [ec,q2],by simp (disch:=decide) only [ec,q10],by simp (disch:=decide) only [ec,q11],by simp only [ec]<;>rfl,o,by omega,?_,?_,?_⟩
   . rw [<- e5,set_set]
     exact s6.pick 1 rfl rfl
   . rw [<- e5,set_set]
     exact d4.set (d4 _ _ bx4)
   . rw [<- hm,vf hs,if_pos (by unfold jb;rw [hb,decide_eq_true hb2,decide_eq_true hb3];rfl)]
 obtain rfl:i=L.length:=by omega
 rw [List.drop_of_length_le (Nat.le_refl _),ld]at hm
 obtain ⟨f',t',em,m1,m2,m3,m4,m5⟩:=Ax (r:=r) (f:=f) (t:=t) (out:=[]) g.apart (fun s hs=>(g.ok s hs).2.1) hft
 rw [<- hm]at em
 simp only [Prod.mk.injEq,List.nil_append]at em
 obtain ⟨rfl,rfl,eo⟩:=em
 have ep:Resv.putL L r f t=yn out ⟨fi,ti,r⟩:=by unfold Resv.putL;rw [<- hm]
 clear HX m1 m2 m3 m4 m5 hm
 try simp (disch:=first|decide|omega) only [ec,Nat.reduceAdd,Nat.reduceMul]
 unfold Xw
 obtain ⟨oa,ocap,rfl,_⟩:=o.len (by decide)
 have cb:∀j,aa G h3 ⟨xb,j,none⟩=_:=fun j=>ai (ag bx3)
 refine ci (fun m q' h4=>∃k:Nat,m=out.length-k/\k<=out.length/\(∀j,j<=13->q' j=q j)/\q' 14 = .int .i64 k/\h4=h3/\∀s∈out.take k,s.f<fi) ?_
  (m:=out.length) ⟨0,rfl,Nat.zero_le _,(fun j hj=>by simp (disch:=omega) only [aq]),by simp only [ec]<;>rfl,rfl,(fun s hs=>by simp at hs)⟩
 rintro m q' h4 ⟨k,rfl,hk,hq,q14,rfl,hlow⟩ X HX
 unfold Xv
 have fin:∀r1:Rg,(∀j,j<=13->r1 j=q j)->r1 14 = .int .i64 k->rank out fi=k->Po G (retK P_ G [] fun u h'=>u = .tuple #[]/\∃a',Tab 188 a' tp (T.set c.toNat (Resv.putL L r f t))/\HL.Sep (a'::R) h'/\Dis G h') r1 h4:=by
  intro r1 hr r14 hrk
  unfold Po
  have so:=o.sees (G:=G) (by decide) (s3.in 0 rfl)
  simp only [ec,r14,hr 11 (by decide),q11]
  refine sees_to (c:=bn) (L:=out) (j:=(k:Int)) un99 p7 so (Int.natCast_nonneg _) (by omega) fun v3 t3=>?_
  rw [Int.toNat_natCast]at t3
  refine dw bn (by decide) un99 eoslot (by decide) (by decide) (L:=[]) (M:=out.take k) s3.none d3 Slc.nil t3 (by simp;omega) fun v5 a5 h5 o5 s5 d5=>?_
  have bx5:h5 xb=some (nt ⟨fi,ti,r⟩):=s5.at 2 rfl af
  have c5:∀j,aa G h5 ⟨xb,j,none⟩=_:=fun j=>ai (ag bx5)
  simp only [ec,hr 10 (by decide),q10,c5]
  intro z hz gz
  generalize ez:Hp.set h5 z _=h6
  obtain ⟨l6,d6,b6⟩:=boxed ez hz d5 gz
  have s6:=s5.past (o:=nt ⟨fi,ti,r⟩) hz
  rw [ez]at s6
  rw [List.nil_append]at o5
  refine dw bn (by decide) un99 eoslot (by decide) (by decide) (M:=[⟨fi,ti,r⟩]) s6 d6 o5 (Sees.row (c:=bn) (L:=[⟨fi,ti,r⟩]) b6 rfl (Nat.le_refl _)) (by simp;omega) fun v7 a7 h7 o7 s7 d7=>?_
  refine ad7 o (s7.in 1 rfl) hk fun v8 t8=>?_
  refine dw bn (by decide) un99 eoslot (by decide) (by decide) (M:=out.drop k) s7 d7 o7 t8 (by simp;omega) fun v9 a9 h9 o9 s9 d9=>?_
  rw [show out.take k++[⟨fi,ti,r⟩]++out.drop k=Resv.putL L r f t by rw [ep,Rs,hrk,List.append_assoc];rfl]at o9
  have s10:=((s9.pick 1 rfl rfl).drop.pick 1 rfl rfl).drop
  obtain ⟨rb',l,e1',hrb,hcl,a',t',s11,d11⟩:=Km (c:=c.toNat) tb s10 d9 o9 (by omega)
  rw [e1]at e1'
  obtain rfl:rb=rb':=by simpa using e1'
  simp only [ec,hr 0 (by decide),q0,hr 2 (by decide),q2,jg (s9.in 3 rfl) d9 e1,ix98 h0 h1,Nat.mul_one]
  obtain ⟨sa6,cap6,rfl,_⟩:=o9.len (by decide)
  rw [di sz99 rfl hrb hcl]
  exact ⟨a',t',s11,d11⟩
 simp only [ec,hq 11 (by decide),q11,q14]
 by_cases hlt:(k:Int)<out.length
 . obtain ⟨s,hs⟩:∃s,out[k]?=some s:=⟨_,List.getElem?_eq_getElem (by omega)⟩
   obtain ⟨b,of,rfl,z0,z1,z2⟩:=Sees.slot (o.sees (G:=G) (by decide) (s3.in 0 rfl)) hs
   simp (disch:=first|decide|omega) only [ec,decide_eq_true hlt,ix99 (Int.natCast_nonneg k) hlt,z0,hq 10 (by decide),q10,cb]
   refine bh (fun h5=>?_) (fun h5=>?_)
   . unfold I5
     simp (disch:=first|decide|omega) only [ec,q14]
     refine HX (out.length-(k+1)) _ _ (by omega) ⟨k+1,rfl,by omega,(fun j hj=>by simp (disch:=omega) only [aq,hq]),by simp only [ec]<;>rfl,rfl,fun s' hs'=>?_⟩
     rw [List.take_add_one,hs]at hs'
     rcases List.mem_append.1 hs' with h6|h6
     . exact hlow s' h6
     . simp at h6
       subst h6
       exact h5
   . try simp (disch:=first|decide|omega) only [ec,Nat.reduceAdd,Nat.reduceMul]
     exact fin _ (fun j hj=>by simp (disch:=omega) only [aq,hq]) (by simp (disch:=decide) only [ec,q14]) (Vs hlow hk fun s' hs'=>by rw [hs]at hs';cases hs';exact h5)
 . simp only [ec,decide_eq_false hlt,fg]
   exact fin _ (fun j hj=>by simp (disch:=omega) only [aq,hq]) (by simp (disch:=decide) only [ec,q14]) (Vs hlow hk fun s' hs'=>by rw [List.getElem?_eq_none (by omega)]at hs';cases hs')
def dr:=jq bC (jq (jq (jq @H7 (jq @C6 @cf137)) (jq @cf138 (jq @cf139 @am0))) (jq (jq @al9 (jq @al8 @ix114p)) (jq @ld3p (jq @ln114 @true_and))))
theorem Qt {G h a w:Hp} {R:List Hp} {tp b:Nat} {T:Tb} {r:Int} {v:Value} {l:List Want} (tb:Tab 188 a tp T) (sp:HL.Sep (a::w::R) h) (sv:Sees Kl G w v l) (g:ja T) (fw:Few T b) (hb:b+l.length<=50000):
 aj P_ G 92 #[.pointer (some ⟨tp,0,none⟩),r,v] h (fun u h'=>u = .int .i64 (jr T r l).1/\∃a',Tab 188 a' tp (jr T r l).2/\HL.Sep (a'::w::R) h'/\Dis G h'):=by
 obtain ⟨sa,cap,rfl⟩:=sv.len
 refine aj.assume fun d=>enter92 (by simp) ?_
 unfold S92
 simp only [dr]
 refine bh (fun hr=>?_) (fun hr=>?_)
 . try simp (disch:=first|decide|omega) only [dr,Nat.reduceAdd,Nat.reduceMul]
   have e:jr T r l=(1,T):=by unfold jr;rw [if_pos hr]
   rw [e]
   exact ⟨rfl,a,tb,sp,d⟩
 unfold aw9
 generalize hKK:retK P_ G _ _=KK
 refine ci (fun m q h3=>∃i:Nat,m=l.length-i/\i<=l.length/\q 0 = .pointer (some ⟨tp,0,none⟩)/\q 1 = .int .i64 r/\q 2 = .slice sa l.length cap/\q 7 = .int .i64 i/\HL.Sep (a::w::R) h3/\Dis G h3/\(l.take i).all (l8 T.length)=true) ?_
  (m:=l.length) ⟨0,rfl,Nat.zero_le _,by simp (disch:=decide) only [dr],by simp (disch:=decide) only [dr],by simp (disch:=decide) only [dr],by simp only [dr]<;>rfl,sp,d,rfl⟩
 rintro m q h3 ⟨i,rfl,hi,q0,q1,q2,q7,s3,d3,hv⟩ X HX
 unfold W7
 simp only [dr,q2,q7]
 refine bh (fun hlt=>?_) (fun hge=>?_)
 . obtain ⟨x,hx⟩:∃x,l[i]?=some x:=⟨_,List.getElem?_eq_getElem (by omega)⟩
   obtain ⟨bb,of,rfl,z0,z1,z2⟩:=Sees.want (sv.up (s3.in 1 rfl) d3) hx
   unfold Fg
   simp (disch:=first|decide|omega) only [dr,q0,q2,q7,Ld (Int.natCast_nonneg i) hlt,z0,z1,z2]
   refine (Gf (c:=x.c) (tb.see (s3.in 0 rfl))).mono ?_
   rintro _ h3 ⟨rfl,rfl⟩
   have bad:∀r1:Rg,r1 6 = .int .i64 1->l8 T.length x=false->KK .ret r1 h3:=fun r1 h6 hf=>by
    rw [<- hKK]
    have e:jr T r l=(1,T):=by unfold jr;rw [if_neg hr,if_neg (by rw [F5 hx hf];decide)]
    simp only [dr,h6,e]
    exact ⟨a,tb,s3,d3⟩
   have go:∀(K0:Exit->Rg->Hp->Prop) (r1:Rg),(∀k,k<=7->r1 k=q k)->l8 T.length x=true->yy G (bw X K0) r1 h3:=fun K0 r1 hk ht=>by
    unfold yy
    simp (disch:=first|decide|omega) only [dr,hk 7 (by decide),q7]
    exact HX (l.length-(i+1)) _ _ (by omega) ⟨i+1,rfl,by omega,by simp (disch:=decide) only [dr,hk 0 (by decide),q0],by simp (disch:=decide) only [dr,hk 1 (by decide),q1],by simp (disch:=decide) only [dr,hk 2 (by decide),q2],by simp only [dr]<;>rfl,s3,d3,by rw [Da hx,hv,ht];rfl⟩
   cases e1:inT T.length x.c with
   |false=>
    try simp only [dr,fg]
    exact bad _ (by simp only [dr]) (by unfold l8;rw [e1];rfl)
   |true=>
   try simp (disch:=first|decide|omega) only [dr,q2,q7,Ld (Int.natCast_nonneg i) hlt,z0,z1,z2]
   by_cases e2:x.f<0
   . try simp only [dr,decide_eq_true e2,fg]
     exact bad _ (by simp only [dr]) (by unfold l8;rw [decide_eq_false (show ¬0<=x.f by omega)];simp)
   try simp (disch:=first|decide|omega) only [dr,decide_eq_false e2,q2,q7,Ld (Int.natCast_nonneg i) hlt,z0,z1,z2]
   by_cases e3:x.f>=x.t
   . try simp only [dr,decide_eq_true e3,fg]
     exact bad _ (by simp only [dr]) (by unfold l8;rw [decide_eq_false (show ¬x.f<x.t by omega)];simp)
   try simp (disch:=first|decide|omega) only [dr,decide_eq_false e3,q2,q7,Ld (Int.natCast_nonneg i) hlt,z0,z1,z2]
   refine bh (fun e4=>?_) (fun e4=>?_)
   . exact bad _ (by simp only [dr]) (by unfold l8;rw [decide_eq_false (show ¬x.t<=FV by simp only [FV];omega)];simp)
   . exact go _ _ (fun k hk=>by simp (disch:=omega) only [aq]) (qa.2 ⟨th.1 e1,by omega,by omega,by simp only [FV];omega⟩)
 obtain rfl:i=l.length:=by omega
 rw [List.take_of_length_le (Nat.le_refl _)]at hv
 clear HX
 try simp (disch:=first|decide|omega) only [dr,Nat.reduceAdd,Nat.reduceMul]
 unfold aw8
 refine ci (fun m q' h3=>∃i:Nat,m=l.length-i/\i<=l.length/\q' 0 = .pointer (some ⟨tp,0,none⟩)/\q' 1 = .int .i64 r/\q' 2 = .slice sa l.length cap/\q' 8 = .int .i64 i/\HL.Sep (a::w::R) h3/\Dis G h3/\(l.take i).all (qv T r)=true) ?_
  (m:=l.length) ⟨0,rfl,Nat.zero_le _,by simp (disch:=decide) only [dr,q0],by simp (disch:=decide) only [dr,q1],by simp (disch:=decide) only [dr,q2],by simp only [dr]<;>rfl,s3,d3,rfl⟩
 clear q0 q1 q2 q7 s3 d3
 clear q h3
 rintro m q h3 ⟨i,rfl,hi,q0,q1,q2,q8,s3,d3,hf⟩ X HX
 unfold aw4
 simp only [dr,q2,q8]
 refine bh (fun hlt=>?_) (fun hge=>?_)
 . obtain ⟨x,hx⟩:∃x,l[i]?=some x:=⟨_,List.getElem?_eq_getElem (by omega)⟩
   obtain ⟨bb,of,rfl,z0,z1,z2⟩:=Sees.want (sv.up (s3.in 1 rfl) d3) hx
   obtain ⟨⟨c0,c1⟩,f0,f1,f2⟩:=qa.1 (List.all_eq_true.1 hv x (List.mem_of_getElem? hx))
   unfold L6
   simp (disch:=first|decide|omega) only [dr,q0,q1,q2,q8,Ld (Int.natCast_nonneg i) hlt,z0,z1,z2]
   refine (ah0 (r:=r) (f:=x.f) (t:=x.t) (tb.see (s3.in 0 rfl)) c0 (m7 c0 c1) (by have:=rp fw x.c;omega)).mono ?_
   rintro _ h3 ⟨rfl,rfl⟩
   cases e1:kg (rowT T x.c) r x.f x.t with
   |false=>
    try simp only [dr]
    rw [<- hKK]
    have e:jr T r l=(18,T):=by unfold jr;rw [if_neg hr,if_pos hv,if_neg (by rw [F5 hx (by unfold qv;exact e1)];decide)]
    simp only [dr,e]
    exact ⟨a,tb,s3,d3⟩
   |true=>
    try simp only [dr]
    unfold Ih
    simp (disch:=first|decide|omega) only [dr,q8]
    exact HX (l.length-(i+1)) _ _ (by omega) ⟨i+1,rfl,by omega,by simp (disch:=decide) only [dr,q0],by simp (disch:=decide) only [dr,q1],by simp (disch:=decide) only [dr,q2],by simp only [dr]<;>rfl,s3,d3,by rw [Da hx,hf];unfold qv;rw [e1];rfl⟩
 obtain rfl:i=l.length:=by omega
 rw [List.take_of_length_le (Nat.le_refl _)]at hf
 clear HX
 try simp (disch:=first|decide|omega) only [dr,Nat.reduceAdd,Nat.reduceMul]
 unfold aw7
 refine ci (fun m q' h3=>∃(i:Nat) (a':Hp),m=l.length-i/\i<=l.length/\q' 0 = .pointer (some ⟨tp,0,none⟩)/\q' 1 = .int .i64 r/\q' 2 = .slice sa l.length cap/\q' 9 = .int .i64 i/\Tab 188 a' tp (te r T (l.take i))/\HL.Sep (a'::w::R) h3/\Dis G h3) ?_
  (m:=l.length) ⟨0,a,rfl,Nat.zero_le _,by simp (disch:=decide) only [dr,q0],by simp (disch:=decide) only [dr,q1],by simp (disch:=decide) only [dr,q2],by simp only [dr]<;>rfl,tb,s3,d3⟩
 clear q0 q1 q2 q8 s3 d3
 clear q h3
 rintro m q h3 ⟨i,a3,rfl,hi,q0,q1,q2,q9,t3,s3,d3⟩ X HX
 unfold aw5
 simp only [dr,q2,q9]
 refine bh (fun hlt=>?_) (fun hge=>?_)
 . obtain ⟨x,hx⟩:∃x,l[i]?=some x:=⟨_,List.getElem?_eq_getElem (by omega)⟩
   obtain ⟨bb,of,rfl,z0,z1,z2⟩:=Sees.want (sv.up (s3.in 1 rfl) d3) hx
   obtain ⟨⟨c0,c1⟩,f0,f1,f2⟩:=qa.1 (List.all_eq_true.1 hv x (List.mem_of_getElem? hx))
   have sub:∀u∈l.take i,u∈l:=fun u hu=>List.mem_of_mem_take hu
   obtain ⟨g3,fw3,l3,k3⟩:=G2 (by omega:0<=r) (l:=l.take i) g fw (List.all_eq_true.2 fun u hu=>List.all_eq_true.1 hv u (sub u hu)) (List.all_eq_true.2 fun u hu=>List.all_eq_true.1 hf u (sub u hu))
   unfold Ma
   simp (disch:=first|decide|omega) only [dr,q0,q1,q2,q9,Ld (Int.natCast_nonneg i) hlt,z0,z1,z2]
   have hlen:(rowT (te r T (l.take i)) x.c).length<=50000:=by
    have h5:=rp fw3 x.c
    rw [List.length_take]at h5
    omega
   refine (Za (r:=r) t3 s3 c0 (m7 c0 (by rw [l3];exact c1)) (ri g3 x.c) hlen f0 f1 f2).mono ?_
   rintro _ h5 ⟨rfl,a5,t5,s5,d5⟩
   unfold L9
   simp (disch:=first|decide|omega) only [dr,q9]
   refine HX (l.length-(i+1)) _ _ (by omega) ⟨i+1,a5,rfl,by omega,by simp (disch:=decide) only [dr,q0],by simp (disch:=decide) only [dr,q1],by simp (disch:=decide) only [dr,q2],by simp only [dr]<;>rfl,?_,s5,d5⟩
   rw [Ks hx]
   exact t5
 obtain rfl:i=l.length:=by omega
 rw [List.take_of_length_le (Nat.le_refl _)]at t3
 try simp (disch:=first|decide|omega) only [dr,Nat.reduceAdd,Nat.reduceMul]
 unfold aw6
 have e:jr T r l=(0,te r T l):=by unfold jr;rw [if_neg hr,if_pos hv,if_pos hf]
 rw [<- hKK]
 simp only [dr,e]
 exact ⟨a3,t3,s3,d3⟩
end Go.Proofs.YtfflipnhffknnaaGreatDoor.Rv
end
section
namespace Go.Proofs.YtfflipnhffknnaaGreatDoor
open Go Go.HL Go.Proofs.Resv Go.Proofs.Srch
def jm:=jq bC (jq (jq (jq (jq @al97 @Sz) (jq @Us (jq @bne_self_eq_false.{0} @ab6))) (jq (jq @au9 (jq @cf24 @cf25)) (jq @cf50 (jq @cf91 @cf92)))) (jq (jq (jq @Wu (jq @Be @Eb)) (jq @fa97_0 (jq @fa97_1 @fa97_2))) (jq (jq @fa97_3 (jq @ld3 @ld97)) (jq @ln77 (jq @Zh @st97w)))))
structure Hold where
 r:Int
 c:Int
 f:Int
 t:Int
def Le:Cod Hold:=⟨4,fun s=>[.int .i64 s.r,.int .i64 s.c,.int .i64 s.f,.int .i64 s.t],fun _=>rfl,fun _ v hv=>by simp at hv;rcases hv with rfl|rfl|rfl|rfl<;>rfl⟩
def S5 (x:Hold):Prop:=Bd x.r/\Bd x.c/\Bd x.f/\Bd x.t
def yo (n:Nat) (T:Tb) (x:Hold):Tb:=(jr T (x.r % 5) [⟨x.c % (n:Int),x.f,x.t⟩]).2
def tabL (n:Nat) (l:List Hold):Tb:=(l.take 40).foldl (yo n) (List.replicate n [])
theorem A9 {n:Nat}:∀(l:List Hold) (T:Tb) (b:Nat),ja T->Few T b->ja (l.foldl (yo n) T)/\Few (l.foldl (yo n) T) (b+l.length)/\(l.foldl (yo n) T).length=T.length
 |[],T,b,g,f=>⟨g,f,rfl⟩
 |x::l,T,b,g,f=>by
  obtain ⟨g1,f1,l1⟩:=ab2 (r:=x.r % 5) (l:=[⟨x.c % (n:Int),x.f,x.t⟩]) g f
  obtain ⟨g2,f2,l2⟩:=A9 l (yo n T x) (b+1) g1 f1
  rw [List.foldl_cons]
  refine ⟨g2,fun L hL=>?_,l2.trans l1⟩
  have:=f2 L hL
  rw [List.length_cons]
  omega
theorem tab_ok (n:Nat) (l:List Hold):ja (tabL n l)/\Few (tabL n l) 100/\(tabL n l).length=n:=by
 obtain ⟨g,f,e⟩:=A9 (n:=n) (l.take 40) (List.replicate n []) 0 A3 (fun L hL=>by rw [List.eq_of_mem_replicate hL];exact Nat.le_refl _)
 refine ⟨g,fun L hL=>?_,e.trans (List.length_replicate ..)⟩
 have:=f L hL
 rw [List.length_take]at this
 omega
theorem P4 {n:Nat} {l:List Hold} {i:Nat} {x:Hold} (hx:l[i]?=some x):(l.take (i+1)).foldl (yo n) (List.replicate n [])=yo n ((l.take i).foldl (yo n) (List.replicate n [])) x:=by
 rw [List.take_add_one,hx,List.foldl_append]
 rfl
theorem Sees.hold {G h:Hp} {sa:Option Addr} {cap n:Nat} {L:List Hold} (s:Sees Le G h (.slice sa n cap) L) {i:Nat} {x:Hold} (hx:L[i]?=some x):
 ∃b o,sa=some ⟨b,o,none⟩/\aa G h ⟨b,o+i*4,none⟩=some (.int .i64 x.r)/\aa G h ⟨b,o+i*4+1,none⟩=some (.int .i64 x.c)/\aa G h ⟨b,o+i*4+2,none⟩=some (.int .i64 x.f)/\aa G h ⟨b,o+i*4+3,none⟩=some (.int .i64 x.t):=by
 obtain ⟨s',c',e,_,hc|⟨b,o,rfl,hc⟩⟩:=s
 . rw [hc]at hx;cases hx
 . cases e
   exact ⟨b,o,rfl,hc i x hx 0 (by decide),hc i x hx 1 (by decide),hc i x hx 2 (by decide),hc i x hx 3 (by decide)⟩
abbrev holdO (x:Hold):Obj := .cells #[x.r,x.c,x.f,x.t] 97 (0,0)
theorem Gs {G:Hp} {xb:Nat} {w:Want} {ty:TypeId}:Sees Rv.Kl G (noHp.set xb (.cells #[w.c,w.f,w.t] ty (0,0))) (.slice (some ⟨xb,0,none⟩) 1 1) [w]:=by
 have o:Slc Rv.Kl ty (noHp.set xb (.cells #[w.c,w.f,w.t] ty (0,0))) (.slice (some ⟨xb,0,none⟩) 1 1) [w]:=⟨some xb,1,[],rfl,by rw [af];rfl,rfl⟩
 exact o.see (by decide) (Hp.le.refl _)
theorem P3 {G h:Hp} {v lv:Value} {C:Conf} {l:List Hold} (hv:CV G h v C) (sm:SmO C) (hl:zh Le G lv l) (hb:∀x∈l,S5 x):
 aj P_ G 42 #[v,lv] h (fun u h'=>∃a1 a2 t1 t2,u = .tuple #[.pointer (some ⟨t1,0,none⟩),.pointer (some ⟨t2,0,none⟩),.bool true]/\
  Rv.Tab 124 a1 t1 (tabL (C.w*C.h).toNat l)/\Rv.Tab 188 a2 t2 (tabL (C.w*C.h).toNat l)/\HL.Sep [a1,a2,h] h'/\Dis G h'):=by
 obtain ⟨ab,cb,ap,cp,ar,cr,az,cs,rfl,ca⟩:=hv
 obtain ⟨n1,n2,n3,n4⟩:=Qe sm
 refine aj.assume fun d=>enter42 (by simp) ?_
 unfold S42
 simp (disch:=first|decide|omega) only [jm]
 intro xc hxc gxc
 have s0:=(HL.Sep.one (h:=h)).past (o := .cells #[C.w,C.h,C.ht,.slice ab C.bl.length cb,.slice ap C.po.length cp,.slice ar C.ro.length cr,.slice az C.st.length cs,C.un,C.ac,C.sp,C.tu,C.ho,C.qu,C.re,C.bu,.bool C.back] 26 (0,0)) hxc
 generalize e1:Hp.set h xc _=h1 at*
 obtain ⟨l1,d1,bc1⟩:=boxed e1 hxc d gxc
 have cc:∀{h':Hp},h1.le h'->∀k,aa G h' ⟨xc,k,none⟩=_:=fun l k=>ai (ag (l _ _ bc1))
 try simp (disch:=first|decide|omega) only [jm,Nat.reduceAdd,Nat.reduceMul,cc (Hp.le.refl _)]
 first|rw [n3]|rw [<- n4]
 generalize hn:(C.w*C.h).toNat=n at*
 refine (Rv.um (n:=n) (by omega) (by omega)).mono ?_
 rintro _ h2 ⟨a1,t1,rfl,tab1,s2,d2⟩
 try simp (disch:=first|decide|omega) only [jm,cc (s2.in 1 rfl)]
 first|rw [n3]|rw [<- n4]
 refine (Rv.Zd (n:=n) (by omega) (by omega)).mono ?_
 rintro _ h3 ⟨a2,t2,rfl,tab2,s3,d3⟩
 try simp (disch:=first|decide|omega) only [jm,Nat.reduceAdd,Nat.reduceMul]
 have s4:HL.Sep [a1,a2,h1] h3:=(HL.Sep.open (L:=[a1,h1]) (R:=[a2]) s3.swap s2).sel [0,2,1] (by decide) rfl
 unfold aB0
 generalize hKK:retK P_ G _ _=KK
 obtain ⟨la,lc,rfl,_⟩:=(hl h d).len
 refine ci (fun m p h'=>∃(i:Nat) (a1 a2:Hp),m=40-i/\i<=40/\i<=l.length/\p 1 = .slice la l.length lc/\p 2 = .pointer (some ⟨xc,0,none⟩)/\p 7 = .pointer (some ⟨t1,0,none⟩)/\p 9 = .pointer (some ⟨t2,0,none⟩)/\p 10 = .int .i64 i/\
  Rv.Tab 124 a1 t1 ((l.take i).foldl (yo n) (List.replicate n []))/\Rv.Tab 188 a2 t2 ((l.take i).foldl (yo n) (List.replicate n []))/\HL.Sep [a1,a2,h1] h'/\Dis G h') ?_ (m:=40)
  ⟨0,a1,a2,rfl,by omega,by omega,by simp (disch:=decide) only [jm],by simp (disch:=decide) only [jm],by simp (disch:=decide) only [jm],by simp (disch:=decide) only [jm],by simp only [jm];rfl,tab1,tab2,s4,d3⟩
 clear tab1 tab2 s4 d3 s3 d2 s2
 rintro m p h4 ⟨i,a1,a2,rfl,hi,hil,g1,g2,g7,g9,g10,tab1,tab2,s,d4⟩ X hX
 obtain ⟨gT,fT,lT⟩:=A9 (n:=n) (l.take i) (List.replicate n []) 0 A3 (fun L hL=>by rw [List.eq_of_mem_replicate hL];exact Nat.le_refl _)
 rw [List.length_replicate]at lT
 generalize hT:(l.take i).foldl (yo n) (List.replicate n [])=T at*
 have fin:¬(i<l.length/\i<40)->T=tabL n l:=fun hh=>by
  rw [<- hT]
  unfold tabL
  by_cases h40:i=40
  . rw [h40]
  . have:i=l.length:=by omega
    rw [this,List.take_length,List.take_of_length_le (by omega)]
 unfold aA9
 simp only [jm,g10,g1]
 have go:¬(i<l.length/\i<40)->∀r':Rg,r' 7 = .pointer (some ⟨t1,0,none⟩)->r' 9 = .pointer (some ⟨t2,0,none⟩)->bj 0 (bw (U8 G KK) KK) (.exit 0) r' h4:=fun hh r' e7 e9=>by
  try simp only [jm]
  unfold U8
  rw [<- hKK]
  try simp (disch:=decide) only [jm,e7,e9]
  have s5:=((s.sel (L':=[h1,a1,a2]) [2,0,1] (by decide) rfl).cut l1).sel (L':=[a1,a2,h]) [1,2,0] (by decide) rfl
  refine ⟨a1,a2,t1,t2,rfl,?_,?_,s5,d4⟩
  . rw [<- fin hh];exact tab1
  . rw [<- fin hh];exact tab2
 by_cases q1:(i:Int)<l.length
 rotate_left
 . try simp only [jm,i9 q1,fg]
   exact go (by omega) _ (by simp (disch:=decide) only [jm,g7]) (by simp (disch:=decide) only [jm,g9])
 by_cases q2:(i:Int)<40
 rotate_left
 . try simp only [jm,iy q1,i9 q2]
   exact go (by omega) _ (by simp (disch:=decide) only [jm,g7]) (by simp (disch:=decide) only [jm,g9])
 try simp only [jm,iy q1,iy q2]
 obtain ⟨y,hy⟩:∃y,l[i]?=some y:=⟨_,List.getElem?_eq_getElem (by omega)⟩
 have hyb:=hb y (List.mem_of_getElem? hy)
 obtain ⟨b,o,rfl,c0,c1,c2,c3⟩:=Sees.hold (hl h4 d4) hy
 unfold M1
 simp -implicitDefEqProofs (maxSteps:=2000000) (disch:=first|decide|with_reducible exact Nat.ne_of_beq_eq_false rfl|exact ao|exact am|omega|rfl|(simp;done)|fail) only [jm,g1,g10,ix77 (Int.natCast_nonneg i) q1,c0,c1,c2,c3]
 intro x hx gx
 try simp (disch:=first|decide|omega) only [jm,Nat.reduceAdd,Nat.reduceMul]
 generalize e5:Hp.set h4 x _=h5 at*
 obtain ⟨l5,d5,bx5⟩:=boxed e5 hx d4 gx
 have s5:=s.past (o:=holdO y) hx
 rw [e5]at s5
 have cx5:∀k,aa G h5 ⟨x,k,none⟩=_:=fun k=>ai (ag bx5)
 try simp (disch:=first|decide|omega) only [jm,Nat.reduceAdd,Nat.reduceMul,cx5]
 refine (Aw (a:=y.r) (n:=5) hyb.1 (by decide) (by decide)).mono ?_
 rintro _ h5 ⟨rfl,rfl⟩
 have yr0:=Int.emod_nonneg y.r (by decide:(5:Int)≠0)
 try simp (disch:=first|decide|omega) only [jm,Nat.reduceAdd,Nat.reduceMul]
 rw [di sz3 rfl bx5 (by simp)]
 try simp only [jm]
 rw [<- e5,set_set]
 generalize e6:Hp.set h4 x _=h6
 obtain ⟨l6,d6,bx6⟩:=boxed e6 hx d4 gx
 have s6:=s.past (o := .cells #[.int .i64 (y.r % 5),y.c,y.f,y.t] 97 (0,0)) hx
 rw [show h4.set x (.cells #[.int .i64 (y.r % 5),y.c,y.f,y.t] 97 (0,0))=h6 from e6]at s6
 have cx6:∀k,aa G h6 ⟨x,k,none⟩=_:=fun k=>ai (ag bx6)
 try simp (disch:=first|decide|omega) only [jm,cx6,g2,cc (s6.in 2 rfl)]
 first|rw [n3]|rw [<- n4]
 refine (Aw (a:=y.c) (n:=(n:Int)) hyb.2.1 (by omega) (by omega)).mono ?_
 rintro _ h6 ⟨rfl,rfl⟩
 try simp (disch:=first|decide|omega) only [jm,Nat.reduceAdd,Nat.reduceMul]
 rw [di sz3 rfl bx6 (by simp)]
 try simp only [jm]
 rw [<- e6,set_set]
 generalize e7:Hp.set h4 x _=h7
 obtain ⟨l7,d7,bx7⟩:=boxed e7 hx d4 gx
 have s7:=s.new (o := .cells #[.int .i64 (y.r % 5),.int .i64 (y.c % (n:Int)),y.f,y.t] 97 (0,0)) hx
 rw [show h4.set x (.cells #[.int .i64 (y.r % 5),.int .i64 (y.c % (n:Int)),y.f,y.t] 97 (0,0))=h7 from e7]at s7
 intro w hw gw
 have s8:=(s7.new (o := .cells #[.int .i64 (y.c % (n:Int)),y.f,y.t] 75 (0,0)) hw)
 have d8:=d7.set (o := .cells #[.int .i64 (y.c % (n:Int)),y.f,y.t] 75 (0,0)) gw
 generalize Hp.set h7 w _=h8 at s8 d8 ⊢
 rw [g7]
 refine (Rv.Ul (r:=y.r % 5) (l:=[⟨y.c % (n:Int),y.f,y.t⟩]) tab1 (s8.sel [2,0,1,3,4] (by decide) rfl) (Gs (w:=⟨y.c % (n:Int),y.f,y.t⟩)) gT fT (by simp;omega)).mono ?_
 rintro _ h9 ⟨rfl,a1',tab1',s9,d9⟩
 have cx9:∀k,aa G h9 ⟨x,k,none⟩=_:=fun k=>ai (ag (s9.at 2 rfl af))
 try simp only [jm,cx9]
 intro w2 hw2 gw2
 have s10:=(s9.new (o := .cells #[.int .i64 (y.c % (n:Int)),y.f,y.t] 186 (0,0)) hw2)
 have d10:=d9.set (o := .cells #[.int .i64 (y.c % (n:Int)),y.f,y.t] 186 (0,0)) gw2
 generalize Hp.set h9 w2 _=h10 at s10 d10 ⊢
 rw [g9]
 refine (Rv.Qt (r:=y.r % 5) (l:=[⟨y.c % (n:Int),y.f,y.t⟩]) tab2 (s10.sel [4,0,1,5] (by decide) rfl) (Gs (w:=⟨y.c % (n:Int),y.f,y.t⟩)) gT fT (by simp;omega)).mono ?_
 rintro _ h11 ⟨rfl,a2',tab2',s11,d11⟩
 try simp only [jm]
 unfold M0
 try simp (disch:=first|decide|omega) only [jm,g10]
 refine hX (40-(i+1)) _ _ (by omega) ⟨i+1,a1',a2',rfl,by omega,by omega,by simp (disch:=decide) only [jm,g1],by simp (disch:=decide) only [jm,g2],by simp (disch:=decide) only [jm,g7],by simp (disch:=decide) only [jm,g9],by simp only [jm];rfl,?_,?_,s11.sel [2,0,3] (by decide) rfl,d11⟩
 . rw [P4 hy,hT];exact tab1'
 . rw [P4 hy,hT];exact tab2'
def dh:=jq bC (jq (jq (jq @fh (jq @cf101 @cf41)) (jq @vn (jq @vm @vl))) (jq (jq @ix99 (jq @Cm @ur)) (jq @ld3 (jq @ln22 @ln99))))
def ry (C:Conf) (T:Tb) (r:Int) (L:List Cell) (a b:Int):Bool:=L.all fun c=>kg (rowT T (numR C c)) r a b
theorem Hj {C:Conf} (mk:fc C) {T:Tb} {r a b:Int} {L:List Cell} (h:Yw C T r L a b):ry C T r L a b=true:=by
 unfold ry
 rw [List.all_eq_true]
 intro c hc
 rw [<- num_eq mk]
 exact (h c hc).2
theorem Ay {G h:Hp} {v cv:Value} {C:Conf} {tp bb:Nat} {T:Tb} {r a b:Int} {cells:List Cell} (hv:CV G h v C) (hw:C.w<=16) (hh:C.h<=16) (ts:Rv.TSee G h tp T) (fw:Few T bb) (hbb:bb<=50000) (sc:Sees cj G h cv cells) (hc:cells.length<=300):
 aj Tryz.prog G 47 #[v,.pointer (some ⟨tp,0,none⟩),r,cv,a,b] h (fun u h'=>u = .bool (ry C T r cells a b)/\h'=h):=by
 have hv0:=hv
 obtain ⟨ab,cb,ap,cp,ar,cr,az,cs,rfl,ca⟩:=hv
 obtain ⟨va,cc,rfl⟩:=sc.len
 refine aj.assume fun d=>quietly (enter47 (by simp) ?_)
 unfold S47
 simp only [dh]
 intro xc hxc gxc
 generalize e1:Hp.set h xc _=h1 at*
 obtain ⟨l1,d1,bc1⟩:=boxed e1 hxc d gxc
 have c1:∀k,aa G h1 ⟨xc,k,none⟩=_:=fun k=>ai (ag bc1)
 have ca1:=ca.up l1 d1
 have ts1:=ts.up l1 d1
 have sc1:=sc.up l1 d1
 generalize hKK:retK Tryz.prog G _ _=KK
 refine ci (fun m p h'=>∃i:Nat,m=cells.length-i/\i<=cells.length/\p 1 = .pointer (some ⟨tp,0,none⟩)/\p 2 = .int .i64 r/\p 3 = .slice va cells.length cc/\p 4 = .int .i64 a/\p 5 = .int .i64 b/\p 6 = .pointer (some ⟨xc,0,none⟩)/\p 13 = .int .i64 i/\h'=h1/\ry C T r (cells.take i) a b=true) ?_ (m:=cells.length)
  ⟨0,rfl,by omega,by simp (disch:=decide) only [dh],by simp (disch:=decide) only [dh],by simp (disch:=decide) only [dh],by simp (disch:=decide) only [dh],by simp (disch:=decide) only [dh],by simp (disch:=decide) only [dh],by simp only [dh];rfl,rfl,rfl⟩
 rintro m p h2 ⟨i,rfl,hi,g1,g2,g3,g4,g5,g6,g13,rfl,hf⟩ X hX
 unfold aA1
 simp only [dh,g3,g13]
 refine bh (fun hlt=>?_) (fun hge=>?_)
 rotate_left
 . obtain rfl:i=cells.length:=by omega
   rw [List.take_length]at hf
   try simp (disch:=first|decide|omega) only [dh,Nat.reduceAdd,Nat.reduceMul]
   unfold O5
   rw [<- hKK]
   try simp only [dh]
   exact ⟨by rw [hf],l1⟩
 obtain ⟨c,hcx⟩:∃c,cells[i]?=some c:=⟨_,List.getElem?_eq_getElem (by omega)⟩
 obtain ⟨bb',o,rfl,z1,z2⟩:=Sees.cell sc1 hcx
 unfold Mx
 simp (disch:=decide) only [dh,g6,g3,g13,c1,qn (Int.natCast_nonneg i) hlt,z1,z2]
 refine (Nm (c:=c) ca1.cv hw hh).mono ?_
 rintro _ h2 ⟨rfl,rfl⟩
 try simp only [dh,g1]
 refine (Rv.Ql (c:=numR C c) ts1).mono ?_
 rintro sv h2 ⟨ss,rfl⟩
 have hstep:ry C T r (cells.take (i+1)) a b=kg (rowT T (numR C c)) r a b:=by
  unfold ry at*
  rw [List.take_add_one,hcx,List.all_append,hf]
  simp
 have hno:kg (rowT T (numR C c)) r a b=false->ry C T r cells a b=false:=fun hh=>by
  unfold ry
  rw [List.all_eq_false]
  exact ⟨c,List.mem_of_getElem? hcx,by rw [hh];simp⟩
 have hL:=rp fw (numR C c)
 generalize rowT T (numR C c)=L at*
 obtain ⟨sa,cap,rfl⟩:=ss.len
 refine ci (fun m p h'=>∃k:Nat,m=L.length-k/\k<=L.length/\p 1 = .pointer (some ⟨tp,0,none⟩)/\p 2 = .int .i64 r/\p 3 = .slice (some ⟨bb',o,none⟩) cells.length cc/\p 4 = .int .i64 a/\p 5 = .int .i64 b/\p 6 = .pointer (some ⟨xc,0,none⟩)/\p 13 = .int .i64 i/\p 14 = .slice sa L.length cap/\p 15 = .int .i64 k/\h'=h2/\kg (L.take k) r a b=true) ?_ (m:=L.length)
  ⟨0,rfl,by omega,by simp (disch:=decide) only [dh,g1],by simp (disch:=decide) only [dh,g2],by simp (disch:=decide) only [dh,g3],by simp (disch:=decide) only [dh,g4],by simp (disch:=decide) only [dh,g5],by simp (disch:=decide) only [dh,g6],by simp (disch:=decide) only [dh,g13],by simp (disch:=decide) only [dh],by simp only [dh];rfl,rfl,rfl⟩
 rintro m p h3 ⟨k,rfl,hk,g1,g2,g3,g4,g5,g6,g13,g14,g15,rfl,hfk⟩ Y hY
 unfold Mw
 simp only [dh,g14,g15]
 refine bh (fun hlt2=>?_) (fun hge2=>?_)
 rotate_left
 . obtain rfl:k=L.length:=by omega
   rw [List.take_length]at hfk
   try simp (disch:=first|decide|omega) only [dh,Nat.reduceAdd,Nat.reduceMul]
   unfold Ei
   try simp (disch:=first|decide|omega) only [dh,g13]
   exact hX (cells.length-(i+1)) _ _ (by omega) ⟨i+1,rfl,by omega,by simp (disch:=decide) only [dh,g1],by simp (disch:=decide) only [dh,g2],by simp (disch:=decide) only [dh,g3],by simp (disch:=decide) only [dh,g4],by simp (disch:=decide) only [dh,g5],by simp (disch:=decide) only [dh,g6],by simp only [dh];rfl,rfl,by rw [hstep];exact hfk⟩
 obtain ⟨s,hs⟩:∃s,L[k]?=some s:=⟨_,List.getElem?_eq_getElem (by omega)⟩
 obtain ⟨sb,so,rfl,y0,y1,y2⟩:=Rv.Sees.slot ss hs
 unfold Di
 simp (disch:=decide) only [dh,g14,g15,g2,g4,g5,ix99 (Int.natCast_nonneg k) hlt2,y0,y1,y2]
 have bad:(s.r==r || !(decide (s.f<b)&&decide (a<s.t)))=false->(Value.bool false = .bool (ry C T r cells a b)/\h.le h3):=fun hh=>
  ⟨by rw [hno (Rv.Hi hs hh)],l1⟩
 have k7:∀q':Rg,q' 1 = .pointer (some ⟨tp,0,none⟩)->q' 2 = .int .i64 r->q' 3 = .slice (some ⟨bb',o,none⟩) cells.length cc->q' 4 = .int .i64 a->q' 5 = .int .i64 b->q' 6 = .pointer (some ⟨xc,0,none⟩)->q' 13 = .int .i64 i->q' 14 = .slice (some ⟨sb,so,none⟩) L.length cap->q' 15 = .int .i64 k->(s.r==r || !(decide (s.f<b)&&decide (a<s.t)))=true->vw G (bw Y (bj 2 (bj 1 (bw (Ei G (bw X (bj 0 (bw (O5 G KK) KK)))) (bw X (bj 0 (bw (O5 G KK) KK))))))) q' h3:=by
  intro q' p1 p2 p3 p4 p5 p6 p13 p14 p15 hc'
  unfold vw
  simp (disch:=first|decide|omega) only [dh,p15]
  exact hY (L.length-(k+1)) _ _ (by omega) ⟨k+1,rfl,by omega,by simp (disch:=decide) only [dh,p1],by simp (disch:=decide) only [dh,p2],by simp (disch:=decide) only [dh,p3],by simp (disch:=decide) only [dh,p4],by simp (disch:=decide) only [dh,p5],by simp (disch:=decide) only [dh,p6],by simp (disch:=decide) only [dh,p13],by simp (disch:=decide) only [dh,p14],by simp only [dh];rfl,rfl,by rw [Rv.D7 hs,hfk,hc'];rfl⟩
 cases hb:(s.r != r)with
 |false=>
  try simp only [dh,fg,hb]
  exact k7 _ (by simp (disch:=decide) only [dh,g1]) (by simp (disch:=decide) only [dh,g2]) (by simp (disch:=decide) only [dh,g3]) (by simp (disch:=decide) only [dh,g4]) (by simp (disch:=decide) only [dh,g5]) (by simp (disch:=decide) only [dh,g6]) (by simp (disch:=decide) only [dh,g13]) (by simp (disch:=decide) only [dh,g14]) (by simp (disch:=decide) only [dh,g15]) (by simp at hb;simp [hb])
 |true=>
  try simp (disch:=first|decide|omega) only [dh,hb,y0]
  by_cases hb2:s.f<b
  . try simp (disch:=first|decide|omega) only [dh,decide_eq_true hb2,y1]
    by_cases hb3:a<s.t
    . try simp only [dh,decide_eq_true hb3]
      rw [<- hKK]
      try simp only [dh]
      exact bad (by simp at hb;simp [hb,hb2,hb3])
    . try simp only [dh,decide_eq_false hb3]
      exact k7 _ (by simp (disch:=decide) only [dh,g1]) (by simp (disch:=decide) only [dh,g2]) (by simp (disch:=decide) only [dh,g3]) (by simp (disch:=decide) only [dh,g4]) (by simp (disch:=decide) only [dh,g5]) (by simp (disch:=decide) only [dh,g6]) (by simp (disch:=decide) only [dh,g13]) (by simp (disch:=decide) only [dh,g14]) (by simp (disch:=decide) only [dh,g15]) (by simp [hb3])
  . try simp only [dh,decide_eq_false hb2,fg]
    exact k7 _ (by simp (disch:=decide) only [dh,g1]) (by simp (disch:=decide) only [dh,g2]) (by simp (disch:=decide) only [dh,g3]) (by simp (disch:=decide) only [dh,g4]) (by simp (disch:=decide) only [dh,g5]) (by simp (disch:=decide) only [dh,g6]) (by simp (disch:=decide) only [dh,g13]) (by simp (disch:=decide) only [dh,g14]) (by simp (disch:=decide) only [dh,g15]) (by simp [hb2])
end Go.Proofs.YtfflipnhffknnaaGreatDoor
end
section
namespace Go.Proofs.YtfflipnhffknnaaGreatDoor
open Go Go.HL
section
variable (G:Hp) (K:EK) (r:Rg) (h:Hp)
def md31:Nat->Hint
 |_=>mh false [] [] [] false
def S31:Prop:=
 o_ G (Instr.box 54 (r 0)) h fun v0 h0=>o_ G (Instr.loadAt 54 v0) h0 fun v1 h1=>
 c_ G 73 #[v1,(r 1)] h1 fun v2 h2=>o_ G (Builtin.len_ #[168] 3 #[v2]) h2 fun v3 h3=>
 K .ret (u7 r 2 v0 4 (.int .i64 0) 5 v1 6 (r 1) 7 v2 8 v3 4 v3) h3
theorem enter31:Ent 9 31 [.tmp 4] S31:=ent_ (m:=md31) (c:=(Tryz.f31.body.getD .skip)) (fun _ _ _ _=>by kernel_rfl) Tryz.func31 rfl rfl rfl
def md73:Nat->Hint
 |_=>mh false [] [] [] false
def ay4 (G:Hp) (K:EK) (r:Rg) (h:Hp):Prop:=
 K .ret (u2 r 43 (r 5) 4 (r 5)) h
def Mj:Prop:=
 o_ G (Instr.loadAt 54 (r 2)) h fun v13 h13=>o_ G (Instr.fieldAt 54 (r 2) 0) h13 fun v14 h14=>o_ G (Instr.loadAt 3 v14) h14 fun v15 h15=>o_ G (binOp .mul 3 (r 1) v15) h15 fun v16 h16=>o_ G (binOp .sub 3 v16 (r 6)) h16 fun v17 h17=>o_ G (Instr.fieldAt 54 (r 2) 2) h17 fun v18 h18=>o_ G (Instr.loadAt 3 v18) h18 fun v19 h19=>
 c_ G 125 #[v13,v17,(r 7),v19] h19 fun v20 h20=>o_ G (binOp .add 3 (r 6) v20) h20 fun v21 h21=>o_ G (Instr.buildSlice 168 1 #[(0,v21)]) h21 fun v22 h22=>o_ G (Builtin.append_ #[168,168] 168 #[(r 5),v22]) h22 fun v23 h23=>
 K .normal (upd (u10 (u10 r 25 v13 26 (r 1) 27 v14 28 v15 29 v16 30 (r 6) 31 v17 32 (r 7) 33 v18 34 v19) 35 v20 7 v20 36 (r 6) 37 v20 38 v21 6 v21 39 (r 5) 40 v21 41 v22 42 v23) 5 v23) h23
def ay3 (r:Rg) (h:Hp) (K:EK):Prop:=
 o_ G (Instr.fieldAt 54 (r 2) 0) h fun v9 h9=>o_ G (Instr.loadAt 3 v9) h9 fun v10 h10=>o_ G (binOp .mul 3 (r 1) v10) h10 fun v11 h11=>o_ G (binOp .lss 3 (r 6) v11) h11 fun v12 h12=>
 (fun q=>cond v12
 (Mj G K q h12)
 (K (.exit 0) q h12))
 (u6 r 19 (r 6) 20 (r 1) 21 v9 22 v10 23 v11 24 v12)
def ay5:Prop:=
 dc (ay3 G) (u3 r 5 (.slice none 0 0) 6 (.int .i64 0) 7 (.int .i64 0)) h (bj 0 (bw (ay4 G K) K))
def S73:Prop:=
 o_ G (Instr.box 54 (r 0)) h fun v0 h0=>o_ G (binOp .lss 3 (r 1) (.int .i64 1)) h0 fun v1 h1=>g_ v1 false (fun K1=>K1 (r 1) h1) h1 fun v2 h2=>g_ v1 false (o_ G (binOp .gtr 3 v2 (.int .i64 16)) h2) h2 fun v3 h3=>
 opH P_ G (bf v1 (.bool true) v3) h3 fun v4 h4=>g_ v4 false (o_ G (Instr.loadAt 54 v0) h4) h4 fun v5 h5=>g_ v4 false (c_ G 124 #[v5] h5) h5 fun v6 h6=>g_ v4 false (o_ G (Op.unary .not v6) h6) h6 fun v7 h7=>
 opH P_ G (bf v4 (.bool true) v7) h7 fun v8 h8=>
 (fun q=>cond v8
 (K .ret (upd q 4 (.slice none 0 0)) h8)
 (ay5 G K q h8))
 (u3 (u10 r 2 v0 4 (.slice none 0 0) 8 (r 1) 9 v1 10 v1 11 v2 12 v3 13 v4 14 v4 15 v5) 16 v6 17 v7 18 v8)
theorem enter73:Ent 44 73 [.tmp 4] S73:=ent_ (m:=md73) (c:=(Tryz.f73.body.getD .skip)) (fun _ _ _ _=>by kernel_rfl) Tryz.func73 rfl rfl rfl
def md124:Nat->Hint
 |_=>mh false [] [] [] false
def S124:Prop:=
 o_ G (Instr.box 54 (r 0)) h fun v0 h0=>o_ G (Instr.fieldAt 54 v0 0) h0 fun v1 h1=>o_ G (Instr.loadAt 3 v1) h1 fun v2 h2=>o_ G (binOp .geq 3 v2 (.int .i64 1)) h2 fun v3 h3=>g_ v3 true (o_ G (Instr.fieldAt 54 v0 0) h3) h3 fun v4 h4=>g_ v3 true (o_ G (Instr.loadAt 3 v4) h4) h4 fun v5 h5=>g_ v3 true (o_ G (binOp .leq 3 v5 (.int .i64 1000)) h5) h5 fun v6 h6=>
 opH P_ G (bf v3 v6 (.bool false)) h6 fun v7 h7=>g_ v7 true (o_ G (Instr.fieldAt 54 v0 1) h7) h7 fun v8 h8=>g_ v7 true (o_ G (Instr.loadAt 3 v8) h8) h8 fun v9 h9=>g_ v7 true (o_ G (binOp .geq 3 v9 (.int .i64 1)) h9) h9 fun v10 h10=>
 opH P_ G (bf v7 v10 (.bool false)) h10 fun v11 h11=>g_ v11 true (o_ G (Instr.fieldAt 54 v0 1) h11) h11 fun v12 h12=>g_ v11 true (o_ G (Instr.loadAt 3 v12) h12) h12 fun v13 h13=>g_ v11 true (o_ G (binOp .leq 3 v13 (.int .i64 1000)) h13) h13 fun v14 h14=>
 opH P_ G (bf v11 v14 (.bool false)) h14 fun v15 h15=>g_ v15 true (o_ G (Instr.fieldAt 54 v0 2) h15) h15 fun v16 h16=>g_ v15 true (o_ G (Instr.loadAt 3 v16) h16) h16 fun v17 h17=>g_ v15 true (o_ G (binOp .geq 3 v17 (.int .i64 1)) h17) h17 fun v18 h18=>
 opH P_ G (bf v15 v18 (.bool false)) h18 fun v19 h19=>g_ v19 true (o_ G (Instr.fieldAt 54 v0 2) h19) h19 fun v20 h20=>g_ v19 true (o_ G (Instr.loadAt 3 v20) h20) h20 fun v21 h21=>g_ v19 true (o_ G (binOp .leq 3 v21 (.int .i64 1000)) h21) h21 fun v22 h22=>
 opH P_ G (bf v19 v22 (.bool false)) h22 fun v23 h23=>
 K .ret (upd (u10 (u10 (u10 r 1 v0 2 (.bool false) 3 v1 4 v2 5 v3 6 v3 7 v4 8 v5 9 v6 10 v7) 11 v7 12 v8 13 v9 14 v10 15 v11 16 v11 17 v12 18 v13 19 v14 20 v15) 21 v15 22 v16 23 v17 24 v18 25 v19 26 v19 27 v20 28 v21 29 v22 30 v23) 2 v23) h23
theorem as1:Ent 31 124 [.tmp 2] S124:=ent_ (m:=md124) (c:=(Tryz.f124.body.getD .skip)) (fun _ _ _ _=>by kernel_rfl) Tryz.func124 rfl rfl rfl
def md125:Nat->Hint
 |_=>mh false [] [] [] false
def Pu (G:Hp) (K:EK) (r:Rg) (h:Hp):Prop:=
 K .ret (u2 r 35 (r 9) 8 (r 9)) h
def Jn:Prop:=
 o_ G (binOp .sub 3 (r 9) (.int .i64 1)) h fun v15 h15=>
 K .normal (u3 r 33 (r 9) 34 v15 9 v15) h15
def Yc (r:Rg) (h:Hp) (K:EK):Prop:=
 o_ G (binOp .gtr 3 (r 9) (.int .i64 1)) h fun v6 h6=>g_ v6 true (o_ G (Instr.loadAt 54 (r 4)) h6) h6 fun v7 h7=>g_ v6 true (fun K1=>K1 (r 9) h7) h7 fun v8 h8=>g_ v6 true (c_ G 153 #[v7,v8] h8) h8 fun v9 h9=>g_ v6 true (fun K1=>K1 (r 1) h9) h9 fun v10 h10=>g_ v6 true (fun K1=>K1 (r 9) h10) h10 fun v11 h11=>g_ v6 true (o_ G (binOp .sub 3 v10 v11) h11) h11 fun v12 h12=>g_ v6 true (o_ G (binOp .gtr 3 v9 v12) h12) h12 fun v13 h13=>
 opH P_ G (bf v6 v13 (.bool false)) h13 fun v14 h14=>
 (fun q=>cond v14
 (Jn G K q h14)
 (K (.exit 0) q h14))
 (upd (u10 r 22 (r 9) 23 v6 24 v6 25 v7 26 v8 27 v9 28 v10 29 v11 30 v12 31 v13) 32 v14)
def F7:Prop:=
 dc (Yc G) r h (bj 0 (bw (Pu G K) K))
def F8:Prop:=
 o_ G (binOp .gtr 3 (r 9) (r 1)) h fun v5 h5=>
 cond v5
 (F7 G K (u5 r 18 (r 9) 19 (r 1) 20 v5 21 (r 1) 9 (r 1)) h5)
 (F7 G K (u3 r 18 (r 9) 19 (r 1) 20 v5) h5)
def S125:Prop:=
 o_ G (Instr.box 54 (r 0)) h fun v0 h0=>o_ G (Instr.fieldAt 54 v0 1) h0 fun v1 h1=>o_ G (Instr.loadAt 3 v1) h1 fun v2 h2=>o_ G (binOp .add 3 (r 2) v2) h2 fun v3 h3=>o_ G (binOp .gtr 3 v3 (r 3)) h3 fun v4 h4=>
 (fun q=>cond v4
 (F8 G K (u2 q 17 (r 3) 9 (r 3)) h4)
 (F8 G K q h4))
 (u10 r 4 v0 8 (.int .i64 0) 10 (r 2) 11 v1 12 v2 13 v3 9 v3 14 v3 15 (r 3) 16 v4)
theorem as0:Ent 36 125 [.tmp 8] S125:=ent_ (m:=md125) (c:=(Tryz.f125.body.getD .skip)) (fun _ _ _ _=>by kernel_rfl) Tryz.func125 rfl rfl rfl
def md153:Nat->Hint
 |_=>mh false [] [] [] false
def Xm (G:Hp) (K:EK) (r:Rg) (h:Hp):Prop:=
 K .ret (u2 r 19 (r 5) 4 (r 5)) h
def Iz:Prop:=
 o_ G (Instr.fieldAt 54 (r 2) 1) h fun v5 h5=>o_ G (Instr.loadAt 3 v5) h5 fun v6 h6=>o_ G (binOp .sub 3 (r 1) v6) h6 fun v7 h7=>
 K .normal (u5 r 12 (r 1) 13 v5 14 v6 15 v7 1 v7) h7
def I0:Prop:=
 o_ G (binOp .add 3 (r 5) (r 1)) h fun v8 h8=>
 Iz G K (u4 r 16 (r 5) 17 (r 1) 18 v8 5 v8) h8
def Xl (r:Rg) (h:Hp) (K:EK):Prop:=
 o_ G (binOp .gtr 3 (r 1) (.int .i64 0)) h fun v4 h4=>
 cond v4
 (I0 G K (u2 r 10 (r 1) 11 v4) h4)
 (K (.exit 0) (u2 r 10 (r 1) 11 v4) h4)
def S153:Prop:=
 o_ G (Instr.box 54 (r 0)) h fun v0 h0=>o_ G (Instr.fieldAt 54 v0 1) h0 fun v1 h1=>o_ G (Instr.loadAt 3 v1) h1 fun v2 h2=>o_ G (binOp .sub 3 (r 1) v2) h2 fun v3 h3=>
 dc (Xl G) (u8 r 2 v0 4 (.int .i64 0) 5 (.int .i64 0) 6 (r 1) 7 v1 8 v2 9 v3 1 v3) h3 (bj 0 (bw (Xm G K) K))
theorem ap5:Ent 20 153 [.tmp 4] S153:=ent_ (m:=md153) (c:=(Tryz.f153.body.getD .skip)) (fun _ _ _ _=>by kernel_rfl) Tryz.func153 rfl rfl rfl
def md93:Nat->Hint
 |_=>mh false [] [] [] false
def S93:Prop:=
 o_ G (Instr.box 26 (r 0)) h fun v0 h0=>o_ G (Instr.alloc 54 true (.tuple #[])) h0 fun v1 h1=>o_ G (Instr.fieldAt 26 v0 7) h1 fun v2 h2=>o_ G (Instr.loadAt 3 v2) h2 fun v3 h3=>o_ G (Instr.fieldAt 26 v0 8) h3 fun v4 h4=>o_ G (Instr.loadAt 3 v4) h4 fun v5 h5=>o_ G (Instr.fieldAt 26 v0 9) h5 fun v6 h6=>o_ G (Instr.loadAt 3 v6) h6 fun v7 h7=>o_ G (Instr.build 54 #[(0,v3),(1,v5),(2,v7)]) h7 fun v8 h8=>
 opH P_ G (su (Instr.storeAt 54 v1 v8)) h8 fun v9 h9=>
 K .ret (u9 r 1 v0 2 v1 3 v2 4 v3 5 v4 6 v5 7 v6 8 v7 9 v8) h9
theorem enter93:Ent 10 93 [.cell 2 54] S93:=ent_ (m:=md93) (c:=(Tryz.f93.body.getD .skip)) (fun _ _ _ _=>by kernel_rfl) Tryz.func93 rfl rfl rfl
def md46:Nat->Hint
 |3=>mh false [0,1,0,4,15,31] [m_,e_,n_,m_,e_,n_] [false,true,false,false,false,false] false
 |_=>mh false [] [] [] false
def aA2 (G:Hp) (K:EK) (r:Rg) (h:Hp):Prop:=
 K .ret (upd r 4 (.int .i64 0)) h
def O6:Prop:=
 cond (r 18)
 (o_ G (Instr.fieldAt 26 (r 2) 11) h fun v14 h14=>o_ G (Instr.loadAt 3 v14) h14 fun v15 h15=>
 K .ret (u3 r 21 v14 22 v15 4 v15) h15)
 (aA2 G K r h)
def S46:Prop:=
 o_ G (Instr.box 26 (r 0)) h fun v0 h0=>o_ G (Instr.box 48 (r 1)) h0 fun v1 h1=>o_ G (Instr.fieldAt 48 v1 0) h1 fun v2 h2=>o_ G (Instr.loadAt 3 v2) h2 fun v3 h3=>
 opH P_ G (xEq .eql 3 (.tmp 0) (.const .nilFunc) v3 (.int .i64 1)) h3 fun v4 h4=>
 cond v4
 (w_ G h4 (Instr.loadAt 26 v0) h4 fun v5 h5=>
 c_ G 93 #[v5] h5 fun v6 h6=>h4.le h6/\
 p_ (Instr.fieldAt 48 v1 2) h6 fun v7 h7=>
 w_ G h4 (Instr.loadAt 3 v7) h7 fun v8 h8=>
 c_ G 31 #[v6,v8] h8 fun v9 h9=>
 K .ret (u3 (u10 r 2 v0 3 v1 4 (.int .i64 0) 5 v2 6 v3 8 v4 7 v4 9 v5 10 v6 11 v7) 12 v8 13 v9 4 v9) h9)
 (opH P_ G (xEq .eql 3 (.tmp 0) (.const .nilFunc) v3 (.int .i64 2)) h4 fun v10 h10=>
 cond v10
 (o_ G (Instr.fieldAt 26 v0 10) h10 fun v11 h11=>o_ G (Instr.loadAt 3 v11) h11 fun v12 h12=>
 K .ret (u2 (u10 r 2 v0 3 v1 4 (.int .i64 0) 5 v2 6 v3 8 v4 7 v4 15 v10 14 v10 16 v11) 17 v12 4 v12) h12)
 (opH P_ G (xEq .eql 3 (.tmp 0) (.const .nilFunc) v3 (.int .i64 3)) h10 fun v13 h13=>
 cond v13
 (O6 G K (upd (u10 r 2 v0 3 v1 4 (.int .i64 0) 5 v2 6 v3 8 v4 7 v4 15 v10 14 v10 19 v13) 18 v13) h13)
 (opH P_ G (xEq .eql 3 (.tmp 0) (.const .nilFunc) v3 (.int .i64 4)) h13 fun v16 h16=>
 O6 G K (u3 (u10 r 2 v0 3 v1 4 (.int .i64 0) 5 v2 6 v3 8 v4 7 v4 15 v10 14 v10 19 v13) 18 v13 20 v16 18 v16) h16)))
theorem enter46:Ent 23 46 [.tmp 4] S46:=ent_ (m:=md46) (c:=(Tryz.f46.body.getD .skip)) (fun _ _ _ _=>by kernel_rfl) Tryz.func46 rfl rfl rfl
end
end Go.Proofs.YtfflipnhffknnaaGreatDoor
end
section
namespace Go.Proofs.YtfflipnhffknnaaGreatDoor
open Go Go.HL Go.Proofs.Resv Go.Proofs.Srch
def dp:=jq bC (jq (jq (jq @tq (jq @kf @pu)) (jq (jq @Lw @cf124) (jq @cf125 @cf153))) (jq (jq (jq @cf73 @fa54_0) (jq @fa54_1 @fa54_2)) (jq (jq @ld3 @ld54) (jq @K7 @true_and))))
abbrev kV (U A V:Int):Value := .agg #[U,A,V]
abbrev kO (U A V:Int):Obj := .cells #[U,A,V] 54 (0,0)
theorem Qv {G h:Hp} {U A V q:Int} (kb:KB U A V) (h0:0<=q) (h1:q<=V):
 aj P_ G 153 #[kV U A V,q] h (fun v h'=>v = .int .i64 (uc A q)/\h'=h):=by
 obtain ⟨ku1,ku2,ka1,ka2,kv1,kv2⟩:=kb
 refine quietly (ap5 (by simp) ?_)
 unfold S153
 simp (disch:=first|decide|omega) only [dp]
 intro kp hkp gkp
 have bk:(h.set kp (kO U A V)) kp=some (kO U A V):=af
 have l1:h.le (h.set kp (kO U A V)):=b8 hkp
 try simp (disch:=first|decide|omega) only [dp,Nat.reduceAdd,Nat.reduceMul]
 generalize Hp.set h kp _=h1 at bk l1 ⊢
 have ck:∀j,aa G h1 ⟨kp,j,none⟩=_:=fun j=>ai (ag bk)
 try simp (disch:=first|decide|omega) only [dp,Nat.reduceAdd,Nat.reduceMul,ck]
 have hbd:=C3 ka1 (show q<=1000 by omega)
 refine ci (fun m r h'=>h'=h1/\r 2 = .pointer (some ⟨kp,0,none⟩)/\∃s v:Int,r 5 = .int .i64 s/\r 1 = .int .i64 v/\v.toNat=m/\v<=1000 /\ -1000<=v/\0<=s/\∃n:Nat,v<=n/\s+brk A n v=uc A q) ?_ (m:=(q-A).toNat)
  ⟨rfl,by simp (disch:=decide) only [dp],0,q-A,by simp (disch:=decide) only [dp],by simp only [dp],rfl,by omega,by omega,by omega,q.toNat,by omega,by unfold uc;omega⟩
 rintro m r h' ⟨rfl,g0,s,v,g5,g6,rfl,hv,hv2,hs,n,hn,hsum⟩ X hX
 unfold Xl
 simp only [dp,g6]
 by_cases hp:v>0
 . rw [iy hp]
   obtain ⟨n,rfl⟩:∃k,n=k+1:=⟨n-1,by omega⟩
   unfold brk at hsum
   rw [if_pos hp]at hsum
   have hb:=Ow ka1 n (v-A) (by omega)
   simp only [dp]
   unfold I0
   simp (disch:=first|decide|omega) only [dp,g5,g6]
   unfold Iz
   simp (disch:=first|decide|omega) only [dp,g0,g6,ck]
   refine hX (v-A).toNat _ _ (by omega) ⟨rfl,by simp (disch:=decide) only [dp,g0],s+v,v-A,by simp (disch:=decide) only [dp],by simp only [dp],rfl,by omega,by omega,by omega,n,by omega,by omega⟩
 . rw [i9 hp]
   rw [W4 n (by omega)]at hsum
   simp only [dp]
   unfold Xm
   simp (disch:=decide) only [dp,g5]
   exact ⟨by rw [<- hsum];simp,l1⟩
theorem Tl {G h:Hp} {U A V x s v:Int} (kb:KB U A V) (hx1:1<=x) (hx2:x<=100000) (hs:0<=s) (hs2:s<=1000) (hv1:1<=v) (hv2:v<=V):
 aj P_ G 125 #[kV U A V,x,s,v] h (fun u h'=>u = .int .i64 (ql A x s v)/\h'=h):=by
 have kb':=kb
 obtain ⟨ku1,ku2,ka1,ka2,kv1,kv2⟩:=kb
 refine quietly (as0 (by simp) ?_)
 unfold S125
 simp (disch:=first|decide|omega) only [dp]
 intro kp hkp gkp
 have bk:(h.set kp (kO U A V)) kp=some (kO U A V):=af
 have l1:h.le (h.set kp (kO U A V)):=b8 hkp
 try simp (disch:=first|decide|omega) only [dp,Nat.reduceAdd,Nat.reduceMul]
 generalize Hp.set h kp _=h1 at bk l1 ⊢
 have ck:∀j,aa G h1 ⟨kp,j,none⟩=_:=fun j=>ai (ag bk)
 try simp (disch:=first|decide|omega) only [dp,Nat.reduceAdd,Nat.reduceMul,ck]
 suffices k2:∀r:Rg,r 4 = .pointer (some ⟨kp,0,none⟩)->r 1 = .int .i64 x->r 9 = .int .i64 (min (min (s+A) v) x)->F7 G (retK P_ G [.tmp 8] fun u h'=>(u = .int .i64 (ql A x s v)/\h.le h')) r h1 by
  have k1:∀r:Rg,r 4 = .pointer (some ⟨kp,0,none⟩)->r 1 = .int .i64 x->r 9 = .int .i64 (min (s+A) v)->F8 G (retK P_ G [.tmp 8] fun u h'=>(u = .int .i64 (ql A x s v)/\h.le h')) r h1:=fun r e4 e1 e9=>by
   unfold F8
   simp only [dp,e9,e1]
   refine bh (fun hb=>?_) (fun hb=>?_)
   . exact k2 _ (by simp (disch:=decide) only [dp,e4]) (by simp (disch:=decide) only [dp,e1]) (by simp only [dp];first|omega|(congr 1;omega))
   . exact k2 _ (by simp (disch:=decide) only [dp,e4]) (by simp (disch:=decide) only [dp,e1]) (by simp (disch:=decide) only [dp,e9];first|omega|(congr 1;omega))
  refine bh (fun hb=>?_) (fun hb=>?_)
  . exact k1 _ (by simp (disch:=decide) only [dp]) (by simp (disch:=decide) only [dp]) (by simp only [dp];first|omega|(congr 1;omega))
  . exact k1 _ (by simp (disch:=decide) only [dp]) (by simp (disch:=decide) only [dp]) (by simp (disch:=decide) only [dp];first|omega|(congr 1;omega))
 intro r e4 e1 e9
 unfold F7
 refine ci (fun m r h'=>h'=h1/\r 4 = .pointer (some ⟨kp,0,none⟩)/\r 1 = .int .i64 x/\∃q:Int,r 9 = .int .i64 q/\q.toNat=m/\q<=V/\1<=q/\∃n:Nat,q<=n/\dq A x n q=ql A x s v) ?_ (m:=(min (min (s+A) v) x).toNat)
  ⟨rfl,e4,e1,min (min (s+A) v) x,e9,rfl,by omega,by omega,(min (min (s+A) v) x).toNat,by omega,rfl⟩
 rintro m r h' ⟨rfl,g0,g1,q,g9,rfl,hq,hq1,n,hn,hd⟩ X hX
 unfold Yc
 simp only [dp,g9]
 obtain ⟨n,rfl⟩:∃k,n=k+1:=⟨n-1,by omega⟩
 unfold dq at hd
 by_cases hp:q>1
 . rw [iy hp]
   simp (disch:=first|decide|omega) only [dp,g0,g1,g9,ck]
   refine (Qv kb' (by omega) hq).mono ?_
   rintro _ _ ⟨rfl,rfl⟩
   have hbd:=C3 ka1 (show q<=1000 by omega)
   simp only [dp]
   refine bh (fun hb=>?_) (fun hb=>?_)
   . rw [if_pos ⟨hp,hb⟩]at hd
     unfold Jn
     simp (disch:=first|decide|omega) only [dp,g9]
     refine hX (q-1).toNat _ _ (by omega) ⟨rfl,by simp (disch:=decide) only [dp,g0],by simp (disch:=decide) only [dp,g1],q-1,by simp only [dp],rfl,by omega,by omega,n,by omega,hd⟩
   . rw [if_neg (by omega)]at hd
     unfold Pu
     simp (disch:=decide) only [dp,g9]
     exact ⟨by rw [hd],l1⟩
 . rw [i9 hp]
   rw [if_neg (by omega)]at hd
   simp only [dp,fg]
   unfold Pu
   simp (disch:=decide) only [dp,g9]
   exact ⟨by rw [hd],l1⟩
theorem Tm {G h:Hp} {U A V:Int} (kb:KB U A V):aj P_ G 124 #[kV U A V] h (fun u h'=>u = .bool true/\h'=h):=by
 obtain ⟨ku1,ku2,ka1,ka2,kv1,kv2⟩:=kb
 refine quietly (as1 (by simp) ?_)
 unfold S124
 simp only [dp]
 intro kp hkp gkp
 have bk:(h.set kp (kO U A V)) kp=some (kO U A V):=af
 have l1:h.le (h.set kp (kO U A V)):=b8 hkp
 try simp (disch:=first|decide|omega) only [dp,Nat.reduceAdd,Nat.reduceMul]
 generalize Hp.set h kp _=h1 at bk l1 ⊢
 have ck:∀j,aa G h1 ⟨kp,j,none⟩=_:=fun j=>ai (ag bk)
 try simp only [dp,ck,iy (show U>=1 from ku1),iy ku2,iy (show A>=1 from ka1),iy ka2,iy (show V>=1 from kv1),iy kv2]
 exact l1
theorem J7 {G h:Hp} {U A V n:Int} (kb:KB U A V) (hn:Bd n):
 aj P_ G 73 #[kV U A V,n] h (fun u h'=>∃ip,Slc intC 3 ip u (je U A V n)/\Sep [ip,h] h'/\Dis G h'):=by
 have kb':=kb
 obtain ⟨ku1,ku2,ka1,ka2,kv1,kv2⟩:=kb
 refine aj.assume fun d=>enter73 (by simp) ?_
 unfold S73
 simp only [dp]
 intro kp hkp gkp
 have s1:=(Sep.one (h:=h)).past (o:=kO U A V) hkp
 try simp (disch:=first|decide|omega) only [dp,Nat.reduceAdd,Nat.reduceMul]
 generalize e1:Hp.set h kp _=h1 at*
 obtain ⟨l1,d1,bk⟩:=boxed e1 hkp d gkp
 have ck:∀{h':Hp},h1.le h'->∀j,aa G h' ⟨kp,j,none⟩=_:=fun l j=>ai (ag (l _ _ bk))
 have no:¬(1<=n/\n<=16)->∃ip,Slc intC 3 ip (.slice none 0 0) (je U A V n)/\Sep [ip,h] h1/\Dis G h1:=fun hh=>by
  unfold je
  rw [if_neg hh]
  exact ⟨noHp,Slc.nil,(Sep.one.cut l1).none,d1⟩
 by_cases q1:n<1
 . try simp only [dp,iy q1,fg]
   exact no (by omega)
 by_cases q2:n>16
 . try simp only [dp,i9 q1,iy q2,fg]
   exact no (by omega)
 try simp only [dp,i9 q1,i9 q2,ck (Hp.le.refl _)]
 refine (Tm kb').mono ?_
 rintro _ h1 ⟨rfl,rfl⟩
 try simp only [dp]
 unfold ay5
 generalize hKK:retK P_ G _ _=KK
 have hnU:1*1<=n*U:=Int.mul_le_mul (by omega) ku1 (by omega) (by omega)
 have hnU2:n*U<=16*1000:=Int.mul_le_mul (by omega) ku2 (by omega) (by omega)
 have hwr:IntKind.i64.wrap (n*U)=n*U:=li (by omega) (by omega)
 generalize he:n*U=e at hnU hnU2 hwr
 obtain ⟨W,hW⟩:∃W,W=je U A V n:=⟨_,rfl⟩
 have hW2:W=prof A V e e.toNat 0 0:=by rw [hW];unfold je;rw [if_pos (by omega),he]
 rw [<- hW]at hKK
 refine ci (fun m r h'=>∃(ip:Hp) (v:Value) (M:List Int) (p sp:Int),m=(e-p).toNat/\r 1 = .int .i64 n/\r 2 = .pointer (some ⟨kp,0,none⟩)/\r 5=v/\r 6 = .int .i64 p/\r 7 = .int .i64 sp/\
  Slc intC 3 ip v M/\Sep [ip,h1] h'/\Dis G h'/\0<=p/\0<=sp/\sp<=V/\p<=e/\∃k:Nat,e-p<=k/\M++prof A V e k p sp=W) ?_ (m:=(e-0).toNat)
  ⟨noHp,_,[],0,0,rfl,by simp (disch:=decide) only [dp],by simp (disch:=decide) only [dp],by simp (disch:=decide) only [dp],by simp (disch:=decide) only [dp],by simp only [dp],Slc.nil,Sep.one.none,d1,by omega,by omega,by omega,by omega,e.toNat,by omega,hW2.symm⟩
 rintro m r h' ⟨ip,v,M,p,sp,rfl,g1,g2,g5,g6,g7,sl,s',d',hp0,hsp0,hspV,hpe,k,hk,hprof⟩ X hX
 have l':=s'.in 1 rfl
 unfold ay3
 simp (disch:=first|decide|omega) only [dp,g1,g2,g6,ck l']
 rw [he]
 by_cases hlt:p<e
 . rw [iy hlt]
   simp only [dp]
   unfold Mj
   simp (disch:=first|decide|omega) only [dp,g1,g2,g6,g7,ck l']
   rw [he]
   try simp (disch:=first|decide|omega) only [dp,Nat.reduceAdd,Nat.reduceMul]
   refine (Tl kb' (x:=e-p) (s:=sp) (v:=V) (by omega) (by omega) hsp0 (by omega) (by omega) (by omega)).mono ?_
   rintro _ h' ⟨rfl,rfl⟩
   have hnx:=Vy ka1 (show 1<=e-p by omega) hsp0 kv1
   obtain ⟨k,rfl⟩:∃j,k=j+1:=⟨k-1,by omega⟩
   unfold prof at hprof
   rw [if_pos hlt]at hprof
   generalize ql A (e-p) sp V=x at*
   simp (disch:=first|decide|omega) only [dp]
   intro b hb gb
   have s2:=(s'.new (o := .cells #[.int .i64 (p+x)] 3 (0,0)) hb).sel (L':=[ip,noHp.set b (.cells #[.int .i64 (p+x)] 3 (0,0)),h1]) [1,0,2] (by decide) rfl
   have d2:=d'.set (o := .cells #[.int .i64 (p+x)] 3 (0,0)) gb
   generalize Hp.set h' b _=h2 at s2 d2 ⊢
   simp only [dp,g5]
   have hlen:M.length<=16000:=by
    have e1:=congrArg List.length hprof
    have e2:=Cb (a:=A) (v:=V) (e:=e) e.toNat 0 0
    rw [hW2]at e1
    simp only [List.length_append]at e1
    omega
   refine dw intC (by decide) Ep eo3 (by decide) (by decide) (M:=[p+x]) s2 d2 sl (Sees.row (c:=intC) (L:=[p+x]) (s2.at 1 rfl af) rfl (Nat.le_refl _)) (by simp;omega) fun v3 a3 h3 o3 s3 d3=>?_
   try simp (disch:=first|decide|omega) only [dp,Nat.reduceAdd,Nat.reduceMul]
   refine hX (e-(p+x)).toNat _ _ (by omega) ⟨a3,v3,M++[p+x],p+x,x,rfl,by simp (disch:=decide) only [dp,g1],by simp (disch:=decide) only [dp,g2],by simp only [dp],by simp (disch:=decide) only [dp],by simp (disch:=decide) only [dp],o3,s3.sel [0,2] (by decide) rfl,d3,by omega,by omega,by omega,by omega,k,by omega,?_⟩
   rw [<- hprof]
   simp
 . rw [i9 hlt]
   try simp only [dp]
   have hz:prof A V e k p sp=[]:=by
    cases k with
    |zero=>rfl
    |succ k=>unfold prof;rw [if_neg hlt]
   rw [hz,List.append_nil]at hprof
   unfold ay4
   rw [<- hKK]
   simp (disch:=decide) only [dp,g5]
   exact ⟨ip,by rw [<- hprof];exact sl,(s'.swap.cut l1).swap,d'⟩
theorem Ti {G h:Hp} {U A V n:Int} (kb:KB U A V) (hn:Bd n):
 aj P_ G 31 #[kV U A V,n] h (fun u h'=>u = .int .i64 (Er U A V n)/\h'=h):=by
 refine aj.assume fun d=>quietly (enter31 (by simp) ?_)
 unfold S31
 simp only [dp]
 intro kp hkp gkp
 have s1:=(Sep.one (h:=h)).past (o:=kO U A V) hkp
 try simp (disch:=first|decide|omega) only [dp,Nat.reduceAdd,Nat.reduceMul]
 generalize e1:Hp.set h kp _=h1 at*
 obtain ⟨l1,d1,bk⟩:=boxed e1 hkp d gkp
 have ck:∀j,aa G h1 ⟨kp,j,none⟩=_:=fun j=>ai (ag bk)
 try simp (disch:=first|decide|omega) only [dp,Nat.reduceAdd,Nat.reduceMul,ck]
 refine (J7 kb hn).mono ?_
 rintro u h2 ⟨ip,sl,s2,d2⟩
 obtain ⟨sa,cap,rfl,_⟩:=sl.len (by decide)
 try simp only [dp]
 exact ⟨rfl,l1.trans (s2.in 1 rfl)⟩
def qo:=jq bC (jq (jq (jq (jq @al54 @Ut) (jq @cf31 @cf93)) (jq (jq @Cv @Cu) (jq @Hr (jq @Oj @Oi)))) (jq (jq (jq @Ba @Og) (jq @Cm @ld3)) (jq (jq @ld3p @ld54) (jq @xu (jq @uh @true_and)))))
theorem st_k {G h:Hp} {b:Nat} {U A V U' A' V':Int} {K:Unit->Hp->Prop} (hb:h b=some (kO U' A' V')):wpH P_ G (Instr.storeAt 54 (.pointer (some ⟨b,0,none⟩)) (kV U A V)) h K=K () (h.set b (kO U A V)):=by
 rw [qk (n:=3) sz54 hb rfl (by simp) (by intro v hv;simp [Value.cells]at hv;rcases hv with rfl|rfl|rfl<;>rfl)]
 rfl
theorem Zf {G h:Hp} {v:Value} {C:Conf} (hv:CV G h v C):aj P_ G 93 #[v] h (fun u h'=>u=kV C.un C.ac C.sp/\h'=h):=by
 obtain ⟨ab,cb,ap,cp,ar,cr,az,cs,rfl,ca⟩:=hv
 refine aj.assume fun d=>quietly (enter93 (by simp) ?_)
 unfold S93
 simp (disch:=decide) only [qo]
 intro xc hxc gxc
 generalize e1:Hp.set h xc _=h1 at*
 obtain ⟨l1,d1,q1⟩:=boxed e1 hxc d gxc
 intro xk hxk gxk
 generalize e2:Hp.set h1 xk _=h2 at*
 obtain ⟨l2,d2,q2⟩:=boxed e2 hxk d1 gxk
 have cc:∀k,aa G h2 ⟨xc,k,none⟩=_:=fun k=>ai (ag (l2 _ _ q1))
 try simp only [qo,cc]
 rw [st_k q2]
 have q3:=af (h:=h2) (b:=xk) (o:=kO C.un C.ac C.sp)
 have ck:∀k,aa G (h2.set xk (kO C.un C.ac C.sp)) ⟨xk,k,none⟩=_:=fun k=>ai (ag q3)
 try simp only [qo,ck]
 rw [<- e2,set_set]
 exact l1.trans (b8 hxk)
theorem Qq {G h:Hp} {v:Value} {C:Conf} {m:Move} (hv:CV G h v C) (kb:KB C.un C.ac C.sp) (hn:Bd m.n):aj P_ G 46 #[v,Cg m] h (fun u h'=>u = .int .i64 (gi C m)/\h'=h):=by
 obtain ⟨ab,cb,ap,cp,ar,cr,az,cs,rfl,ca⟩:=hv
 refine aj.assume fun d=>quietly (enter46 (by simp) ?_)
 unfold S46
 simp only [qo]
 intro xc hxc gxc xm hxm gxm
 generalize e1:Hp.set h xc _=h1 at*
 obtain ⟨l1,d1,q1⟩:=boxed e1 hxc d gxc
 generalize e2:Hp.set h1 xm _=h2 at*
 obtain ⟨l2,d2,q2⟩:=boxed e2 hxm d1 gxm
 have cc:∀k,aa G h2 ⟨xc,k,none⟩=_:=fun k=>ai (ag (l2 _ _ q1))
 have cm:∀k,aa G h2 ⟨xm,k,none⟩=_:=fun k=>ai (ag q2)
 have ll:=l1.trans l2
 try simp (disch:=first|decide|omega) only [qo,Nat.reduceAdd,Nat.reduceMul,cm]
 by_cases k1:m.k=1
 . try simp only [qo,show (m.k==1)=true by simpa using k1,cc]
   refine (Zf (ca.up ll d2).cv).mono ?_
   rintro _ h2 ⟨rfl,rfl⟩
   refine ⟨Hp.le.refl _,?_⟩
   try simp (disch:=first|decide|omega) only [qo,Nat.reduceAdd,Nat.reduceMul,cm]
   refine (Ti kb hn).mono ?_
   rintro _ h2 ⟨rfl,rfl⟩
   try simp (disch:=first|decide|omega) only [qo,Nat.reduceAdd,Nat.reduceMul]
   exact ⟨by unfold gi;rw [if_pos k1],ll⟩
 try simp only [qo,show (m.k==1)=false by simpa using k1]
 by_cases k2:m.k=2
 . try simp only [qo,show (m.k==2)=true by simpa using k2,cc]
   exact ⟨by unfold gi;rw [if_neg k1,if_pos k2],ll⟩
 try simp only [qo,show (m.k==2)=false by simpa using k2]
 by_cases k3:m.k=3
 . try simp only [qo,show (m.k==3)=true by simpa using k3]
   unfold O6
   try simp (disch:=decide) only [qo,cc]
   exact ⟨by unfold gi;rw [if_neg k1,if_neg k2,if_pos (.inl k3)],ll⟩
 try simp only [qo,show (m.k==3)=false by simpa using k3]
 unfold O6
 by_cases k4:m.k=4
 . try simp (disch:=decide) only [qo,show (m.k==4)=true by simpa using k4,cc]
   exact ⟨by unfold gi;rw [if_neg k1,if_neg k2,if_pos (.inr k4)],ll⟩
 try simp (disch:=decide) only [qo,show (m.k==4)=false by simpa using k4]
 unfold aA2
 try simp only [qo]
 exact ⟨by unfold gi;rw [if_neg k1,if_neg k2,if_neg (by omega)],ll⟩
def wq:=jq bC (jq (jq (jq @Bool.and_true @cf23) (jq @cf40 (jq @cf47 @Sh))) (jq (jq @eq30p @F2) (jq @Cm (jq @ur @wp))))
theorem Li {C:Conf} (mk:fc C) {T:Tb} {r a b:Int} {L:List Cell} (h:Yw C T r L a b):ry C T r L a b=true:=Hj mk h
theorem ad4 {G h:Hp} {b:Nat} {q p:Pose} {K:Unit->Hp->Prop} (hb:h b=some (vd q)):wpH P_ G (Instr.storeAt 30 (.pointer (some ⟨b,0,none⟩)) (jy p)) h K=K () (h.set b (vd p)):=by
 rw [qk (n:=3) sz30 hb rfl (by simp) (by intro v hv;simp [Value.cells]at hv;rcases hv with rfl|rfl|rfl<;>rfl)]
 rfl
theorem Zm {p q:Pose}:(!(p.x==q.x&&p.y==q.y&&p.d==q.d))=decide (p≠q):=by rw [nf,decide_not]
theorem Gt {G h:Hp} {b:Nat} {p:Pose} (e:h b=some (.cells #[p.x,p.y,(east p).1,(east p).2] 28 (0,0))):Sees cj G h (.slice (some ⟨b,0,none⟩) 2 2) (bo p):=Sees.row (c:=cj) (L:=bo p) e rfl (Nat.le_refl _)
theorem Ts {p:Pose} {M:List Move} {i:Nat} {m:Move} (h:M[i]?=some m):tf p M (i+1)=m.t:=by show (M.getD i zM).t=m.t;rw [List.getD_eq_getElem?_getD,h];rfl
theorem Tu {t:Int} {M:List Move} {i:Nat} {m:Move} (h:M[i]?=some m):ly t M (i+1)=m.e:=by show (M.getD i zM).e=m.e;rw [List.getD_eq_getElem?_getD,h];rfl
theorem S9 {C:Conf} (mk:fc C) {m:Move}:(gc C m).length<=300:=by
 obtain ⟨_,_,_,w16,_,k16⟩:=wk_of mk
 unfold gc
 split
 . have h1:=Gi (W:=nu m) w16 k16
   omega
 . simp
theorem ae6 {G hz h':Hp} {C:Conf} {ab:Option Addr} {cb:Nat} {ap:Option Addr} {cp:Nat} {ar:Option Addr} {cr:Nat} {az:Option Addr} {cs:Nat} {xc x2 xp t2 n:Nat} {l:List Hold} {P g:Pose} {N rb:Int} {any:Bool} {sp:Sp} (mk:fc C) (fit:Fit0 C) (ca0:CA G hz C ab cb ap cp ar cr az cs) (lz':hz.le h') (d':Dis G h')
 (aw:∀{h:Hp} {K:VK},(∀h',K (.bool true) h')->aj P_ G 23 #[] h K) (ts:Rv.TSee G h' t2 (tabL n l)) (gT:ja (tabL n l)) (fT:Few (tabL n l) 100) (r7:sp∈(envC C (tabL n l) rb).spans P) (r8:sp.1<=N) (r9:N<sp.2) (r10:lg g any P sp=true)
 (bc:hz xc=some (confB1 C ab cb ap cp ar cr az cs)) (b2:hz x2=some (vd g)) (bp:h' xp=some (vd P)) (r:Rg) (g2:r 2 = .int .i64 rb) (g6:r 6 = .bool any) (g7:r 7 = .pointer (some ⟨xc,0,none⟩)) (g12:r 12 = .pointer (some ⟨x2,0,none⟩)) (g16:r 16 = .pointer (some ⟨t2,0,none⟩)) (g20:r 20 = .pointer (some ⟨xp,0,none⟩)) (g21:r 21 = .int .i64 N)
 {K:EK} (H:∀r' h',r' 14 = .bool true->K .ret r' h'):Vd G K r h':=by
 obtain ⟨ew,ek,_,w16,_,k16⟩:=wk_of mk
 have cc:∀k,aa G h' ⟨xc,k,none⟩=_:=fun k=>ai (ag (lz' _ _ bc))
 have c2:∀k,aa G h' ⟨x2,k,none⟩=_:=fun k=>ai (ag (lz' _ _ b2))
 have cq:∀k,aa G h' ⟨xp,k,none⟩=_:=fun k=>ai (ag bp)
 have e1:lg g any P sp=true:=r10
 unfold lg at e1
 simp only [Bool.and_eq_true,Bool.or_eq_true,beq_iff_eq]at e1
 obtain ⟨ga,gFV⟩:=e1
 have gx:P.x=g.x:=by rcases ga with ⟨⟨a,_⟩,_⟩|⟨_,a,_⟩<;>exact a
 have gy:P.y=g.y:=by rcases ga with ⟨⟨_,a⟩,_⟩|⟨_,_,a⟩<;>exact a
 have gany:any=true\/P=g:=by
  rcases ga with ⟨⟨a,b⟩,c⟩|⟨a,_⟩
  . exact .inr (xz a b c)
  . exact .inl a
 have hfree:ry C (tabL n l) rb (bo P) N 4611686018427387904=true:=Hj mk fun c hc=>A5 gT r7 r8 (by rw [gFV];exact Int.le_refl _) _ (List.mem_map.2 ⟨c,hc,rfl⟩)
 have fin:aj P_ G 40 #[jy P] h' (fun v h2=>h'.le h2/\∀{K:VK},(∀h3,K (.bool true) h3)->aj P_ G 47 #[Lr C ab cb ap cp ar cr az cs,.pointer (some ⟨t2,0,none⟩),rb,v,N,(4611686018427387904:Int)] h2 K):=by
  refine (m8 (p:=P)).mono ?_
  rintro _ _ ⟨q1',rfl,hq1,gq1,rfl⟩
  generalize eq1:Hp.set h' q1' _=h2'
  obtain ⟨l2',d2',bq⟩:=boxed eq1 hq1 d' gq1
  refine ⟨l2',fun {K} hK=>?_⟩
  refine (Ay (ca0.up (lz'.trans l2') d2').cv (by omega) (by omega) (ts.up l2' d2') fT (by decide) (Gt bq) (by simp [bo])).mono ?_
  rintro _ h2' ⟨rfl,rfl⟩
  rw [hfree]
  exact hK _
 unfold Vd
 simp only [wq,g6,g7,g12,g20,cq,c2,cc]
 try simp only [wq,show (P.x==g.x&&P.y==g.y)=true from by simp [gx,gy]]
 cases any with
 |true=>
  try simp only [wq,fg,g7,g16,g2,g21,cc,cq]
  refine fin.mono ?_
  rintro v9 h9 ⟨l9,H9⟩
  refine ⟨l9,?_⟩
  try simp (disch:=first|decide|omega) only [wq,Nat.reduceAdd,Nat.reduceMul]
  refine H9 fun h3=>?_
  try simp only [wq]
  refine aw fun h'=>?_
  try simp (disch:=first|decide|omega) only [wq,Nat.reduceAdd,Nat.reduceMul]
  exact H _ _ (by simp only [wq])
 |false=>
  have hpg:P=g:=gany.resolve_left (by decide)
  try simp only [wq,c2,nf,show decide (P=g)=true from decide_eq_true hpg,g7,g16,g2,g21,cc,cq]
  refine fin.mono ?_
  rintro v9 h9 ⟨l9,H9⟩
  refine ⟨l9,?_⟩
  try simp (disch:=first|decide|omega) only [wq,Nat.reduceAdd,Nat.reduceMul]
  refine H9 fun h3=>?_
  try simp only [wq]
  refine aw fun h'=>?_
  try simp (disch:=first|decide|omega) only [wq,Nat.reduceAdd,Nat.reduceMul]
  exact H _ _ (by simp only [wq])
def fk:=jq bC (jq (jq (jq (jq (jq @Bool.and_true @al30) (jq @al48 @ab9)) (jq (jq @cf21 @cf23) (jq @cf27 @cf28))) (jq (jq (jq @cf40 @cf42) (jq @cf45 @cf46)) (jq (jq @cf47 @cf48) (jq @ex2 (jq @fa48_0p @Of))))) (jq (jq (jq (jq @Ue @fa48_5p) (jq @Ud @fa48_6p)) (jq (jq @ld26 @Cm) (jq @ld3 @ld30))) (jq (jq (jq @wp @ld3p) (jq @ld48 @ld48p)) (jq (jq @ln40 @ne30p) (jq @ne_eq.{1} (jq @xe @Qa))))))
theorem Tn {G:Hp} {v:Value} {C:Conf} {p g:Pose} {rb t:Int} {any:Bool} {lv:Value} {l:List Hold} (pp:PB p) (pg:PB g) (hl:zh Le G lv l) (hlb:∀x∈l,S5 x) (st:j9 G) (hv:CV G noHp v C) (fit:Fit0 C) (hro:∀p∈C.ro,PB p):
 aj P_ G 12 #[v,lv,rb,jy p,t,jy g,.bool any] noHp (fun u _=>u = .bool true):=by
 have hv0:=hv
 obtain ⟨ab,cb,ap,cp,ar,cr,az,cs,rfl,ca⟩:=hv
 refine aj.assume fun d=>enter12 (by simp) ?_
 unfold S12
 simp (disch:=first|decide|omega) only [fk]
 intro xc hxc gxc x1 hx1 gx1 x2 hx2 gx2
 generalize e1:Hp.set noHp xc _=h1 at*
 obtain ⟨l1,d1,q1⟩:=boxed e1 hxc d gxc
 generalize e2:Hp.set h1 x1 _=h2 at*
 obtain ⟨l2,d2,q2⟩:=boxed e2 hx1 d1 gx1
 generalize e3:Hp.set h2 x2 _=hz at*
 obtain ⟨l3,dz,q3⟩:=boxed e3 hx2 d2 gx2
 have L:=l1.trans (l2.trans (l3))
 have bc:=l3 _ _ (l2 _ _ (q1))
 have b1:=l3 _ _ (q2)
 have b2:=q3
 have cc:∀{h':Hp},hz.le h'->∀k,aa G h' ⟨xc,k,none⟩=_:=fun l k=>ai (ag (l _ _ bc))
 have c1:∀{h':Hp},hz.le h'->∀k,aa G h' ⟨x1,k,none⟩=_:=fun l k=>ai (ag (l _ _ b1))
 have c2:∀{h':Hp},hz.le h'->∀k,aa G h' ⟨x2,k,none⟩=_:=fun l k=>ai (ag (l _ _ b2))
 have ca0:=ca.up L dz
 have lz:=Hp.le.refl hz
 have aw:∀{h:Hp} {K:VK},(∀h',K (.bool true) h')->aj P_ G 23 #[] h K:=fun hK=>(awake12 st).mono fun u h' e=>by rw [e.1];exact hK h'
 try simp (disch:=first|decide|omega) only [fk,cc lz]
 refine (small12 ca0.cv).mono ?_
 rintro _ hz ⟨⟨b,rfl,hb⟩,rfl⟩
 cases b with
 |false=>
  try simp (disch:=first|decide|omega) only [fk,fg]
  exact aw fun h'=>by simp (disch:=first|decide|omega) only [fk]
 |true=>
 have sm:=hb rfl
 have mk:fc C:=G8.2 sm.may
 obtain ⟨n1,n2,n3,n4⟩:=Qe sm
 try simp (disch:=first|decide|omega) only [fk]
 unfold aD0
 have hbl:C.bl.length<=100000000000000:=by have:=fit.bl;unfold Room at this;omega
 obtain ⟨ew,ek,_,w16,_,k16⟩:=wk_of mk
 have kb:KB C.un C.ac C.sp:=kb_of mk
 try simp (disch:=first|decide|omega) only [fk,cc lz]
 refine (P3 ca0.cv sm hl hlb).mono ?_
 rintro _ h4 ⟨a1,a2,t1,t2,rfl,tab1,tab2,s4,d4⟩
 have l4:=s4.in 2 rfl
 obtain ⟨gT,fT,lT⟩:=tab_ok (C.w*C.h).toNat l
 have tvT:∀{h':Hp},h4.le h'->Dis G h'->TabV G h' (.pointer (some ⟨t1,0,none⟩)) (some (tabL (C.w*C.h).toNat l)):=fun l d=>⟨t1,rfl,(tab1.see (s4.in 0 rfl)).up l d,gT,fT⟩
 try simp (disch:=first|decide|omega) only [fk]
 unfold aC9
 generalize hn:(C.w*C.h).toNat=n at*
 try simp (disch:=first|decide|omega) only [fk,cc l4]
 refine (Ke (ca0.up l4 d4).cv fit).mono ?_
 rintro u6 k6 ⟨⟨_,_,_,_,_,_,_,_,co6⟩,dk6⟩
 have lk6:h4.le k6:=co6.sep.in 4 rfl
 refine ⟨lk6,?_⟩
 try simp (disch:=first|decide|omega) only [fk,c1 l4,c2 l4]
 refine (aa2 (To:=some (tabL n l)) (p:=p) (gp:=g) (rb:=rb) (t:=t) (any:=any) mk (co6.cv (Hp.le.refl _)) st hro fit sm.bu (tvT lk6 dk6) pp pg).mono ?_
 rintro _ m6 ⟨ip6,vs6,rfl,sl6,ll6,sm6,dm6⟩
 have lm6:h4.le m6:=lk6.trans (sm6.in 1 rfl)
 have la6:hz.le m6:=l4.trans lm6
 have seeA:∀{h':Hp},m6.le h'->Dis G h'->Sees mu G h' vs6 _:=fun l d=>(sl6.sees (G:=G) (by decide) ((sm6.in 0 rfl).trans l))
 have ts2:∀{h':Hp},m6.le h'->Dis G h'->Rv.TSee G h' t2 (tabL n l):=fun l d=>(tab2.see (s4.in 1 rfl)).up (lm6.trans l) d
 cases hW:pq C (some (tabL n l)) rb p t g any with
 |no e=>
  have he:(e != 0)=true:=by
   rcases R8 mk gT hW with rfl|rfl|rfl|rfl<;>rfl
  rw [hW]at seeA
  obtain ⟨sA,cA,rfl⟩:=(seeA (Hp.le.refl _) dm6).len
  try simp (disch:=first|decide|omega) only [fk,show outE (Res.no (M:=Move) e)=e from rfl,he,show (outL (Res.no (M:=Move) e)).length=0 from rfl,show (((0:Nat):Int)==0)=true from rfl]
  exact aw fun h'=>by simp (disch:=first|decide|omega) only [fk]
 |ok M=>
 rw [hW]at seeA ll6
 obtain ⟨⟨r1,r2,r3,r4,r5⟩,r6,sp,r7,r8,r9,r10,r11,r12⟩:=aa3 mk gT hW
 obtain ⟨sA,cA,hvs⟩:=(seeA (Hp.le.refl _) dm6).len
 rw [show (outL (Res.ok M))=M from rfl]at hvs seeA ll6
 subst hvs
 try simp (disch:=first|decide|omega) only [fk,show outE (Res.ok M)=0 from rfl,show ((0:Int) != 0)=false from rfl]
 unfold aC8
 try simp (disch:=first|decide|omega) only [fk,c1 la6]
 intro xp hxp gxp
 try simp (disch:=first|decide|omega) only [fk,Nat.reduceAdd,Nat.reduceMul]
 have sP:=(HL.Sep.one (h:=m6)).new (o:=vd p) hxp
 have dP:=dm6.set (o:=vd p) gxp
 generalize Hp.set m6 xp _=hp at sP dP ⊢
 generalize hKK:retK P_ G _ _=KK
 refine ci (fun m r h'=>∃i:Nat,m=M.length-i/\i<=M.length/\r 2 = .int .i64 rb/\r 6 = .bool any/\r 7 = .pointer (some ⟨xc,0,none⟩)/\r 12 = .pointer (some ⟨x2,0,none⟩)/\r 16 = .pointer (some ⟨t2,0,none⟩)/\r 18 = .slice sA M.length cA/\r 20 = .pointer (some ⟨xp,0,none⟩)/\r 21 = .int .i64 (ly t M i)/\r 22 = .int .i64 i/\HL.Sep [noHp.set xp (vd (tf p M i)),m6] h'/\Dis G h') ?_ (m:=M.length)
  ⟨0,rfl,by omega,by simp (disch:=first|decide|omega) only [fk],by simp (disch:=first|decide|omega) only [fk],by simp (disch:=first|decide|omega) only [fk],by simp (disch:=first|decide|omega) only [fk],by simp (disch:=first|decide|omega) only [fk],by simp (disch:=first|decide|omega) only [fk],by simp (disch:=first|decide|omega) only [fk],by simp (disch:=first|decide|omega) only [fk];rfl,by simp (disch:=first|decide|omega) only [fk];rfl,sP,dP⟩
 clear sP dP
 rintro m r h' ⟨i,rfl,hi,g2,g6,g7,g12,g16,g18,g20,g21,g22,s',d'⟩ X hX
 have l':=s'.in 1 rfl
 have lz':hz.le h':=la6.trans l'
 have cpx:∀k,aa G h' ⟨xp,k,none⟩=_:=fun k=>ai (ag (s'.at 0 rfl af))
 unfold aC7
 simp (disch:=first|decide|omega) only [fk,g18,g22]
 refine bh (fun hlt=>?_) (fun hge=>?_)
 rotate_left
 . obtain rfl:i=M.length:=by omega
   try simp (disch:=first|decide|omega) only [fk,Nat.reduceAdd,Nat.reduceMul]
   rw [<- hKK]
   refine ae6 (C:=C) (n:=n) (l:=l) (P:=tf p M M.length) (N:=ly t M M.length) (sp:=sp) mk fit ca0 lz' d' aw (ts2 l' d') gT fT r7 r8 r9 r10 bc b2 (s'.at 0 rfl af) _ (by simp (disch:=first|decide|omega) only [fk,g2]) (by simp (disch:=first|decide|omega) only [fk,g6]) (by simp (disch:=first|decide|omega) only [fk,g7]) (by simp (disch:=first|decide|omega) only [fk,g12]) (by simp (disch:=first|decide|omega) only [fk,g16]) (by simp (disch:=first|decide|omega) only [fk,g20]) (by simp (disch:=first|decide|omega) only [fk,g21]) fun r' h' e=>by simp (disch:=first|decide|omega) only [fk,e]
 obtain ⟨y,hy⟩:∃y,M[i]?=some y:=⟨_,List.getElem?_eq_getElem (by omega)⟩
 have ok:=r6 i y hy
 obtain ⟨b,o,c,e1,x⟩:=(seeA l' d').get hy
 simp only [Value.slice.injEq]at e1
 obtain ⟨rfl,-,-⟩:=e1
 have y0:=x 0 (by decide)
 have y1:=x 1 (by decide)
 have y2:=x 2 (by decide)
 have y3:=x 3 (by decide)
 have y4:=x 4 (by decide)
 have y5:=x 5 (by decide)
 have y6:=x 6 (by decide)
 have y7:=x 7 (by decide)
 have y8:=x 8 (by decide)
 have y9:=x 9 (by decide)
 have y10:=x 10 (by decide)
 simp only [mu,Nat.add_zero,List.getElem?_cons_zero,List.getElem?_cons_succ]at y0 y1 y2 y3 y4 y5 y6 y7 y8 y9 y10
 unfold Na
 simp -implicitDefEqProofs (maxSteps:=2000000) (disch:=first|decide|with_reducible exact Nat.ne_of_beq_eq_false rfl|exact ao|exact am|omega|rfl|(simp;done)|fail) only [fk,g18,g22,ix40 (Int.natCast_nonneg i) hlt,y0,y1,y2,y3,y4,y5,y6,y7,y8,y9,y10]
 intro z hz_ gz_
 try simp (disch:=first|decide|omega) only [fk,Nat.reduceAdd,Nat.reduceMul]
 have s1:=s'.new (o:=ny y) hz_
 have d1:=d'.set (o:=ny y) gz_
 generalize Hp.set h' z _=h1' at s1 d1 ⊢
 have l1':=s1.in 2 rfl
 have lz1:hz.le h1':=la6.trans l1'
 have cp1:∀k,aa G h1' ⟨xp,k,none⟩=_:=fun k=>ai (ag (s1.at 1 rfl af))
 have cy1:∀k,aa G h1' ⟨z,k,none⟩=_:=fun k=>ai (ag (s1.at 0 rfl af))
 have he:=ok.e
 have he2:=ok.e2
 have ha:=ok.at_
 have h0:=ok.n0
 unfold FV at he2
 have ca1:=ca0.up lz1 d1
 obtain ⟨b1,eb1,b2,eb2,hb12⟩:∃b1,(y.k != 1)=b1/\∃b2,(y.k != 2)=b2/\(b1&&b2)=false:=⟨_,rfl,_,rfl,by rcases ok.k with hk|hk<;>simp [hk]⟩
 have rest:∀b3:Value,True:=fun _=>trivial
 cases b1<;>cases b2
 rotate_left 3
 . cases hb12
 all_goals
  try simp -implicitDefEqProofs (maxSteps:=2000000) (disch:=first|decide|with_reducible exact Nat.ne_of_beq_eq_false rfl|exact ao|exact am|omega|rfl|(simp;done)|fail) only [fk,cy1,eb1,eb2,g7,cc lz1,fg]
  refine (Ev (m:=y) ca1.cv hbl).mono ?_
  rintro _ h1' ⟨rfl,rfl⟩
  refine ⟨Hp.le.refl _,?_⟩
  try simp -implicitDefEqProofs (maxSteps:=2000000) (disch:=first|decide|with_reducible exact Nat.ne_of_beq_eq_false rfl|exact ao|exact am|omega|rfl|(simp;done)|fail) only [fk,Nat.reduceAdd,ok.leg,cy1,g20,cp1,Zm,show decide (y.f≠tf p M i)=false from by simp [ok.f],g21,i9 (show ¬y.a<ly t M i by omega),g7,cc lz1]
  refine (Qq (m:=y) ca1.cv kb ok.nb).mono ?_
  rintro _ h1' ⟨rfl,rfl⟩
  refine ⟨Hp.le.refl _,?_⟩
  try simp -implicitDefEqProofs (maxSteps:=2000000) (disch:=first|decide|with_reducible exact Nat.ne_of_beq_eq_false rfl|exact ao|exact am|omega|rfl|(simp;done)|fail) only [fk,show (y.e != y.a+gi C y)=false by rw [<- he];exact bne_self_eq_false _,g7,g16,g2,g20,cc lz1,cp1]
  refine (m8 (p:=tf p M i)).mono ?_
  rintro _ _ ⟨q1',rfl,hq1,gq1,rfl⟩
  generalize eq1:Hp.set h1' q1' _=h2'
  obtain ⟨l2',d2',bq⟩:=boxed eq1 hq1 d1 gq1
  refine ⟨l2',?_⟩
  try simp only [fk,g21,cy1]
  refine (Ay (ca0.up (lz1.trans l2') d2').cv (by omega) (by omega) (ts2 (l1'.trans l2') d2') fT (by decide) (Gt bq) (by simp [bo])).mono ?_
  rintro _ h2' ⟨rfl,rfl⟩
  refine ⟨l2',?_⟩
  try simp only [fk,Li mk ok.stand,g7,g16,g2,cc lz1,cy1]
  refine (Qk (m:=y) (ca0.up (lz1.trans l2') d2').cv hbl ew ek w16 k16).mono ?_
  rintro u3 h3' ⟨ip3,sl3,s3',d3'⟩
  have l3':=l2'.trans (s3'.in 1 rfl)
  refine ⟨l3',?_⟩
  obtain ⟨sw1,sw2,rfl,_⟩:=sl3.len (by decide)
  try simp (disch:=first|decide|omega) only [fk,Nat.reduceAdd,Nat.reduceMul,cy1]
  refine (Ay (ca0.up (lz1.trans l3') d3').cv (by omega) (by omega) (ts2 (l1'.trans l3') d3') fT (by decide) (sl3.sees (by decide) (s3'.in 0 rfl)) (S9 mk)).mono ?_
  rintro _ h3' ⟨rfl,rfl⟩
  try simp only [fk,Li mk ok.go]
  unfold M8
  have s4':=s1.le l3'
  have cy3:∀k,aa G h3' ⟨z,k,none⟩=_:=fun k=>ai (ag (s4'.at 0 rfl af))
  try simp (disch:=decide) only [fk,Nat.reduceAdd,cy3,g20]
  rw [ad4 (q:=tf p M i) (s4'.at 1 rfl af)]
  have s5':=(s4'.pick 1 rfl rfl).put (o:=vd y.t) af
  rw [set_set]at s5'
  have d5':=d3'.set (o:=vd y.t) (d3' _ _ (s4'.at 1 rfl af))
  generalize Hp.set h3' xp _=h5' at s5' d5' ⊢
  have cy5:∀k,aa G h5' ⟨z,k,none⟩=_:=fun k=>ai (ag (s5'.at 1 rfl af))
  try simp only [fk,cy5]
  unfold M9
  try simp (disch:=first|decide|omega) only [fk,g22]
  refine hX (M.length-(i+1)) _ _ (by omega) ⟨i+1,rfl,by omega,by simp (disch:=decide) only [fk,g2],by simp (disch:=decide) only [fk,g6],by simp (disch:=decide) only [fk,g7],by simp (disch:=decide) only [fk,g12],by simp (disch:=decide) only [fk,g16],by simp (disch:=decide) only [fk,g18],by simp (disch:=decide) only [fk,g20],by simp (disch:=decide) only [fk];rw [Tu hy],by simp only [fk];rfl,?_,d5'⟩
  rw [Ts hy]
  exact s5'.sel [0,2] (by decide) rfl
end Go.Proofs.YtfflipnhffknnaaGreatDoor
end

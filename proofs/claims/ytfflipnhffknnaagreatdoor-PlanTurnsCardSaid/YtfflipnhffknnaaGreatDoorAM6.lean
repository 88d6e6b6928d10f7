/- Texts of the proof, one behind the other. -/
import Derived.Test.YtfflipnhffknnaaGreatDoorAM5
import Derived.Test.YtfflipnhffknnaaGreatDoorAH3
import Derived.Test.YtfflipnhffknnaaGreatDoorAM2
import Derived.Test.YtfflipnhffknnaaGreatDoorAM4
import Derived.Test.YtfflipnhffknnaaGreatDoorAM1
import Derived.Test.YtfflipnhffknnaaGreatDoorAM3
set_option linter.unusedSimpArgs false
set_option linter.unusedVariables false
set_option maxRecDepth 100000
set_option linter.unusedSectionVars false
set_option maxHeartbeats 8000000
set_option linter.defProp false
section
namespace Go.Proofs.YtfflipnhffknnaaGreatDoor
open Go Go.HL
def bRpY:=jq bC (jq (jq (jq (jq @al26 @Vy) (jq @au9 (jq @cf122 @cf71))) (jq (jq @I4 @Tg) (jq @I3 (jq @Pu @I2)))) (jq (jq (jq @Vo @Pc) (jq @ld22 (jq @ld23 @ld24))) (jq (jq @ld26 @t6) (jq @ln24 (jq @yr @uq)))))
theorem eoraw:gc P_ 234 rawC.n 40:=⟨by kernel_rfl,by kernel_rfl,by kernel_rfl⟩
theorem eopose:gc P_ 30 xu.n 24:=⟨by kernel_rfl,by kernel_rfl,by kernel_rfl⟩
def Room (n bytes:Nat):Prop:=(2*n+192)*bytes<=281474976710656
theorem Le {G h:Hp} {v:Value} {L:List Int} (sv:Sees icC G h v L) (hl:Room L.length 8):al P_ G 122 #[v] h (fun u h'=>∃ip,Slc icC 3 ip u L/\Sep [ip,h] h'/\Dis G h'):=by
 refine al.assume fun d=>as5 (by simp) ?_
 unfold S122
 simp only [bRpY]
 refine pa icC (by decide) Fe eoint (by decide) (Sep.one (h:=h)).none d Slc.nil sv (by simpa [Room]using hl) fun v' a' h' o' s' d'=>?_
 try simp (disch:=first|decide|omega) only [bRpY,Nat.reduceAdd,Nat.reduceMul]
 exact ⟨a',o',s',d'⟩
def Rel (pb:Hp) (raws:List Raw) (st:List (Cell × List Int)):Prop:=∀(i:Nat) (r:Raw) (s:Cell × List Int),raws[i]?=some r->st[i]?=some s->(r.x,r.y)=s.1/\r.n=s.2.length/\Slc icC 3 pb (.slice r.a s.2.length r.c) s.2
def StkO (pz:Hp) (v:Value) (st:List (Cell × List Int)):Prop:=∃raws pr pb,Slc rawC 234 pr v raws/\Sep [pr,pb] pz/\raws.length=st.length/\Rel pb raws st
theorem Rel.le {pb pb':Hp} {raws:List Raw} {st:List (Cell × List Int)} (r:Rel pb raws st) (l:pb.le pb'):Rel pb' raws st:=fun i x s h1 h2=>let ⟨a,b,c⟩:=r i x s h1 h2;⟨a,b,c.le l⟩
theorem Gl {G h:Hp} {C:Conf} {ab:Option Addr} {cb:Nat} {ap:Option Addr} {cp:Nat} {ar:Option Addr} {cr:Nat} {az:Option Addr} {cs:Nat} (ca:CA G h C ab cb ap cp ar cr az cs)
   (hst:Room C.st.length 40) (hb:∀s∈C.st,Room s.2.length 8):al P_ G 71 #[.slice az C.st.length cs] h (fun u h'=>∃pz,StkO pz u C.st/\Sep [pz,h] h'/\Dis G h'):=by
 refine al.assume fun d=>enter71 (by simp) ?_
 unfold S71
 have hlb:C.st.length<=7036874417664:=by unfold Room at hst;omega
 refine di (fun m r h3=>∃(i:Nat) (raws:List Raw) (pr pb:Hp) (v:Value),m=C.st.length-i/\i<=C.st.length/\r 0 = .slice az C.st.length cs/\r 3=v/\r 4 = .int .i64 i/\Slc rawC 234 pr v raws/\raws.length=i/\Rel pb raws C.st/\Sep [pr,pb,h] h3/\Dis G h3) ?_
   (m:=C.st.length) ⟨0,[],noHp,noHp,_,rfl,Nat.zero_le _,by simp (disch:=decide) only [bRpY],by simp (disch:=decide) only [bRpY],by simp only [bRpY]<;>rfl,Slc.nil,rfl,fun i r s h1=>by simp at h1,(Sep.one.none).none,d⟩
 rintro m r h3 ⟨i,raws,pr,pb,v,rfl,hi,g0,g3,g4,o,hlen,rel,s3,d3⟩ X HX
 unfold ay1
 simp only [bRpY,g0,g4]
 refine bv (fun hlt=>?_) (fun hge=>?_)
 rotate_left
 . obtain rfl:i=C.st.length:=by omega
   try simp (disch:=first|decide|omega) only [bRpY,Nat.reduceAdd,Nat.reduceMul]
   unfold ay2
   try simp (disch:=decide) only [bRpY,g3]
   obtain ⟨pz,s4,t4⟩:=s3.pack2
   exact ⟨pz,⟨raws,pr,pb,o,t4,hlen,rel⟩,s4,d3⟩
 have hlt':i<C.st.length:=by omega
 obtain ⟨s,hs⟩:∃s,C.st[i]?=some s:=⟨_,List.getElem?_eq_getElem hlt'⟩
 have ca3:=ca.up (s3.in 2 rfl) d3
 obtain ⟨b,ofs,a,c,rfl,z0,z1,z2,sv⟩:=ca3.stk hs
 unfold Ns
 refine ⟨h3,Hp.le.refl _,?_⟩
 try simp (disch:=decide) only [bRpY,g0,g4,Sn (Int.natCast_nonneg i) hlt,z0,z1,z2]
 refine (Le sv (hb s (List.mem_of_getElem? hs))).mono ?_
 rintro u h4 ⟨ip,o4,s4,d4⟩
 refine ⟨s4.in 1 rfl,?_⟩
 obtain ⟨sa,cap,rfl,hcap⟩:=o4.len (by decide)
 try simp only [bRpY]
 intro x hx gx
 have s5:Sep [ip,pr,pb,h] h4:=by
   have:=s4.split s3
   simpa using this
 let rw0:Raw:=⟨s.1.1,s.1.2,sa,s.2.length,cap⟩
 have s6:Sep [pr,ip,pb,h] (h4.set x (.cells #[s.1.1,s.1.2,.slice sa s.2.length cap] 234 (0,0))):=(s5.past hx).pick 1 rfl rfl
 have d6:Dis G (h4.set x (.cells #[s.1.1,s.1.2,.slice sa s.2.length cap] 234 (0,0))):=d4.set gx
 have b6:(h4.set x (.cells #[s.1.1,s.1.2,.slice sa s.2.length cap] 234 (0,0))) x=some (.cells #[s.1.1,s.1.2,.slice sa s.2.length cap] 234 (0,0)):=ag
 generalize Hp.set h4 x _=h6 at s6 d6 b6 ⊢
 rw [g3]
 refine pa rawC (by decide) un24 eoraw (by decide) (M:=[rw0]) s6 d6 o (Sees.row (c:=rawC) (L:=[rw0]) b6 rfl (Nat.le_refl _)) (by
   unfold Room at hst
   refine Nat.le_trans (Nat.mul_le_mul_right _ ?_) hst
   rw [hlen,List.length_singleton]
   omega) fun v7 pr7 h7 o7 s7 d7=>?_
 have s7':Sep [ip,pb,pr7,h] h7:=(s7.pick 2 rfl rfl).pick 2 rfl rfl
 obtain ⟨pb7,s8,t8⟩:=s7'.pack2
 unfold Nr
 try simp (disch:=first|decide|omega) only [bRpY,g4]
 refine HX (C.st.length-(i+1)) _ _ (by omega) ⟨i+1,raws++[rw0],pr7,pb7,v7,rfl,hlt',by simp (disch:=decide) only [bRpY,g0],by simp (disch:=decide) only [bRpY],by simp only [bRpY]<;>rfl,o7,by simp [hlen],?_,s8.pick 1 rfl rfl,d7⟩
 intro j r' s' hr' hs'
 by_cases hj:j<i
 . rw [List.getElem?_append_left (by omega)]at hr'
   exact (rel.le (t8.in 1 rfl)) j r' s' hr' hs'
 . have hj2:j<(raws++[rw0]).length:=(List.getElem?_eq_some_iff.1 hr').1
   obtain rfl:j=i:=by simp at hj2;omega
   rw [List.getElem?_append_right (by omega),hlen,Nat.sub_self]at hr'
   cases hr'
   rw [hs]at hs'
   cases hs'
   exact ⟨rfl,rfl,o4.le (t8.in 0 rfl)⟩
abbrev ky (C:Conf) (vb vp vr vz:Value):Obj := .cells #[C.w,C.h,C.ht,vb,vp,vr,vz,C.un,C.ac,C.sp,C.tu,C.ho,C.qu,C.re,C.bu,.bool C.back] 26 (0,0)
abbrev confA (C:Conf) (vb vp vr vz:Value):Value := .agg #[C.w,C.h,C.ht,vb,vp,vr,vz,C.un,C.ac,C.sp,C.tu,C.ho,C.qu,C.re,C.bu,.bool C.back]
theorem store26 {G h:Hp} {y:Nat} {C:Conf} {D:Conf} {v1 v2 v3 v4:Value} {a1 a2 a3 a4:Option Addr} {n1 n2 n3 n4 c1 c2 c3 c4:Nat} {K:Unit->Hp->Prop} (hb:h y=some (ky D v1 v2 v3 v4)):
   wpH P_ G (Instr.storeAt 26 (.pointer (some ⟨y,0,none⟩)) (confA C (.slice a1 n1 c1) (.slice a2 n2 c2) (.slice a3 n3 c3) (.slice a4 n4 c4))) h K=K () (h.set y (ky C (.slice a1 n1 c1) (.slice a2 n2 c2) (.slice a3 n3 c3) (.slice a4 n4 c4))):=by
 conv=>lhs;rw [<- ym hb]
 exact st26w
structure Fit0 (C:Conf):Prop where
 bl:Room C.bl.length 16
 po:Room C.po.length 16
 ro:Room C.ro.length 24
 st:Room C.st.length 40
 bins:∀s∈C.st,Room s.2.length 8
def Cz:Conf:=⟨0,0,0,[],[],[],[],0,0,0,0,0,0,0,0,false⟩
abbrev nilV:Value := .slice none 0 0
structure CO (h:Hp) (C:Conf) (u:Value) (h' pb pp pr pz:Hp) (vb vp vr vz:Value):Prop where
 v:u=confA C vb vp vr vz
 bl:Slc dr 28 pb vb C.bl
 po:Slc dr 28 pp vp C.po
 ro:Slc xu 30 pr vr C.ro
 st:StkO pz vz C.st
 sep:Sep [pb,pp,pr,pz,h] h'
def Zl (G h:Hp) (C:Conf) (u:Value) (h':Hp):Prop:=(∃pb pp pr pz vb vp vr vz,CO h C u h' pb pp pr pz vb vp vr vz)/\Dis G h'
theorem i7 {G h:Hp} {v:Value} {C:Conf} (hv:CV G h v C) (fit:Fit0 C):al P_ G 28 #[v] h (Zl G h C):=by
 obtain ⟨ab,cb,ap,cp,ar,cr,az,cs,rfl,ca⟩:=hv
 refine al.assume fun d=>enter28 (by simp) ?_
 unfold S28
 simp (disch:=decide) only [bRpY]
 intro x hx gx y hy gy
 have exy:=je hy
 have s2:Sep [noHp,noHp.set x (ky C (.slice ab C.bl.length cb) (.slice ap C.po.length cp) (.slice ar C.ro.length cr) (.slice az C.st.length cs)),noHp.set y (ky Cz nilV nilV nilV nilV),h] _:=(((Sep.one (h:=h)).new (o:=ky C (.slice ab C.bl.length cb) (.slice ap C.po.length cp) (.slice ar C.ro.length cr) (.slice az C.st.length cs)) hx).new (o:=ky Cz nilV nilV nilV nilV) hy).swap.none
 have d2:=(d.set (o:=ky C (.slice ab C.bl.length cb) (.slice ap C.po.length cp) (.slice ar C.ro.length cr) (.slice az C.st.length cs)) gx).set (o:=ky Cz nilV nilV nilV nilV) gy
 unfold Cz at s2 d2
 generalize Hp.set (Hp.set h x _) y _=h2 at s2 d2 ⊢
 have cx:∀j,af G h2 ⟨x,j,none⟩=_:=fun j=>aj (ai (s2.at 1 rfl ag))
 have ca2:=ca.up (s2.in 3 rfl) d2
 try simp only [bRpY,cx]
 refine pa dr (by decide) un22 eocell (by decide) s2 d2 Slc.nil ca2.bl (by simpa [Room]using fit.bl) fun vb pb h3 ob s3 d3=>?_
 obtain ⟨sb,cpb,rfl,_⟩:=ob.len (by decide)
 rw [List.nil_append]at ob
 have hx3:=s3.at 1 rfl ag
 try simp (disch:=first|decide|omega) only [bRpY,Nat.reduceAdd,Nat.reduceMul]
 rw [dh sz22 rfl hx3 (by simp)]
 have s4:Sep [noHp,noHp.set x (ky C (.slice sb C.bl.length cpb) (.slice ap C.po.length cp) (.slice ar C.ro.length cr) (.slice az C.st.length cs)),pb,noHp.set y (ky ⟨0,0,0,[],[],[],[],0,0,0,0,0,0,0,0,false⟩ nilV nilV nilV nilV),h] (h3.set x (ky C (.slice sb C.bl.length cpb) (.slice ap C.po.length cp) (.slice ar C.ro.length cr) (.slice az C.st.length cs))):=by
   have:=(s3.pick 1 rfl rfl).put (o:=ky C (.slice sb C.bl.length cpb) (.slice ap C.po.length cp) (.slice ar C.ro.length cr) (.slice az C.st.length cs)) ag
   rw [set_set]at this
   exact this.none
 have d4:Dis G (h3.set x (ky C (.slice sb C.bl.length cpb) (.slice ap C.po.length cp) (.slice ar C.ro.length cr) (.slice az C.st.length cs))):=d3.set gx
 try simp only [bRpY,List.nil_append]
 generalize Hp.set h3 x _=h4 at s4 d4 ⊢
 refine pa dr (by decide) un22 eocell (by decide) s4 d4 Slc.nil (ca.up (s4.in 4 rfl) d4).po (by simpa [Room]using fit.po) fun vp pp h5 op s5 d5=>?_
 obtain ⟨sp,cpp,rfl,_⟩:=op.len (by decide)
 rw [List.nil_append]at op
 have hx5:=s5.at 1 rfl ag
 try simp (disch:=first|decide|omega) only [bRpY,Nat.reduceAdd,Nat.reduceMul]
 rw [dh sz22 rfl hx5 (by simp)]
 have s6:Sep [noHp,noHp.set x (ky C (.slice sb C.bl.length cpb) (.slice sp C.po.length cpp) (.slice ar C.ro.length cr) (.slice az C.st.length cs)),pp,pb,noHp.set y (ky ⟨0,0,0,[],[],[],[],0,0,0,0,0,0,0,0,false⟩ nilV nilV nilV nilV),h] (h5.set x (ky C (.slice sb C.bl.length cpb) (.slice sp C.po.length cpp) (.slice ar C.ro.length cr) (.slice az C.st.length cs))):=by
   have:=(s5.pick 1 rfl rfl).put (o:=ky C (.slice sb C.bl.length cpb) (.slice sp C.po.length cpp) (.slice ar C.ro.length cr) (.slice az C.st.length cs)) ag
   rw [set_set]at this
   exact this.none
 have d6:Dis G (h5.set x (ky C (.slice sb C.bl.length cpb) (.slice sp C.po.length cpp) (.slice ar C.ro.length cr) (.slice az C.st.length cs))):=d5.set gx
 try simp only [bRpY,List.nil_append]
 generalize Hp.set h5 x _=h6 at s6 d6 ⊢
 refine pa xu (by decide) un23 eopose (by decide) s6 d6 Slc.nil (ca.up (s6.in 5 rfl) d6).ro (by simpa [Room]using fit.ro) fun vr pr h7 or s7 d7=>?_
 obtain ⟨sr,cpr,rfl,_⟩:=or.len (by decide)
 rw [List.nil_append]at or
 have hx7:=s7.at 1 rfl ag
 try simp (disch:=first|decide|omega) only [bRpY,Nat.reduceAdd,Nat.reduceMul]
 rw [dh sz23 rfl hx7 (by simp)]
 have s8:Sep [noHp.set x (ky C (.slice sb C.bl.length cpb) (.slice sp C.po.length cpp) (.slice sr C.ro.length cpr) (.slice az C.st.length cs)),pr,pp,pb,noHp.set y (ky ⟨0,0,0,[],[],[],[],0,0,0,0,0,0,0,0,false⟩ nilV nilV nilV nilV),h] (h7.set x (ky C (.slice sb C.bl.length cpb) (.slice sp C.po.length cpp) (.slice sr C.ro.length cpr) (.slice az C.st.length cs))):=by
   have:=(s7.pick 1 rfl rfl).put (o:=ky C (.slice sb C.bl.length cpb) (.slice sp C.po.length cpp) (.slice sr C.ro.length cpr) (.slice az C.st.length cs)) ag
   rw [set_set]at this
   exact this
 have d8:Dis G (h7.set x (ky C (.slice sb C.bl.length cpb) (.slice sp C.po.length cpp) (.slice sr C.ro.length cpr) (.slice az C.st.length cs))):=d7.set gx
 try simp only [bRpY,List.nil_append]
 generalize Hp.set h7 x _=h8 at s8 d8 ⊢
 refine (Gl (ca.up (s8.in 5 rfl) d8) fit.st fit.bins).mono ?_
 rintro vz h9 ⟨pz,oz,s9,d9⟩
 have s9':Sep [pz,noHp.set x (ky C (.slice sb C.bl.length cpb) (.slice sp C.po.length cpp) (.slice sr C.ro.length cpr) (.slice az C.st.length cs)),pr,pp,pb,noHp.set y (ky ⟨0,0,0,[],[],[],[],0,0,0,0,0,0,0,0,false⟩ nilV nilV nilV nilV),h] h9:=by
   have:=s9.split s8
   simpa using this
 obtain ⟨sz,cpz,rfl⟩:∃sz cpz,vz = .slice sz C.st.length cpz:=by
   obtain ⟨raws,_,_,o,_,e,_⟩:=oz
   obtain ⟨a,b,e2,_⟩:=o.len (by decide)
   exact ⟨a,b,by rw [e2,e]⟩
 have hx9:=s9'.at 1 rfl ag
 try simp (disch:=first|decide|omega) only [bRpY,Nat.reduceAdd,Nat.reduceMul]
 rw [dh sz24 rfl hx9 (by simp)]
 have s10:Sep [noHp.set x (ky C (.slice sb C.bl.length cpb) (.slice sp C.po.length cpp) (.slice sr C.ro.length cpr) (.slice sz C.st.length cpz)),pz,pr,pp,pb,noHp.set y (ky ⟨0,0,0,[],[],[],[],0,0,0,0,0,0,0,0,false⟩ nilV nilV nilV nilV),h] (h9.set x (ky C (.slice sb C.bl.length cpb) (.slice sp C.po.length cpp) (.slice sr C.ro.length cpr) (.slice sz C.st.length cpz))):=by
   have:=(s9'.pick 1 rfl rfl).put (o:=ky C (.slice sb C.bl.length cpb) (.slice sp C.po.length cpp) (.slice sr C.ro.length cpr) (.slice sz C.st.length cpz)) ag
   rw [set_set]at this
   exact this
 have d10:Dis G (h9.set x (ky C (.slice sb C.bl.length cpb) (.slice sp C.po.length cpp) (.slice sr C.ro.length cpr) (.slice sz C.st.length cpz))):=d9.set gx
 try simp only [bRpY]
 generalize Hp.set h9 x _=h10 at s10 d10 ⊢
 have hy10:=s10.at 5 rfl ag
 rw [store26 hy10]
 try simp only [bRpY]
 refine ⟨⟨pb,pp,pr,pz,_,_,_,_,rfl,ob,op,or,oz,?_⟩,d10.set gy⟩
 have s11:=((s10.pick 5 rfl rfl).put (o:=ky C (.slice sb C.bl.length cpb) (.slice sp C.po.length cpp) (.slice sr C.ro.length cpr) (.slice sz C.st.length cpz)) ag).drop.drop
 have s12:Sep [pz,pr,pp,pb,h] _:=s11
 exact ((s12.pick 1 rfl rfl).pick 2 rfl rfl).pick 3 rfl rfl
theorem StkO.len {pz:Hp} {v:Value} {st:List (Cell × List Int)} (o:StkO pz v st):∃sz cpz,v = .slice sz st.length cpz:=by
 obtain ⟨raws,_,_,o,_,e,_⟩:=o
 obtain ⟨a,b,e2,_⟩:=o.len (by decide)
 exact ⟨a,b,by rw [e2,e]⟩
theorem CO.cv {G h h' h2 pb pp pr pz:Hp} {C:Conf} {u vb vp vr vz:Value} (c:CO h C u h' pb pp pr pz vb vp vr vz) (l:h'.le h2):CV G h2 u C:=by
 obtain ⟨rfl,ob,op,or,oz,s⟩:=c
 obtain ⟨sb,cb,rfl,_⟩:=ob.len (by decide)
 obtain ⟨sp,cp,rfl,_⟩:=op.len (by decide)
 obtain ⟨sr,cr,rfl,_⟩:=or.len (by decide)
 obtain ⟨sz,cz,rfl⟩:=oz.len
 refine ⟨sb,cb,sp,cp,sr,cr,sz,cz,rfl,ob.sees (by decide) ((s.in 0 rfl).trans l),op.sees (by decide) ((s.in 1 rfl).trans l),or.sees (by decide) ((s.in 2 rfl).trans l),?_⟩
 obtain ⟨raws,pr',pb',o,t,e,rel⟩:=oz
 refine ⟨raws,o.sees (by decide) (((t.in 0 rfl).trans (s.in 3 rfl)).trans l),fun i r x h1 h2=>?_⟩
 obtain ⟨a,b,c⟩:=rel i r x h1 h2
 exact ⟨a,b,c.sees (by decide) (((t.in 1 rfl).trans (s.in 3 rfl)).trans l)⟩
end Go.Proofs.YtfflipnhffknnaaGreatDoor
end
section
namespace Go.Proofs.YtfflipnhffknnaaGreatDoor
open Go Go.HL Go.Proofs.Resv Go.Proofs.Srch
def Be:=jq bC (jq (jq (jq @ue (jq @cf38 @Bz)) (jq @E0 (jq @Dg @Df))) (jq (jq @Gv (jq @I2 @Bw)) (jq (jq @ld23 @ld26) (jq @ld3 @ln23))))
structure SmO (C:Conf):Prop where
 w:C.w<=6
 h:C.h<=6
 bu:C.bu<=4000
 un:C.un<=100
 tu:C.tu<=200
 ho:C.ho<=200
 ro:C.ro.length<=4
 may:Zk C
theorem Or {G h:Hp} {v:Value} {C:Conf} (hv:CV G h v C):al P_ G 21 #[v] h (fun u h'=>(∃b,u = .bool b/\(b=true->SmO C))/\h'=h):=by
 have hv0:=hv
 obtain ⟨ab,cb,ap,cp,ar,cr,az,cs,rfl,ca⟩:=hv
 refine al.assume fun d=>quietly (enter21 (by simp) ?_)
 unfold S21
 simp only [Be]
 intro x hx gx
 generalize e1:Hp.set h x _=h1
 obtain ⟨l1,d1,b1⟩:=boxed e1 hx d gx
 have cx:∀j,af G h1 ⟨x,j,none⟩=_:=fun j=>aj (ai b1)
 by_cases g1:C.w<=6
 rotate_left
 . try simp only [Be,cx,decide_eq_false g1,fe]
   exact ⟨⟨false,rfl,by simp⟩,l1⟩
 by_cases g2:C.h<=6
 rotate_left
 . try simp only [Be,cx,decide_eq_true g1,decide_eq_false g2,fe]
   exact ⟨⟨false,rfl,by simp⟩,l1⟩
 by_cases g3:C.bu<=4000
 rotate_left
 . try simp only [Be,cx,decide_eq_true g1,decide_eq_true g2,decide_eq_false g3,fe]
   exact ⟨⟨false,rfl,by simp⟩,l1⟩
 by_cases g4:C.un<=100
 rotate_left
 . try simp only [Be,cx,decide_eq_true g1,decide_eq_true g2,decide_eq_true g3,decide_eq_false g4,fe]
   exact ⟨⟨false,rfl,by simp⟩,l1⟩
 by_cases g5:C.tu<=200
 rotate_left
 . try simp only [Be,cx,decide_eq_true g1,decide_eq_true g2,decide_eq_true g3,decide_eq_true g4,decide_eq_false g5,fe]
   exact ⟨⟨false,rfl,by simp⟩,l1⟩
 by_cases g6:C.ho<=200
 rotate_left
 . try simp only [Be,cx,decide_eq_true g1,decide_eq_true g2,decide_eq_true g3,decide_eq_true g4,decide_eq_true g5,decide_eq_false g6,fe]
   exact ⟨⟨false,rfl,by simp⟩,l1⟩
 by_cases g7:((C.ro.length:Nat):Int)<=4
 rotate_left
 . try simp only [Be,cx,decide_eq_true g1,decide_eq_true g2,decide_eq_true g3,decide_eq_true g4,decide_eq_true g5,decide_eq_true g6,decide_eq_false g7,fe]
   exact ⟨⟨false,rfl,by simp⟩,l1⟩
 try simp only [Be,cx,decide_eq_true g1,decide_eq_true g2,decide_eq_true g3,decide_eq_true g4,decide_eq_true g5,decide_eq_true g6,decide_eq_true g7]
 refine (Lu (hv0.up l1 d1)).mono ?_
 rintro _ h1 ⟨⟨b,rfl,hb⟩,rfl⟩
 try simp (disch:=first|decide|omega) only [Be,Nat.reduceAdd,Nat.reduceMul]
 exact ⟨⟨b,rfl,fun e=>⟨g1,g2,g3,g4,g5,g6,by omega,hb.1 e⟩⟩,l1⟩
end Go.Proofs.YtfflipnhffknnaaGreatDoor
end
section
namespace Go.Proofs.Srch
open Go.Proofs.Resv
section
variable {P M:Type} [DecidableEq P] {E:Env P M}
structure Flat (E:Env P M) (D:Int):Prop where
 sp:∀p,E.ok p->E.spans p=[(0,FV)]
 wy:∀p,E.ok p->∀w∈E.ways p,w.2.2.2=[(0,FV)]/\1<=w.2.2.1/\w.2.2.1<=D/\E.ok w.2.1
theorem af8 {a d:Int} (h0:0<=a) (hd:0<=d) (h:a+d<FV):sumI a d=a+d:=by
 unfold sumI cutI FV at*
 rw [if_neg (by omega)]
 omega
theorem Gp {a d:Int} (h0:0<=a) (hd:0<=d) (h:sumI a d<FV):sumI a d=a+d:=by
 unfold sumI cutI FV at*
 split at h
 . omega
 . rw [if_neg (by assumption)];omega
section
variable {by_:Int} {shM:M->M}
def Low (E:Env P M) (B:Int) (S:List (St P M)):Prop:=∀x∈S,x.s=(0,FV)/\E.ok x.p/\0<=x.a/\x.a<=B
theorem Low.up {B B':Int} {S:List (St P M)} (l:Low E B S) (h:B<=B'):Low E B' S:=fun x hx=>let ⟨a,b,c,d⟩:=l x hx;⟨a,b,c,Int.le_trans d h⟩
end
inductive Rch (E:Env P M) (p0:P):P->Int->Prop where
 |start:Rch E p0 p0 0
 |step {p:P} {n:Int} {w:M × P × Int × List Sp} (h:Rch E p0 p n) (hw:w∈E.ways p):Rch E p0 w.2.1 (n+w.2.2.1)
theorem Rch.ok {D:Int} (fl:Flat E D) {p0 p:P} {n:Int} (h:Rch E p0 p n) (ho:E.ok p0):E.ok p/\0<=n:=by
 induction h with
 |start=>exact ⟨ho,Int.le_refl _⟩
 |step h hw ih=>obtain ⟨_,e2,_,e4⟩:=fl.wy _ ih.1 _ hw;exact ⟨e4,by omega⟩
theorem Rch.pre {p0 p1:P} {w:M × P × Int × List Sp} (hw:w∈E.ways p0) (e:w.2.1=p1):∀{p:P} {n:Int},Rch E p1 p n->Rch E p0 p (w.2.2.1+n)
 |_,_,.start=>by subst e;have:=Rch.step (.start (E:=E) (p0:=p0)) hw;rw [Int.zero_add]at this;rw [Int.add_zero];exact this
 |_,_,.step h hv=>by have:=Rch.step (Rch.pre hw e h) hv;rw [<- Int.add_assoc];exact this
inductive Wk (E:Env P M) (p0:P) (t0:Int):List M->P->Nat->Int->Prop where
 |nil {i:Nat} (h:inside (E.spans p0) t0=some i):Wk E p0 t0 [] p0 i t0
 |snoc {l:List M} {p:P} {i j:Nat} {a:Int} {s0 s:Sp} {w:M × P × Int × List Sp} (h:Wk E p0 t0 l p i a) (h0:(E.spans p)[i]?=some s0) (ha1:s0.1<=a) (ha2:a<s0.2) (hw:w∈E.ways p) (hs:s∈w.2.2.2) (h1:s0.1<=s.1) (h2:s.2<=s0.2)
     (he:sumI (max a s.1) w.2.2.1<=s.2) (he2:sumI (max a s.1) w.2.2.1<FV) (hj:inside (E.spans w.2.1) (sumI (max a s.1) w.2.2.1)=some j):Wk E p0 t0 (l++[E.stamp w.1 (max a s.1) (sumI (max a s.1) w.2.2.1)]) w.2.1 j (sumI (max a s.1) w.2.2.1)
theorem Vs {S:List (St P M)} {k:Nat} {l:List (Nat × St P M)} (c:Eb S k l):∃x l',S[k]?=some x/\l=(k,x)::l':=by
 cases c with
 |start h hb=>exact ⟨_,_,h,rfl⟩
 |step h hb c=>exact ⟨_,_,h,rfl⟩
theorem au6 (r:Cg E) {p0:P} {t0 lo:Int} {z:M} {S:List (St P M)} (v:Inv E p0 t0 z lo S) {k:Nat} {l:List (Nat × St P M)} (c:Eb S k l):∀{x:St P M},S[k]?=some x->Wk E p0 t0 (nf l).reverse x.p x.i x.a:=by
 induction c with
 |@start k x h hb=>
   intro x' h'
   rw [h]at h';cases h'
   have hxm:=List.mem_of_getElem? h
   obtain ⟨a1,a2,a3⟩:=v.at_ x hxm
   rcases v.by_ x hxm with ⟨_,e1,e2,_⟩|⟨y,h0,_⟩
   . have hin:=Ep (r.ris x.p) a1 a2 a3
     rw [e1,e2]at hin ⊢
     exact .nil hin
   . omega
 |@step k j x l h hb c ih=>
   intro x' h'
   rw [h]at h';cases h'
   have hxm:=List.mem_of_getElem? h
   obtain ⟨a1,a2,a3⟩:=v.at_ x hxm
   rcases v.by_ x hxm with ⟨e,_⟩|⟨y,h0,hy,hd,hlt,w,hw,s,hs,l1,l2,l3,l4,l5,l6,l7⟩
   . omega
   . rw [show x.b.toNat=j by omega]at hy
     obtain ⟨b1,b2,b3⟩:=v.at_ y (List.mem_of_getElem? hy)
     have ih:=ih hy
     have hin:=Ep (r.ris x.p) a1 a2 a3
     have:=Wk.snoc ih b1 b2 b3 hw hs l1 l2 (by rw [<- l4];exact l5) (by rw [<- l4];exact l6) (j:=x.i) (by rw [<- l4,<- l3];exact hin)
     rw [<- l4,<- l3,<- l7]at this
     have e:(nf ((k,x)::l)).reverse=(nf l).reverse++[x.mv]:=by
       obtain ⟨x1,l',_,rfl⟩:=Vs c
       show (x.mv::nf ((j,x1)::l')).reverse=_
       rw [List.reverse_cons]
     rw [e]
     exact this
theorem path_wk (r:Cg E) {p0:P} {t0 lo:Int} {z:M} {S:List (St P M)} (v:Inv E p0 t0 z lo S) {k:Nat} {x:St P M} (hk:S[k]?=some x):Wk E p0 t0 (path S S.length k []) x.p x.i x.a:=by
 obtain ⟨l,c,hl⟩:=M7 v hk
 rw [H8 c _ _ hl,List.append_nil]
 exact au6 r v c hk
end
theorem ab7 {T:Tb} (g:kc T) {r n a b:Int} {u:Sp} (hu:u∈mu T r n) (h1:u.1<=a) (h2:b<=u.2):inT T.length n=true/\ub (rowT T n) r a b=true:=by
 unfold mu at hu
 split at hu
 . rename_i hn
   refine ⟨hn,al2.2 fun s hs hr=>?_⟩
   have gr:=Ls g n
   obtain ⟨_,h3⟩:=Mu (r:=r) gr (Int.le_refl 0) (by decide) (fun s hs => .inl (gr.ok s hs).1)
   rcases (h3 u hu).2.2.2.2.2 s hs hr with h4|h4<;>omega
 . cases hu
theorem S6 {T:Tb} {r:Int}:∀(N:List Int) (l:List Sp) (s:Sp),s∈N.foldl (fun l n=>qc l (mu T r n)) l->(∃u∈l,u.1<=s.1/\s.2<=u.2)/\∀n∈N,∃u∈mu T r n,u.1<=s.1/\s.2<=u.2
 |[],l,s,h=>⟨⟨s,h,Int.le_refl _,Int.le_refl _⟩,fun _ h=>by cases h⟩
 |n::N,l,s,h=>by
   rw [List.foldl_cons]at h
   obtain ⟨⟨u,hu,h1,h2⟩,h3⟩:=S6 N _ s h
   obtain ⟨x,hx,y,hy,rfl,_⟩:=C2.1 hu
   simp only at h1 h2
   refine ⟨⟨x,hx,by omega,by omega⟩,fun m hm=>?_⟩
   rcases List.mem_cons.1 hm with rfl|hm
   . exact ⟨y,hy,by omega,by omega⟩
   . exact h3 m hm
theorem Td {T:Tb} {r a b:Int} (hab:a<b):∀(N:List Int) (l:List Sp),(∃u∈l,u.1<=a/\b<=u.2)->(∀n∈N,∃u∈mu T r n,u.1<=a/\b<=u.2)->∃s∈N.foldl (fun l n=>qc l (mu T r n)) l,s.1<=a/\b<=s.2
 |[],l,h,_=>h
 |n::N,l,⟨u,hu,h1,h2⟩,h=>by
   obtain ⟨v,hv,h3,h4⟩:=h n (.head _)
   rw [List.foldl_cons]
   exact Td hab N _ ⟨(max u.1 v.1,min u.2 v.2),C2.2 ⟨u,hu,v,hv,rfl,by omega⟩,by simp only;omega,by simp only;omega⟩ fun m hm=>h m (.tail _ hm)
theorem S5 {T:Tb} {r:Int} {N:List Int} {s:Sp} (h:s∈li T r N):∀n∈N,∃u∈mu T r n,u.1<=s.1/\s.2<=u.2:=(S6 N _ s h).2
theorem al3 {T:Tb} {r a b:Int} {N:List Int} (h0:0<=a) (h1:a<b) (h2:b<=FV) (h:∀n∈N,∃u∈mu T r n,u.1<=a/\b<=u.2):∃s∈li T r N,s.1<=a/\b<=s.2:=
 Td h1 N _ ⟨_,.head _,h0,h2⟩ h
theorem ac1 {T:Tb} (g:kc T) {r:Int} {N N':List Int} (hN:∀n∈N',n∈N) {s:Sp} (h:s∈li T r N):∃s'∈li T r N',s'.1<=s.1/\s.2<=s'.2:=by
 obtain ⟨b1,b2,b3⟩:=(yq g r N).bd s h
 exact al3 b1 b2 b3 fun n hn=>S5 h n (hN n hn)
theorem Is {T:Tb} (g:kc T) {r a b:Int} {N:List Int} {s:Sp} (h:s∈li T r N) (h1:s.1<=a) (h2:b<=s.2):∀n∈N,inT T.length n=true/\ub (rowT T n) r a b=true:=fun n hn=>by
 obtain ⟨u,hu,e1,e2⟩:=S5 h n hn
 exact ab7 g hu (by omega) (by omega)
theorem Mw {k:Nat} {r:Int}:∀{N:List Int},(∀n∈N,inT k n=true)->li (List.replicate k []) r N=[(0,FV)]:=by
 intro N hN
 have key:∀(N:List Int),(∀n∈N,inT k n=true)->N.foldl (fun l n=>qc l (mu (List.replicate k []) r n)) [((0:Int),FV)]=[(0,FV)]:=by
   intro N
   induction N with
   |nil=>intro _;rfl
   |cons n N ih=>
     intro h
     rw [List.foldl_cons]
     have hn:=h n (.head _)
     have e:mu (List.replicate k []) r n=[(0,FV)]:=by
       unfold mu
       rw [List.length_replicate,if_pos hn]
       obtain ⟨h0,h1⟩:=Da.1 hn
       have:=yo (T:=List.replicate k []) h0 (by rw [List.length_replicate];exact h1)
       rw [List.getElem?_replicate,if_pos (by omega)]at this
       rw [<- Option.some.inj this]
       rfl
     rw [e]
     exact ih fun m hm=>h m (.tail _ hm)
 exact key N hN
def Rb (r:Int) (T U:Tb):Prop:=T.length=U.length/\∀n,others (rowT T n) r=others (rowT U n) r
theorem Rb.trans {r:Int} {T U V:Tb} (a:Rb r T U) (b:Rb r U V):Rb r T V:=⟨a.1.trans b.1,fun n=>(a.2 n).trans (b.2 n)⟩
end Go.Proofs.Srch
end
section
namespace Go.Proofs.YtfflipnhffknnaaGreatDoor
open Go Go.HL
theorem M3 {α:Type} {D:Nat->List α} {b:Nat} (h:∀i,(D i).length<=b):∀{k i:Nat},(lx D i k).length<=k*b
 |0,i=>by simp [lx]
 |k+1,i=>by
   unfold lx
   have:=M3 h (k:=k) (i:=i+1)
   have:=h i
   rw [List.length_append,Nat.succ_mul]
   omega
theorem Cy {α:Type} {p:Nat->Bool} {mk:Nat->α}:∀{k n:Nat},(j5 p mk n k).length<=k
 |0,n=>Nat.le_refl _
 |k+1,n=>by
   rw [Ek]
   have:=Cy (p:=p) (mk:=mk) (k:=k) (n:=n+1)
   split<;>(try simp only [List.length_cons])<;>omega
def so (m:Move):List Cell:=if m.k=1 then (List.range (m.n.toNat+1)).flatMap (fun (i:Nat)=>bz (dw m.f m.d i))else if m.k=2 then ec (m.f.x,m.f.y)else bz m.f
def io (C:Conf) (m:Move):List Cell:=if df C m=true then ml (wC C) (kC C) (so m)else []
theorem Uk {w k:Nat} {W:List Cell} (hw:w<=16) (hk:k<=16):(ml w k W).length<=256:=by
 have:=M3 (D:=fun y=>j5 (fun x=>decide ((((x:Nat):Int),((y:Nat):Int))∈W)) (fun x=>(((x:Nat):Int),((y:Nat):Int))) 0 w) (b:=16) (fun i=>Nat.le_trans Cy hw) (k:=k) (i:=0)
 have h2:k*16<=16*16:=Nat.mul_le_mul_right _ hk
 unfold ml
 omega
theorem rway_eq {C:Conf} {m:Move} (hp:PB m.f) (hl:df C m=true):so m=wayL m:=by
 unfold so wayL
 by_cases h1:m.k=1
 . rw [if_pos h1,if_pos h1]
   unfold df at hl
   rw [Bool.and_eq_true,if_pos h1]at hl
   simp only [Bool.and_eq_true]at hl
   have hd:=dv.1 hl.2.2.1
   congr 1
   funext i
   rw [um hp hd]
 . rw [if_neg h1,if_neg h1]
theorem af6 {C:Conf} (mk:cj C) {m:Move} (hp:PB m.f):jj (wC C) (kC C) (f3C C) m=io C m:=by
 unfold jj io
 rw [Ig mk hp]
 cases hl:df C m with
 |false=>rfl
 |true=>rw [if_pos rfl,if_pos rfl,rway_eq hp hl]
section
variable {C:Conf}
theorem Fp {α:Type} {ok:Nat->Bool} {mk:Nat->α} {x:α}:∀{k n:Nat},x∈kz ok mk n k↔∃j,n<=j/\j<n+k/\x=mk j/\∀i,n<=i->i<=j->ok i=true
 |0,n=>by
   unfold kz
   simp only [List.not_mem_nil,false_iff]
   rintro ⟨j,h1,h2,_⟩
   omega
 |k+1,n=>by
   unfold kz
   cases hb:ok n with
   |false=>
     simp only [Bool.false_eq_true,if_false,List.not_mem_nil,false_iff]
     rintro ⟨j,h1,h2,_,h⟩
     have:=h n (Nat.le_refl _) h1
     rw [hb]at this;cases this
   |true=>
     simp only [if_true,List.mem_cons]
     rw [Fp]
     constructor
     . rintro (rfl|⟨j,h1,h2,rfl,h⟩)
       . exact ⟨n,Nat.le_refl _,by omega,rfl,fun i a b=>by obtain rfl:i=n:=by omega
                                                           exact hb⟩
       . exact ⟨j,by omega,by omega,rfl,fun i a b=>by
           by_cases hi:i=n
           . subst hi;exact hb
           . exact h i (by omega) b⟩
     . rintro ⟨j,h1,h2,rfl,h⟩
       by_cases hj:j=n
       . subst hj;exact .inl rfl
       . exact .inr ⟨j,by omega,by omega,rfl,fun i a b=>h i (by omega) b⟩
theorem Mi {α:Type} {D:Nat->List α} {x:α}:∀{k i:Nat},x∈lx D i k↔∃j,i<=j/\j<i+k/\x∈D j
 |0,i=>by
   unfold lx
   simp only [List.not_mem_nil,false_iff]
   rintro ⟨j,h1,h2,_⟩
   omega
 |k+1,i=>by
   unfold lx
   rw [List.mem_append,Mi]
   constructor
   . rintro (h|⟨j,h1,h2,h⟩)
     . exact ⟨i,Nat.le_refl _,by omega,h⟩
     . exact ⟨j,by omega,by omega,h⟩
   . rintro ⟨j,h1,h2,h⟩
     by_cases hj:j=i
     . subst hj;exact .inl h
     . exact .inr ⟨j,by omega,by omega,h⟩
theorem aj3 {p:Pose} {d:Nat} {x:Move} (h:x∈rrunD C p d):∃n,1<=n/\n<17/\x=mkR p d n/\df C x=true:=by
 obtain ⟨n,h1,h2,rfl,h3⟩:=Fp.1 h
 exact ⟨n,h1,by omega,rfl,h3 n h1 (Nat.le_refl _)⟩
theorem wo {m:Move} (h:df C m=true):fi C m.f=true:=by
 unfold df at h
 exact (Bool.and_eq_true _ _▸h).1
end
section
variable {C:Conf}
def nh (m:Move):Move:=⟨m.k,if m.k=1 then (m.d+2).tmod 4 else m.d,m.n,m.t,m.f,m.a,m.e⟩
theorem yw {p q:Pose} (h1:p.x=q.x) (h2:p.y=q.y) (h3:p.d=q.d):p=q:=by cases p;cases q;simp_all
theorem Gq (mk:cj C) {c:Cell} (h:nc C c=true):(0<=c.1/\c.1<wC C/\0<=c.2/\c.2<kC C)/\c.1<16/\c.2<16:=by
 obtain ⟨e1,e2,_,w2,_,k2⟩:=ru mk.laid.w mk.laid.h
 unfold nc inB at h
 simp only [Bool.and_eq_true,decide_eq_true_eq,ge_iff_le]at h
 omega
theorem wr_s {x:Int} (h : -100<=x/\x<=100):wr x=x:=Lh (by unfold Bd;omega)
theorem sk {p:Pose} {d n:Int} (hx:0<=p.x/\p.x<16) (hy:0<=p.y/\p.y<16) (hn:0<=n/\n<=16):
   (dw p d n).x=(if d=1 then p.x+n else if d=3 then p.x-n else p.x)/\(dw p d n).y=(if d=0 then p.y-n else if d=2 then p.y+n else p.y)/\(dw p d n).d=p.d:=by
 unfold dw
 rw [wr_s (x:=p.x+n) (by omega),wr_s (x:=p.x-n) (by omega),wr_s (x:=p.y-n) (by omega),wr_s (x:=p.y+n) (by omega)]
 exact ⟨rfl,rfl,rfl⟩
theorem V3 {p:Pose} {d n i:Int} (hx:0<=p.x/\p.x<16) (hy:0<=p.y/\p.y<16) (hd:0<=d/\d<=3) (hn:0<=n/\n<=16) (hi:0<=i/\i<=n) (tx:0<=(dw p d n).x/\(dw p d n).x<16) (ty:0<=(dw p d n).y/\(dw p d n).y<16):
   dw (dw p d n) ((d+2).tmod 4) i=dw p d (n-i):=by
 obtain ⟨a1,a2,a3⟩:=sk (d:=(d+2).tmod 4) (n:=i) tx ty (by omega)
 obtain ⟨b1,b2,b3⟩:=sk (d:=d) (n:=n) hx hy hn
 obtain ⟨c1,c2,c3⟩:=sk (d:=d) (n:=n-i) hx hy (by omega)
 have hd4:d=0\/d=1\/d=2\/d=3:=by omega
 refine yw ?_ ?_ (by rw [a3,b3,c3])
 . rw [a1,b1,c1]
   rcases hd4 with rfl|rfl|rfl|rfl<;>simp [show ((0:Int)+2).tmod 4=2 from rfl,show ((1:Int)+2).tmod 4=3 from rfl,show ((2:Int)+2).tmod 4=0 from rfl,show ((3:Int)+2).tmod 4=1 from rfl]<;>omega
 . rw [a2,b2,c2]
   rcases hd4 with rfl|rfl|rfl|rfl<;>simp [show ((0:Int)+2).tmod 4=2 from rfl,show ((1:Int)+2).tmod 4=3 from rfl,show ((2:Int)+2).tmod 4=0 from rfl,show ((3:Int)+2).tmod 4=1 from rfl]<;>omega
theorem Ol {w k:Nat} {W V:List Cell} (h:∀x,x∈W↔x∈V):ml w k W=ml w k V:=
 Hu (n:=numW w) rk rk fun x=>by rw [pc,pc,h]
theorem nu {L:List Cell} {a b c:Cell} (ha:a∈L) (hb:b∈L) (hc:c∈L) (ab:a≠b) (ac:a≠c) (bc:b≠c):3<=L.length:=by
 match L,ha,hb,hc with
 |[],ha,_,_=>cases ha
 |[x],ha,hb,_=>simp at ha hb;exact absurd (ha.trans hb.symm) ab
 |[x,y],ha,hb,hc=>
   simp at ha hb hc
   rcases ha with rfl|rfl<;>rcases hb with rfl|rfl<;>rcases hc with rfl|rfl<;>first|exact absurd rfl ab|exact absurd rfl ac|exact absurd rfl bc
 |x::y::z::L,_,_,_=>simp
theorem rn (mk:cj C) {p:Pose} (h:fi C p=true):(0<=p.x/\p.x<16)/\(0<=p.y/\p.y<16):=by
 unfold fi at h
 rw [Bool.and_eq_true]at h
 have:=Gq mk h.1
 simp only at this
 omega
theorem Hs (mk:cj C) {m:Move} (hl:df C m=true) (h1:m.k=1):1<=m.n/\m.n<=16/\(0<=m.d/\m.d<=3)/\m.t=dw m.f m.d m.n/\∀i:Int,0<=i->i<=m.n->fi C (dw m.f m.d i)=true:=by
 have hf:=wo hl
 unfold df at hl
 rw [hf,Bool.true_and,if_pos h1]at hl
 simp only [Bool.and_eq_true,decide_eq_true_eq,List.all_eq_true,List.mem_range]at hl
 obtain ⟨hn,hd,ht,hs⟩:=hl
 obtain ⟨n1,n2⟩:=dv.1 hn
 refine ⟨n1,n2,dv.1 hd,ht,fun i h0 hi=>?_⟩
 by_cases hz:i=0
 . subst hz
   obtain ⟨fx,fy⟩:=rn mk hf
   obtain ⟨a1,a2,a3⟩:=sk (d:=m.d) (n:=0) fx fy (by omega)
   rw [show dw m.f m.d 0=m.f from yw (by rw [a1];simp) (by rw [a2];simp) a3]
   exact hf
 . have:=hs (i-1).toNat (by omega)
   unfold tc at this
   rw [show (((i-1).toNat:Nat):Int)+1=i by omega]at this
   exact this
theorem Ub (mk:cj C) {m:Move} (hl:df C m=true) (h1:m.k=1):df C (nh m)=true/\io C m=io C (nh m)/\fi C m.t=true/\3<=(io C m).length:=by
 obtain ⟨n1,n2,hd,ht,hs⟩:=Hs mk hl h1
 have hf:=wo hl
 obtain ⟨fx,fy⟩:=rn mk hf
 have hft:fi C m.t=true:=by rw [ht];exact hs m.n (by omega) (Int.le_refl _)
 obtain ⟨tx,ty⟩:=rn mk hft
 have hbs:∀i:Int,0<=i->i<=m.n->dw m.t ((m.d+2).tmod 4) i=dw m.f m.d (m.n-i):=fun i h0 hi=>by
   have tx':=tx
   have ty':=ty
   rw [ht]at tx' ty'
   rw [ht]
   exact V3 fx fy hd (by omega) ⟨h0,hi⟩ tx' ty'
 have ed:(nh m).d=(m.d+2).tmod 4:=by unfold nh;simp only [if_pos h1]
 have hd':0<=(m.d+2).tmod 4/\(m.d+2).tmod 4<=3:=by
   have hd4:m.d=0\/m.d=1\/m.d=2\/m.d=3:=by omega
   rcases hd4 with e|e|e|e<;>rw [e]<;>decide
 have e0:dw m.f m.d (m.n-m.n)=m.f:=by
   rw [Int.sub_self]
   obtain ⟨a1,a2,a3⟩:=sk (d:=m.d) (n:=0) fx fy (by omega)
   exact yw (by rw [a1];simp) (by rw [a2];simp) a3
 have hlb:df C (nh m)=true:=by
   unfold df
   rw [if_pos (show (nh m).k=1 from h1),ed]
   simp only [Bool.and_eq_true,decide_eq_true_eq,List.all_eq_true,List.mem_range]
   refine ⟨hft,dv.2 ⟨n1,n2⟩,dv.2 hd',?_,fun i hi=>?_⟩
   . show m.f=dw m.t ((m.d+2).tmod 4) m.n
     rw [hbs m.n (by omega) (Int.le_refl _),e0]
   . have hi':i<m.n.toNat:=hi
     unfold tc
     rw [ed]
     show fi C (dw m.t _ ((i:Int)+1))=true
     rw [hbs _ (by omega) (by omega)]
     exact hs _ (by omega) (by omega)
 have mem1:∀x,x∈so m↔∃i:Nat,i<=m.n.toNat/\x∈bz (dw m.f m.d i):=fun x=>by
   unfold so
   rw [if_pos h1,List.mem_flatMap]
   constructor
   . rintro ⟨i,hi,hx⟩;exact ⟨i,by have:=List.mem_range.1 hi;omega,hx⟩
   . rintro ⟨i,hi,hx⟩;exact ⟨i,List.mem_range.2 (by omega),hx⟩
 have mem2:∀x,x∈so (nh m)↔∃i:Nat,i<=m.n.toNat/\x∈bz (dw m.t ((m.d+2).tmod 4) i):=fun x=>by
   unfold so
   rw [if_pos (show (nh m).k=1 from h1),ed,List.mem_flatMap]
   constructor
   . rintro ⟨i,hi,hx⟩;exact ⟨i,by have:i<m.n.toNat+1:=List.mem_range.1 hi;omega,hx⟩
   . rintro ⟨i,hi,hx⟩;exact ⟨i,List.mem_range.2 (show i<m.n.toNat+1 by omega),hx⟩
 refine ⟨hlb,?_,hft,?_⟩
 . unfold io
   rw [if_pos hl,if_pos hlb]
   refine Ol fun x=>?_
   rw [mem1,mem2]
   constructor
   . rintro ⟨i,hi,hx⟩
     refine ⟨m.n.toNat-i,by omega,?_⟩
     rw [hbs _ (by omega) (by omega),show m.n-((m.n.toNat-i:Nat):Int)=(i:Int)by omega]
     exact hx
   . rintro ⟨i,hi,hx⟩
     refine ⟨m.n.toNat-i,by omega,?_⟩
     rw [hbs _ (by omega) (by omega)]at hx
     rw [show ((m.n.toNat-i:Nat):Int)=m.n-(i:Int)by omega]
     exact hx
 . unfold io
   rw [if_pos hl]
   have hin:∀(i:Nat) (x:Cell),i<=m.n.toNat->x∈bz (dw m.f m.d i)->x∈ml (wC C) (kC C) (so m):=fun i x hi hx=>by
     rw [pc]
     have hfi:=hs i (by omega) (by omega)
     unfold fi at hfi
     rw [Bool.and_eq_true]at hfi
     refine ⟨?_,(mem1 x).2 ⟨i,hi,hx⟩⟩
     simp only [bz,List.mem_cons,List.not_mem_nil,or_false]at hx
     rcases hx with rfl|rfl
     . exact (Gq mk hfi.1).1
     . exact (Gq mk hfi.2).1
   have z0:dw m.f m.d ((0:Nat):Int)=m.f:=by
     obtain ⟨a1,a2,a3⟩:=sk (d:=m.d) (n:=((0:Nat):Int)) fx fy (by omega)
     exact yw (by rw [a1];simp) (by rw [a2];simp) a3
   obtain ⟨a1,a2,a3⟩:=sk (d:=m.d) (n:=1) fx fy (by omega)
   have eA:east m.f=if m.f.d=true then (m.f.x,m.f.y+1)else (m.f.x+1,m.f.y):=by
     unfold east
     rw [wr_s (by omega),wr_s (by omega)]
   have h1f:=hs 1 (by omega) (by omega)
   obtain ⟨sx,sy⟩:=rn mk h1f
   have eB:east (dw m.f m.d 1)=if m.f.d=true then ((dw m.f m.d 1).x,(dw m.f m.d 1).y+1)else ((dw m.f m.d 1).x+1,(dw m.f m.d 1).y):=by
     unfold east
     rw [wr_s (by omega),wr_s (by omega),a3]
   have c0:(m.f.x,m.f.y)∈ml (wC C) (kC C) (so m):=hin 0 _ (by omega) (by rw [z0];exact .head _)
   have c1:east m.f∈ml (wC C) (kC C) (so m):=hin 0 _ (by omega) (by rw [z0];exact .tail _ (.head _))
   have c2:((dw m.f m.d 1).x,(dw m.f m.d 1).y)∈ml (wC C) (kC C) (so m):=hin 1 _ (by omega) (.head _)
   have c3:east (dw m.f m.d 1)∈ml (wC C) (kC C) (so m):=hin 1 _ (by omega) (.tail _ (.head _))
   rw [eA]at c1
   rw [eB]at c3
   rw [a1,a2]at c2 c3
   have hd4:m.d=0\/m.d=1\/m.d=2\/m.d=3:=by omega
   cases hdn:m.f.d with
   |false=>
     rw [hdn]at c1 c3
     simp only [Bool.false_eq_true,if_false]at c1 c3
     rcases hd4 with e|e|e|e<;>simp only [e]at c2 c3
     . exact nu c0 c1 c2 (by simp<;>omega) (by simp<;>omega) (by simp<;>omega)
     . exact nu c0 c1 c3 (by simp<;>omega) (by simp<;>omega) (by simp<;>omega)
     . exact nu c0 c1 c2 (by simp<;>omega) (by simp<;>omega) (by simp<;>omega)
     . exact nu c0 c1 c2 (by simp<;>omega) (by simp<;>omega) (by simp<;>omega)
   |true=>
     rw [hdn]at c1 c3
     simp only [if_true]at c1 c3
     rcases hd4 with e|e|e|e<;>simp only [e]at c2 c3
     . exact nu c0 c1 c2 (by simp<;>omega) (by simp<;>omega) (by simp<;>omega)
     . exact nu c0 c1 c2 (by simp<;>omega) (by simp<;>omega) (by simp<;>omega)
     . exact nu c0 c1 c3 (by simp<;>omega) (by simp<;>omega) (by simp<;>omega)
     . exact nu c0 c1 c2 (by simp<;>omega) (by simp<;>omega) (by simp<;>omega)
theorem Nb (mk:cj C) {m:Move} (hl:df C m=true) (h2:m.k=2):df C (nh m)=true/\io C m=io C (nh m)/\fi C m.t=true/\3<=(io C m).length:=by
 have h1:¬m.k=1:=by omega
 have hf:=wo hl
 obtain ⟨fx,fy⟩:=rn mk hf
 have hl0:=hl
 unfold df at hl0
 rw [hf,Bool.true_and,if_neg h1,if_pos h2]at hl0
 simp only [Bool.and_eq_true,decide_eq_true_eq,List.all_eq_true]at hl0
 obtain ⟨hs,hn,hd,ht⟩:=hl0
 have e1:ec (m.f.x,m.f.y)=[(m.f.x,m.f.y),(m.f.x+1,m.f.y),(m.f.x,m.f.y+1),(m.f.x+1,m.f.y+1)]:=by
   unfold ec
   simp only
   rw [wr_s (by omega),wr_s (by omega)]
 have hft:fi C m.t=true:=by
   rw [ht]
   unfold fi east yg
   simp only [Bool.and_eq_true]
   rw [e1]at hs
   refine ⟨hs _ (.head _),?_⟩
   cases hdn:m.f.d with
   |false=>simp only [Bool.not_false,if_true];rw [wr_s (by omega)];exact hs _ (.tail _ (.tail _ (.head _)))
   |true=>simp only [Bool.not_true,Bool.false_eq_true,if_false];rw [wr_s (by omega)];exact hs _ (.tail _ (.head _))
 have etx:m.t.x=m.f.x/\m.t.y=m.f.y:=by rw [ht];exact ⟨rfl,rfl⟩
 have hlb:df C (nh m)=true:=by
   unfold df
   rw [if_neg (show ¬(nh m).k=1 from h1),if_pos (show (nh m).k=2 from h2)]
   simp only [Bool.and_eq_true,decide_eq_true_eq,List.all_eq_true]
   refine ⟨hft,?_,hn,?_,?_⟩
   . show ∀x∈ec (m.t.x,m.t.y),_
     rw [etx.1,etx.2]
     exact hs
   . show (if m.k=1 then _ else m.d)=0
     rw [if_neg h1];exact hd
   . show m.f=yg m.t
     rw [ht]
     unfold yg
     simp
 refine ⟨hlb,?_,hft,?_⟩
 . unfold io
   rw [if_pos hl,if_pos hlb]
   unfold so
   rw [if_neg h1,if_pos h2,if_neg (show ¬(nh m).k=1 from h1),if_pos (show (nh m).k=2 from h2)]
   show _=ml _ _ (ec (m.t.x,m.t.y))
   rw [etx.1,etx.2]
 . unfold io so
   rw [if_pos hl,if_neg h1,if_pos h2]
   have hin:∀x∈ec (m.f.x,m.f.y),x∈ml (wC C) (kC C) (ec (m.f.x,m.f.y)):=fun x hx=>by
     rw [pc]
     exact ⟨(Gq mk (hs x hx)).1,hx⟩
   rw [e1]at hin ⊢
   exact nu (hin _ (.head _)) (hin _ (.tail _ (.head _))) (hin _ (.tail _ (.tail _ (.head _)))) (by simp;omega) (by simp;omega) (by simp;omega)
theorem aw1 (mk:cj C) {p:Pose} (hp:PB p) {m:Move} (h:m∈Cp C p):m.f=p/\MB m/\MB (nh m)/\(m.k=1\/m.k=2)/\(m.k=1->0<=m.d/\m.d<=3)/\df C m=true/\df C (nh m)=true/\io C m=io C (nh m)/\fi C m.t=true/\3<=(io C m).length:=by
 have key:m.f=p/\df C m=true/\(m.k=1\/m.k=2):=by
   unfold Cp at h
   split at h
   . rcases List.mem_append.1 h with h|h
     . obtain ⟨j,_,_,hj⟩:=Mi.1 h
       obtain ⟨n,_,_,e1,e2⟩:=aj3 hj
       exact ⟨by rw [e1];rfl,e2,.inl (by rw [e1];rfl)⟩
     . split at h
       . rename_i hl
         simp at h
         exact ⟨by rw [h];rfl,by rw [h];exact hl,.inr (by rw [h];rfl)⟩
       . cases h
   . cases h
 obtain ⟨ef,hl,hk⟩:=key
 have hall:df C (nh m)=true/\io C m=io C (nh m)/\fi C m.t=true/\3<=(io C m).length:=by
   rcases hk with hk|hk
   . exact Ub mk hl hk
   . exact Nb mk hl hk
 have hn:Bd m.n:=by
   rcases hk with hk|hk
   . obtain ⟨n1,n2,_⟩:=Hs mk hl hk
     unfold Bd;omega
   . have hl0:=hl
     unfold df at hl0
     rw [if_neg (by omega),if_pos hk]at hl0
     simp only [Bool.and_eq_true,decide_eq_true_eq]at hl0
     rw [hl0.2.2.1]
     unfold Bd;omega
 obtain ⟨tx,ty⟩:=rn mk hall.2.2.1
 refine ⟨ef,⟨hn,by rw [ef];exact hp⟩,⟨hn,⟨by show Bd m.t.x;unfold Bd;omega,by show Bd m.t.y;unfold Bd;omega⟩⟩,hk,fun hk1=>(Hs mk hl hk1).2.2.1,hl,hall.1,hall.2.1,hall.2.2.1,hall.2.2.2⟩
end
end Go.Proofs.YtfflipnhffknnaaGreatDoor
end
section
namespace Go.Proofs.YtfflipnhffknnaaGreatDoor
open Go Go.HL Go.Proofs.Resv Go.Proofs.Srch
section
abbrev envC (C:Conf) (T:Tb) (r:Int):Env Pose Move:=envE C (wC C) (kC C) (f3C C) T r
variable {C:Conf}
theorem X1 (mk:cj C) {T:Tb} (gt:kc T) {r:Int}:p8 (envC C T r):=ao7 (q:=⟨C,wC C,kC C,f3C C,T,r⟩) mk gt
theorem Ci {T:Tb} {r:Int} {p:Pose} {w:Move × Pose × Int × List Sp} (h:w∈(envC C T r).ways p):∃m∈lr (wC C) (kC C) (f3C C) p,w=wayE C (wC C) (kC C) (f3C C) T r m:=by
 obtain ⟨m,hm,rfl⟩:=List.mem_map.1 h
 exact ⟨m,hm,rfl⟩
theorem Pl (mk:cj C) {p:Pose} (h:fi C p=true):PB p:=by
 obtain ⟨a,b⟩:=rn mk h
 exact ⟨by unfold Bd;omega,by unfold Bd;omega⟩
theorem U2 (mk:cj C) {p:Pose} {m:Move} (h:m∈lr (wC C) (kC C) (f3C C) p):fi C p=true/\m∈Cp C p/\m.f=p/\MB m/\MB (nh m)/\(m.k=1\/m.k=2)/\(m.k=1->0<=m.d/\m.d<=3)/\df C m=true/\df C (nh m)=true/\io C m=io C (nh m)/\fi C m.t=true/\jj (wC C) (kC C) (f3C C) m=io C m:=by
 have hf:fi C p=true:=by
   unfold lr at h
   split at h
   . rename_i h1;rw [py mk]at h1;exact h1
   . cases h
 have hp:=Pl mk hf
 rw [aj1 mk hp]at h
 obtain ⟨e1,e2,e3,e4,e5,e6,e7,e8,e9,_⟩:=aw1 mk hp h
 exact ⟨hf,h,e1,e2,e3,e4,e5,e6,e7,e8,e9,af6 mk (by rw [e1];exact hp)⟩
theorem F1 (mk:cj C) {p:Pose} (h:fi C p=true):∀c∈bz p,inW (wC C) (kC C) c=true:=fun c hc=>(o9 (by rw [py mk];exact h) c hc).1
theorem wk_of (mk:cj C):C.w=(wC C:Int)/\C.h=(kC C:Int)/\1<=wC C/\wC C<=16/\1<=kC C/\kC C<=16:=by
 have hb:=(uz.1 mk).nums
 unfold og at hb
 simp only [Bool.and_eq_true]at hb
 exact ru (by simp_all) (by simp_all)
theorem wr16 {x:Int} (h:0<=x/\x<16):wr x=x:=Lh (by unfold Bd;omega)
theorem Hf (mk:cj C) {m:Move} (hl:df C m=true) (hk:m.k=1\/m.k=2):∀c∈bz m.f,c∈io C m:=by
 have hf:=wo hl
 have hin:=F1 mk hf
 intro c hc
 have h0:=jc.1 (hin c hc)
 unfold io
 rw [if_pos hl,pc]
 refine ⟨by omega,?_⟩
 unfold so
 by_cases h1:m.k=1
 . rw [if_pos h1,List.mem_flatMap]
   refine ⟨0,by simp,?_⟩
   have e:dw m.f m.d ((0:Nat):Int)=m.f:=by
     obtain ⟨ha,hb⟩:=rn mk hf
     unfold dw
     simp [wr16 ha,wr16 hb]
   rw [e];exact hc
 . have h2:m.k=2:=by omega
   rw [if_neg h1,if_pos h2]
   rcases List.mem_cons.1 hc with rfl|hc
   . simp [ec]
   . rw [List.mem_singleton]at hc;subst hc
     unfold east ec
     split<;>simp
theorem Hg (mk:cj C) {p:Pose} {m:Move} (h:m∈lr (wC C) (kC C) (f3C C) p):(∀c∈bz p,c∈jj (wC C) (kC C) (f3C C) m)/\(∀c∈bz m.t,c∈jj (wC C) (kC C) (f3C C) m)/\∀c∈jj (wC C) (kC C) (f3C C) m,inW (wC C) (kC C) c=true:=by
 obtain ⟨hf,hr,e1,e2,e3,e4,e5,e6,e7,e8,e9,e10⟩:=U2 mk h
 rw [e10]
 refine ⟨fun c hc=>Hf mk e6 e4 c (by rw [e1];exact hc),fun c hc=>?_,fun c hc=>?_⟩
 . rw [e8]
   exact Hf mk e7 (by unfold nh;exact e4) c hc
 . unfold io at hc
   rw [if_pos e6,pc]at hc
   exact jc.2 (by omega)
theorem env_ris (mk:cj C) {T:Tb} (gt:kc T) {r:Int}:Cg (envC C T r):=by
 refine ⟨fun p=>yq gt r _,fun p w hw=>?_,fun p w hw s hs=>?_⟩
 . obtain ⟨m,hm,rfl⟩:=Ci hw
   exact yq gt r _
 . obtain ⟨m,hm,rfl⟩:=Ci hw
   obtain ⟨_,h2,_⟩:=Hg mk hm
   refine ac1 gt (fun n hn=>?_) hs
   obtain ⟨c,hc,rfl⟩:=List.mem_map.1 hn
   exact List.mem_map.2 ⟨c,h2 c hc,rfl⟩
theorem in_T (mk:cj C) {n:Nat} (hn:(n:Int)=C.w*C.h) {c:Cell} (hc:inW (wC C) (kC C) c=true):inT n (numI (wC C) (kC C) c)=true:=by
 obtain ⟨e1,_,_,e4⟩:=uv hc
 obtain ⟨h1,h2,_⟩:=wk_of mk
 rw [Da,e1]
 have:((wC C*kC C:Nat):Int)=C.w*C.h:=by rw [h1,h2];simp
 omega
theorem ao8 (mk:cj C) {n:Nat} (hn:(n:Int)=C.w*C.h) {r:Int}:Flat (envC C (List.replicate n []) r) 16000:=by
 refine ⟨fun p hp=>?_,fun p hp w hw=>?_⟩
 . refine Mw fun x hx=>?_
   obtain ⟨c,hc,rfl⟩:=List.mem_map.1 hx
   exact in_T mk hn (F1 mk (by rw [<- py mk];exact hp) c hc)
 . obtain ⟨m,hm,rfl⟩:=Ci hw
   obtain ⟨_,_,h3⟩:=Hg mk hm
   obtain ⟨l1,l2⟩:=Ik mk hm
   refine ⟨Mw fun x hx=>?_,l1,l2,?_⟩
   . obtain ⟨c,hc,rfl⟩:=List.mem_map.1 hx
     exact in_T mk hn (h3 c hc)
   . show dg (wC C) (kC C) (f3C C) m.t=true
     rw [py mk]
     exact (U2 mk hm).2.2.2.2.2.2.2.2.2.2.1
end
section
variable {C:Conf}
inductive Out (C:Conf) (T:Tb) (r:Int) (p:Pose) (t:Int) (gp:Pose) (any:Bool):Res Move->Prop where
 |ok {l:List Move} {q:Pose} {i:Nat} {a:Int} {s:Sp} (w:Wk (envC C T r) p t l q i a) (hs:((envC C T r).spans q)[i]?=some s) (h1:s.1<=a) (h2:a<s.2) (g:mj gp any q s=true)
     (best:∀p' i' t' s',Rc (envC C T r) p t p' i' t'->((envC C T r).spans p')[i']?=some s'->mj gp any p' s'=true->a<=t'):Out C T r p t gp any (.ok l)
 |route (h:(inside ((envC C T r).spans p) t).isSome=true) (none:∀p' i' t' s',Rc (envC C T r) p t p' i' t'->((envC C T r).spans p')[i']?=some s'->mj gp any p' s'=false):Out C T r p t gp any (.no 6)
 |budget:Out C T r p t gp any (.no 7)
 |taken (h:inside ((envC C T r).spans p) t=none):Out C T r p t gp any (.no 18)
theorem Iv (mk:cj C) {T:Tb} (gt:kc T) {r:Int} {p gp:Pose} {t:Int} {any:Bool} {n:Nat} (hp:dg (wC C) (kC C) (f3C C) p=true):Out C T r p t gp any (find (envC C T r) (mj gp any) p t zM n):=by
 have ris:=env_ris mk gt (r:=r)
 rcases al6 (X1 mk gt (r:=r)) ris (goal:=mj gp any) (t0:=t) (z:=zM) (p0:=p) hp n with ⟨h,h2⟩|⟨h0,⟨lo',S',k,x,h1,v,hk,hg,hb⟩|⟨h1,h2⟩|h1⟩
 . rw [h];exact .taken h2
 . rw [h1]
   obtain ⟨a1,a2,a3⟩:=v.at_ x (List.mem_of_getElem? hk)
   exact .ok (path_wk ris v hk) a1 a2 a3 hg hb
 . rw [h1];exact .route h0 h2
 . rw [h1];exact .budget
abbrev Ji (C:Conf) (T:Tb) (rb:Int) (p:Pose) (t:Int) (gp:Pose) (any:Bool):Prop:=(T.length:Int)≠C.w*C.h\/rb<0\/t<0\/t>=FV\/dg (wC C) (kC C) (f3C C) p=false\/aimB C gp any=false
theorem Bu {T:Tb} {rb t:Int} {p gp:Pose} {any:Bool} (h:Ji C T rb p t gp any):jh C (some T) rb p t gp any = .no 1:=by
 unfold jh
 exact if_pos h
theorem Iy {T:Tb} {rb t:Int} {p gp:Pose} {any:Bool} (h:¬Ji C T rb p t gp any):jh C (some T) rb p t gp any=find (envC C T rb) (mj gp any) p t zM C.bu.toNat:=by
 unfold jh
 exact if_neg h
def shM (by_:Int) (m:Move):Move:={ m with a:=m.a+by_,e:=m.e+by_ }
theorem P6 {T:Tb} {rb t:Int} {p gp:Pose} {any:Bool} (h:¬Ji C T rb p t gp any):(T.length:Int)=C.w*C.h/\0<=rb/\0<=t/\t<FV/\dg (wC C) (kC C) (f3C C) p=true/\aimB C gp any=true:=by
 unfold Ji at h
 simp only [not_or,Decidable.not_not,Bool.not_eq_false]at h
 obtain ⟨a,b,c,d,e,f⟩:=h
 exact ⟨a,by omega,by omega,by omega,e,f⟩
end
section
variable {C:Conf}
def FreeC (C:Conf) (T:Tb) (r:Int) (L:List Cell) (a b:Int):Prop:=∀c∈L,inT T.length (numI (wC C) (kC C) c)=true/\ub (rowT T (numI (wC C) (kC C) c)) r a b=true
def yx (p:Pose) (l:List Move):Nat->Pose
 |0=>p
 |j+1=>(l.getD j zM).t
def mi (t:Int) (l:List Move):Nat->Int
 |0=>t
 |j+1=>(l.getD j zM).e
structure MvOk (C:Conf) (T:Tb) (r:Int) (P:Pose) (N:Int) (m:Move):Prop where
 k:m.k=1\/m.k=2
 nb:Bd m.n
 leg:df C m=true
 f:m.f=P
 n0:0<=N
 at_:N<=m.a
 e:m.e=m.a+dp C m
 e2:m.a<m.e/\m.e<FV
 stand:FreeC C T r (bz P) N m.a
 go:FreeC C T r (io C m) m.a m.e
 to:fi C m.t=true
theorem L5 {p:Pose} {l:List Move} {m:Move} {j:Nat} (h:j<=l.length):yx p (l++[m]) j=yx p l j:=by
 cases j with
 |zero=>rfl
 |succ j=>
   show ((l++[m]).getD j zM).t=(l.getD j zM).t
   rw [List.getD_eq_getElem?_getD,List.getD_eq_getElem?_getD,List.getElem?_append_left (by omega)]
theorem Md {t:Int} {l:List Move} {m:Move} {j:Nat} (h:j<=l.length):mi t (l++[m]) j=mi t l j:=by
 cases j with
 |zero=>rfl
 |succ j=>
   show ((l++[m]).getD j zM).e=(l.getD j zM).e
   rw [List.getD_eq_getElem?_getD,List.getD_eq_getElem?_getD,List.getElem?_append_left (by omega)]
theorem ae6 (mk:cj C) {T:Tb} (gt:kc T) {r:Int} {p q:Pose} {t a:Int} {l:List Move} {i:Nat} (hp:fi C p=true) (ht:0<=t) (w:Wk (envC C T r) p t l q i a):
   (∀j m,l[j]?=some m->MvOk C T r (yx p l j) (mi t l j) m)/\q=yx p l l.length/\a=mi t l l.length/\fi C q=true/\0<=a:=by
 induction w with
 |nil h=>exact ⟨fun j m hm=>by simp at hm,rfl,rfl,hp,ht⟩
 |@snoc l q i j a s0 s w h h0 ha1 ha2 hw hs h1 h2 he he2 hj ih=>
   obtain ⟨ih1,rfl,rfl,ih4,ih5⟩:=ih
   obtain ⟨m,hm,rfl⟩:=Ci hw
   obtain ⟨hf,hr,e1,e2,e3,e4,e5,e6,e7,e8,e9,e10⟩:=U2 mk hm
   obtain ⟨l1,l2⟩:=Ik mk hm
   have es:=Gp (show 0<=max (mi t l l.length) s.1 by omega) (show 0<=dp C m by omega) he2
   have e11:(l++[yi m (max (mi t l l.length) s.1) (sumI (max (mi t l l.length) s.1) (dp C m))]).getD l.length zM=yi m (max (mi t l l.length) s.1) (sumI (max (mi t l l.length) s.1) (dp C m)):=by
     rw [List.getD_eq_getElem?_getD,List.getElem?_append_right (Nat.le_refl _)];simp
   have hb:=(X1 mk gt (r:=r)).pos _ s0 (List.mem_of_getElem? h0)
   have hsum:sumI (max (mi t l l.length) s.1) (dp C m)<=s.2:=he
   have hsum2:sumI (max (mi t l l.length) s.1) (dp C m)<FV:=he2
   refine ⟨fun j m' hm'=>?_,?_,?_,e9,?_⟩
   . by_cases hjl:j<l.length
     . rw [List.getElem?_append_left hjl]at hm'
       rw [L5 (by omega),Md (by omega)]
       exact ih1 j m' hm'
     . have hjl':j=l.length:=by
         have:=(List.getElem?_eq_some_iff.1 hm').1
         simp at this
         omega
       subst hjl'
       rw [L5 (Nat.le_refl _),Md (Nat.le_refl _)]
       rw [List.getElem?_append_right (Nat.le_refl _)]at hm'
       simp at hm'
       subst hm'
       refine ⟨e4,e2.1,e6,e1,ih5,by show mi t l l.length<=max (mi t l l.length) s.1;omega,es,⟨?_,hsum2⟩,fun c hc=>?_,fun c hc=>?_,e9⟩
       . show max (mi t l l.length) s.1<sumI (max (mi t l l.length) s.1) (dp C m)
         omega
       . refine Is gt (List.mem_of_getElem? h0) ha1 (show max (mi t l l.length) s.1<=s0.2 by omega) _ (List.mem_map.2 ⟨c,hc,rfl⟩)
       . refine Is gt hs (show s.1<=max (mi t l l.length) s.1 by omega) hsum _ (List.mem_map.2 ⟨c,?_,rfl⟩)
         rw [e10]
         exact hc
   . rw [List.length_append]
     exact (congrArg Move.t e11).symm
   . rw [List.length_append]
     exact (congrArg Move.e e11).symm
   . show 0<=sumI (max (mi t l l.length) s.1) (dp C m)
     omega
theorem Mz (mk:cj C) {T:Tb} (gt:kc T) {rb t:Int} {p gp:Pose} {any:Bool} {l:List Move} (h:jh C (some T) rb p t gp any = .ok l):
   ((T.length:Int)=C.w*C.h/\0<=rb/\0<=t/\t<FV/\fi C p=true)/\(∀j m,l[j]?=some m->MvOk C T rb (yx p l j) (mi t l j) m)/\∃s:Sp,s∈(envC C T rb).spans (yx p l l.length)/\s.1<=mi t l l.length/\mi t l l.length<s.2/\mj gp any (yx p l l.length) s=true/\fi C (yx p l l.length)=true/\0<=mi t l l.length:=by
 have ha:¬Ji C T rb p t gp any:=fun ha=>by rw [Bu ha]at h;cases h
 obtain ⟨c1,c2,c3,c4,c5,c6⟩:=P6 ha
 have hf:fi C p=true:=by rw [<- py mk];exact c5
 rw [Iy ha]at h
 have o1:=Iv mk gt (r:=rb) (gp:=gp) (t:=t) (any:=any) (n:=C.bu.toNat) c5
 rw [h]at o1
 cases o1 with
 |ok w hs h1 h2 g best=>
   obtain ⟨w1,rfl,rfl,w4,w5⟩:=ae6 mk gt hf c3 w
   exact ⟨⟨c1,c2,c3,c4,hf⟩,w1,_,List.mem_of_getElem? hs,h1,h2,g,w4,w5⟩
end
theorem Ro {C:Conf} (sm:SmO C):1<=C.w*C.h/\C.w*C.h<=36/\IntKind.i64.wrap (C.w*C.h)=(((C.w*C.h).toNat:Nat):Int)/\(((C.w*C.h).toNat:Nat):Int)=C.w*C.h:=by
 have hnb:1<=C.w/\1<=C.h:=by
   have hb:=sm.may.nums
   unfold og ax at hb
   simp only [Bool.and_eq_true,decide_eq_true_eq]at hb
   omega
 obtain ⟨hw1,hh1⟩:=hnb
 have b2:C.w*C.h<=6*6:=Int.mul_le_mul sm.w sm.h (by omega) (by omega)
 have b1:1*1<=C.w*C.h:=Int.mul_le_mul hw1 hh1 (by omega) (by omega)
 refine ⟨by omega,by omega,?_,by omega⟩
 rw [kf (by omega) (by omega)];omega
abbrev zu (C:Conf) (ab:Option Addr) (cb:Nat) (ap:Option Addr) (cp:Nat) (ar:Option Addr) (cr:Nat) (az:Option Addr) (cs:Nat):Obj := .cells #[C.w,C.h,C.ht,.slice ab C.bl.length cb,.slice ap C.po.length cp,.slice ar C.ro.length cr,.slice az C.st.length cs,C.un,C.ac,C.sp,C.tu,C.ho,C.qu,C.re,C.bu,.bool C.back] 26 (0,0)
abbrev fh (p:Pose):Obj := .cells #[p.x,p.y,.bool p.d] 30 (0,0)
theorem TabV.up {G h h':Hp} {vt:Value} {To:Option Tb} (t:TabV G h vt To) (l:h.le h') (d:Dis G h'):TabV G h' vt To:=by
 cases To with
 |none=>exact t
 |some T=>obtain ⟨tp,e,ts,x⟩:=t;exact ⟨tp,e,ts.up l d,x⟩
structure FindO (G:Hp) (h:Hp) (W:Res Move) (u:Value) (h':Hp):Prop where
 ex:∃ip vs,u = .tuple #[vs,(outE W)]/\Slc ff 48 ip vs (outL W)/\(outL W).length<=110000/\HL.Sep [ip,h] h'/\Dis G h'
theorem ac4 {G h:Hp} {C:Conf} {v vt:Value} {To:Option Tb} {p gp:Pose} {rb t:Int} {any:Bool} (mk:cj C) (hv:CV G h v C) (st:iq G) (hro:∀p∈C.ro,PB p) (fit:Fit0 C) (hbu:C.bu<=4000)
   (tv:TabV G h vt To) (hp:PB p) (hgp:PB gp):
   al P_ G 27 #[v,vt,rb,ja p,t,.agg #[gp.x,gp.y,.bool gp.d,.bool any]] h (FindO G h (jh C To rb p t gp any)):=by
 refine (ac3 hv st hro (by have:=fit.st;unfold Room at this;omega) (fun _=>hbu) tv hp hgp).mono ?_
 rintro u h' ⟨W,⟨ip,vs,e1,e2,e3,e4,e5⟩,⟨hno,_⟩|⟨_,rfl⟩⟩
 . exact absurd mk hno
 . exact ⟨ip,vs,e1,e2,e3,e4,e5⟩
theorem qx {C:Conf} (mk:cj C) {T:Tb} (gt:kc T) {rb t e:Int} {p gp:Pose} {any:Bool} (h:jh C (some T) rb p t gp any = .no e):e=1\/e=6\/e=7\/e=18:=by
 by_cases ha:Ji C T rb p t gp any
 . rw [Bu ha]at h;cases h;exact .inl rfl
 . have c5:=(P6 ha).2.2.2.2.1
   rw [Iy ha]at h
   have o1:=Iv mk gt (r:=rb) (gp:=gp) (t:=t) (any:=any) (n:=C.bu.toNat) c5
   rw [h]at o1
   cases o1<;>simp
end Go.Proofs.YtfflipnhffknnaaGreatDoor
end
section
namespace Go.Proofs.YtfflipnhffknnaaGreatDoor
open Go Go.HL
section
variable (G:Hp) (K:EK) (r:Rg) (h:Hp)
def md34:Nat->Hint
 |18=>mh false [0,1,0,0,0,0,0,64,224,511,0,2047] [n_,m_,m_,m_,m_,m_,n_,m_,e_,n_,.alloc,.store] [false,false,false,false,false,false,false,false,true,false,false,false] false
 |22=>mh false [0,0,3] [m_,n_,n_] (fs 3) false
 |_=>mh false [] [] [] false
def aB3:Prop:=
 o_ G (Instr.loadAt 40 (r 18)) h fun v13 h13=>
 K .ret (u3 r 88 v13 14 v13 15 (.int .i64 0)) h13
def Qh:Prop:=
 o_ G (Instr.loadAt 35 (r 19)) h fun v14 h14=>
 opH P_ G (xEq .neq 35 (.tmp 0) (.const .nilFunc) v14 (.int .i64 0)) h14 fun v15 h15=>
 cond v15
 (w_ G h15 (Instr.loadAt 35 (r 19)) h15 fun v16 h16=>
 K .ret (u6 r 81 v14 82 v15 80 v15 83 v16 14 (.slice none 0 0) 15 v16) h16)
 (o_ G (Instr.loadAt 40 (r 18)) h15 fun v17 h17=>o_ G (Builtin.len_ #[40] 3 #[v17]) h17 fun v18 h18=>o_ G (binOp .gtr 3 v18 (.int .i64 4096)) h18 fun v19 h19=>
 cond v19
 (K .ret (u9 r 81 v14 82 v15 80 v15 85 v17 86 v18 87 v19 84 v19 14 (.slice none 0 0) 15 (.int .i64 2)) h19)
 (aB3 G K (u7 r 81 v14 82 v15 80 v15 85 v17 86 v18 87 v19 84 v19) h19))
def Oa:Prop:=
 o_ G (binOp .add 3 (r 21) (.int .i64 1)) h fun v20 h20=>
 K .normal (u3 r 43 (r 21) 44 v20 21 v20) h20
def N8:Prop:=
 p_ (Instr.fieldAt 119 (r 22) 1) h fun v33 h33=>
 w_ G h (Instr.loadAt 3 v33) h33 fun v34 h34=>
 w_ G h (Instr.loadAt 30 (r 10)) h34 fun v35 h35=>
 w_ G h (Instr.loadAt 30 (r 10)) h35 fun v36 h36=>
 w_ G h (Instr.loadAt 3 (r 11)) h36 fun v37 h37=>
 w_ G h (Instr.loadAt 3 (r 11)) h37 fun v38 h38=>
 p_ (Instr.fieldAt 26 (r 7) 11) h38 fun v39 h39=>
 w_ G h (Instr.loadAt 3 v39) h39 fun v40 h40=>
 c_ G 77 #[v38,v40] h40 fun v41 h41=>h.le h41/\
 p_ (Instr.build 48 #[(0,v34),(3,v35),(4,v36),(5,v37),(6,v41)]) h41 fun v42 h42=>o_ G (Instr.alloc 48 true (.tuple #[])) h42 fun v43 h43=>
 opH P_ G (su (Instr.storeAt 48 v43 v42)) h43 fun v44 h44=>o_ G (Instr.loadAt 40 (r 18)) h44 fun v45 h45=>o_ G (Instr.loadAt 48 v43) h45 fun v46 h46=>o_ G (Instr.buildSlice 40 1 #[(0,v46)]) h46 fun v47 h47=>
 c_ G 76 #[v45,v47] h47 fun v48 h48=>
 opH P_ G (su (Instr.storeAt 40 (r 18) v48)) h48 fun v49 h49=>o_ G (Instr.fieldAt 48 v43 6) h49 fun v50 h50=>o_ G (Instr.loadAt 3 v50) h50 fun v51 h51=>
 opH P_ G (su (Instr.storeAt 3 (r 11) v51)) h51 fun v52 h52=>
 Oa G K (u7 (u10 r 64 v33 65 v34 66 v35 67 v36 68 v37 69 v38 70 v39 71 v40 72 v41 73 v42) 23 v43 74 v45 75 v46 76 v47 77 v48 78 v50 79 v51) h52
def N9:Prop:=
 o_ G (Instr.indexAt 59 (r 5) (r 21)) h fun v23 h23=>o_ G (Instr.loadAt 119 v23) h23 fun v24 h24=>o_ G (Instr.alloc 119 true (.tuple #[])) h24 fun v25 h25=>
 opH P_ G (su (Instr.storeAt 119 v25 v24)) h25 fun v26 h26=>o_ G (Instr.fieldAt 119 v25 0) h26 fun v27 h27=>o_ G (Instr.loadAt 28 v27) h27 fun v28 h28=>o_ G (Instr.build 30 #[(0,v28)]) h28 fun v29 h29=>o_ G (Instr.build 45 #[(0,v29),(1,(.bool true))]) h29 fun v30 h30=>
 opH P_ G (ij (r 20) #[v30]) h30 fun v31 h31=>o_ G (Op.unary .not v31) h31 fun v32 h32=>
 (fun q=>cond v32
 (K (.exit 2) q h32)
 (N8 G K q h32))
 (u2 (u10 r 53 (r 5) 54 (r 21) 55 v23 56 v24 22 v25 57 (r 20) 58 v27 59 v28 60 v29 61 v30) 62 v31 63 v32)
def We (r:Rg) (h:Hp) (K:EK):Prop:=
 o_ G (Builtin.len_ #[59] 3 #[(r 5)]) h fun v21 h21=>
 opH P_ G (xEq .eql 3 (.tmp 0) (.tmp 0) (r 21) v21) h21 fun v22 h22=>
 cond v22
 (o_ G (Instr.loadAt 30 (r 13)) h22 fun v53 h53=>o_ G (Instr.build 45 #[(0,v53)]) h53 fun v54 h54=>
 opH P_ G (ij (r 20) #[v54]) h54 fun v55 h55=>
 K (.exit 2) (u8 r 45 (r 21) 46 (r 5) 47 v21 48 v22 49 (r 20) 50 v53 51 v54 52 v55) h55)
 (N9 G K (u4 r 45 (r 21) 46 (r 5) 47 v21 48 v22) h22)
def Wf:Prop:=
 o_ G (Instr.alloc 40 true (.tuple #[])) h fun v10 h10=>o_ G (Instr.alloc 35 true (.tuple #[])) h10 fun v11 h11=>
 opH P_ G (su (Instr.storeAt 35 v11 (.int .i64 0))) h11 fun v12 h12=>
 dl (We G) (u5 r 18 v10 19 v11 42 (.func (.func 75) #[] #[(r 7),(r 8),(r 9),(r 10),(r 11),v11,v10]) 20 (.func (.func 75) #[] #[(r 7),(r 8),(r 9),(r 10),(r 11),v11,v10]) 21 (.int .i64 0)) h12 (bo 2 (ci (Qh G K) (qg K)))
def B4:Prop:=
 o_ G (binOp .add 3 (r 29) (.int .i64 1)) h fun v57 h57=>
 K .normal (u2 r 41 v57 29 v57) h57
def Js:Prop:=
 o_ G (Instr.indexAt 59 (r 27) (r 29)) h fun v58 h58=>o_ G (Instr.loadAt 119 v58) h58 fun v59 h59=>o_ G (Instr.alloc 119 true (.tuple #[])) h59 fun v60 h60=>
 opH P_ G (su (Instr.storeAt 119 v60 v59)) h60 fun v61 h61=>o_ G (Instr.fieldAt 119 v60 1) h61 fun v62 h62=>o_ G (Instr.loadAt 3 v62) h62 fun v63 h63=>
 opH P_ G (xEq .neq 3 (.tmp 0) (.const .nilFunc) v63 (.int .i64 3)) h63 fun v64 h64=>g_ v64 true (o_ G (Instr.fieldAt 119 v60 1) h64) h64 fun v65 h65=>g_ v64 true (o_ G (Instr.loadAt 3 v65) h65) h65 fun v66 h66=>g_ v64 true (opH P_ G (xEq .neq 3 (.tmp 0) (.const .nilFunc) v66 (.int .i64 4)) h66) h66 fun v67 h67=>
 opH P_ G (bj v64 v67 (.bool false)) h67 fun v68 h68=>
 (fun q=>cond v68
 (K .ret (u2 q 14 (.slice none 0 0) 15 (.int .i64 1)) h68)
 (B4 G K q h68))
 (upd (u10 r 31 v58 32 v59 17 v60 33 v62 34 v63 35 v64 36 v64 37 v65 38 v66 39 v67) 40 v68)
def aB2 (r:Rg) (h:Hp) (K:EK):Prop:=
 o_ G (binOp .lss 3 (r 29) (r 28)) h fun v56 h56=>
 cond v56
 (Js G K (upd r 30 v56) h56)
 (K (.exit 0) (upd r 30 v56) h56)
def Wg:Prop:=
 o_ G (Builtin.len_ #[59] 3 #[(r 5)]) h fun v9 h9=>
 dl (aB2 G) (u3 r 27 (r 5) 28 v9 29 (.int .i64 0)) h9 (bo 0 (ci (Wf G K) (qg K)))
def S34:Prop:=
 o_ G (Instr.box 26 (r 0)) h fun v0 h0=>o_ G (Instr.box 34 (r 1)) h0 fun v1 h1=>o_ G (Instr.box 3 (r 2)) h1 fun v2 h2=>o_ G (Instr.box 30 (r 3)) h2 fun v3 h3=>o_ G (Instr.box 3 (r 4)) h3 fun v4 h4=>o_ G (Instr.box 30 (r 6)) h4 fun v5 h5=>o_ G (Instr.loadAt 26 v0) h5 fun v6 h6=>
 c_ G 74 #[v6] h6 fun v7 h7=>o_ G (Op.unary .not v7) h7 fun v8 h8=>
 (fun q=>cond v8
 (K .ret (u2 q 14 (.slice none 0 0) 15 (.int .i64 5)) h8)
 (Wg G K q h8))
 (upd (u10 r 7 v0 8 v1 9 v2 10 v3 11 v4 13 v5 14 (.slice none 0 0) 15 (.int .i64 0) 24 v6 25 v7) 26 v8)
theorem enter34:Ent 89 34 [.tmp 14,.tmp 15] S34:=ent_ (m:=md34) (c:=(Tryz.f34.body.getD .skip)) (fun _ _ _ _=>by kernel_rfl) Tryz.func34 rfl rfl rfl
def md75:Nat->Hint
 |7=>mh false [0,0,2,6,15,31,63,0,0,256,768,1920,3968,8064,127,32767] [n_,n_,m_,n_,n_,n_,m_,n_,n_,m_,n_,n_,n_,m_,.store,.store] [false,false,false,false,false,false,false,false,false,false,false,false,false,false,true,false] true
 |_=>mh false [] [] [] false
def Qb (G:Hp) (K:EK) (r:Rg) (h:Hp):Prop:=
 K .ret (upd r 9 (.bool true)) h
def ax7:Prop:=
 o_ G (Instr.loadAt 40 (r 7)) h fun v13 h13=>
 c_ G 76 #[v13,(r 10)] h13 fun v14 h14=>
 opH P_ G (su (Instr.storeAt 40 (r 7) v14)) h14 fun v15 h15=>o_ G (Builtin.len_ #[40] 3 #[(r 10)]) h15 fun v16 h16=>o_ G (binOp .gtr 3 v16 (.int .i64 0)) h16 fun v17 h17=>
 cond v17
 (∃q18:Hp,q18.le h17/\
 w_ G q18 (Builtin.len_ #[40] 3 #[(r 10)]) h17 fun v19 h19=>
 p_ (binOp .sub 3 v19 (.int .i64 1)) h19 fun v20 h20=>
 p_ (Instr.indexAt 40 (r 10) v20) h20 fun v21 h21=>
 p_ (Instr.fieldAt 48 v21 4) h21 fun v22 h22=>
 w_ G q18 (Instr.loadAt 30 v22) h22 fun v23 h23=>
 w_ G q18 (Builtin.len_ #[40] 3 #[(r 10)]) h23 fun v24 h24=>
 p_ (binOp .sub 3 v24 (.int .i64 1)) h24 fun v25 h25=>
 p_ (Instr.indexAt 40 (r 10) v25) h25 fun v26 h26=>
 p_ (Instr.fieldAt 48 v26 6) h26 fun v27 h27=>
 w_ G q18 (Instr.loadAt 3 v27) h27 fun v28 h28=>
 opH P_ G (su (Instr.storeAt 30 (r 4) v23)) h28 fun v29 h29=>q18.le h29/\
 opH P_ G (su (Instr.storeAt 3 (r 5) v28)) h29 fun v30 h30=>
 Qb G K (u10 (u10 r 23 v13 24 (r 10) 25 v14 26 (r 10) 27 v16 28 v17 29 (r 10) 30 (r 10) 31 v19 32 v20) 33 v21 34 v22 35 v23 36 (r 10) 37 (r 10) 38 v24 39 v25 40 v26 41 v27 42 v28) h30)
 (Qb G K (u6 r 23 v13 24 (r 10) 25 v14 26 (r 10) 27 v16 28 v17) h17)
def S75:Prop:=
 o_ G (Instr.box 45 (r 0)) h fun v0 h0=>o_ G (Instr.loadAt 26 (r 1)) h0 fun v1 h1=>o_ G (Instr.loadAt 34 (r 2)) h1 fun v2 h2=>o_ G (Instr.loadAt 3 (r 3)) h2 fun v3 h3=>o_ G (Instr.loadAt 30 (r 4)) h3 fun v4 h4=>o_ G (Instr.loadAt 3 (r 5)) h4 fun v5 h5=>o_ G (Instr.loadAt 45 v0) h5 fun v6 h6=>
 c_ G 27 #[v1,v2,v3,v4,v5,v6] h6 fun v7 h7=>o_ G (Instr.extract v7 0) h7 fun v8 h8=>o_ G (Instr.extract v7 1) h8 fun v9 h9=>
 opH P_ G (su (Instr.storeAt 35 (r 6) v9)) h9 fun v10 h10=>o_ G (Instr.loadAt 35 (r 6)) h10 fun v11 h11=>
 opH P_ G (xEq .neq 35 (.tmp 0) (.const .nilFunc) v11 (.int .i64 0)) h11 fun v12 h12=>
 (fun q=>cond v12
 (K .ret (upd q 9 (.bool false)) h12)
 (ax7 G K q h12))
 (u6 (u10 r 8 v0 9 (.bool false) 10 (.slice none 0 0) 12 v1 13 v2 14 v3 15 v4 16 v5 17 v6 18 v7) 11 v7 19 v8 20 v9 10 v8 21 v11 22 v12)
theorem enter75:Ent 43 75 [.tmp 9] S75:=ent_ (m:=md75) (c:=(Tryz.f75.body.getD .skip)) (fun _ _ _ _=>by kernel_rfl) Tryz.func75 rfl rfl rfl
def md76:Nat->Hint
 |_=>mh false [] [] [] false
def S76:Prop:=
 o_ G (Builtin.append_ #[40,40] 40 #[(r 0),(r 1)]) h fun v0 h0=>
 K .ret (u5 r 4 (.slice none 0 0) 5 (r 0) 6 (r 1) 7 v0 4 v0) h0
theorem enter76:Ent 8 76 [.tmp 4] S76:=ent_ (m:=md76) (c:=(Tryz.f76.body.getD .skip)) (fun _ _ _ _=>by kernel_rfl) Tryz.func76 rfl rfl rfl
def md39:Nat->Hint
 |7=>mh false [0,0,0,6,0,0,32,127] [n_,m_,m_,e_,n_,n_,m_,e_] [false,false,false,true,false,false,false,false] true
 |8=>mh false [0,0,0,6,0,16,0,64,255] [n_,m_,m_,e_,n_,m_,n_,m_,e_] [false,false,false,true,false,false,false,false,false] true
 |9=>mh false [0,1,0,4,3,31] [n_,m_,n_,m_,.store,n_] [false,false,false,false,true,false] true
 |_=>mh false [] [] [] false
def aA0:Prop:=
 o_ G (Instr.loadAt 68 (r 3)) h fun v4 h4=>o_ G (Instr.loadAt 30 (r 4)) h4 fun v5 h5=>
 c_ G 89 #[v4,v5] h5 fun v6 h6=>
 opH P_ G (ij (r 8) #[v6,(r 9),(.int .i64 4611686018427387904)]) h6 fun v7 h7=>o_ G (Instr.loadAt 71 (r 7)) h7 fun v8 h8=>
 K .ret (u8 r 41 (r 8) 42 v4 43 v5 44 v6 45 (r 9) 46 v7 47 v8 6 v8) h8
def Ny:Prop:=
 o_ G (binOp .add 3 (r 15) (.int .i64 1)) h fun v10 h10=>
 K .normal (u2 r 40 v10 15 v10) h10
def Nz:Prop:=
 o_ G (Instr.indexAt 40 (r 13) (r 15)) h fun v11 h11=>o_ G (Instr.loadAt 48 v11) h11 fun v12 h12=>o_ G (Instr.alloc 48 true (.tuple #[])) h12 fun v13 h13=>
 opH P_ G (su (Instr.storeAt 48 v13 v12)) h13 fun v14 h14=>
 ∃q15:Hp,q15.le h14/\
 w_ G q15 (Instr.loadAt 68 (r 3)) h14 fun v16 h16=>
 w_ G q15 (Instr.loadAt 30 (r 4)) h16 fun v17 h17=>
 c_ G 89 #[v16,v17] h17 fun v18 h18=>q15.le h18/\
 p_ (Instr.fieldAt 48 v13 5) h18 fun v19 h19=>
 w_ G q15 (Instr.loadAt 3 v19) h19 fun v20 h20=>
 opH P_ G (ij (r 8) #[v18,(r 9),v20]) h20 fun v21 h21=>
 ∃q22:Hp,q22.le h21/\
 w_ G q22 (Instr.loadAt 68 (r 3)) h21 fun v23 h23=>
 w_ G q22 (Instr.loadAt 48 v13) h23 fun v24 h24=>
 c_ G 90 #[v23,v24] h24 fun v25 h25=>q22.le h25/\
 p_ (Instr.fieldAt 48 v13 5) h25 fun v26 h26=>
 w_ G q22 (Instr.loadAt 3 v26) h26 fun v27 h27=>
 p_ (Instr.fieldAt 48 v13 6) h27 fun v28 h28=>
 w_ G q22 (Instr.loadAt 3 v28) h28 fun v29 h29=>
 opH P_ G (ij (r 8) #[v25,v27,v29]) h29 fun v30 h30=>
 ∃q31:Hp,q31.le h30/\
 p_ (Instr.fieldAt 48 v13 4) h30 fun v32 h32=>
 w_ G q31 (Instr.loadAt 30 v32) h32 fun v33 h33=>
 p_ (Instr.fieldAt 48 v13 6) h33 fun v34 h34=>
 w_ G q31 (Instr.loadAt 3 v34) h34 fun v35 h35=>
 opH P_ G (su (Instr.storeAt 30 (r 4) v33)) h35 fun v36 h36=>q31.le h36/\
 Ny G K (u5 (u10 (u10 r 17 v11 18 v12 11 v13 19 (r 8) 20 v16 21 v17 22 v18 23 (r 9) 24 v19 25 v20) 26 v21 27 (r 8) 28 v23 29 v24 30 v25 31 v26 32 v27 33 v28 34 v29 35 v30) 36 v32 37 v33 38 v34 39 v35 9 v35) h36
def az9 (r:Rg) (h:Hp) (K:EK):Prop:=
 o_ G (binOp .lss 3 (r 15) (r 14)) h fun v9 h9=>
 cond v9
 (Nz G K (upd r 16 v9) h9)
 (K (.exit 0) (upd r 16 v9) h9)
def S39:Prop:=
 o_ G (Instr.box 68 (r 0)) h fun v0 h0=>o_ G (Instr.box 30 (r 1)) h0 fun v1 h1=>o_ G (Instr.alloc 71 true (.tuple #[])) h1 fun v2 h2=>o_ G (Builtin.len_ #[40] 3 #[(r 2)]) h2 fun v3 h3=>
 dl (az9 G) (u10 r 3 v0 4 v1 6 (.slice none 0 0) 7 v2 12 (.func (.func 87) #[] #[v2,v0]) 8 (.func (.func 87) #[] #[v2,v0]) 9 (.int .i64 0) 13 (r 2) 14 v3 15 (.int .i64 0)) h3 (bo 0 (ci (aA0 G K) K))
theorem enter39:Ent 48 39 [.tmp 6] S39:=ent_ (m:=md39) (c:=(Tryz.f39.body.getD .skip)) (fun _ _ _ _=>by kernel_rfl) Tryz.func39 rfl rfl rfl
def md87:Nat->Hint
 |4=>mh false [0,0,0,6,0,0,62,126,255,511] [m_,m_,m_,e_,n_,n_,n_,.alloc,e_,.store] [false,false,false,true,false,false,false,false,false,false] false
 |_=>mh false [] [] [] false
def Nf:Prop:=
 o_ G (binOp .add 3 (r 15) (.int .i64 1)) h fun v3 h3=>
 K .normal (u2 r 28 v3 15 v3) h3
def Ng:Prop:=
 o_ G (Instr.indexAt 22 (r 13) (r 15)) h fun v4 h4=>o_ G (Instr.loadAt 28 v4) h4 fun v5 h5=>o_ G (Instr.alloc 28 true (.tuple #[])) h5 fun v6 h6=>
 opH P_ G (su (Instr.storeAt 28 v6 v5)) h6 fun v7 h7=>
 w_ G h7 (Instr.loadAt 71 (r 3)) h7 fun v8 h8=>
 w_ G h7 (Instr.loadAt 68 (r 4)) h8 fun v9 h9=>
 w_ G h7 (Instr.loadAt 28 v6) h9 fun v10 h10=>
 c_ G 88 #[v9,v10] h10 fun v11 h11=>h7.le h11/\
 p_ (Instr.build 75 #[(0,v11),(1,(r 1)),(2,(r 2))]) h11 fun v12 h12=>o_ G (Instr.buildSlice 71 1 #[(0,v12)]) h12 fun v13 h13=>o_ G (Builtin.append_ #[71,71] 71 #[v8,v13]) h13 fun v14 h14=>
 opH P_ G (su (Instr.storeAt 71 (r 3) v14)) h14 fun v15 h15=>
 Nf G K (u2 (u10 r 17 v4 18 v5 9 v6 19 v8 20 v9 21 v10 22 v11 23 (r 1) 24 (r 2) 25 v12) 26 v13 27 v14) h15
def aw4 (r:Rg) (h:Hp) (K:EK):Prop:=
 o_ G (binOp .lss 3 (r 15) (r 14)) h fun v2 h2=>
 cond v2
 (Ng G K (upd r 16 v2) h2)
 (K (.exit 0) (upd r 16 v2) h2)
def aw5:Prop:=
 o_ G (Builtin.len_ #[22] 3 #[(r 0)]) h fun v1 h1=>
 dl (aw4 G) (u3 r 13 (r 0) 14 v1 15 (.int .i64 0)) h1 (bo 0 K)
def S87:Prop:=
 o_ G (binOp .geq 3 (r 1) (r 2)) h fun v0 h0=>
 cond v0
 (K .ret (u3 r 10 (r 1) 11 (r 2) 12 v0) h0)
 (aw5 G K (u3 r 10 (r 1) 11 (r 2) 12 v0) h0)
theorem enter87:Ent 29 87 [] S87:=ent_ (m:=md87) (c:=(Tryz.f87.body.getD .skip)) (fun _ _ _ _=>by kernel_rfl) Tryz.func87 rfl rfl rfl
def md35:Nat->Hint
 |8=>mh true [0,1,0,7,15,31,63,31,255,511,1023,2047,4095,2047,10239,32767,65535,131071,262143,524287,1048575,2097151,4194303,8388607,8388607,33554431,67108863,134217727,268435455,536870911,1073741823,536870911,2684354559,8589934591,536870911,536870911,536870911,120795955199,274877906943,549755813887] [n_,m_,m_,m_,n_,n_,m_,n_,n_,n_,n_,n_,m_,n_,m_,n_,n_,n_,n_,m_,n_,n_,n_,n_,m_,e_,n_,n_,n_,n_,m_,n_,m_,n_,m_,n_,m_,e_,m_,n_] [false,false,false,false,false,false,false,false,false,false,false,false,false,false,false,false,false,false,false,false,false,false,false,false,false,true,false,false,false,false,false,false,false,false,false,false,false,true,false,false] true
 |10=>mh false [0,1,0,4,3,31] [n_,m_,n_,m_,.store,n_] [false,false,false,false,true,false] true
 |_=>mh false [] [] [] false
def aB0 (G:Hp) (K:EK) (r:Rg) (h:Hp):Prop:=
 K .ret (upd r 8 (.bool true)) h
def N6:Prop:=
 o_ G (binOp .add 3 (r 27) (.int .i64 1)) h fun v12 h12=>
 K .normal (u2 r 75 v12 27 v12) h12
def N5:Prop:=
 ∃q53:Hp,q53.le h/\
 p_ (Instr.fieldAt 48 (r 13) 4) h fun v54 h54=>
 w_ G q53 (Instr.loadAt 30 v54) h54 fun v55 h55=>
 p_ (Instr.fieldAt 48 (r 13) 6) h55 fun v56 h56=>
 w_ G q53 (Instr.loadAt 3 v56) h56 fun v57 h57=>
 opH P_ G (su (Instr.storeAt 30 (r 6) v55)) h57 fun v58 h58=>q53.le h58/\
 N6 G K (u5 r 71 v54 72 v55 73 v56 74 v57 11 v57) h58
def N7:Prop:=
 o_ G (Instr.indexAt 40 (r 25) (r 27)) h fun v13 h13=>o_ G (Instr.loadAt 48 v13) h13 fun v14 h14=>o_ G (Instr.alloc 48 true (.tuple #[])) h14 fun v15 h15=>
 opH P_ G (su (Instr.storeAt 48 v15 v14)) h15 fun v16 h16=>
 ∃q17:Hp,q17.le h16/\
 p_ (Instr.fieldAt 48 v15 3) h16 fun v18 h18=>
 w_ G q17 (Instr.loadAt 30 v18) h18 fun v19 h19=>
 w_ G q17 (Instr.loadAt 30 (r 6)) h19 fun v20 h20=>
 bm P_ G q17 (xEq .neq 30 (.tmp 0) (.tmp 0) v19 v20) h20 fun v21 h21=>g_ v21 false (p_ (Instr.fieldAt 48 v15 5) h21) h21 fun v22 h22=>g_ v21 false (w_ G q17 (Instr.loadAt 3 v22) h22) h22 fun v23 h23=>g_ v21 false (fun K1=>K1 (r 11) h23) h23 fun v24 h24=>g_ v21 false (p_ (binOp .lss 3 v23 v24) h24) h24 fun v25 h25=>
 bm P_ noHp noHp (bj v21 (.bool true) v25) h25 fun v26 h26=>g_ v26 false (p_ (Instr.fieldAt 48 v15 6) h26) h26 fun v27 h27=>g_ v26 false (w_ G q17 (Instr.loadAt 3 v27) h27) h27 fun v28 h28=>g_ v26 false (p_ (Instr.fieldAt 48 v15 5) h28) h28 fun v29 h29=>g_ v26 false (w_ G q17 (Instr.loadAt 3 v29) h29) h29 fun v30 h30=>g_ v26 false (p_ (binOp .leq 3 v28 v30) h30) h30 fun v31 h31=>
 bm P_ noHp noHp (bj v26 (.bool true) v31) h31 fun v32 h32=>g_ v32 false (p_ (Instr.fieldAt 48 v15 6) h32) h32 fun v33 h33=>g_ v32 false (w_ G q17 (Instr.loadAt 3 v33) h33) h33 fun v34 h34=>g_ v32 false (p_ (binOp .geq 3 v34 (.int .i64 4611686018427387904)) h34) h34 fun v35 h35=>
 bm P_ noHp noHp (bj v32 (.bool true) v35) h35 fun v36 h36=>g_ v36 false (fun K1=>K1 (r 9) h36) h36 fun v37 h37=>g_ v36 false (w_ G q17 (Instr.loadAt 48 v15) h37) h37 fun v38 h38=>g_ v36 false (fun K1=>c_ G 78 #[v37,v38] h38 fun v h'=>q17.le h'/\K1 v h') h38 fun v39 h39=>g_ v36 false (p_ (Op.unary .not v39) h39) h39 fun v40 h40=>
 bm P_ noHp noHp (bj v36 (.bool true) v40) h40 fun v41 h41=>g_ v41 false (p_ (Instr.fieldAt 48 v15 6) h41) h41 fun v42 h42=>g_ v41 false (w_ G q17 (Instr.loadAt 3 v42) h42) h42 fun v43 h43=>g_ v41 false (p_ (Instr.fieldAt 48 v15 5) h43) h43 fun v44 h44=>g_ v41 false (w_ G q17 (Instr.loadAt 3 v44) h44) h44 fun v45 h45=>g_ v41 false (p_ (binOp .sub 3 v43 v45) h45) h45 fun v46 h46=>g_ v41 false (w_ G q17 (Instr.loadAt 26 (r 4)) h46) h46 fun v47 h47=>g_ v41 false (fun K1=>K1 (r 1) h47) h47 fun v48 h48=>g_ v41 false (w_ G q17 (Instr.loadAt 48 v15) h48) h48 fun v49 h49=>g_ v41 false (fun K1=>c_ G 30 #[v47,v48,v49] h49 fun v h'=>q17.le h'/\K1 v h') h49 fun v50 h50=>g_ v41 false (bm P_ G q17 (xEq .neq 3 (.tmp 0) (.tmp 0) v46 v50) h50) h50 fun v51 h51=>
 bm P_ noHp noHp (bj v41 (.bool true) v51) h51 fun v52 h52=>
 (fun q=>cond v52
 (K .ret (upd q 8 (.bool false)) h52)
 (N5 G K q h52))
 (u3 (u10 (u10 (u10 (u10 r 29 v13 30 v14 13 v15 31 v18 32 v19 33 v20 34 v21 35 v21 36 v22 37 v23) 38 v24 39 v25 40 v26 41 v26 42 v27 43 v28 44 v29 45 v30 46 v31 47 v32) 48 v32 49 v33 50 v34 51 v35 52 v36 53 v36 54 v37 55 v38 56 v39 57 v40) 58 v41 59 v41 60 v42 61 v43 62 v44 63 v45 64 v46 65 v47 66 v48 67 v49) 68 v50 69 v51 70 v52)
def aA9 (r:Rg) (h:Hp) (K:EK):Prop:=
 o_ G (binOp .lss 3 (r 27) (r 26)) h fun v11 h11=>
 cond v11
 (N7 G K (upd r 28 v11) h11)
 (K (.exit 0) (upd r 28 v11) h11)
def aB1:Prop:=
 o_ G (Builtin.len_ #[40] 3 #[(r 3)]) h fun v10 h10=>
 dl (aA9 G) (u4 r 11 (.int .i64 0) 25 (r 3) 26 v10 27 (.int .i64 0)) h10 (bo 0 (ci (aB0 G K) K))
def S35:Prop:=
 o_ G (Instr.box 26 (r 0)) h fun v0 h0=>o_ G (Instr.box 30 (r 2)) h0 fun v1 h1=>o_ G (Instr.loadAt 26 v0) h1 fun v2 h2=>
 c_ G 37 #[v2] h2 fun v3 h3=>o_ G (Instr.extract v3 0) h3 fun v4 h4=>o_ G (Instr.extract v3 1) h4 fun v5 h5=>
 opH P_ G (xEq .neq 35 (.tmp 0) (.const .nilFunc) v5 (.int .i64 0)) h5 fun v6 h6=>g_ v6 false (fun K1=>K1 (r 1) h6) h6 fun v7 h7=>g_ v6 false (opH P_ G (xEq .eql 50 (.tmp 0) (.const .nilFunc) v7 (.pointer none)) h7) h7 fun v8 h8=>
 opH P_ G (bj v6 (.bool true) v8) h8 fun v9 h9=>
 (fun q=>cond v9
 (K .ret (upd q 8 (.bool false)) h9)
 (aB1 G K q h9))
 (u6 (u10 r 4 v0 6 v1 8 (.bool false) 15 v2 16 v3 14 v3 17 v4 18 v5 9 v4 10 v5) 19 v5 20 v6 21 v6 22 v7 23 v8 24 v9)
theorem enter35:Ent 76 35 [.tmp 8] S35:=ent_ (m:=md35) (c:=(Tryz.f35.body.getD .skip)) (fun _ _ _ _=>by kernel_rfl) Tryz.func35 rfl rfl rfl
def md36:Nat->Hint
 |6=>mh true [0,0,3,7,15,31,63,31,255,511,1023,2047,4095,2047,16383,32767,65535,131071,262143,524287,1048575,2097151,4194303,8388607,16777215,33554431,67108863,134217727,268435455,134217727,671088639,134217727,134217727,6576668671,16777215999,34359738367,68719476735] [m_,m_,e_,n_,n_,n_,m_,m_,m_,n_,n_,n_,m_,n_,n_,n_,n_,n_,m_,n_,n_,n_,n_,m_,n_,n_,n_,n_,m_,n_,m_,m_,m_,e_,e_,m_,n_] [false,false,true,false,false,false,false,false,false,false,false,false,false,false,false,false,false,false,false,false,false,false,false,false,false,false,false,false,false,false,false,false,false,true,true,false,false] false
 |_=>mh false [] [] [] false
def aA8 (G:Hp) (K:EK) (r:Rg) (h:Hp):Prop:=
 K .ret (upd r 6 (.bool true)) h
def N3:Prop:=
 o_ G (binOp .add 3 (r 8) (.int .i64 1)) h fun v4 h4=>
 K .normal (u3 r 14 (r 8) 15 v4 8 v4) h4
def N2:Prop:=
 o_ G (Instr.fieldAt 48 (r 9) 4) h fun v41 h41=>o_ G (Instr.loadAt 30 v41) h41 fun v42 h42=>
 opH P_ G (su (Instr.storeAt 30 (r 4) v42)) h42 fun v43 h43=>o_ G (Instr.fieldAt 48 (r 9) 6) h43 fun v44 h44=>o_ G (Instr.loadAt 3 v44) h44 fun v45 h45=>
 N3 G K (u5 r 57 v41 58 v42 59 v44 60 v45 7 v45) h45
def N4:Prop:=
 o_ G (Instr.indexAt 40 (r 2) (r 8)) h fun v5 h5=>o_ G (Instr.loadAt 48 v5) h5 fun v6 h6=>o_ G (Instr.alloc 48 true (.tuple #[])) h6 fun v7 h7=>
 opH P_ G (su (Instr.storeAt 48 v7 v6)) h7 fun v8 h8=>
 w_ G h8 (Instr.loadAt 26 (r 3)) h8 fun v9 h9=>
 w_ G h8 (Instr.loadAt 48 v7) h9 fun v10 h10=>
 c_ G 45 #[v9,v10] h10 fun v11 h11=>h8.le h11/\
 p_ (Op.unary .not v11) h11 fun v12 h12=>g_ v12 false (p_ (Instr.fieldAt 48 v7 3) h12) h12 fun v13 h13=>g_ v12 false (w_ G h8 (Instr.loadAt 30 v13) h13) h13 fun v14 h14=>g_ v12 false (w_ G h8 (Instr.loadAt 30 (r 4)) h14) h14 fun v15 h15=>g_ v12 false (bm P_ G h8 (xEq .neq 30 (.tmp 0) (.tmp 0) v14 v15) h15) h15 fun v16 h16=>
 bm P_ noHp noHp (bj v12 (.bool true) v16) h16 fun v17 h17=>g_ v17 false (p_ (Instr.fieldAt 48 v7 5) h17) h17 fun v18 h18=>g_ v17 false (w_ G h8 (Instr.loadAt 3 v18) h18) h18 fun v19 h19=>g_ v17 false (fun K1=>K1 (r 7) h19) h19 fun v20 h20=>g_ v17 false (p_ (binOp .lss 3 v19 v20) h20) h20 fun v21 h21=>
 bm P_ noHp noHp (bj v17 (.bool true) v21) h21 fun v22 h22=>g_ v22 false (p_ (Instr.fieldAt 48 v7 5) h22) h22 fun v23 h23=>g_ v22 false (w_ G h8 (Instr.loadAt 3 v23) h23) h23 fun v24 h24=>g_ v22 false (p_ (binOp .geq 3 v24 (.int .i64 4611686018427387904)) h24) h24 fun v25 h25=>
 bm P_ noHp noHp (bj v22 (.bool true) v25) h25 fun v26 h26=>g_ v26 false (p_ (Instr.fieldAt 48 v7 6) h26) h26 fun v27 h27=>g_ v26 false (w_ G h8 (Instr.loadAt 3 v27) h27) h27 fun v28 h28=>g_ v26 false (p_ (binOp .geq 3 v28 (.int .i64 4611686018427387904)) h28) h28 fun v29 h29=>
 bm P_ noHp noHp (bj v26 (.bool true) v29) h29 fun v30 h30=>g_ v30 false (p_ (Instr.fieldAt 48 v7 6) h30) h30 fun v31 h31=>g_ v30 false (w_ G h8 (Instr.loadAt 3 v31) h31) h31 fun v32 h32=>g_ v30 false (p_ (Instr.fieldAt 48 v7 5) h32) h32 fun v33 h33=>g_ v30 false (w_ G h8 (Instr.loadAt 3 v33) h33) h33 fun v34 h34=>g_ v30 false (w_ G h8 (Instr.loadAt 26 (r 3)) h34) h34 fun v35 h35=>g_ v30 false (w_ G h8 (Instr.loadAt 48 v7) h35) h35 fun v36 h36=>g_ v30 false (fun K1=>c_ G 46 #[v35,v36] h36 fun v h'=>h8.le h'/\K1 v h') h36 fun v37 h37=>g_ v30 false (fun K1=>c_ G 79 #[v34,v37] h37 fun v h'=>h8.le h'/\K1 v h') h37 fun v38 h38=>g_ v30 false (bm P_ G h8 (xEq .neq 3 (.tmp 0) (.tmp 0) v32 v38) h38) h38 fun v39 h39=>
 bm P_ noHp noHp (bj v30 (.bool true) v39) h39 fun v40 h40=>
 (fun q=>cond v40
 (K .ret (upd q 6 (.bool false)) h40)
 (N2 G K q h40))
 (u2 (u10 (u10 (u10 (u10 r 16 (r 2) 17 (r 8) 18 v5 19 v6 9 v7 20 v9 21 v10 22 v11 23 v12 24 v12) 25 v13 26 v14 27 v15 28 v16 29 v17 30 v17 31 v18 32 v19 33 v20 34 v21) 35 v22 36 v22 37 v23 38 v24 39 v25 40 v26 41 v26 42 v27 43 v28 44 v29) 45 v30 46 v30 47 v31 48 v32 49 v33 50 v34 51 v35 52 v36 53 v37 54 v38) 55 v39 56 v40)
def aA7 (r:Rg) (h:Hp) (K:EK):Prop:=
 o_ G (Builtin.len_ #[40] 3 #[(r 2)]) h fun v2 h2=>o_ G (binOp .lss 3 (r 8) v2) h2 fun v3 h3=>
 cond v3
 (N4 G K (u4 r 10 (r 8) 11 (r 2) 12 v2 13 v3) h3)
 (K (.exit 0) (u4 r 10 (r 8) 11 (r 2) 12 v2 13 v3) h3)
def S36:Prop:=
 o_ G (Instr.box 26 (r 0)) h fun v0 h0=>o_ G (Instr.box 30 (r 1)) h0 fun v1 h1=>
 dl (aA7 G) (u5 r 3 v0 4 v1 6 (.bool false) 7 (.int .i64 0) 8 (.int .i64 0)) h1 (bo 0 (ci (aA8 G K) K))
theorem enter36:Ent 61 36 [.tmp 6] S36:=ent_ (m:=md36) (c:=(Tryz.f36.body.getD .skip)) (fun _ _ _ _=>by kernel_rfl) Tryz.func36 rfl rfl rfl
end
end Go.Proofs.YtfflipnhffknnaaGreatDoor
end
section
namespace Go.Proofs.YtfflipnhffknnaaGreatDoor
open Go Go.HL Go.Proofs.Resv Go.Proofs.Srch
def bRtW:=jq bC (jq (jq (jq (jq @List.length_nil.{0} @kg) (jq @cf27 @cf76)) (jq (jq @De @Po) (jq @Sm (jq @ld26 @ld3)))) (jq (jq (jq @ld30 @qw) (jq @ld34 (jq @ld35 @ld3p))) (jq (jq @ld40 @ld45) (jq @ln40 (jq @ln40p @true_and)))))
structure Stp where
 x:Int
 y:Int
 k:Int
def stpC:Cod Stp:=⟨3,fun s=>[.int .i64 s.x,.int .i64 s.y,.int .i64 s.k],fun _=>rfl,fun _ v hv=>by simp at hv;rcases hv with rfl|rfl|rfl<;>rfl⟩
def StpB (s:Stp):Prop:=Bd s.x/\Bd s.y
abbrev endP (p:Pose) (w:List Move):Pose:=yx p w w.length
abbrev endT (t:Int) (w:List Move):Int:=mi t w w.length
def rf (C:Conf) (k:Int) (p:Pose) (t:Int):Move:=⟨k,0,0,p,p,t,sumI t C.ho⟩
def goR (C:Conf) (T:Tb) (rb:Int) (hm:Pose):List Stp->Pose->Int->List Move->Res Move
 |[],p,t,l=>match jh C (some T) rb p t hm false with
   | .ok w => .ok (l++w)
   | .no e => .no e
 |s::S,p,t,l=>match jh C (some T) rb p t ⟨s.x,s.y,false⟩ true with
   | .ok w=>goR C T rb hm S (endP p w) (sumI (endT t w) C.ho) (l++w++[rf C s.k (endP p w) (endT t w)])
   | .no e => .no e
theorem Pj {C:Conf} {T:Tb} {rb t:Int} {hm p:Pose} {l:List Move}:goR C T rb hm [] p t l=match jh C (some T) rb p t hm false with
   | .ok w => .ok (l++w)
   | .no e => .no e:=rfl
theorem Ir {C:Conf} {T:Tb} {rb t:Int} {hm p:Pose} {l:List Move} {s:Stp} {S:List Stp}:goR C T rb hm (s::S) p t l=match jh C (some T) rb p t ⟨s.x,s.y,false⟩ true with
   | .ok w=>goR C T rb hm S (endP p w) (sumI (endT t w) C.ho) (l++w++[rf C s.k (endP p w) (endT t w)])
   | .no e => .no e:=rfl
def zc (s:Stp):Bool:=s.k==3||s.k==4
def te (C:Conf) (T:Tb) (rb:Int) (p:Pose) (t:Int) (S:List Stp) (hm:Pose):Res Move:=
 if S.all zc=true then
   match goR C T rb hm S p t []with
   | .ok l=>if 4096<l.length then .no 2 else .ok l
   | .no e => .no e
 else .no 1
theorem vm {G h:Hp} {b:Nat} {e:TypeId} {p o:Pose} {K:Unit->Hp->Prop} (hb:h b=some (.cells #[o.x,o.y,.bool o.d] e (0,0))):
   wpH P_ G (Instr.storeAt 30 (.pointer (some ⟨b,0,none⟩)) (.agg #[p.x,p.y,.bool p.d])) h K=K () (h.set b (.cells #[p.x,p.y,.bool p.d] e (0,0))):=by
 rw [qs (l:=[_,_,_]) sz30 hb rfl (by simp) (by intro x hx;simp [ly]at hx;rcases hx with rfl|rfl|rfl<;>rfl)]
 rfl
theorem Mp {G h a:Hp} {R:List Hp} {v x:Value} {L M:List Move} (s:HL.Sep (a::R) h) (o:Slc ff 48 a v L) (src:Dis G h->Sees ff G h x M) (hl:L.length+M.length<=1000000):
   al P_ G 76 #[v,x] h (fun u h'=>∃a',Slc ff 48 a' u (L++M)/\HL.Sep (a'::R) h'/\Dis G h'):=by
 refine al.assume fun d=>enter76 (by simp) ?_
 unfold S76
 simp only [bRtW]
 refine ez ff (by decide) un40 eomove (by decide) (by decide) s d o (src d) hl fun v' a' h' o' s' d'=>?_
 try simp (disch:=first|decide|omega) only [bRtW,Nat.reduceAdd,Nat.reduceMul]
 exact ⟨a',o',s',d'⟩
theorem regs7 {a b c d e f g i:Value}:regs #[a,b,c,d,e,f,g,i] 7=i:=rfl
structure RdQ where
 C:Conf
 T:Tb
 rb:Int
 vt:Value
 xc:Nat
 xt:Nat
 xr:Nat
 xf:Nat
 xa:Nat
 xe:Nat
 xl:Nat
structure RdW (G:Hp) (q:RdQ) (B:Hp):Prop where
 bc:∃ab cb ap cp ar cr az cs,CA G B q.C ab cb ap cp ar cr az cs/\B q.xc=some (zu q.C ab cb ap cp ar cr az cs)
 bt:B q.xt=some (.cells #[q.vt] 34 (0,0))
 br:B q.xr=some (.cells #[q.rb] 3 (0,0))
 tv:TabV G B q.vt (some q.T)
 mk_:cj q.C
 hro:∀p∈q.C.ro,PB p
 fit:Fit0 q.C
 hbu:q.C.bu<=4000
def RdSt (G:Hp) (q:RdQ) (B:Hp) (p:Pose) (t e:Int) (l:List Move) (h:Hp):Prop:=∃vl ip,Slc ff 48 ip vl l/\
 HL.Sep [noHp.set q.xf (fh p),noHp.set q.xa (.cells #[t] 3 (0,0)),noHp.set q.xe (.cells #[e] 35 (0,0)),noHp.set q.xl (.cells #[vl] 40 (0,0)),ip,B] h/\Dis G h
theorem Z7 {p:Pose} {w:List Move} {m:Move} (hm:w[w.length-1]?=some m) (hw:w≠[]):endP p w=m.t:=by
 have:=List.length_pos_iff.2 hw
 unfold endP
 obtain ⟨n,hn⟩:∃n,w.length=n+1:=⟨w.length-1,by omega⟩
 rw [hn]at hm ⊢
 show (w.getD n zM).t=m.t
 rw [List.getD_eq_getElem?_getD,show n=n+1-1 from rfl,hm];rfl
theorem Mc {t:Int} {w:List Move} {m:Move} (hm:w[w.length-1]?=some m) (hw:w≠[]):endT t w=m.e:=by
 have:=List.length_pos_iff.2 hw
 unfold endT
 obtain ⟨n,hn⟩:∃n,w.length=n+1:=⟨w.length-1,by omega⟩
 rw [hn]at hm ⊢
 show (w.getD n zM).e=m.e
 rw [List.getD_eq_getElem?_getD,show n=n+1-1 from rfl,hm];rfl
theorem sub1r {n:Nat} (h:0<n):((n:Int)-1)=((n-1:Nat):Int):=by omega
theorem Wp {G h B:Hp} {q:RdQ} (st:iq G) (w:RdW G q B) {p gp:Pose} {t e:Int} {l:List Move} {any:Bool} (pp:PB p) (pg:PB gp) (hl:l.length<=890000) (s:RdSt G q B p t e l h):
   al P_ G 75 #[.agg #[gp.x,gp.y,.bool gp.d,.bool any],.pointer (some ⟨q.xc,0,none⟩),.pointer (some ⟨q.xt,0,none⟩),.pointer (some ⟨q.xr,0,none⟩),.pointer (some ⟨q.xf,0,none⟩),.pointer (some ⟨q.xa,0,none⟩),.pointer (some ⟨q.xe,0,none⟩),.pointer (some ⟨q.xl,0,none⟩)] h
     (fun u h'=>(∃w,jh q.C (some q.T) q.rb p t gp any = .ok w/\w.length<=110000/\u = .bool true/\RdSt G q B (endP p w) (endT t w) 0 (l++w) h')\/
       ∃e',jh q.C (some q.T) q.rb p t gp any = .no e'/\u = .bool false/\RdSt G q B p t e' l h'):=by
 obtain ⟨C,T,rb,vt,xc,xt,xr,xf,xa,xe,xl⟩:=q
 obtain ⟨⟨ab,cb,ap,cp',ar,cr,az,cs,ca,bc⟩,bt,br,tv,mk,hro,fit,hbu⟩:=w
 obtain ⟨vl,ip,sl,s,d⟩:=s
 obtain ⟨la,lc,rfl,_⟩:=id (sl.len (by decide))
 simp only at*
 refine enter75 (by simp) ?_
 unfold S75
 simp only [bRtW]
 intro y hy gy
 have s1:=s.past (o := .cells #[gp.x,gp.y,.bool gp.d,.bool any] 45 (0,0)) hy
 generalize e1:Hp.set h y _=h1 at*
 obtain ⟨l1,d1,by1⟩:=boxed e1 hy d gy
 have lB:=s1.in 5 rfl
 have cc:∀k,af G h1 ⟨xc,k,none⟩=_:=fun k=>aj (ai (lB _ _ bc))
 have ct:∀k,af G h1 ⟨xt,k,none⟩=_:=fun k=>aj (ai (lB _ _ bt))
 have cr':∀k,af G h1 ⟨xr,k,none⟩=_:=fun k=>aj (ai (lB _ _ br))
 have cf:∀k,af G h1 ⟨xf,k,none⟩=_:=fun k=>aj (ai (s1.at 0 rfl ag))
 have ca':∀k,af G h1 ⟨xa,k,none⟩=_:=fun k=>aj (ai (s1.at 1 rfl ag))
 have cy:∀k,af G h1 ⟨y,k,none⟩=_:=fun k=>aj (ai by1)
 try simp only [bRtW,cc,ct,cr',cf,ca',cy]
 refine (ac4 (To:=some T) (p:=p) (gp:=gp) (rb:=rb) (t:=t) (any:=any) mk (ca.up lB d1).cv st hro fit hbu (tv.up lB d1) pp pg).mono ?_
 rintro _ h2 ⟨ip2,vs2,rfl,sl2,ll2,sm2,d2⟩
 have s2:=sm2.swap.open s1
 generalize hW:jh C (some T) rb p t gp any=W at*
 try simp only [bRtW]
 have be2:=s2.at 2 rfl ag
 rw [dh sz35 rfl be2 (by simp)]
 have s3:=(s2.sel (L':=[noHp.set xe (.cells #[e] 35 (0,0)),noHp.set xf (fh p),noHp.set xa (.cells #[t] 3 (0,0)),noHp.set xl (.cells #[.slice la l.length lc] 40 (0,0)),ip,B,ip2]) [2,0,1,3,4,5,6] (by decide) rfl).put (o := .cells #[(outE W)] 35 (0,0)) ag
 rw [set_set]at s3
 have d3:=d2.set (o := .cells #[(outE W)] 35 (0,0)) (d2 _ _ be2)
 simp only [List.set_cons_zero]
 generalize Hp.set h2 xe _=h3 at*
 have s3':=s3
 have ce:∀k,af G h3 ⟨xe,k,none⟩=_:=fun k=>aj (ai (s3'.at 0 rfl ag))
 try simp only [bRtW,ce]
 cases W with
 |no e'=>
   have hne:e'≠0:=by
     obtain ⟨_,_,_,gT,_⟩:=tv
     have:=qx mk gT hW
     omega
   try simp only [bRtW,show outE (Res.no (M:=Move) e')=e' from rfl,show (e' != 0)=true by simp [hne]]
   exact .inr ⟨e',rfl,_,ip,sl,s3'.sel [1,2,0,3,4,5] (by decide) rfl,d3⟩
 |ok w=>
   replace sl2:Slc ff 48 ip2 vs2 w:=sl2
   replace ll2:w.length<=110000:=ll2
   try simp only [bRtW,show outE (Res.ok w)=0 from rfl,show ((0:Int) != 0)=false from rfl]
   unfold ax7
   have cl:∀k,af G h3 ⟨xl,k,none⟩=_:=fun k=>aj (ai (s3'.at 3 rfl ag))
   obtain ⟨wa,wc,rfl,_⟩:=id (sl2.len (by decide))
   try simp (disch:=first|decide|omega) only [bRtW,regs7,cl]
   refine (Mp (s3'.sel (L':=[ip,noHp.set xe (.cells #[(0:Int)] 35 (0,0)),noHp.set xf (fh p),noHp.set xa (.cells #[t] 3 (0,0)),noHp.set xl (.cells #[.slice la l.length lc] 40 (0,0)),B,ip2]) [4,0,1,2,3,5,6] (by decide) rfl) sl (fun _=>sl2.see (by decide) (s3'.in 6 rfl)) (by show l.length+w.length<=_;omega)).mono ?_
   rintro v4 h4 ⟨ip4,sl4,s4,d4⟩
   obtain ⟨xa4,xc4,rfl,_⟩:=id (sl4.len (by decide))
   try simp (disch:=first|decide|omega) only [bRtW,Nat.reduceAdd,Nat.reduceMul]
   have bl4:=s4.at 4 rfl ag
   rw [dh sz40 rfl bl4 (by simp)]
   simp only [List.set_cons_zero]
   have s5:=(s4.sel (L':=[noHp.set xl (.cells #[.slice la l.length lc] 40 (0,0)),noHp.set xe (.cells #[(0:Int)] 35 (0,0)),noHp.set xf (fh p),noHp.set xa (.cells #[t] 3 (0,0)),ip4,B,ip2]) [4,1,2,3,0,5,6] (by decide) rfl).put (o := .cells #[.slice xa4 (l++w).length xc4] 40 (0,0)) ag
   rw [set_set]at s5
   have d5:=d4.set (o := .cells #[.slice xa4 (l++w).length xc4] 40 (0,0)) (d4 _ _ bl4)
   generalize e5:Hp.set h4 xl _=h5 at*
   try simp (disch:=first|decide|omega) only [bRtW,Nat.reduceAdd,Nat.reduceMul]
   by_cases hw:w=[]
   . subst hw
     try simp only [bRtW]
     unfold Qb
     try simp only [bRtW]
     exact .inl ⟨[],rfl,by simp,_,ip4,by simpa using sl4,s5.sel [2,3,1,0,4,5] (by decide) rfl,d5⟩
   have hwl:=List.length_pos_iff.2 hw
   obtain ⟨m,hm⟩:∃m,w[w.length-1]?=some m:=⟨_,List.getElem?_eq_getElem (by omega)⟩
   have see2:Sees ff G ip2 (.slice wa w.length wc) w:=sl2.see (by decide) (Hp.le.refl _)
   obtain ⟨b,o,rfl,y0,y1,y2,y3,y4,y5,y6,y7,y8,y9,y10⟩:=Sees.mvx see2 hm
   try simp (disch:=first|decide|omega) only [bRtW,gi (show (w.length:Int)>0 by omega)]
   refine ⟨ip2,s5.in 6 rfl,?_⟩
   try simp only [bRtW,sub1r hwl,Sm (Int.natCast_nonneg (w.length-1)) (show ((w.length-1:Nat):Int)<w.length by omega),y6,y7,y8,y10]
   have bf5:=s5.at 2 rfl ag
   rw [vm (p:=m.t) bf5]
   have s6:=(s5.sel (L':=[noHp.set xf (fh p),noHp.set xl (.cells #[.slice xa4 (l++w).length xc4] 40 (0,0)),noHp.set xe (.cells #[(0:Int)] 35 (0,0)),noHp.set xa (.cells #[t] 3 (0,0)),ip4,B,ip2]) [2,0,1,3,4,5,6] (by decide) rfl).put (o:=fh m.t) ag
   rw [set_set]at s6
   have d6:=d5.set (o:=fh m.t) (d5 _ _ bf5)
   generalize e6:Hp.set h5 xf _=h6 at*
   refine ⟨s6.in 6 rfl,?_⟩
   try simp (disch:=first|decide|omega) only [bRtW,Nat.reduceAdd,Nat.reduceMul]
   have ba6:=s6.at 3 rfl ag
   rw [dh sz3 rfl ba6 (by simp)]
   simp only [List.set_cons_zero]
   have s7:=(s6.sel (L':=[noHp.set xa (.cells #[t] 3 (0,0)),noHp.set xf (fh m.t),noHp.set xl (.cells #[.slice xa4 (l++w).length xc4] 40 (0,0)),noHp.set xe (.cells #[(0:Int)] 35 (0,0)),ip4,B,ip2]) [3,0,1,2,4,5,6] (by decide) rfl).put (o := .cells #[m.e] 3 (0,0)) ag
   rw [set_set]at s7
   have d7:=d6.set (o := .cells #[m.e] 3 (0,0)) (d6 _ _ ba6)
   try simp (disch:=first|decide|omega) only [bRtW,Nat.reduceAdd,Nat.reduceMul]
   unfold Qb
   try simp only [bRtW]
   refine .inl ⟨w,rfl,ll2,_,ip4,sl4,?_,d7⟩
   rw [Z7 hm hw,Mc hm hw]
   exact s7.sel [1,0,3,2,4,5] (by decide) rfl
section
variable {C:Conf}
def oneR (C:Conf) (p:Pose) (t:Int) (m:Move):Bool:=decide (m.f=p)&&(decide (t<=m.a)&&(decide (m.a<m.e)&&(decide (m.e<FV)&&(df C m&&decide (m.e=m.a+dp C m)))))
def fg (C:Conf):Pose->Int->List Move->Bool
 |_,_,[]=>true
 |p,t,m::M=>oneR C p t m&&fg C m.t m.e M
theorem me {p:Pose} {t:Int} {m:Move} {M:List Move}:fg C p t (m::M)=(oneR C p t m&&fg C m.t m.e M):=rfl
theorem As {p:Pose} {m:Move} {w:List Move}:endP p (m::w)=endP m.t w:=by
 cases w with
 |nil=>rfl
 |cons x w=>rfl
theorem M1 {t:Int} {m:Move} {w:List Move}:endT t (m::w)=endT m.e w:=by
 cases w with
 |nil=>rfl
 |cons x w=>rfl
theorem vo:∀{w M:List Move} {p:Pose} {t:Int},fg C p t (w++M)=(fg C p t w&&fg C (endP p w) (endT t w) M)
 |[],M,p,t=>by rw [List.nil_append];rfl
 |m::w,M,p,t=>by
   rw [List.cons_append,me,me,vo,As,M1,Bool.and_assoc]
theorem Ts:∀{w M:List Move} {p:Pose},endP p (w++M)=endP (endP p w) M
 |[],M,p=>rfl
 |m::w,M,p=>by rw [List.cons_append,As,As,Ts]
theorem nl {p:Pose} {t:Int} {m:Move}:oneR C p t m=true↔m.f=p/\t<=m.a/\m.a<m.e/\m.e<FV/\df C m=true/\m.e=m.a+dp C m:=by
 unfold oneR
 simp only [Bool.and_eq_true,decide_eq_true_eq]
theorem Uy {w:List Move} {p:Pose} {t t':Int} (h:t'<=t) (hr:fg C p t w=true):fg C p t' w=true:=by
 cases w with
 |nil=>rfl
 |cons m w=>
   unfold fg at hr ⊢
   rw [Bool.and_eq_true,nl]at hr ⊢
   exact ⟨⟨hr.1.1,by omega,hr.1.2.2⟩,hr.2⟩
theorem Lv:∀{w:List Move} {p:Pose} {t:Int},(∀j m,w[j]?=some m->oneR C (yx p w j) (mi t w j) m=true)->fg C p t w=true
 |[],_,_,_=>rfl
 |m::w,p,t,h=>by
   unfold fg
   rw [Bool.and_eq_true]
   refine ⟨h 0 m rfl,Lv fun j x hx=>?_⟩
   have:=h (j+1) x hx
   cases j with
   |zero=>exact this
   |succ j=>exact this
theorem Ej:∀{w:List Move} {p:Pose} {t:Int},fg C p t w=true->∀j m,w[j]?=some m->oneR C (yx p w j) (mi t w j) m=true
 |[],_,_,_,_,_,h=>by simp at h
 |x::w,p,t,h,0,m,hm=>by
   unfold fg at h
   rw [Bool.and_eq_true]at h
   cases hm
   exact h.1
 |x::w,p,t,h,j+1,m,hm=>by
   unfold fg at h
   rw [Bool.and_eq_true]at h
   have:=Ej h.2 j m hm
   cases j with
   |zero=>exact this
   |succ j=>exact this
theorem sd (mk:cj C) {T:Tb} (gt:kc T) {rb t:Int} {p gp:Pose} {any:Bool} {w:List Move} (h:jh C (some T) rb p t gp any = .ok w):
   fg C p t w=true/\0<=t/\t<FV/\0<=endT t w/\t<=endT t w/\endT t w<FV/\fi C p=true/\fi C (endP p w)=true/\(∀m∈w,m.k=1\/m.k=2)/\((endP p w).x,(endP p w).y)=(gp.x,gp.y)/\(any=false->endP p w=gp):=by
 obtain ⟨⟨a1,a2,a3,a4,a5⟩,h2,s,h3,h4,h5,h6,h7,h8⟩:=Mz mk gt h
 have hr:fg C p t w=true:=Lv fun j m hm=>by
   have o:=h2 j m hm
   exact nl.2 ⟨o.f,o.at_,o.e2.1,o.e2.2,o.leg,o.e⟩
 have hle:t<=endT t w:=by
   have key:∀j,j<=w.length->t<=mi t w j:=by
     intro j
     induction j with
     |zero=>intro _;exact Int.le_refl _
     |succ j ih=>
       intro hj
       obtain ⟨m,hm⟩:∃m,w[j]?=some m:=⟨_,List.getElem?_eq_getElem (by omega)⟩
       have o:=h2 j m hm
       have:=ih (by omega)
       have a:=o.at_
       have b:=o.e2.1
       show t<=(w.getD j zM).e
       rw [List.getD_eq_getElem?_getD,hm]
       show t<=m.e
       omega
   exact key _ (Nat.le_refl _)
 have hlt:endT t w<FV:=by
   by_cases hw:w=[]
   . subst hw;exact a4
   . have hl:=List.length_pos_iff.2 hw
     obtain ⟨m,hm⟩:∃m,w[w.length-1]?=some m:=⟨_,List.getElem?_eq_getElem (by omega)⟩
     rw [Mc hm hw]
     exact (h2 _ _ hm).e2.2
 have hg:((endP p w).x,(endP p w).y)=(gp.x,gp.y)/\(any=false->endP p w=gp):=by
   unfold mj at h6
   simp only [Bool.and_eq_true,Bool.or_eq_true,beq_iff_eq]at h6
   rcases h6.1 with ⟨⟨e1,e2⟩,e3⟩|⟨e1,e2,e3⟩
   . refine ⟨by rw [e1,e2],fun _=>?_⟩
     exact yw e1 e2 e3
   . refine ⟨by rw [e2,e3],fun e=>?_⟩
     rw [e]at e1;cases e1
 refine ⟨hr,a3,a4,h8,hle,hlt,a5,h7,fun m hm=>?_,hg⟩
 obtain ⟨j,hj⟩:=List.getElem?_of_mem hm
 exact (h2 j m hj).k
theorem Um {k:Int} {p:Pose} {t:Int} (hk:k=3\/k=4):dp C (rf C k p t)=C.ho:=by
 unfold dp rf
 rw [if_neg (by show ¬k=1;omega),if_neg (by show ¬k=2;omega),if_pos (by exact hk)]
theorem Ul {k:Int} {p:Pose} {t:Int} (hk:k=3\/k=4) (hf:fi C p=true):df C (rf C k p t)=true:=by
 unfold df rf
 simp only
 rw [hf,if_neg (by omega),if_neg (by omega)]
 simp [hk]
theorem ho_bd (mk:cj C):1<=C.ho/\C.ho<=16000:=by
 obtain ⟨_,_,_,_,h1,h2⟩:=Ot mk
 omega
theorem zg (mk:cj C) {m:Move} (hl:df C m=true):1<=dp C m/\dp C m<=16000:=by
 obtain ⟨⟨a1,a2⟩,_,_,⟨b1,b2⟩,c1,c2⟩:=Ot mk
 unfold df at hl
 rw [Bool.and_eq_true]at hl
 obtain ⟨_,hl⟩:=hl
 unfold dp
 split
 . rename_i h1
   rw [if_pos h1,Bool.and_eq_true]at hl
   obtain ⟨n1,n2⟩:=dv.1 hl.1
   obtain ⟨_,t2,t3⟩:=Wq (A:=C.ac) (V:=C.sp) (n:=m.n) a1 a2
   exact ⟨t3 n1 n2,t2⟩
 . rename_i h1
   rw [if_neg h1]at hl
   split
   . omega
   . rename_i h2
     rw [if_neg h2,Bool.and_eq_true]at hl
     have:=of_decide_eq_true hl.1
     rw [if_pos this]
     omega
theorem ai6 (mk:cj C) {p:Pose} {t:Int} {m:Move} (h0:0<=t):oneR C p t m=(df C m&&(decide (m.f=p)&&(decide (t<=m.a)&&(decide (m.a<FV)&&(decide (m.e<FV)&&decide (m.e=sumI m.a (dp C m))))))):=by
 rw [Bool.eq_iff_iff,nl]
 simp only [Bool.and_eq_true,decide_eq_true_eq]
 constructor
 . rintro ⟨h1,h2,h3,h4,h5,h6⟩
   obtain ⟨l1,l2⟩:=zg mk h5
   exact ⟨h5,h1,h2,by omega,h4,by rw [af8 (by omega) (by omega) (by omega)];exact h6⟩
 . rintro ⟨h1,h2,h3,h4,h5,h6⟩
   obtain ⟨l1,l2⟩:=zg mk h1
   have:=Gp (show 0<=m.a by omega) (show 0<=dp C m by omega) (by omega)
   exact ⟨h2,h3,by omega,h5,h1,by omega⟩
theorem Sz (mk:cj C) {T:Tb} (gt:kc T) {rb:Int} {hm:Pose}:∀{S:List Stp} {p:Pose} {t:Int} {l L:List Move},(∀s∈S,zc s=true)->goR C T rb hm S p t l = .ok L->
   ∃M,L=l++M/\fg C p t M=true/\endP p M=hm/\0<=t/\t<FV/\fi C p=true
 |[],p,t,l,L,_,h=>by
   unfold goR at h
   cases hw:jh C (some T) rb p t hm false with
   |no e=>rw [hw]at h;cases h
   |ok w=>
     rw [hw]at h
     cases h
     obtain ⟨h1,h2,h3,h4,h5,h6,h7,h8,h9,h10,h11⟩:=sd mk gt hw
     exact ⟨w,rfl,h1,h11 rfl,h2,h3,h7⟩
 |s::S,p,t,l,L,hS,h=>by
   unfold goR at h
   cases hw:jh C (some T) rb p t ⟨s.x,s.y,false⟩ true with
   |no e=>rw [hw]at h;cases h
   |ok w=>
     rw [hw]at h
     simp only at h
     obtain ⟨h1,h2,h3,h4,h5,h6,h7,h8,h9,h10,h11⟩:=sd mk gt hw
     obtain ⟨M,rfl,r1,r2,r3,r4,r5⟩:=Sz mk gt (fun x hx=>hS x (.tail _ hx)) h
     have hk:s.k=3\/s.k=4:=by
       have:=hS s (.head _)
       unfold zc at this
       simpa using this
     obtain ⟨o1,o2⟩:=ho_bd mk
     have es:=Gp h4 (show 0<=C.ho by omega) r4
     refine ⟨w++([rf C s.k (endP p w) (endT t w)]++M),by simp,?_,?_,h2,h3,h7⟩
     . rw [vo,h1,Bool.true_and,List.singleton_append]
       show (oneR C _ _ _&&fg C _ _ M)=true
       rw [Bool.and_eq_true]
       refine ⟨nl.2 ⟨rfl,Int.le_refl _,?_,?_,Ul hk h8,?_⟩,r1⟩
       . show endT t w<sumI (endT t w) C.ho;omega
       . exact r4
       . rw [Um hk];exact es
     . rw [Ts,List.singleton_append,As]
       exact r2
theorem Si (mk:cj C) {m:Move} (hl:df C m=true):MB m/\fi C m.t=true:=by
 have hl0:=hl
 unfold df at hl
 rw [Bool.and_eq_true]at hl
 obtain ⟨hf,hl⟩:=hl
 have pf:=Pl mk hf
 by_cases h1:m.k=1
 . rw [if_pos h1,Bool.and_eq_true]at hl
   obtain ⟨n1,n2⟩:=dv.1 hl.1
   exact ⟨⟨by unfold Bd;omega,pf⟩,(Ub mk hl0 h1).2.2.1⟩
 . rw [if_neg h1]at hl
   by_cases h2:m.k=2
   . rw [if_pos h2]at hl
     simp only [Bool.and_eq_true,decide_eq_true_eq]at hl
     exact ⟨⟨by rw [hl.2.1];unfold Bd;omega,pf⟩,(Nb mk hl0 h2).2.2.1⟩
   . rw [if_neg h2]at hl
     simp only [Bool.and_eq_true,decide_eq_true_eq]at hl
     exact ⟨⟨by rw [hl.2.1];unfold Bd;omega,pf⟩,by rw [hl.2.2.2];exact hf⟩
theorem Hz:∀{w:List Move} {p:Pose} {t:Int},fg C p t w=true->∀m∈w,t<=m.a/\m.a<m.e/\m.e<FV/\df C m=true
 |[],_,_,_,_,h=>by cases h
 |x::w,p,t,h,m,hm=>by
   rw [me,Bool.and_eq_true,nl]at h
   obtain ⟨⟨h1,h2,h3,h4,h5,h6⟩,h7⟩:=h
   rcases List.mem_cons.1 hm with rfl|hm
   . exact ⟨h2,h3,h4,h5⟩
   . obtain ⟨a,b,c,d⟩:=Hz h7 m hm
     exact ⟨by omega,b,c,d⟩
def ii (m:Move):Bool:=decide (m.k=3\/m.k=4)
def S0 (C:Conf) (T:Tb) (rb:Int):List Stp->Pose->Int->List Move->Option (Pose × Int × List Move)
 |[],p,t,l=>some (p,t,l)
 |s::S,p,t,l=>match jh C (some T) rb p t ⟨s.x,s.y,false⟩ true with
   | .ok w=>S0 C T rb S (endP p w) (sumI (endT t w) C.ho) (l++w++[rf C s.k (endP p w) (endT t w)])
   | .no _=>none
theorem Pi {T:Tb} {rb:Int} {hm:Pose}:∀{A B:List Stp} {p:Pose} {t:Int} {l L:List Move},goR C T rb hm (A++B) p t l = .ok L->∃x,S0 C T rb A p t l=some x/\goR C T rb hm B x.1 x.2.1 x.2.2 = .ok L
 |[],B,p,t,l,L,h=>⟨_,rfl,h⟩
 |s::A,B,p,t,l,L,h=>by
   rw [List.cons_append]at h
   unfold goR at h
   unfold S0
   cases hw:jh C (some T) rb p t ⟨s.x,s.y,false⟩ true with
   |no e=>rw [hw]at h;cases h
   |ok w=>
     rw [hw]at h
     exact Pi h
theorem Lz (mk:cj C) {T:Tb} (gt:kc T) {rb:Int}:∀{A:List Stp} {p:Pose} {t:Int} {l:List Move} {x:Pose × Int × List Move},(∀s∈A,zc s=true)->S0 C T rb A p t l=some x->x.2.2.countP ii=l.countP ii+A.length
 |[],p,t,l,x,_,h=>by cases h;rfl
 |s::A,p,t,l,x,hS,h=>by
   unfold S0 at h
   cases hw:jh C (some T) rb p t ⟨s.x,s.y,false⟩ true with
   |no e=>rw [hw]at h;cases h
   |ok w=>
     rw [hw]at h
     simp only at h
     obtain ⟨h1,h2,h3,h4,h5,h6,h7,h8,h9,h10,h11⟩:=sd mk gt hw
     have hk:s.k=3\/s.k=4:=by
       have:=hS s (.head _)
       unfold zc at this
       simpa using this
     rw [Lz mk gt (fun x hx=>hS x (.tail _ hx)) h,List.countP_append,List.countP_append]
     have e1:w.countP ii=0:=List.countP_eq_zero.2 fun m hm=>by
       have:=h9 m hm
       unfold ii;simp;omega
     have e2:[rf C s.k (endP p w) (endT t w)].countP ii=1:=by
       rw [List.countP_singleton,if_pos (by unfold ii rf;simpa using hk)]
     rw [e1,e2,List.length_cons]
     omega
theorem Pk {T:Tb} {rb:Int} {hm:Pose}:∀{S:List Stp} {p:Pose} {t:Int} {l L:List Move},goR C T rb hm S p t l = .ok L->∃M,L=l++M
 |[],p,t,l,L,h=>by
   unfold goR at h
   cases hw:jh C (some T) rb p t hm false with
   |no e=>rw [hw]at h;cases h
   |ok w=>rw [hw]at h;cases h;exact ⟨w,rfl⟩
 |s::S,p,t,l,L,h=>by
   unfold goR at h
   cases hw:jh C (some T) rb p t ⟨s.x,s.y,false⟩ true with
   |no e=>rw [hw]at h;cases h
   |ok w=>
     rw [hw]at h
     obtain ⟨M,rfl⟩:=Pk h
     exact ⟨_,by rw [List.append_assoc,List.append_assoc]⟩
theorem Eg {T:Tb} {rb t:Int} {p hm:Pose} {S:List Stp} {L:List Move} (h:te C T rb p t S hm = .ok L):(∀s∈S,zc s=true)/\goR C T rb hm S p t [] = .ok L/\L.length<=4096:=by
 unfold te at h
 split at h
 . rename_i ha
   refine ⟨List.all_eq_true.1 ha,?_⟩
   cases hg:goR C T rb hm S p t []with
   |no e=>rw [hg]at h;cases h
   |ok l=>
     rw [hg]at h
     simp only at h
     split at h
     . cases h
     . cases h;exact ⟨rfl,by omega⟩
 . cases h
theorem Mt (mk:cj C) {T:Tb} (gt:kc T) {rb:Int} {hm:Pose}:∀{S:List Stp} {p:Pose} {t e:Int} {l:List Move},goR C T rb hm S p t l = .no e->e=1\/e=6\/e=7\/e=18
 |[],p,t,e,l,h=>by
   rw [Pj]at h
   cases hw:jh C (some T) rb p t hm false with
   |no e'=>rw [hw]at h;cases h;exact qx mk gt hw
   |ok w=>rw [hw]at h;cases h
 |s::S,p,t,e,l,h=>by
   rw [Ir]at h
   cases hw:jh C (some T) rb p t ⟨s.x,s.y,false⟩ true with
   |no e'=>rw [hw]at h;cases h;exact qx mk gt hw
   |ok w=>rw [hw]at h;exact Mt mk gt h
theorem yp (mk:cj C) {T:Tb} (gt:kc T) {rb t e:Int} {p hm:Pose} {S:List Stp} (h:te C T rb p t S hm = .no e):e≠0:=by
 unfold te at h
 split at h
 . cases hg:goR C T rb hm S p t []with
   |no e'=>
     rw [hg]at h
     cases h
     have:=Mt mk gt hg
     omega
   |ok l=>
     rw [hg]at h
     simp only at h
     split at h<;>cases h
     decide
 . cases h
   decide
theorem Ov (mk:cj C) {T:Tb} (gt:kc T) {rb t:Int} {p hm:Pose} {S:List Stp} {k:Nat} (hk:k<=S.length) {X Y:List Move} (hx:te C T rb p t S hm = .ok X) (hy:te C T rb p t (S.take k) hm = .ok Y):
   ∃l X' Y',X=l++X'/\Y=l++Y'/\l.countP ii=k:=by
 obtain ⟨s1,g1,_⟩:=Eg hx
 obtain ⟨s2,g2,_⟩:=Eg hy
 rw [<- List.take_append_drop k S]at g1
 obtain ⟨x,p1,q1⟩:=Pi g1
 have g3:goR C T rb hm (S.take k++[]) p t [] = .ok Y:=by rw [List.append_nil];exact g2
 obtain ⟨y,p2,q2⟩:=Pi g3
 rw [p1]at p2
 cases p2
 obtain ⟨X',rfl⟩:=Pk q1
 obtain ⟨Y',rfl⟩:=Pk q2
 refine ⟨x.2.2,X',Y',rfl,rfl,?_⟩
 have:=Lz mk gt s2 p1
 rw [List.length_take]at this
 simp at this
 omega
end
end Go.Proofs.YtfflipnhffknnaaGreatDoor
end
section
namespace Go.Proofs.YtfflipnhffknnaaGreatDoor
open Go Go.HL
section
variable (G:Hp) (K:EK) (r:Rg) (h:Hp)
def md31:Nat->Hint
 |_=>mh false [] [] [] false
def S31:Prop:=
 o_ G (Instr.box 54 (r 0)) h fun v0 h0=>o_ G (Instr.loadAt 54 v0) h0 fun v1 h1=>
 c_ G 73 #[v1,(r 1)] h1 fun v2 h2=>o_ G (Builtin.len_ #[168] 3 #[v2]) h2 fun v3 h3=>
 K .ret (u7 r 2 v0 4 (.int .i64 0) 5 v1 6 (r 1) 7 v2 8 v3 4 v3) h3
theorem enter31:Ent 9 31 [.tmp 4] S31:=ent_ (m:=md31) (c:=(Tryz.f31.body.getD .skip)) (fun _ _ _ _=>by kernel_rfl) Tryz.func31 rfl rfl rfl
def md73:Nat->Hint
 |_=>mh false [] [] [] false
def ax9 (G:Hp) (K:EK) (r:Rg) (h:Hp):Prop:=
 K .ret (u2 r 43 (r 5) 4 (r 5)) h
def Nq:Prop:=
 o_ G (Instr.loadAt 54 (r 2)) h fun v13 h13=>o_ G (Instr.fieldAt 54 (r 2) 0) h13 fun v14 h14=>o_ G (Instr.loadAt 3 v14) h14 fun v15 h15=>o_ G (binOp .mul 3 (r 1) v15) h15 fun v16 h16=>o_ G (binOp .sub 3 v16 (r 6)) h16 fun v17 h17=>o_ G (Instr.fieldAt 54 (r 2) 2) h17 fun v18 h18=>o_ G (Instr.loadAt 3 v18) h18 fun v19 h19=>
 c_ G 125 #[v13,v17,(r 7),v19] h19 fun v20 h20=>o_ G (binOp .add 3 (r 6) v20) h20 fun v21 h21=>o_ G (Instr.buildSlice 168 1 #[(0,v21)]) h21 fun v22 h22=>o_ G (Builtin.append_ #[168,168] 168 #[(r 5),v22]) h22 fun v23 h23=>
 K .normal (upd (u10 (u10 r 25 v13 26 (r 1) 27 v14 28 v15 29 v16 30 (r 6) 31 v17 32 (r 7) 33 v18 34 v19) 35 v20 7 v20 36 (r 6) 37 v20 38 v21 6 v21 39 (r 5) 40 v21 41 v22 42 v23) 5 v23) h23
def ax8 (r:Rg) (h:Hp) (K:EK):Prop:=
 o_ G (Instr.fieldAt 54 (r 2) 0) h fun v9 h9=>o_ G (Instr.loadAt 3 v9) h9 fun v10 h10=>o_ G (binOp .mul 3 (r 1) v10) h10 fun v11 h11=>o_ G (binOp .lss 3 (r 6) v11) h11 fun v12 h12=>
 (fun q=>cond v12
 (Nq G K q h12)
 (K (.exit 0) q h12))
 (u6 r 19 (r 6) 20 (r 1) 21 v9 22 v10 23 v11 24 v12)
def ay0:Prop:=
 dl (ax8 G) (u3 r 5 (.slice none 0 0) 6 (.int .i64 0) 7 (.int .i64 0)) h (bo 0 (ci (ax9 G K) K))
def S73:Prop:=
 o_ G (Instr.box 54 (r 0)) h fun v0 h0=>o_ G (binOp .lss 3 (r 1) (.int .i64 1)) h0 fun v1 h1=>g_ v1 false (fun K1=>K1 (r 1) h1) h1 fun v2 h2=>g_ v1 false (o_ G (binOp .gtr 3 v2 (.int .i64 16)) h2) h2 fun v3 h3=>
 opH P_ G (bj v1 (.bool true) v3) h3 fun v4 h4=>g_ v4 false (o_ G (Instr.loadAt 54 v0) h4) h4 fun v5 h5=>g_ v4 false (c_ G 124 #[v5] h5) h5 fun v6 h6=>g_ v4 false (o_ G (Op.unary .not v6) h6) h6 fun v7 h7=>
 opH P_ G (bj v4 (.bool true) v7) h7 fun v8 h8=>
 (fun q=>cond v8
 (K .ret (upd q 4 (.slice none 0 0)) h8)
 (ay0 G K q h8))
 (u3 (u10 r 2 v0 4 (.slice none 0 0) 8 (r 1) 9 v1 10 v1 11 v2 12 v3 13 v4 14 v4 15 v5) 16 v6 17 v7 18 v8)
theorem enter73:Ent 44 73 [.tmp 4] S73:=ent_ (m:=md73) (c:=(Tryz.f73.body.getD .skip)) (fun _ _ _ _=>by kernel_rfl) Tryz.func73 rfl rfl rfl
def md124:Nat->Hint
 |_=>mh false [] [] [] false
def S124:Prop:=
 o_ G (Instr.box 54 (r 0)) h fun v0 h0=>o_ G (Instr.fieldAt 54 v0 0) h0 fun v1 h1=>o_ G (Instr.loadAt 3 v1) h1 fun v2 h2=>o_ G (binOp .geq 3 v2 (.int .i64 1)) h2 fun v3 h3=>g_ v3 true (o_ G (Instr.fieldAt 54 v0 0) h3) h3 fun v4 h4=>g_ v3 true (o_ G (Instr.loadAt 3 v4) h4) h4 fun v5 h5=>g_ v3 true (o_ G (binOp .leq 3 v5 (.int .i64 1000)) h5) h5 fun v6 h6=>
 opH P_ G (bj v3 v6 (.bool false)) h6 fun v7 h7=>g_ v7 true (o_ G (Instr.fieldAt 54 v0 1) h7) h7 fun v8 h8=>g_ v7 true (o_ G (Instr.loadAt 3 v8) h8) h8 fun v9 h9=>g_ v7 true (o_ G (binOp .geq 3 v9 (.int .i64 1)) h9) h9 fun v10 h10=>
 opH P_ G (bj v7 v10 (.bool false)) h10 fun v11 h11=>g_ v11 true (o_ G (Instr.fieldAt 54 v0 1) h11) h11 fun v12 h12=>g_ v11 true (o_ G (Instr.loadAt 3 v12) h12) h12 fun v13 h13=>g_ v11 true (o_ G (binOp .leq 3 v13 (.int .i64 1000)) h13) h13 fun v14 h14=>
 opH P_ G (bj v11 v14 (.bool false)) h14 fun v15 h15=>g_ v15 true (o_ G (Instr.fieldAt 54 v0 2) h15) h15 fun v16 h16=>g_ v15 true (o_ G (Instr.loadAt 3 v16) h16) h16 fun v17 h17=>g_ v15 true (o_ G (binOp .geq 3 v17 (.int .i64 1)) h17) h17 fun v18 h18=>
 opH P_ G (bj v15 v18 (.bool false)) h18 fun v19 h19=>g_ v19 true (o_ G (Instr.fieldAt 54 v0 2) h19) h19 fun v20 h20=>g_ v19 true (o_ G (Instr.loadAt 3 v20) h20) h20 fun v21 h21=>g_ v19 true (o_ G (binOp .leq 3 v21 (.int .i64 1000)) h21) h21 fun v22 h22=>
 opH P_ G (bj v19 v22 (.bool false)) h22 fun v23 h23=>
 K .ret (upd (u10 (u10 (u10 r 1 v0 2 (.bool false) 3 v1 4 v2 5 v3 6 v3 7 v4 8 v5 9 v6 10 v7) 11 v7 12 v8 13 v9 14 v10 15 v11 16 v11 17 v12 18 v13 19 v14 20 v15) 21 v15 22 v16 23 v17 24 v18 25 v19 26 v19 27 v20 28 v21 29 v22 30 v23) 2 v23) h23
theorem as3:Ent 31 124 [.tmp 2] S124:=ent_ (m:=md124) (c:=(Tryz.f124.body.getD .skip)) (fun _ _ _ _=>by kernel_rfl) Tryz.func124 rfl rfl rfl
def md125:Nat->Hint
 |_=>mh false [] [] [] false
def Q3 (G:Hp) (K:EK) (r:Rg) (h:Hp):Prop:=
 K .ret (u2 r 35 (r 9) 8 (r 9)) h
def Km:Prop:=
 o_ G (binOp .sub 3 (r 9) (.int .i64 1)) h fun v15 h15=>
 K .normal (u3 r 33 (r 9) 34 v15 9 v15) h15
def Y6 (r:Rg) (h:Hp) (K:EK):Prop:=
 o_ G (binOp .gtr 3 (r 9) (.int .i64 1)) h fun v6 h6=>g_ v6 true (o_ G (Instr.loadAt 54 (r 4)) h6) h6 fun v7 h7=>g_ v6 true (fun K1=>K1 (r 9) h7) h7 fun v8 h8=>g_ v6 true (c_ G 153 #[v7,v8] h8) h8 fun v9 h9=>g_ v6 true (fun K1=>K1 (r 1) h9) h9 fun v10 h10=>g_ v6 true (fun K1=>K1 (r 9) h10) h10 fun v11 h11=>g_ v6 true (o_ G (binOp .sub 3 v10 v11) h11) h11 fun v12 h12=>g_ v6 true (o_ G (binOp .gtr 3 v9 v12) h12) h12 fun v13 h13=>
 opH P_ G (bj v6 v13 (.bool false)) h13 fun v14 h14=>
 (fun q=>cond v14
 (Km G K q h14)
 (K (.exit 0) q h14))
 (upd (u10 r 22 (r 9) 23 v6 24 v6 25 v7 26 v8 27 v9 28 v10 29 v11 30 v12 31 v13) 32 v14)
def G5:Prop:=
 dl (Y6 G) r h (bo 0 (ci (Q3 G K) K))
def G6:Prop:=
 o_ G (binOp .gtr 3 (r 9) (r 1)) h fun v5 h5=>
 cond v5
 (G5 G K (u5 r 18 (r 9) 19 (r 1) 20 v5 21 (r 1) 9 (r 1)) h5)
 (G5 G K (u3 r 18 (r 9) 19 (r 1) 20 v5) h5)
def S125:Prop:=
 o_ G (Instr.box 54 (r 0)) h fun v0 h0=>o_ G (Instr.fieldAt 54 v0 1) h0 fun v1 h1=>o_ G (Instr.loadAt 3 v1) h1 fun v2 h2=>o_ G (binOp .add 3 (r 2) v2) h2 fun v3 h3=>o_ G (binOp .gtr 3 v3 (r 3)) h3 fun v4 h4=>
 (fun q=>cond v4
 (G6 G K (u2 q 17 (r 3) 9 (r 3)) h4)
 (G6 G K q h4))
 (u10 r 4 v0 8 (.int .i64 0) 10 (r 2) 11 v1 12 v2 13 v3 9 v3 14 v3 15 (r 3) 16 v4)
theorem as2:Ent 36 125 [.tmp 8] S125:=ent_ (m:=md125) (c:=(Tryz.f125.body.getD .skip)) (fun _ _ _ _=>by kernel_rfl) Tryz.func125 rfl rfl rfl
def md153:Nat->Hint
 |_=>mh false [] [] [] false
def Yo (G:Hp) (K:EK) (r:Rg) (h:Hp):Prop:=
 K .ret (u2 r 19 (r 5) 4 (r 5)) h
def J2:Prop:=
 o_ G (Instr.fieldAt 54 (r 2) 1) h fun v5 h5=>o_ G (Instr.loadAt 3 v5) h5 fun v6 h6=>o_ G (binOp .sub 3 (r 1) v6) h6 fun v7 h7=>
 K .normal (u5 r 12 (r 1) 13 v5 14 v6 15 v7 1 v7) h7
def J3:Prop:=
 o_ G (binOp .add 3 (r 5) (r 1)) h fun v8 h8=>
 J2 G K (u4 r 16 (r 5) 17 (r 1) 18 v8 5 v8) h8
def Yn (r:Rg) (h:Hp) (K:EK):Prop:=
 o_ G (binOp .gtr 3 (r 1) (.int .i64 0)) h fun v4 h4=>
 cond v4
 (J3 G K (u2 r 10 (r 1) 11 v4) h4)
 (K (.exit 0) (u2 r 10 (r 1) 11 v4) h4)
def S153:Prop:=
 o_ G (Instr.box 54 (r 0)) h fun v0 h0=>o_ G (Instr.fieldAt 54 v0 1) h0 fun v1 h1=>o_ G (Instr.loadAt 3 v1) h1 fun v2 h2=>o_ G (binOp .sub 3 (r 1) v2) h2 fun v3 h3=>
 dl (Yn G) (u8 r 2 v0 4 (.int .i64 0) 5 (.int .i64 0) 6 (r 1) 7 v1 8 v2 9 v3 1 v3) h3 (bo 0 (ci (Yo G K) K))
theorem aq1:Ent 20 153 [.tmp 4] S153:=ent_ (m:=md153) (c:=(Tryz.f153.body.getD .skip)) (fun _ _ _ _=>by kernel_rfl) Tryz.func153 rfl rfl rfl
def md93:Nat->Hint
 |_=>mh false [] [] [] false
def S93:Prop:=
 o_ G (Instr.box 26 (r 0)) h fun v0 h0=>o_ G (Instr.alloc 54 true (.tuple #[])) h0 fun v1 h1=>o_ G (Instr.fieldAt 26 v0 7) h1 fun v2 h2=>o_ G (Instr.loadAt 3 v2) h2 fun v3 h3=>o_ G (Instr.fieldAt 26 v0 8) h3 fun v4 h4=>o_ G (Instr.loadAt 3 v4) h4 fun v5 h5=>o_ G (Instr.fieldAt 26 v0 9) h5 fun v6 h6=>o_ G (Instr.loadAt 3 v6) h6 fun v7 h7=>o_ G (Instr.build 54 #[(0,v3),(1,v5),(2,v7)]) h7 fun v8 h8=>
 opH P_ G (su (Instr.storeAt 54 v1 v8)) h8 fun v9 h9=>
 K .ret (u9 r 1 v0 2 v1 3 v2 4 v3 5 v4 6 v5 7 v6 8 v7 9 v8) h9
theorem enter93:Ent 10 93 [.cell 2 54] S93:=ent_ (m:=md93) (c:=(Tryz.f93.body.getD .skip)) (fun _ _ _ _=>by kernel_rfl) Tryz.func93 rfl rfl rfl
def md46:Nat->Hint
 |3=>mh false [0,1,0,4,15,31] [m_,e_,n_,m_,e_,n_] [false,true,false,false,false,false] false
 |_=>mh false [] [] [] false
def az0 (G:Hp) (K:EK) (r:Rg) (h:Hp):Prop:=
 K .ret (upd r 4 (.int .i64 0)) h
def Qd:Prop:=
 cond (r 18)
 (o_ G (Instr.fieldAt 26 (r 2) 11) h fun v14 h14=>o_ G (Instr.loadAt 3 v14) h14 fun v15 h15=>
 K .ret (u3 r 21 v14 22 v15 4 v15) h15)
 (az0 G K r h)
def S46:Prop:=
 o_ G (Instr.box 26 (r 0)) h fun v0 h0=>o_ G (Instr.box 48 (r 1)) h0 fun v1 h1=>o_ G (Instr.fieldAt 48 v1 0) h1 fun v2 h2=>o_ G (Instr.loadAt 3 v2) h2 fun v3 h3=>
 opH P_ G (xEq .eql 3 (.tmp 0) (.const .nilFunc) v3 (.int .i64 1)) h3 fun v4 h4=>
 cond v4
 (w_ G h4 (Instr.loadAt 26 v0) h4 fun v5 h5=>
 c_ G 93 #[v5] h5 fun v6 h6=>h4.le h6/\
 p_ (Instr.fieldAt 48 v1 2) h6 fun v7 h7=>
 w_ G h4 (Instr.loadAt 3 v7) h7 fun v8 h8=>
 c_ G 31 #[v6,v8] h8 fun v9 h9=>
 K .ret (u3 (u10 r 2 v0 3 v1 4 (.int .i64 0) 5 v2 6 v3 8 v4 7 v4 9 v5 10 v6 11 v7) 12 v8 13 v9 4 v9) h9)
 (opH P_ G (xEq .eql 3 (.tmp 0) (.const .nilFunc) v3 (.int .i64 2)) h4 fun v10 h10=>
 cond v10
 (o_ G (Instr.fieldAt 26 v0 10) h10 fun v11 h11=>o_ G (Instr.loadAt 3 v11) h11 fun v12 h12=>
 K .ret (u2 (u10 r 2 v0 3 v1 4 (.int .i64 0) 5 v2 6 v3 8 v4 7 v4 15 v10 14 v10 16 v11) 17 v12 4 v12) h12)
 (opH P_ G (xEq .eql 3 (.tmp 0) (.const .nilFunc) v3 (.int .i64 3)) h10 fun v13 h13=>
 cond v13
 (Qd G K (upd (u10 r 2 v0 3 v1 4 (.int .i64 0) 5 v2 6 v3 8 v4 7 v4 15 v10 14 v10 19 v13) 18 v13) h13)
 (opH P_ G (xEq .eql 3 (.tmp 0) (.const .nilFunc) v3 (.int .i64 4)) h13 fun v16 h16=>
 Qd G K (u3 (u10 r 2 v0 3 v1 4 (.int .i64 0) 5 v2 6 v3 8 v4 7 v4 15 v10 14 v10 19 v13) 18 v13 20 v16 18 v16) h16)))
theorem enter46:Ent 23 46 [.tmp 4] S46:=ent_ (m:=md46) (c:=(Tryz.f46.body.getD .skip)) (fun _ _ _ _=>by kernel_rfl) Tryz.func46 rfl rfl rfl
end
end Go.Proofs.YtfflipnhffknnaaGreatDoor
end
section
namespace Go.Proofs.YtfflipnhffknnaaGreatDoor
open Go Go.HL Go.Proofs.Resv Go.Proofs.Srch
def du:=jq bC (jq (jq (jq @rq (jq @kg @ue)) (jq (jq @M9 @cf124) (jq @cf125 @cf153))) (jq (jq (jq @cf73 @fa54_0) (jq @fa54_1 @fa54_2)) (jq (jq @ld3 @ld54) (jq @Mk @true_and))))
abbrev kV (U A V:Int):Value := .agg #[U,A,V]
abbrev kO (U A V:Int):Obj := .cells #[U,A,V] 54 (0,0)
theorem R7 {G h:Hp} {U A V q:Int} (kb:KB U A V) (h0:0<=q) (h1:q<=V):
   al P_ G 153 #[kV U A V,q] h (fun v h'=>v = .int .i64 (uj A q)/\h'=h):=by
 obtain ⟨ku1,ku2,ka1,ka2,kv1,kv2⟩:=kb
 refine quietly (aq1 (by simp) ?_)
 unfold S153
 simp (disch:=first|decide|omega) only [du]
 intro kp hkp gkp
 have bk:(h.set kp (kO U A V)) kp=some (kO U A V):=ag
 have l1:h.le (h.set kp (kO U A V)):=b8 hkp
 try simp (disch:=first|decide|omega) only [du,Nat.reduceAdd,Nat.reduceMul]
 generalize Hp.set h kp _=h1 at bk l1 ⊢
 have ck:∀j,af G h1 ⟨kp,j,none⟩=_:=fun j=>aj (ai bk)
 try simp (disch:=first|decide|omega) only [du,Nat.reduceAdd,Nat.reduceMul,ck]
 have hbd:=Dm ka1 (show q<=1000 by omega)
 refine di (fun m r h'=>h'=h1/\r 2 = .pointer (some ⟨kp,0,none⟩)/\∃s v:Int,r 5 = .int .i64 s/\r 1 = .int .i64 v/\v.toNat=m/\v<=1000 /\ -1000<=v/\0<=s/\∃n:Nat,v<=n/\s+brk A n v=uj A q) ?_ (m:=(q-A).toNat)
   ⟨rfl,by simp (disch:=decide) only [du],0,q-A,by simp (disch:=decide) only [du],by simp only [du],rfl,by omega,by omega,by omega,q.toNat,by omega,by unfold uj;omega⟩
 rintro m r h' ⟨rfl,g0,s,v,g5,g6,rfl,hv,hv2,hs,n,hn,hsum⟩ X hX
 unfold Yn
 simp only [du,g6]
 by_cases hp:v>0
 . rw [gi hp]
   obtain ⟨n,rfl⟩:∃k,n=k+1:=⟨n-1,by omega⟩
   unfold brk at hsum
   rw [if_pos hp]at hsum
   have hb:=P1 ka1 n (v-A) (by omega)
   simp only [du]
   unfold J3
   simp (disch:=first|decide|omega) only [du,g5,g6]
   unfold J2
   simp (disch:=first|decide|omega) only [du,g0,g6,ck]
   refine hX (v-A).toNat _ _ (by omega) ⟨rfl,by simp (disch:=decide) only [du,g0],s+v,v-A,by simp (disch:=decide) only [du],by simp only [du],rfl,by omega,by omega,by omega,n,by omega,by omega⟩
 . rw [ig hp]
   rw [X7 n (by omega)]at hsum
   simp only [du]
   unfold Yo
   simp (disch:=decide) only [du,g5]
   exact ⟨by rw [<- hsum];simp,l1⟩
theorem Uv {G h:Hp} {U A V x s v:Int} (kb:KB U A V) (hx1:1<=x) (hx2:x<=100000) (hs:0<=s) (hs2:s<=1000) (hv1:1<=v) (hv2:v<=V):
   al P_ G 125 #[kV U A V,x,s,v] h (fun u h'=>u = .int .i64 (qv A x s v)/\h'=h):=by
 have kb':=kb
 obtain ⟨ku1,ku2,ka1,ka2,kv1,kv2⟩:=kb
 refine quietly (as2 (by simp) ?_)
 unfold S125
 simp (disch:=first|decide|omega) only [du]
 intro kp hkp gkp
 have bk:(h.set kp (kO U A V)) kp=some (kO U A V):=ag
 have l1:h.le (h.set kp (kO U A V)):=b8 hkp
 try simp (disch:=first|decide|omega) only [du,Nat.reduceAdd,Nat.reduceMul]
 generalize Hp.set h kp _=h1 at bk l1 ⊢
 have ck:∀j,af G h1 ⟨kp,j,none⟩=_:=fun j=>aj (ai bk)
 try simp (disch:=first|decide|omega) only [du,Nat.reduceAdd,Nat.reduceMul,ck]
 suffices k2:∀r:Rg,r 4 = .pointer (some ⟨kp,0,none⟩)->r 1 = .int .i64 x->r 9 = .int .i64 (min (min (s+A) v) x)->G5 G (retK P_ G [.tmp 8] fun u h'=>(u = .int .i64 (qv A x s v)/\h.le h')) r h1 by
   have k1:∀r:Rg,r 4 = .pointer (some ⟨kp,0,none⟩)->r 1 = .int .i64 x->r 9 = .int .i64 (min (s+A) v)->G6 G (retK P_ G [.tmp 8] fun u h'=>(u = .int .i64 (qv A x s v)/\h.le h')) r h1:=fun r e4 e1 e9=>by
     unfold G6
     simp only [du,e9,e1]
     refine bv (fun hb=>?_) (fun hb=>?_)
     . exact k2 _ (by simp (disch:=decide) only [du,e4]) (by simp (disch:=decide) only [du,e1]) (by simp only [du];first|omega|(congr 1;omega))
     . exact k2 _ (by simp (disch:=decide) only [du,e4]) (by simp (disch:=decide) only [du,e1]) (by simp (disch:=decide) only [du,e9];first|omega|(congr 1;omega))
   refine bv (fun hb=>?_) (fun hb=>?_)
   . exact k1 _ (by simp (disch:=decide) only [du]) (by simp (disch:=decide) only [du]) (by simp only [du];first|omega|(congr 1;omega))
   . exact k1 _ (by simp (disch:=decide) only [du]) (by simp (disch:=decide) only [du]) (by simp (disch:=decide) only [du];first|omega|(congr 1;omega))
 intro r e4 e1 e9
 unfold G5
 refine di (fun m r h'=>h'=h1/\r 4 = .pointer (some ⟨kp,0,none⟩)/\r 1 = .int .i64 x/\∃q:Int,r 9 = .int .i64 q/\q.toNat=m/\q<=V/\1<=q/\∃n:Nat,q<=n/\dq A x n q=qv A x s v) ?_ (m:=(min (min (s+A) v) x).toNat)
   ⟨rfl,e4,e1,min (min (s+A) v) x,e9,rfl,by omega,by omega,(min (min (s+A) v) x).toNat,by omega,rfl⟩
 rintro m r h' ⟨rfl,g0,g1,q,g9,rfl,hq,hq1,n,hn,hd⟩ X hX
 unfold Y6
 simp only [du,g9]
 obtain ⟨n,rfl⟩:∃k,n=k+1:=⟨n-1,by omega⟩
 unfold dq at hd
 by_cases hp:q>1
 . rw [gi hp]
   simp (disch:=first|decide|omega) only [du,g0,g1,g9,ck]
   refine (R7 kb' (by omega) hq).mono ?_
   rintro _ _ ⟨rfl,rfl⟩
   have hbd:=Dm ka1 (show q<=1000 by omega)
   simp only [du]
   refine bv (fun hb=>?_) (fun hb=>?_)
   . rw [if_pos ⟨hp,hb⟩]at hd
     unfold Km
     simp (disch:=first|decide|omega) only [du,g9]
     refine hX (q-1).toNat _ _ (by omega) ⟨rfl,by simp (disch:=decide) only [du,g0],by simp (disch:=decide) only [du,g1],q-1,by simp only [du],rfl,by omega,by omega,n,by omega,hd⟩
   . rw [if_neg (by omega)]at hd
     unfold Q3
     simp (disch:=decide) only [du,g9]
     exact ⟨by rw [hd],l1⟩
 . rw [ig hp]
   rw [if_neg (by omega)]at hd
   simp only [du,fe]
   unfold Q3
   simp (disch:=decide) only [du,g9]
   exact ⟨by rw [hd],l1⟩
theorem Uw {G h:Hp} {U A V:Int} (kb:KB U A V):al P_ G 124 #[kV U A V] h (fun u h'=>u = .bool true/\h'=h):=by
 obtain ⟨ku1,ku2,ka1,ka2,kv1,kv2⟩:=kb
 refine quietly (as3 (by simp) ?_)
 unfold S124
 simp only [du]
 intro kp hkp gkp
 have bk:(h.set kp (kO U A V)) kp=some (kO U A V):=ag
 have l1:h.le (h.set kp (kO U A V)):=b8 hkp
 try simp (disch:=first|decide|omega) only [du,Nat.reduceAdd,Nat.reduceMul]
 generalize Hp.set h kp _=h1 at bk l1 ⊢
 have ck:∀j,af G h1 ⟨kp,j,none⟩=_:=fun j=>aj (ai bk)
 try simp only [du,ck,gi (show U>=1 from ku1),gi ku2,gi (show A>=1 from ka1),gi ka2,gi (show V>=1 from kv1),gi kv2]
 exact l1
theorem K8 {G h:Hp} {U A V n:Int} (kb:KB U A V) (hn:Bd n):
   al P_ G 73 #[kV U A V,n] h (fun u h'=>∃ip,Slc intC 3 ip u (jr U A V n)/\Sep [ip,h] h'/\Dis G h'):=by
 have kb':=kb
 obtain ⟨ku1,ku2,ka1,ka2,kv1,kv2⟩:=kb
 refine al.assume fun d=>enter73 (by simp) ?_
 unfold S73
 simp only [du]
 intro kp hkp gkp
 have s1:=(Sep.one (h:=h)).past (o:=kO U A V) hkp
 try simp (disch:=first|decide|omega) only [du,Nat.reduceAdd,Nat.reduceMul]
 generalize e1:Hp.set h kp _=h1 at*
 obtain ⟨l1,d1,bk⟩:=boxed e1 hkp d gkp
 have ck:∀{h':Hp},h1.le h'->∀j,af G h' ⟨kp,j,none⟩=_:=fun l j=>aj (ai (l _ _ bk))
 have no:¬(1<=n/\n<=16)->∃ip,Slc intC 3 ip (.slice none 0 0) (jr U A V n)/\Sep [ip,h] h1/\Dis G h1:=fun hh=>by
   unfold jr
   rw [if_neg hh]
   exact ⟨noHp,Slc.nil,(Sep.one.cut l1).none,d1⟩
 by_cases q1:n<1
 . try simp only [du,gi q1,fe]
   exact no (by omega)
 by_cases q2:n>16
 . try simp only [du,ig q1,gi q2,fe]
   exact no (by omega)
 try simp only [du,ig q1,ig q2,ck (Hp.le.refl _)]
 refine (Uw kb').mono ?_
 rintro _ h1 ⟨rfl,rfl⟩
 try simp only [du]
 unfold ay0
 generalize hKK:retK P_ G _ _=KK
 have hnU:1*1<=n*U:=Int.mul_le_mul (by omega) ku1 (by omega) (by omega)
 have hnU2:n*U<=16*1000:=Int.mul_le_mul (by omega) ku2 (by omega) (by omega)
 have hwr:IntKind.i64.wrap (n*U)=n*U:=kf (by omega) (by omega)
 generalize he:n*U=e at hnU hnU2 hwr
 obtain ⟨W,hW⟩:∃W,W=jr U A V n:=⟨_,rfl⟩
 have hW2:W=prof A V e e.toNat 0 0:=by rw [hW];unfold jr;rw [if_pos (by omega),he]
 rw [<- hW]at hKK
 refine di (fun m r h'=>∃(ip:Hp) (v:Value) (M:List Int) (p sp:Int),m=(e-p).toNat/\r 1 = .int .i64 n/\r 2 = .pointer (some ⟨kp,0,none⟩)/\r 5=v/\r 6 = .int .i64 p/\r 7 = .int .i64 sp/\
     Slc intC 3 ip v M/\Sep [ip,h1] h'/\Dis G h'/\0<=p/\0<=sp/\sp<=V/\p<=e/\∃k:Nat,e-p<=k/\M++prof A V e k p sp=W) ?_ (m:=(e-0).toNat)
   ⟨noHp,_,[],0,0,rfl,by simp (disch:=decide) only [du],by simp (disch:=decide) only [du],by simp (disch:=decide) only [du],by simp (disch:=decide) only [du],by simp only [du],Slc.nil,Sep.one.none,d1,by omega,by omega,by omega,by omega,e.toNat,by omega,hW2.symm⟩
 rintro m r h' ⟨ip,v,M,p,sp,rfl,g1,g2,g5,g6,g7,sl,s',d',hp0,hsp0,hspV,hpe,k,hk,hprof⟩ X hX
 have l':=s'.in 1 rfl
 unfold ax8
 simp (disch:=first|decide|omega) only [du,g1,g2,g6,ck l']
 rw [he]
 by_cases hlt:p<e
 . rw [gi hlt]
   simp only [du]
   unfold Nq
   simp (disch:=first|decide|omega) only [du,g1,g2,g6,g7,ck l']
   rw [he]
   try simp (disch:=first|decide|omega) only [du,Nat.reduceAdd,Nat.reduceMul]
   refine (Uv kb' (x:=e-p) (s:=sp) (v:=V) (by omega) (by omega) hsp0 (by omega) (by omega) (by omega)).mono ?_
   rintro _ h' ⟨rfl,rfl⟩
   have hnx:=W9 ka1 (show 1<=e-p by omega) hsp0 kv1
   obtain ⟨k,rfl⟩:∃j,k=j+1:=⟨k-1,by omega⟩
   unfold prof at hprof
   rw [if_pos hlt]at hprof
   generalize qv A (e-p) sp V=x at*
   simp (disch:=first|decide|omega) only [du]
   intro b hb gb
   have s2:=(s'.new (o := .cells #[.int .i64 (p+x)] 3 (0,0)) hb).sel (L':=[ip,noHp.set b (.cells #[.int .i64 (p+x)] 3 (0,0)),h1]) [1,0,2] (by decide) rfl
   have d2:=d'.set (o := .cells #[.int .i64 (p+x)] 3 (0,0)) gb
   generalize Hp.set h' b _=h2 at s2 d2 ⊢
   simp only [du,g5]
   have hlen:M.length<=16000:=by
     have e1:=congrArg List.length hprof
     have e2:=Cv (a:=A) (v:=V) (e:=e) e.toNat 0 0
     rw [hW2]at e1
     simp only [List.length_append]at e1
     omega
   refine ez intC (by decide) Fe eo3 (by decide) (by decide) (M:=[p+x]) s2 d2 sl (Sees.row (c:=intC) (L:=[p+x]) (s2.at 1 rfl ag) rfl (Nat.le_refl _)) (by simp;omega) fun v3 a3 h3 o3 s3 d3=>?_
   try simp (disch:=first|decide|omega) only [du,Nat.reduceAdd,Nat.reduceMul]
   refine hX (e-(p+x)).toNat _ _ (by omega) ⟨a3,v3,M++[p+x],p+x,x,rfl,by simp (disch:=decide) only [du,g1],by simp (disch:=decide) only [du,g2],by simp only [du],by simp (disch:=decide) only [du],by simp (disch:=decide) only [du],o3,s3.sel [0,2] (by decide) rfl,d3,by omega,by omega,by omega,by omega,k,by omega,?_⟩
   rw [<- hprof]
   simp
 . rw [ig hlt]
   try simp only [du]
   have hz:prof A V e k p sp=[]:=by
     cases k with
     |zero=>rfl
     |succ k=>unfold prof;rw [if_neg hlt]
   rw [hz,List.append_nil]at hprof
   unfold ax9
   rw [<- hKK]
   simp (disch:=decide) only [du,g5]
   exact ⟨ip,by rw [<- hprof];exact sl,(s'.swap.cut l1).swap,d'⟩
theorem Ut {G h:Hp} {U A V n:Int} (kb:KB U A V) (hn:Bd n):
   al P_ G 31 #[kV U A V,n] h (fun u h'=>u = .int .i64 (Ff U A V n)/\h'=h):=by
 refine al.assume fun d=>quietly (enter31 (by simp) ?_)
 unfold S31
 simp only [du]
 intro kp hkp gkp
 have s1:=(Sep.one (h:=h)).past (o:=kO U A V) hkp
 try simp (disch:=first|decide|omega) only [du,Nat.reduceAdd,Nat.reduceMul]
 generalize e1:Hp.set h kp _=h1 at*
 obtain ⟨l1,d1,bk⟩:=boxed e1 hkp d gkp
 have ck:∀j,af G h1 ⟨kp,j,none⟩=_:=fun j=>aj (ai bk)
 try simp (disch:=first|decide|omega) only [du,Nat.reduceAdd,Nat.reduceMul,ck]
 refine (K8 kb hn).mono ?_
 rintro u h2 ⟨ip,sl,s2,d2⟩
 obtain ⟨sa,cap,rfl,_⟩:=sl.len (by decide)
 try simp only [du]
 exact ⟨rfl,l1.trans (s2.in 1 rfl)⟩
def qz:=jq bC (jq (jq (jq (jq @al54 @Vx) (jq @cf31 @cf93)) (jq (jq @Dg @Df) (jq @Bw (jq @Ez @Ey)))) (jq (jq (jq @zq @Pr) (jq @zi @ld3)) (jq (jq @ld3p @ld54) (jq @yr (jq @uq @true_and)))))
theorem st_k {G h:Hp} {b:Nat} {U A V U' A' V':Int} {K:Unit->Hp->Prop} (hb:h b=some (kO U' A' V')):wpH P_ G (Instr.storeAt 54 (.pointer (some ⟨b,0,none⟩)) (kV U A V)) h K=K () (h.set b (kO U A V)):=by
 rw [qs (n:=3) sz54 hb rfl (by simp) (by intro v hv;simp [Value.cells]at hv;rcases hv with rfl|rfl|rfl<;>rfl)]
 rfl
theorem Z1 {G h:Hp} {v:Value} {C:Conf} (hv:CV G h v C):al P_ G 93 #[v] h (fun u h'=>u=kV C.un C.ac C.sp/\h'=h):=by
 obtain ⟨ab,cb,ap,cp,ar,cr,az,cs,rfl,ca⟩:=hv
 refine al.assume fun d=>quietly (enter93 (by simp) ?_)
 unfold S93
 simp (disch:=decide) only [qz]
 intro xc hxc gxc
 generalize e1:Hp.set h xc _=h1 at*
 obtain ⟨l1,d1,q1⟩:=boxed e1 hxc d gxc
 intro xk hxk gxk
 generalize e2:Hp.set h1 xk _=h2 at*
 obtain ⟨l2,d2,q2⟩:=boxed e2 hxk d1 gxk
 have cc:∀k,af G h2 ⟨xc,k,none⟩=_:=fun k=>aj (ai (l2 _ _ q1))
 try simp only [qz,cc]
 rw [st_k q2]
 have q3:=ag (h:=h2) (b:=xk) (o:=kO C.un C.ac C.sp)
 have ck:∀k,af G (h2.set xk (kO C.un C.ac C.sp)) ⟨xk,k,none⟩=_:=fun k=>aj (ai q3)
 try simp only [qz,ck]
 rw [<- e2,set_set]
 exact l1.trans (b8 hxk)
theorem R3 {G h:Hp} {v:Value} {C:Conf} {m:Move} (hv:CV G h v C) (kb:KB C.un C.ac C.sp) (hn:Bd m.n):al P_ G 46 #[v,Fm m] h (fun u h'=>u = .int .i64 (dp C m)/\h'=h):=by
 obtain ⟨ab,cb,ap,cp,ar,cr,az,cs,rfl,ca⟩:=hv
 refine al.assume fun d=>quietly (enter46 (by simp) ?_)
 unfold S46
 simp only [qz]
 intro xc hxc gxc xm hxm gxm
 generalize e1:Hp.set h xc _=h1 at*
 obtain ⟨l1,d1,q1⟩:=boxed e1 hxc d gxc
 generalize e2:Hp.set h1 xm _=h2 at*
 obtain ⟨l2,d2,q2⟩:=boxed e2 hxm d1 gxm
 have cc:∀k,af G h2 ⟨xc,k,none⟩=_:=fun k=>aj (ai (l2 _ _ q1))
 have cm:∀k,af G h2 ⟨xm,k,none⟩=_:=fun k=>aj (ai q2)
 have ll:=l1.trans l2
 try simp (disch:=first|decide|omega) only [qz,Nat.reduceAdd,Nat.reduceMul,cm]
 by_cases k1:m.k=1
 . try simp only [qz,show (m.k==1)=true by simpa using k1,cc]
   refine (Z1 (ca.up ll d2).cv).mono ?_
   rintro _ h2 ⟨rfl,rfl⟩
   refine ⟨Hp.le.refl _,?_⟩
   try simp (disch:=first|decide|omega) only [qz,Nat.reduceAdd,Nat.reduceMul,cm]
   refine (Ut kb hn).mono ?_
   rintro _ h2 ⟨rfl,rfl⟩
   try simp (disch:=first|decide|omega) only [qz,Nat.reduceAdd,Nat.reduceMul]
   exact ⟨by unfold dp;rw [if_pos k1],ll⟩
 try simp only [qz,show (m.k==1)=false by simpa using k1]
 by_cases k2:m.k=2
 . try simp only [qz,show (m.k==2)=true by simpa using k2,cc]
   exact ⟨by unfold dp;rw [if_neg k1,if_pos k2],ll⟩
 try simp only [qz,show (m.k==2)=false by simpa using k2]
 by_cases k3:m.k=3
 . try simp only [qz,show (m.k==3)=true by simpa using k3]
   unfold Qd
   try simp (disch:=decide) only [qz,cc]
   exact ⟨by unfold dp;rw [if_neg k1,if_neg k2,if_pos (.inl k3)],ll⟩
 try simp only [qz,show (m.k==3)=false by simpa using k3]
 unfold Qd
 by_cases k4:m.k=4
 . try simp (disch:=decide) only [qz,show (m.k==4)=true by simpa using k4,cc]
   exact ⟨by unfold dp;rw [if_neg k1,if_neg k2,if_pos (.inr k4)],ll⟩
 try simp (disch:=decide) only [qz,show (m.k==4)=false by simpa using k4]
 unfold az0
 try simp only [qz]
 exact ⟨by unfold dp;rw [if_neg k1,if_neg k2,if_neg (by omega)],ll⟩
end Go.Proofs.YtfflipnhffknnaaGreatDoor
end
section
namespace Go.Proofs.YtfflipnhffknnaaGreatDoor.Rv
open Go Go.HL Go.Proofs.Resv
def vj:=jq bC (jq (jq (jq (jq @Bool.and_true @al103) (jq @E3 @X8)) (jq (jq @ad5 @vf) (jq @cf107 @cf164))) (jq (jq (jq @eq106s @ld103) (jq @ld203p @ld3)) (jq (jq @ln103 @ln99) (jq @ne203p @true_and))))
def A9:Cod (Int × Int):=⟨2,fun g=>[.int .i64 g.1,.int .i64 g.2],fun _=>rfl,fun _ v hv=>by simp at hv;rcases hv with rfl|rfl<;>rfl⟩
theorem eopair:gc P_ 110 A9.n 16:=eo110
abbrev W5 (g:Int × Int):Obj := .cells #[g.1,g.2] 110 (0,0)
theorem store39 {G h:Hp} {lb:Nat} {z:Value} {a:Option Addr} {n c:Nat} {K:Unit->Hp->Prop} (hb:h lb=some (.cells #[z] 103 (0,0))):
   wpH P_ G (Instr.storeAt 103 (.pointer (some ⟨lb,0,none⟩)) (.slice a n c)) h K=K () (h.set lb (.cells #[.slice a n c] 103 (0,0))):=by
 rw [dh sz103 rfl hb (by simp)]
 rfl
theorem Uh {G a:Hp} {lb mb:Nat} {most:Int} {L:List (Int × Int)} {m:Int × Int} (y:HL.GYb A9 110 103 most lb mb L a) (hm:most<=100000):
   al P_ G 107 #[m.1,m.2,.pointer (some ⟨lb,0,none⟩),.pointer (some ⟨mb,0,none⟩)] a (fun v a'=>v = .bool (HL.Bb most (L++[m]))/\HL.GY A9 110 103 most lb mb (L++[m]) a'):=by
 obtain ⟨⟨ip,v,o,s⟩,hlen⟩:=y
 refine al.assume fun d=>at6 (by simp) ?_
 unfold S107
 have clb:∀j,af G a ⟨lb,j,none⟩=_:=fun j=>aj (ai (s.at 1 rfl ag))
 simp only [vj,clb]
 intro b hb gb
 have s2:=s.past (o:=W5 m) hb
 have d2:=d.set (o:=W5 m) gb
 have hb2:(a.set b (W5 m)) b=some (W5 m):=ag
 generalize Hp.set a b _=h2 at s2 d2 hb2 ⊢
 refine ez A9 (by decide) un103 eopair (by decide) (by decide) (M:=[m]) s2 d2 o (Sees.row (c:=A9) (L:=[m]) hb2 rfl (Nat.le_refl _)) (by simp;omega) fun v3 a3 h3 o3 s3 d3=>?_
 obtain ⟨sa,cap,rfl,hcap⟩:=o3.len (by decide)
 have hlb3:=s3.at 1 rfl ag
 try simp (disch:=first|decide|omega) only [vj,Nat.reduceAdd,Nat.reduceMul]
 rw [store39 hlb3]
 have s4:=(s3.pick 1 rfl rfl).put (o := .cells #[.slice sa (L++[m]).length cap] 103 (0,0)) ag
 rw [set_set]at s4
 have clb4:∀j,af G (h3.set lb (.cells #[.slice sa (L++[m]).length cap] 103 (0,0))) ⟨lb,j,none⟩=_:=fun j=>aj (ai (s4.at 0 rfl ag))
 have cmb4:∀j,af G (h3.set lb (.cells #[.slice sa (L++[m]).length cap] 103 (0,0))) ⟨mb,j,none⟩=_:=fun j=>aj (ai (s4.at 2 rfl ag))
 try simp only [vj,clb4,cmb4]
 refine ⟨?_,a3,_,o3,s4.swap⟩
 first|rfl|simp [HL.Bb]
theorem ab6 {G:Hp} {lb mb:Nat} {most:Int} (hm:most<=100000):HL.Yl P_ gapA G (.func (.func 107) #[] #[.pointer (some ⟨lb,0,none⟩),.pointer (some ⟨mb,0,none⟩)]) (HL.GYb A9 110 103 most lb mb) (HL.GY A9 110 103 most lb mb) (HL.Bb most):=by
 intro L m a q h y s d
 simp only [vj]
 refine (s.on (Uh y hm)).mono ?_
 rintro v h' ⟨a',⟨rfl,gy⟩,s',d'⟩
 refine ⟨a',rfl,s',d',?_⟩
 split
 . rename_i hc
   exact ⟨gy,of_decide_eq_true hc⟩
 . exact gy
theorem lv {G h:Hp} {b1 b2 b3 tp:Nat} {T:Tb} {c r most:Int} (h1:h b1=some (.cells #[.pointer (some ⟨tp,0,none⟩)] 34 (0,0))) (h2:h b2=some (.cells #[c] 3 (0,0))) (h3:h b3=some (.cells #[r] 3 (0,0))) (ts:TSee G h tp T)
   (fw:∀L∈T,L.length<=50000) (hm1:1<=most) (hm2:most<=100000):
   al P_ G 53 #[.func (.func 164) #[] #[.pointer (some ⟨b1,0,none⟩),.pointer (some ⟨b2,0,none⟩),.pointer (some ⟨b3,0,none⟩)],most] h (fun u h'=>∃ip,Slc A9 110 ip u ((if inT T.length c=true then F0 (rowT T c) r else []).take most.toNat)/\HL.Sep [ip,h] h'/\Dis G h'):=by
 refine al.assume fun d=>enter53 (by simp) ?_
 unfold S53
 simp only [vj]
 intro mb hmb gmb lb hlb glb
 have s2:=((Sep.one (h:=h)).new (o := .cells #[most] 3 (0,0)) hmb).new (o := .cells #[.slice none 0 0] 103 (0,0)) hlb
 have d2:=(d.set (o := .cells #[most] 3 (0,0)) gmb).set (o := .cells #[.slice none 0 0] 103 (0,0)) glb
 generalize Hp.set (Hp.set h mb _) lb _=k2 at s2 d2 ⊢
 have cmb:∀j,af G k2 ⟨mb,j,none⟩=_:=fun j=>aj (ai (s2.at 1 rfl ag))
 have e1:decide (most<1)=false:=decide_eq_false (by omega)
 try simp only [vj,cmb,e1]
 unfold ay7
 try simp (disch:=decide) only [vj]
 obtain ⟨a,s3,sa⟩:=Af s2.none
 have ya:HL.GYb A9 110 103 most lb mb [] a:=⟨⟨noHp,_,Slc.nil,sa⟩,by simp;omega⟩
 refine (Vg (r:=r) (ab6 hm2) ya s3 h1 h2 h3 ts fw).mono ?_
 rintro _ h4 ⟨a4,s4,d4,z4⟩
 rw [HL.Aq (by simp;omega)]at z4
 generalize (if inT T.length c=true then F0 (rowT T c) r else [])=GL at*
 have gy:HL.GY A9 110 103 most lb mb (GL.take most.toNat) a4:=by
   unfold HL.Fin at z4
   simp only [List.nil_append,List.length_nil,Nat.sub_zero]at z4
   split at z4
   . exact z4.1
   . exact z4
 obtain ⟨ip,v,o,t4⟩:=gy
 have s5:HL.Sep [h,ip,noHp.set lb (.cells #[v] 103 (0,0)),noHp.set mb (.cells #[most] 3 (0,0))] h4:=by
   have:=s4.swap.split t4
   simpa using this
 have clb:∀j,af G h4 ⟨lb,j,none⟩=_:=fun j=>aj (ai (s5.at 2 rfl ag))
 try simp only [vj,clb]
 exact ⟨ip,o,(s5.take 2 rfl).swap,d4⟩
def Bd (x:Int):Prop := -9223372036854775808<=x/\x<=9223372036854775807
theorem vw {G h:Hp} {a n:Int} (ha:Bd a) (hn:0<n) (hn2:n<=1000000):al P_ G 25 #[a,n] h (fun v h'=>v = .int .i64 (a % n)/\h'=h):=by
 refine quietly (X4 (by simp) ?_)
 obtain ⟨ha1,ha2⟩:=ha
 unfold S25
 have e1:a.tmod n=if 0<=a\/a % n=0 then a % n else a % n-n:=by
   rw [Int.tmod_eq_emod]
   have:(n.natAbs:Int)=n:=by omega
   by_cases h0:0<=a
   . simp [h0]
   . simp [h0,this,Int.dvd_iff_emod_eq_zero]
     split<;>omega
 have hb:=Int.emod_nonneg a (show n≠0 by omega)
 have hb2:=Int.emod_lt_of_pos a hn
 simp (disch:=first|decide|omega) only [vj]
 by_cases hc:0<=a\/a % n=0
 . rw [if_pos hc]at e1
   rw [e1,ig (show ¬a % n<0 by omega)]
   simp only [vj]
   unfold Fa
   simp (disch:=decide) only [vj]
   exact Hp.le.refl h
 . rw [if_neg hc]at e1
   have:a % n≠0:=fun e=>hc (.inr e)
   rw [e1,gi (show a % n-n<0 by omega)]
   simp only [vj]
   unfold Fa
   simp only [vj]
   exact ⟨by congr 1;omega,Hp.le.refl h⟩
end Go.Proofs.YtfflipnhffknnaaGreatDoor.Rv
end
section
namespace Go.Proofs.YtfflipnhffknnaaGreatDoor
open Go Go.HL
section
variable (G:Hp) (K:EK) (r:Rg) (h:Hp)
def md79:Nat->Hint
 |_=>mh false [] [] [] false
def ax5:Prop:=
 o_ G (binOp .add 3 (r 0) (r 1)) h fun v4 h4=>
 K .ret (u4 r 13 (r 0) 14 (r 1) 15 v4 4 v4) h4
def S79:Prop:=
 c_ G 128 #[(r 0)] h fun v0 h0=>
 c_ G 128 #[(r 1)] h0 fun v1 h1=>o_ G (binOp .sub 3 (.int .i64 4611686018427387904) v1) h1 fun v2 h2=>o_ G (binOp .geq 3 v0 v2) h2 fun v3 h3=>
 (fun q=>cond v3
 (K .ret (upd q 4 (.int .i64 4611686018427387904)) h3)
 (ax5 G K q h3))
 (upd (u10 r 4 (.int .i64 0) 5 (r 0) 6 v0 0 v0 7 (r 1) 8 v1 1 v1 9 v0 10 v1 11 v2) 12 v3)
theorem enter79:Ent 16 79 [.tmp 4] S79:=ent_ (m:=md79) (c:=(Tryz.f79.body.getD .skip)) (fun _ _ _ _=>by kernel_rfl) Tryz.func79 rfl rfl rfl
def md128:Nat->Hint
 |_=>mh false [] [] [] false
def Y3 (G:Hp) (K:EK) (r:Rg) (h:Hp):Prop:=
 K .ret (u2 r 7 (r 0) 2 (r 0)) h
def Y4:Prop:=
 o_ G (binOp .gtr 3 (r 0) (.int .i64 4611686018427387904)) h fun v1 h1=>
 cond v1
 (K .ret (u3 r 5 (r 0) 6 v1 2 (.int .i64 4611686018427387904)) h1)
 (Y3 G K (u2 r 5 (r 0) 6 v1) h1)
def S128:Prop:=
 o_ G (binOp .lss 3 (r 0) (.int .i64 0)) h fun v0 h0=>
 cond v0
 (K .ret (u4 r 2 (.int .i64 0) 3 (r 0) 4 v0 2 (.int .i64 0)) h0)
 (Y4 G K (u3 r 2 (.int .i64 0) 3 (r 0) 4 v0) h0)
theorem ar9:Ent 8 128 [.tmp 2] S128:=ent_ (m:=md128) (c:=(Tryz.f128.body.getD .skip)) (fun _ _ _ _=>by kernel_rfl) Tryz.func128 rfl rfl rfl
end
end Go.Proofs.YtfflipnhffknnaaGreatDoor
end
section
namespace Go.Proofs.YtfflipnhffknnaaGreatDoor.Rv
open Go Go.HL Go.Proofs.Resv
def wv:=jq bC (jq (jq (jq (jq @Bool.true_and @and_true) (jq @bd188_0 @rq)) (jq (jq @kg @cf128) (jq @cf137 (jq @fa188_0 @Gz)))) (jq (jq (jq @Gy @Gw) (jq @ld3 @ld98)) (jq (jq @ld99 @ln98) (jq @ln99 (jq @ld @true_and)))))
theorem Lx {G h:Hp} {a:Int}:al P_ G 128 #[a] h (fun u h'=>u = .int .i64 (cutI a)/\h'=h):=by
 refine ar9 (by simp) ?_
 unfold S128
 simp only [wv]
 refine bv (fun h1=>?_) (fun h1=>?_)
 . try simp (disch:=first|decide|omega) only [wv,Nat.reduceAdd,Nat.reduceMul]
   rw [show cutI a=0 by unfold cutI;simp only [FV];omega]
 . unfold Y4
   simp (disch:=decide) only [wv]
   refine bv (fun h2=>?_) (fun h2=>?_)
   . try simp (disch:=first|decide|omega) only [wv,Nat.reduceAdd,Nat.reduceMul]
     rw [show cutI a=4611686018427387904 by unfold cutI;simp only [FV];omega]
   . unfold Y3
     simp (disch:=decide) only [wv]
     rw [show cutI a=a by unfold cutI;simp only [FV];omega]
theorem Zz {G h:Hp} {a b:Int}:al P_ G 79 #[a,b] h (fun u h'=>u = .int .i64 (sumI a b)/\h'=h):=by
 refine enter79 (by simp) ?_
 unfold S79
 simp only [wv]
 refine (Lx (a:=a)).mono ?_
 rintro _ h ⟨rfl,rfl⟩
 refine (Lx (a:=b)).mono ?_
 rintro _ h ⟨rfl,rfl⟩
 obtain ⟨a0,a1⟩:=G2 (a:=a)
 obtain ⟨b0,b1⟩:=G2 (a:=b)
 simp only [FV]at a1 b1
 simp (disch:=first|decide|omega) only [wv]
 refine bv (fun h1=>?_) (fun h1=>?_)
 . try simp (disch:=first|decide|omega) only [wv,Nat.reduceAdd,Nat.reduceMul]
   rw [show sumI a b=4611686018427387904 by unfold sumI;simp only [FV];split<;>omega]
 . unfold ax5
   simp (disch:=first|decide|omega) only [wv]
   rw [show sumI a b=cutI a+cutI b by unfold sumI;simp only [FV];rw [if_neg (by omega)]]
end Go.Proofs.YtfflipnhffknnaaGreatDoor.Rv
end
section
namespace Go.Proofs.YtfflipnhffknnaaGreatDoor
open Go Go.HL Go.Proofs.Resv Go.Proofs.Srch
def dc:=jq bC (jq (jq (jq (jq @Bool.and_true (jq @al48 @Dq)) (jq (jq @av7 @bne_self_eq_false.{0}) (jq @cf30 @cf37))) (jq (jq (jq @cf45 @cf46) (jq @cf78 @cf79)) (jq (jq @Xz @Pq) (jq @Pp @De)))) (jq (jq (jq @Xh (jq @I1 @Po)) (jq (jq @ld26 @zi) (jq @ld3 @ld30))) (jq (jq (jq @qw @ld3p) (jq @ld48 @Sj)) (jq (jq @ln40 @ne30p) (jq @ne_eq.{1} @Hn)))))
abbrev Bs (m:Move):Obj := .cells #[m.k,m.d,m.n,m.f.x,m.f.y,.bool m.f.d,m.t.x,m.t.y,.bool m.t.d,m.a,m.e] 48 (0,0)
theorem L0 {p q:Pose}:(!(p.x==q.x&&p.y==q.y&&p.d==q.d))=decide (p≠q):=by rw [pi,decide_not]
theorem Ru {G h:Hp} {v mv:Value} {C:Conf} {p:Pose} {M:List Move} (hv:CV G h v C) (mk:cj C) (hL:C.bl.length<=100000000000000) (kb:KB C.un C.ac C.sp) (sm:Sees ff G h mv M) (hb:∀m∈M,MB m) (hml:M.length<=1000000000):
   al P_ G 36 #[v,ja p,mv] h (fun u h'=>u = .bool (fg C p 0 M)/\h'=h):=by
 obtain ⟨ab,cb,ap,cp,ar,cr,az,cs,rfl,ca⟩:=hv
 obtain ⟨sa,sc,rfl,_⟩:=id sm
 refine al.assume fun d=>quietly (enter36 (by simp) ?_)
 unfold S36
 simp only [dc]
 intro xc hxc gxc
 have s1:=(HL.Sep.one (h:=h)).grow (o:=zu C ab cb ap cp ar cr az cs) hxc
 generalize e1:Hp.set h xc _=h1 at*
 obtain ⟨l1,d1,q1⟩:=boxed e1 hxc d gxc
 intro xf hxf gxf
 have s2:=s1.new (o:=fh p) hxf
 generalize e2:Hp.set h1 xf _=h2 at*
 obtain ⟨l2,d2,q2⟩:=boxed e2 hxf d1 gxf
 generalize hKK:retK P_ G _ _=KK
 refine di (fun m r h'=>∃(i:Nat) (pz:Pose) (tz:Int),m=M.length-i/\i<=M.length/\r 2 = .slice sa M.length sc/\r 3 = .pointer (some ⟨xc,0,none⟩)/\r 4 = .pointer (some ⟨xf,0,none⟩)/\r 7 = .int .i64 tz/\r 8 = .int .i64 i/\0<=tz/\HL.Sep [noHp.set xf (fh pz),h1] h'/\Dis G h'/\fg C pz tz (M.drop i)=fg C p 0 M) ?_ (m:=M.length)
   ⟨0,p,0,rfl,Nat.zero_le _,by simp (disch:=decide) only [dc],by simp (disch:=decide) only [dc],by simp (disch:=decide) only [dc],by simp (disch:=decide) only [dc],by simp only [dc]<;>rfl,Int.le_refl _,s2,d2,by simp⟩
 clear s2 d2
 rintro m r h3 ⟨i,pz,tz,rfl,hi,r2,r3,r4,r7,r8,htz,s,d3,hgo⟩ X hX
 have l3:h1.le h3:=s.in 1 rfl
 unfold aA7
 simp only [dc,r2,r8]
 refine bv (fun hlt=>?_) (fun hge=>?_)
 rotate_left
 . obtain rfl:i=M.length:=by omega
   rw [List.drop_length]at hgo
   try simp (disch:=first|decide|omega) only [dc,Nat.reduceAdd,Nat.reduceMul]
   unfold aA8
   rw [<- hKK]
   try simp only [dc]
   exact ⟨by rw [<- hgo];rfl,l1.trans l3⟩
 obtain ⟨z,hz⟩:∃z,M[i]?=some z:=⟨_,List.getElem?_eq_getElem (by omega)⟩
 have zb:=hb z (List.mem_of_getElem? hz)
 have hdrop:M.drop i=z::M.drop (i+1):=by
   rw [List.drop_eq_getElem_cons (by omega)]
   congr 1
   exact Option.some.inj ((List.getElem?_eq_getElem (by omega)).symm.trans hz)
 rw [hdrop,me]at hgo
 rw [ai6 mk htz]at hgo
 obtain ⟨b,o,rfl,y0,y1,y2,y3,y4,y5,y6,y7,y8,y9,y10⟩:=Sees.mvx (sm.up (l1.trans l3) d3) hz
 unfold N4
 simp -implicitDefEqProofs (maxSteps:=2000000) (disch:=first|decide|with_reducible exact Nat.ne_of_beq_eq_false rfl|exact aq|exact ao|omega|rfl|(simp;done)|fail) only [dc,r2,r8,r3,r4,ix40 (Int.natCast_nonneg i) hlt,y0,y1,y2,y3,y4,y5,y6,y7,y8,y9,y10]
 intro x hx gx
 have s4:=s.past (o:=Bs z) hx
 try simp (disch:=first|decide|omega) only [dc,Nat.reduceAdd,Nat.reduceMul]
 generalize e4:Hp.set h3 x _=h4 at*
 obtain ⟨l4,d4,b4⟩:=boxed e4 hx d3 gx
 have cx:∀k,af G h4 ⟨x,k,none⟩=_:=fun k=>aj (ai b4)
 have cf:∀k,af G h4 ⟨xf,k,none⟩=_:=fun k=>aj (ai (s4.at 0 rfl ag))
 have cc:∀k,af G h4 ⟨xc,k,none⟩=_:=fun k=>aj (ai (s4.in 1 rfl _ _ q1))
 have lh4:h.le h4:=l1.trans (s4.in 1 rfl)
 have no:(fg C p 0 M=false)->∀r':Rg,r' 6 = .bool false->KK .ret r' h4:=fun hf r' e6=>by
   rw [<- hKK]
   try simp only [dc,e6]
   exact ⟨by rw [hf],lh4⟩
 try simp only [dc,cx,cc]
 refine (R2 (m:=z) (ca.up lh4 d4).cv hL).mono ?_
 rintro _ h4 ⟨rfl,rfl⟩
 refine ⟨Hp.le.refl _,?_⟩
 cases hl:df C z with
 |false=>
   try simp only [dc,fe]
   exact no (by rw [<- hgo,hl];rfl) _ (by simp only [dc])
 |true=>
 rw [hl,Bool.true_and]at hgo
 try simp only [dc,Nat.reduceAdd,cx,cf,L0]
 by_cases g1:z.f=pz
 rotate_left
 . try simp only [dc,show decide (z.f≠pz)=true from decide_eq_true g1,fe]
   exact no (by rw [<- hgo,decide_eq_false g1];rfl) _ (by simp only [dc])
 rw [decide_eq_true g1,Bool.true_and]at hgo
 try simp only [dc,show decide (z.f≠pz)=false from decide_eq_false (fun h=>h g1),cx,r7]
 by_cases g2:z.a<tz
 . try simp only [dc,gi g2,fe]
   exact no (by rw [<- hgo,decide_eq_false (by omega)];rfl) _ (by simp only [dc])
 rw [decide_eq_true (show tz<=z.a by omega),Bool.true_and]at hgo
 try simp only [dc,ig g2,cx]
 by_cases g3:z.a>=4611686018427387904
 . try simp only [dc,gi g3,fe]
   exact no (by rw [<- hgo,decide_eq_false (by unfold FV;omega)];rfl) _ (by simp only [dc])
 rw [decide_eq_true (show z.a<FV by unfold FV;omega),Bool.true_and]at hgo
 try simp only [dc,ig g3,cx]
 by_cases g4:z.e>=4611686018427387904
 . try simp only [dc,gi g4,fe]
   exact no (by rw [<- hgo,decide_eq_false (by unfold FV;omega)];rfl) _ (by simp only [dc])
 rw [decide_eq_true (show z.e<FV by unfold FV;omega),Bool.true_and]at hgo
 try simp only [dc,ig g4,cx,cc]
 refine (R3 (m:=z) (ca.up lh4 d4).cv kb zb.n).mono ?_
 rintro _ h4 ⟨rfl,rfl⟩
 refine ⟨Hp.le.refl _,?_⟩
 try simp (disch:=first|decide|omega) only [dc,Nat.reduceAdd,Nat.reduceMul]
 refine (Rv.Zz (a:=z.a) (b:=dp C z)).mono ?_
 rintro _ h4 ⟨rfl,rfl⟩
 refine ⟨Hp.le.refl _,?_⟩
 by_cases g5:z.e=sumI z.a (dp C z)
 rotate_left
 . try simp only [dc,show (z.e != sumI z.a (dp C z))=true by simp [g5]]
   exact no (by rw [<- hgo,decide_eq_false g5];rfl) _ (by simp only [dc])
 rw [decide_eq_true g5,Bool.true_and]at hgo
 try simp only [dc,show (z.e != sumI z.a (dp C z))=false by rw [<- g5];exact bne_self_eq_false _]
 obtain ⟨ll1,ll2⟩:=zg mk hl
 have he0:0<=z.e:=by rw [g5];unfold sumI;split<;>unfold cutI at * <;> simp only [FV]at * <;> omega
 unfold N2
 try simp (disch:=decide) only [dc,Nat.reduceAdd,r4,cx]
 have bf:=s4.at 0 rfl ag
 rw [vm (p:=z.t) bf]
 have s5:=s4.put (o:=fh z.t) ag
 rw [set_set]at s5
 have d5:=d4.set (o:=fh z.t) (d4 _ _ bf)
 have hxf4:x≠xf:=fun e=>by
   rw [e]at hx
   have:=s.at 0 rfl ag
   rw [this]at hx;cases hx
 have cx5:∀k,af G (h4.set xf (fh z.t)) ⟨x,k,none⟩=_:=fun k=>aj (ai (by rw [au hxf4];exact b4))
 try simp only [dc,cx5]
 unfold N3
 try simp (disch:=first|decide|omega) only [dc,r8]
 exact hX (M.length-(i+1)) _ _ (by omega) ⟨i+1,z.t,z.e,rfl,by omega,by simp (disch:=decide) only [dc,r2],by simp (disch:=decide) only [dc,r3],by simp (disch:=decide) only [dc,r4],by simp (disch:=decide) only [dc],by simp only [dc]<;>rfl,by omega,s5,d5,hgo⟩
theorem Hv {G h a q:Hp} {v mv:Value} {C:Conf} {kp:Nat} {p:Pose} {M:List Move} (hv:CV G q v C) (st:iq G) (hro:∀p∈C.ro,PB p) (hsl:C.st.length<=100000000000000) (mk:cj C) (kpk:KP a kp C.un C.ac C.sp) (sm:Sees ff G q mv M) (hb:∀m∈M,MB m) (hml:M.length<=1000000000) (s0:HL.Sep [a,q] h):
   al P_ G 35 #[v,.pointer (some ⟨kp,0,none⟩),ja p,mv] h (fun u h'=>u = .bool (fg C p 0 M)/\∃a',KP a' kp C.un C.ac C.sp/\HL.Sep [a',q] h'/\Dis G h'):=by
 obtain ⟨ab,cb,ap,cp,ar,cr,az,cs,rfl,ca⟩:=hv
 obtain ⟨sa,sc,rfl,_⟩:=id sm
 refine al.assume fun d=>enter35 (by simp) ?_
 unfold S35
 simp only [dc]
 intro xc hxc gxc
 have s1:=s0.swap.grow (o:=zu C ab cb ap cp ar cr az cs) hxc
 have lq1:q.le (q.set xc (zu C ab cb ap cp ar cr az cs)):=b8 ((s0.in 1 rfl).none hxc)
 have q1:(q.set xc (zu C ab cb ap cp ar cr az cs)) xc=some (zu C ab cb ap cp ar cr az cs):=ag
 generalize e1:Hp.set h xc _=h1 at*
 obtain ⟨l1,d1,_⟩:=boxed e1 hxc d gxc
 generalize q.set xc (zu C ab cb ap cp ar cr az cs)=B at*
 intro xf hxf gxf
 have s2:=s1.new (o:=fh p) hxf
 generalize e2:Hp.set h1 xf _=h2 at*
 obtain ⟨l2,d2,_⟩:=boxed e2 hxf d1 gxf
 have cc2:∀k,af G h2 ⟨xc,k,none⟩=_:=fun k=>aj (ai (s2.in 1 rfl _ _ q1))
 have caq:∀{h':Hp},B.le h'->Dis G h'->CA G h' C ab cb ap cp ar cr az cs:=fun l d=>ca.up (lq1.trans l) d
 try simp only [dc,cc2]
 refine (pu (caq (s2.in 1 rfl) d2).cv st hro hsl).mono ?_
 rintro _ h3 ⟨l3,d3,⟨_,ga,gb,kb,rfl,go,s3⟩|⟨hno,rfl⟩⟩
 rotate_left
 . exact absurd mk hno
 have s4:=s3.swap.open s2
 obtain ⟨Q,sQ,tQ⟩:=HL.Sep.pack [B,ga] (R:=[noHp.set xf (fh p),a]) (s4.sel [1,3,0,2] (by decide) rfl)
 have dQ:Dis G Q:=fun y o hy=>d3 y o (sQ.hd _ _ hy)
 have lBQ:B.le Q:=tQ.in 0 rfl
 have gsQ:=go.gs (G:=G) |>.up (tQ.in 1 rfl) dQ
 try simp only [dc]
 unfold aB1
 generalize hKK:retK P_ G _ _=KK
 try simp (disch:=decide) only [dc]
 refine di (fun m r h'=>∃(i:Nat) (pz:Pose) (tz:Int) (a':Hp),m=M.length-i/\i<=M.length/\r 1 = .pointer (some ⟨kp,0,none⟩)/\r 4 = .pointer (some ⟨xc,0,none⟩)/\r 6 = .pointer (some ⟨xf,0,none⟩)/\r 9 = .pointer (some ⟨gb,0,none⟩)/\r 11 = .int .i64 tz/\r 25 = .slice sa M.length sc/\r 26 = .int .i64 M.length/\r 27 = .int .i64 i/\0<=tz/\KP a' kp C.un C.ac C.sp/\HL.Sep [noHp.set xf (fh pz),a',Q] h'/\Dis G h'/\fg C pz tz (M.drop i)=fg C p 0 M) ?_ (m:=M.length)
   ⟨0,p,0,a,rfl,Nat.zero_le _,by simp (disch:=decide) only [dc],by simp (disch:=decide) only [dc],by simp (disch:=decide) only [dc],by simp (disch:=decide) only [dc],by simp (disch:=decide) only [dc],by simp (disch:=decide) only [dc],by simp (disch:=decide) only [dc]<;>rfl,by simp only [dc]<;>rfl,Int.le_refl _,kpk,sQ.sel [1,2,0] (by decide) rfl,d3,by simp⟩
 clear s4 s3 s2 s1
 rintro m r h4 ⟨i,pz,tz,a1,rfl,hi,r1,r4,r6,r9,r11,r25,r26,r27,htz,kpk1,s,d4,hgo⟩ X hX
 have lQ4:Q.le h4:=s.in 2 rfl
 unfold aA9
 simp only [dc,r26,r27]
 refine bv (fun hlt=>?_) (fun hge=>?_)
 rotate_left
 . obtain rfl:i=M.length:=by omega
   rw [List.drop_length]at hgo
   try simp (disch:=first|decide|omega) only [dc,Nat.reduceAdd,Nat.reduceMul]
   unfold aB0
   rw [<- hKK]
   try simp only [dc]
   exact ⟨by rw [<- hgo];rfl,a1,kpk1,((s.sel (L':=[Q,a1]) [2,1] (by decide) rfl).cut (lq1.trans lBQ)).swap,d4⟩
 obtain ⟨z,hz⟩:∃z,M[i]?=some z:=⟨_,List.getElem?_eq_getElem (by omega)⟩
 have zb:=hb z (List.mem_of_getElem? hz)
 have hdrop:M.drop i=z::M.drop (i+1):=by
   rw [List.drop_eq_getElem_cons (by omega)]
   congr 1
   exact Option.some.inj ((List.getElem?_eq_getElem (by omega)).symm.trans hz)
 rw [hdrop,me]at hgo
 obtain ⟨b,o,rfl,y0,y1,y2,y3,y4,y5,y6,y7,y8,y9,y10⟩:=Sees.mvx (sm.up ((lq1.trans lBQ).trans lQ4) d4) hz
 unfold N7
 try simp -implicitDefEqProofs (maxSteps:=2000000) (disch:=first|decide|with_reducible exact Nat.ne_of_beq_eq_false rfl|exact aq|exact ao|omega|rfl|(simp;done)|fail) only [dc,Nat.reduceAdd,r25,r27,r6,ix40 (Int.natCast_nonneg i) hlt,y0,y1,y2,y3,y4,y5,y6,y7,y8,y9,y10]
 intro x hx gx
 have s5:=s.new (o:=Bs z) hx
 have d5:=d4.set (o:=Bs z) gx
 try simp (disch:=first|decide|omega) only [dc,Nat.reduceAdd,Nat.reduceMul]
 generalize Hp.set h4 x _=h5 at*
 obtain ⟨U,sU,tU⟩:=HL.Sep.pack [noHp.set x (Bs z),noHp.set xf (fh pz),Q] (R:=[a1]) (s5.sel [0,1,3,2] (by decide) rfl)
 have dU:Dis G U:=fun y o hy=>d5 y o (sU.hd _ _ hy)
 have lQU:Q.le U:=tU.in 2 rfl
 refine ⟨U,sU.in 0 rfl,?_⟩
 have cx:∀k,af G U ⟨x,k,none⟩=_:=fun k=>aj (ai (tU.at 0 rfl ag))
 have cf:∀k,af G U ⟨xf,k,none⟩=_:=fun k=>aj (ai (tU.at 1 rfl ag))
 have cc:∀k,af G U ⟨xc,k,none⟩=_:=fun k=>aj (ai (lQU _ _ (lBQ _ _ q1)))
 have no:∀{a' h':Hp},(fg C p 0 M=false)->KP a' kp C.un C.ac C.sp->HL.Sep [a',U] h'->Dis G h'->∀r':Rg,r' 8 = .bool false->KK .ret r' h':=fun hf k' s' d' r' e8=>by
   rw [<- hKK]
   try simp only [dc,e8]
   exact ⟨by rw [hf],_,k',(s'.swap.cut ((lq1.trans lBQ).trans lQU)).swap,d'⟩
 have noc:∀{A B:Bool},(A&&B)=fg C p 0 M->A=false->fg C p 0 M=false:=fun e h=>by rw [<- e,h];rfl
 try simp only [dc,r6,cx,cf,L0]
 by_cases g1:z.f=pz
 rotate_left
 . try simp only [dc,show decide (z.f≠pz)=true from decide_eq_true g1,fe]
   exact no (noc hgo (by unfold oneR;rw [decide_eq_false g1];rfl)) kpk1 sU.swap d5 _ (by simp only [dc])
 try simp only [dc,show decide (z.f≠pz)=false from decide_eq_false (fun h=>h g1),cx,r11]
 by_cases g2:z.a<tz
 . try simp only [dc,gi g2,fe]
   exact no (noc hgo (by unfold oneR;rw [decide_eq_false (show ¬tz<=z.a by omega)];simp)) kpk1 sU.swap d5 _ (by simp only [dc])
 try simp only [dc,ig g2,cx]
 by_cases g3:z.e<=z.a
 . try simp only [dc,gi g3,fe]
   exact no (noc hgo (by unfold oneR;rw [decide_eq_false (show ¬z.a<z.e by omega)];simp)) kpk1 sU.swap d5 _ (by simp only [dc])
 try simp only [dc,ig g3,cx]
 by_cases g4:z.e>=4611686018427387904
 . try simp only [dc,gi g4,fe]
   exact no (noc hgo (by unfold oneR;rw [decide_eq_false (show ¬z.e<FV by unfold FV;omega)];simp)) kpk1 sU.swap d5 _ (by simp only [dc])
 try simp only [dc,ig g4,cx,r9]
 refine (Ie (m:=z) (gsQ.up (lQU.trans (sU.in 0 rfl)) d5) st ⟨zb.n,zb.f⟩).mono ?_
 rintro _ h5 ⟨rfl,rfl⟩
 refine ⟨sU.in 0 rfl,?_⟩
 rw [Ig mk zb.f]
 cases hl:df C z with
 |false=>
   try simp only [dc,fe]
   exact no (noc hgo (by unfold oneR;rw [hl];simp)) kpk1 sU.swap d5 _ (by simp only [dc])
 |true=>
 have hw:IntKind.i64.wrap (z.e-z.a)=z.e-z.a:=kf (by omega) (by omega)
 try simp only [dc,cx,cc,r1,r4,hw]
 refine (Ij (m:=z) (caq (lBQ.trans (lQU.trans (sU.in 0 rfl))) d5).cv kpk1 sU.swap zb.n).mono ?_
 rintro _ h6 ⟨rfl,a6,kpk6,s6,d6⟩
 refine ⟨s6.in 1 rfl,?_⟩
 by_cases g5:z.e-z.a=dp C z
 rotate_left
 . try simp only [dc,show (z.e-z.a != dp C z)=true by simp [g5]]
   exact no (noc hgo (by unfold oneR;rw [decide_eq_false (show ¬z.e=z.a+dp C z by omega)];simp)) kpk6 s6 d6 _ (by simp only [dc])
 try simp only [dc,show (z.e-z.a != dp C z)=false by rw [<- g5];exact bne_self_eq_false _]
 have h1R:oneR C pz tz z=true:=nl.2 ⟨g1,by omega,by omega,by unfold FV;omega,hl,by omega⟩
 rw [h1R,Bool.true_and]at hgo
 unfold N5
 have s7:=s6.swap.open tU
 refine ⟨noHp.set x (Bs z),s7.in 0 rfl,?_⟩
 have cx7:∀k,af G (noHp.set x (Bs z)) ⟨x,k,none⟩=_:=fun k=>aj (ai ag)
 try simp (disch:=decide) only [dc,Nat.reduceAdd,cx7,r6]
 have bf:=s7.at 1 rfl ag
 rw [vm (p:=z.t) bf]
 have s8:=(s7.sel (L':=[noHp.set xf (fh pz),noHp.set x (Bs z),Q,a6]) [1,0,2,3] (by decide) rfl).put (o:=fh z.t) ag
 rw [set_set]at s8
 have d8:=d6.set (o:=fh z.t) (d6 _ _ bf)
 refine ⟨s8.in 1 rfl,?_⟩
 try simp (disch:=first|decide|omega) only [dc,Nat.reduceAdd,Nat.reduceMul]
 unfold N6
 try simp (disch:=first|decide|omega) only [dc,r27]
 exact hX (M.length-(i+1)) _ _ (by omega) ⟨i+1,z.t,z.e,a6,rfl,by omega,by simp (disch:=decide) only [dc,r1],by simp (disch:=decide) only [dc,r4],by simp (disch:=decide) only [dc,r6],by simp (disch:=decide) only [dc,r9],by simp (disch:=decide) only [dc],by simp (disch:=decide) only [dc,r25],by simp (disch:=decide) only [dc,r26],by simp only [dc]<;>rfl,by omega,kpk6,s8.sel [0,3,2] (by decide) rfl,d8,hgo⟩
def kv:=jq bC (jq (jq (jq (jq (jq @al119 @al48) (jq @aw0 @bd45_0)) (jq (jq @av9 @Gm) (jq @kg @T8))) (jq (jq (jq @vf @cf75) (jq @cf76 @cf77)) (jq (jq @fa119_0 @Tp) (jq @am2 @I1)))) (jq (jq (jq (jq @ld119 @ld28) (jq @ld3 @ld30)) (jq (jq @qw @ld35) (jq @ld35p @ld3p))) (jq (jq (jq @ld40 @ld48) (jq @ln40 @ln59)) (jq (jq @jy @qt) (jq @ag2 @Hn)))))
theorem Sees.stp {G h:Hp} {sa:Option Addr} {cap n:Nat} {L:List Stp} (s:Sees stpC G h (.slice sa n cap) L) {i:Nat} {x:Stp} (hx:L[i]?=some x):
   ∃b o,sa=some ⟨b,o,none⟩/\af G h ⟨b,o+i*3,none⟩=some (.int .i64 x.x)/\af G h ⟨b,o+i*3+1,none⟩=some (.int .i64 x.y)/\af G h ⟨b,o+i*3+2,none⟩=some (.int .i64 x.k):=by
 obtain ⟨s',c',e,_,hc|⟨b,o,rfl,hc⟩⟩:=s
 . rw [hc]at hx;cases hx
 . cases e
   exact ⟨b,o,rfl,hc i x hx 0 (by decide),hc i x hx 1 (by decide),hc i x hx 2 (by decide)⟩
def Q9 (G h:Hp) (W:Res Move) (u:Value) (h':Hp):Prop:=∃ip vs,u = .tuple #[vs,(outE W)]/\Slc ff 48 ip vs (outL W)/\(outL W).length<=4096/\HL.Sep [ip,h] h'/\Dis G h'
theorem RdW.up {G B Q:Hp} {q:RdQ} (w:RdW G q B) (l:B.le Q) (d:Dis G Q):RdW G q Q:=by
 obtain ⟨⟨ab,cb,ap,cp',ar,cr,az,cs,ca,bc⟩,bt,br,tv,mk,hro,fit,hbu⟩:=w
 exact ⟨⟨ab,cb,ap,cp',ar,cr,az,cs,ca.up l d,l _ _ bc⟩,l _ _ bt,l _ _ br,tv.up l d,mk,hro,fit,hbu⟩
theorem Vk {C:Conf} (mk:cj C) {T:Tb} (gt:kc T) {rb t:Int} {p gp:Pose} {any:Bool} {w:List Move} (h:jh C (some T) rb p t gp any = .ok w):PB (endP p w):=
 Pl mk (Mz mk gt h).2.2.choose_spec.2.2.2.2.1
theorem Ht {G h B h0:Hp} {q:RdQ} {p:Pose} {t e:Int} {l:List Move} (s:RdSt G q B p t e l h) (hl:l.length<=1000000) (le0:h0.le B) {r:Rg} {R:VK} (g18:r 18 = .pointer (some ⟨q.xl,0,none⟩)) (g19:r 19 = .pointer (some ⟨q.xe,0,none⟩))
   (H:∀u h',Q9 G h0 (if e≠0 then .no e else if 4096<l.length then .no 2 else .ok l) u h'->R u h'):
   Qh G (retK P_ G [.tmp 14,.tmp 15] R) r h:=by
 obtain ⟨vl,ip,sl,s,d⟩:=s
 obtain ⟨la,lc,rfl,_⟩:=id (sl.len (by decide))
 have ce:∀k,af G h ⟨q.xe,k,none⟩=_:=fun k=>aj (ai (s.at 2 rfl ag))
 have cl:∀k,af G h ⟨q.xl,k,none⟩=_:=fun k=>aj (ai (s.at 3 rfl ag))
 have sN:HL.Sep [noHp,h0] h:=((s.sel (L':=[B]) [5] (by decide) rfl).cut le0).none
 unfold Qh
 try simp (disch:=decide) only [kv,g18,g19,ce]
 by_cases he:e=0
 . subst he
   try simp only [kv,show ((0:Int) != 0)=false from rfl,cl]
   by_cases hb:(l.length:Int)>4096
   . try simp only [kv,gi hb]
     refine H _ _ ?_
     rw [if_neg (by simp),if_pos (by omega)]
     exact ⟨noHp,_,rfl,Slc.nil,by simp [outL],sN,d⟩
   . try simp only [kv,ig hb]
     unfold aB3
     try simp (disch:=decide) only [kv,g18,cl]
     refine H _ _ ?_
     rw [if_neg (by simp),if_neg (by omega)]
     exact ⟨ip,_,rfl,sl,by show l.length<=_;omega,((s.sel (L':=[B,ip]) [5,4] (by decide) rfl).cut le0).swap,d⟩
 . try simp only [kv,show (e != 0)=true by simp [he]]
   refine H _ _ ?_
   rw [if_pos he]
   exact ⟨noHp,_,rfl,Slc.nil,by simp [outL],sN,d⟩
theorem ag6 {G h B h0:Hp} {q:RdQ} (st:iq G) (w:RdW G q B) {p hm:Pose} {t:Int} {S:List Stp} {sv:Value} (pp:PB p) (ph:PB hm) (ss:Sees stpC G B sv S) (hS:∀s∈S,StpB s) (hl:S.length<=7)
   {xh:Nat} (bh:B xh=some (fh hm)) (le0:h0.le B) {r:Rg} {R:VK}
   (g5:r 5=sv) (g7:r 7 = .pointer (some ⟨q.xc,0,none⟩)) (g10:r 10 = .pointer (some ⟨q.xf,0,none⟩)) (g11:r 11 = .pointer (some ⟨q.xa,0,none⟩)) (g13:r 13 = .pointer (some ⟨xh,0,none⟩)) (g18:r 18 = .pointer (some ⟨q.xl,0,none⟩)) (g19:r 19 = .pointer (some ⟨q.xe,0,none⟩))
   (g20:r 20 = .func (.func 75) #[] #[.pointer (some ⟨q.xc,0,none⟩),.pointer (some ⟨q.xt,0,none⟩),.pointer (some ⟨q.xr,0,none⟩),.pointer (some ⟨q.xf,0,none⟩),.pointer (some ⟨q.xa,0,none⟩),.pointer (some ⟨q.xe,0,none⟩),.pointer (some ⟨q.xl,0,none⟩)]) (g21:r 21 = .int .i64 0)
   (s:RdSt G q B p t 0 [] h) (H:∀u h',Q9 G h0 (match goR q.C q.T q.rb hm S p t []with | .ok l=>if 4096<l.length then .no 2 else .ok l | .no e => .no e) u h'->R u h'):
   dl (We G) r h (bo 2 (ci (Qh G (retK P_ G [.tmp 14,.tmp 15] R)) (qg (retK P_ G [.tmp 14,.tmp 15] R)))):=by
 obtain ⟨sa,sc,rfl,_⟩:=id ss
 generalize hKK:retK P_ G [.tmp 14,.tmp 15] R=KK
 have gT:kc q.T:=by obtain ⟨_,_,_,gT,_⟩:=w.tv;exact gT
 refine di (fun m p' h'=>∃(i:Nat) (pz:Pose) (tz:Int) (l:List Move),m=S.length-i/\i<=S.length/\(∀y,1<=y->y<=20->p' y=r y)/\p' 21 = .int .i64 i/\PB pz/\l.length<=i*110001/\RdSt G q B pz tz 0 l h'/\goR q.C q.T q.rb hm (S.drop i) pz tz l=goR q.C q.T q.rb hm S p t []) ?_ (m:=S.length)
   ⟨0,p,t,[],rfl,Nat.zero_le _,fun _ _ _=>rfl,g21,pp,by simp,s,by simp⟩
 clear s
 rintro m p' h1 ⟨i,pz,tz,l,rfl,hi,hp',p21,ppz,hll,s,hgo⟩ X hX
 have p5:=(hp' 5 (by decide) (by decide)).trans g5
 have p7:=(hp' 7 (by decide) (by decide)).trans g7
 have p10:=(hp' 10 (by decide) (by decide)).trans g10
 have p11:=(hp' 11 (by decide) (by decide)).trans g11
 have p13:=(hp' 13 (by decide) (by decide)).trans g13
 have p18:=(hp' 18 (by decide) (by decide)).trans g18
 have p19:=(hp' 19 (by decide) (by decide)).trans g19
 have p20:=(hp' 20 (by decide) (by decide)).trans g20
 have hi2:i*110001<=7*110001:=Nat.mul_le_mul_right _ (by omega)
 obtain ⟨vl,ip,sl,s0,d⟩:=id s
 have lB:=s0.in 5 rfl
 unfold We
 simp only [kv,p5,p21]
 by_cases hend:i=S.length
 . subst hend
   have chh:∀k,af G h1 ⟨xh,k,none⟩=_:=fun k=>aj (ai (lB _ _ bh))
   try simp only [kv,show (((S.length:Nat):Int)==((S.length:Nat):Int))=true from beq_self_eq_true _,p13,p20,chh]
   refine (Wp (any:=false) st w ppz ph (by omega) s).mono ?_
   rw [List.drop_length,Pj]at hgo
   rintro _ h2 (⟨w',hw,ll,rfl,s2⟩|⟨e',hw,rfl,s2⟩)
   . rw [hw]at hgo
     try simp (disch:=first|decide|omega) only [kv,Nat.reduceAdd,Nat.reduceMul]
     rw [<- hKK]
     refine Ht s2 (by rw [List.length_append];omega) le0 (by simp (disch:=decide) only [kv,p18]) (by simp (disch:=decide) only [kv,p19]) fun u h' hR=>H u h' ?_
     rw [<- hgo]
     rw [if_neg (by simp)]at hR
     exact hR
   . rw [hw]at hgo
     have hne:e'≠0:=by have:=qx w.mk_ gT hw;omega
     try simp (disch:=first|decide|omega) only [kv,Nat.reduceAdd,Nat.reduceMul]
     rw [<- hKK]
     refine Ht s2 (by omega) le0 (by simp (disch:=decide) only [kv,p18]) (by simp (disch:=decide) only [kv,p19]) fun u h' hR=>H u h' ?_
     rw [<- hgo]
     rw [if_pos hne]at hR
     exact hR
 have hlt:(i:Int)<S.length:=by omega
 try simp only [kv,show ((i:Int)==((S.length:Nat):Int))=false by simp;omega]
 obtain ⟨z,hz⟩:∃z,S[i]?=some z:=⟨_,List.getElem?_eq_getElem (by omega)⟩
 have hzb:=hS z (List.mem_of_getElem? hz)
 obtain ⟨b,o,rfl,c0,c1,c2⟩:=Sees.stp (ss.up lB d) hz
 unfold N9
 try simp (disch:=first|decide|exact aq|exact ao|omega|rfl) only [kv,p5,p21,ix59 (Int.natCast_nonneg i) hlt,c0,c1,c2]
 intro x hx gx
 have sQ:=(s0.sel (L':=[B,noHp.set q.xf (fh pz),noHp.set q.xa (.cells #[tz] 3 (0,0)),noHp.set q.xe (.cells #[(0:Int)] 35 (0,0)),noHp.set q.xl (.cells #[vl] 40 (0,0)),ip]) [5,0,1,2,3,4] (by decide) rfl).grow (o := .cells #[z.x,z.y,z.k] 119 (0,0)) hx
 have lQ:B.le (B.set x (.cells #[z.x,z.y,z.k] 119 (0,0))):=b8 (lB.none hx)
 have bQ:(B.set x (.cells #[z.x,z.y,z.k] 119 (0,0))) x=some (.cells #[z.x,z.y,z.k] 119 (0,0)):=ag
 try simp (disch:=first|decide|omega) only [kv,Nat.reduceAdd,Nat.reduceMul]
 generalize e2:Hp.set h1 x _=h2 at*
 obtain ⟨l2,d2,bx2⟩:=boxed e2 hx d gx
 generalize B.set x (.cells #[z.x,z.y,z.k] 119 (0,0))=Q at*
 have dQ:Dis G Q:=fun y o hy=>d2 y o (sQ.hd _ _ hy)
 have wQ:=w.up lQ dQ
 have sQ':RdSt G q Q pz tz 0 l h2:=⟨vl,ip,sl,sQ.sel [1,2,3,4,5,0] (by decide) rfl,d2⟩
 have cx2:∀k,af G h2 ⟨x,k,none⟩=_:=fun k=>aj (ai bx2)
 try simp only [kv,cx2,p20]
 have hdrop:S.drop i=z::S.drop (i+1):=by
   rw [List.drop_eq_getElem_cons (by omega)]
   congr 1
   exact Option.some.inj ((List.getElem?_eq_getElem (by omega)).symm.trans hz)
 rw [hdrop,Ir]at hgo
 refine (Wp (gp:=⟨z.x,z.y,false⟩) (any:=true) st wQ ppz hzb (by omega) sQ').mono ?_
 rintro _ h3 (⟨w',hw,ll,rfl,s3⟩|⟨e',hw,rfl,s3⟩)
 rotate_left
 . rw [hw]at hgo
   have hne:e'≠0:=by have:=qx w.mk_ gT hw;omega
   try simp only [kv]
   rw [<- hKK]
   refine Ht s3 (by omega) (le0.trans lQ) (by simp (disch:=decide) only [kv,p18]) (by simp (disch:=decide) only [kv,p19]) fun u h' hR=>H u h' ?_
   rw [<- hgo]
   rw [if_pos hne]at hR
   exact hR
 rw [hw]at hgo
 simp only at hgo
 try simp only [kv]
 unfold N8
 obtain ⟨vl3,ip3,sl3,s3,d3⟩:=s3
 obtain ⟨la3,lc3,rfl,_⟩:=id (sl3.len (by decide))
 have ppz':=Vk w.mk_ gT hw
 generalize endP pz w'=pz' at*
 generalize endT tz w'=tz' at*
 obtain ⟨ab,cb,ap,cp',ar,cr,az,cs,ca,bc⟩:=wQ.bc
 have lQ3:=s3.in 5 rfl
 have cx3:∀k,af G h3 ⟨x,k,none⟩=_:=fun k=>aj (ai (lQ3 _ _ bQ))
 have cc3:∀k,af G h3 ⟨q.xc,k,none⟩=_:=fun k=>aj (ai (lQ3 _ _ bc))
 have cf3:∀k,af G h3 ⟨q.xf,k,none⟩=_:=fun k=>aj (ai (s3.at 0 rfl ag))
 have ca3:∀k,af G h3 ⟨q.xa,k,none⟩=_:=fun k=>aj (ai (s3.at 1 rfl ag))
 try simp (disch:=decide) only [kv,p7,p10,p11,cx3,cc3,cf3,ca3]
 refine (Rv.Rh (a:=tz') (b:=q.C.ho)).mono ?_
 rintro _ h3 ⟨rfl,rfl⟩
 refine ⟨Hp.le.refl _,?_⟩
 try simp (disch:=first|decide|exact aq|exact ao|omega|rfl) only [kv]
 intro y hy gy
 have s4:=s3.new (o := .cells #[z.k,(0:Int),(0:Int),pz'.x,pz'.y,.bool pz'.d,pz'.x,pz'.y,.bool pz'.d,tz',(sumI tz' q.C.ho)] 48 (0,0)) hy
 try simp (disch:=first|decide|omega) only [kv,Nat.reduceAdd,Nat.reduceMul]
 generalize e4:Hp.set h3 y _=h4 at*
 obtain ⟨l4,d4,by4⟩:=boxed e4 hy d3 gy
 have cl4:∀k,af G h4 ⟨q.xl,k,none⟩=_:=fun k=>aj (ai (s4.at 4 rfl ag))
 have cy4:∀k,af G h4 ⟨y,k,none⟩=_:=fun k=>aj (ai by4)
 try simp only [kv,p18,cl4,cy4]
 intro v hv gv
 have s5:=s4.new (o := .cells #[z.k,(0:Int),(0:Int),pz'.x,pz'.y,.bool pz'.d,pz'.x,pz'.y,.bool pz'.d,tz',(sumI tz' q.C.ho)] 48 (0,0)) hv
 have d5:=d4.set (o := .cells #[z.k,(0:Int),(0:Int),pz'.x,pz'.y,.bool pz'.d,pz'.x,pz'.y,.bool pz'.d,tz',(sumI tz' q.C.ho)] 48 (0,0)) gv
 generalize Hp.set h4 v _=h5 at*
 try simp (disch:=first|decide|omega) only [kv,Nat.reduceAdd,Nat.reduceMul]
 refine (Mp (M:=[rf q.C z.k pz' tz']) (s5.sel [6,0,1,2,3,4,5,7] (by decide) rfl) sl3 (fun _=>Sees.row (c:=ff) (L:=[rf q.C z.k pz' tz']) (s5.at 0 rfl ag) rfl (Nat.le_refl _)) (by rw [List.length_append];simp;omega)).mono ?_
 rintro v6 h6 ⟨ip6,sl6,s6,d6⟩
 obtain ⟨la6,lc6,rfl,_⟩:=id (sl6.len (by decide))
 try simp (disch:=first|decide|omega) only [kv,Nat.reduceAdd,Nat.reduceMul,p18]
 have bl6:=s6.at 6 rfl ag
 rw [dh sz40 rfl bl6 (by simp)]
 simp only [List.set_cons_zero]
 have s7:=(s6.sel [6,0,1,2,3,4,5,7] (by decide) rfl).put (o := .cells #[.slice la6 (l++w'++[rf q.C z.k pz' tz']).length lc6] 40 (0,0)) ag
 rw [set_set]at s7
 have d7:=d6.set (o := .cells #[.slice la6 (l++w'++[rf q.C z.k pz' tz']).length lc6] 40 (0,0)) (d6 _ _ bl6)
 generalize Hp.set h6 q.xl _=h7 at*
 have cy7:∀k,af G h7 ⟨y,k,none⟩=_:=fun k=>aj (ai (s7.at 3 rfl ag))
 try simp only [kv,cy7,p11]
 have ba7:=s7.at 5 rfl ag
 rw [dh sz3 rfl ba7 (by simp)]
 simp only [List.set_cons_zero]
 have s8:=(s7.sel [5,0,1,2,3,4,6,7] (by decide) rfl).put (o := .cells #[(sumI tz' q.C.ho)] 3 (0,0)) ag
 rw [set_set]at s8
 have d8:=d7.set (o := .cells #[(sumI tz' q.C.ho)] 3 (0,0)) (d7 _ _ ba7)
 try simp (disch:=first|decide|omega) only [kv,Nat.reduceAdd,Nat.reduceMul]
 unfold Oa
 try simp (disch:=first|decide|omega) only [kv,p21]
 refine hX (S.length-(i+1)) _ _ (by omega) ⟨i+1,pz',sumI tz' q.C.ho,_,rfl,by omega,fun y h1 h2=>by simp (disch:=omega) only [av];exact hp' y h1 h2,by simp only [kv]<;>rfl,ppz',?_,⟨_,ip6,sl6,?_,d8⟩,hgo⟩
 . rw [List.length_append,List.length_append,Nat.add_mul]
   simp only [List.length_cons,List.length_nil]
   omega
 . exact ((s8.sel (is:=[7,5,0,6,1,2]) (by decide) rfl).cut lQ).sel [1,2,3,4,5,0] (by decide) rfl
end Go.Proofs.YtfflipnhffknnaaGreatDoor
end

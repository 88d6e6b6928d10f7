/- Texts of the proof, one behind the other. -/
import Derived.Test.YtfflipnhffknnaaGreatDoorAM3
import Derived.Test.YtfflipnhffknnaaGreatDoorAH4
import Derived.Test.YtfflipnhffknnaaGreatDoorAM1
import Derived.Test.YtfflipnhffknnaaGreatDoorAHZ
set_option linter.unusedSimpArgs false
set_option linter.unusedVariables false
set_option maxRecDepth 100000
set_option linter.unusedSectionVars false
set_option maxHeartbeats 8000000
set_option linter.defProp false
section
namespace Go.Proofs.YtfflipnhffknnaaGreatDoor.Rv
open Go Go.HL Go.Proofs.Resv
def fj:=jq bC (jq (jq (jq (jq @al203 @kg) (jq @ny (jq @X6 @Tn))) (jq (jq @Gz (jq @Gy @Gw)) (jq @ld203 (jq @ld3 @ld34)))) (jq (jq (jq @Xb @ld3p) (jq @ld98p (jq @ld99p @ln99p))) (jq (jq @ir (jq @my @kq)) (jq @qt (jq @sn @Uq)))))
abbrev gapA (g:Int × Int):Array Value:=#[g.1,g.2]
theorem ak4 {r:Int} {L:List Slot} {i:Nat} {s:Slot} {at_:Int} (hs:L[i]?=some s):fu r (L.drop i) at_=if s.r=r then fu r (L.drop (i+1)) at_ else if s.f>at_ then (at_,s.f)::fu r (L.drop (i+1)) s.t else fu r (L.drop (i+1)) s.t:=by
 obtain ⟨hlt,rfl⟩:=List.getElem?_eq_some_iff.1 hs
 rw [List.drop_eq_getElem_cons hlt,fu]
theorem S2 {G h:Hp} {tp:Nat} {c r:Int}:al P_ G 145 #[.pointer (some ⟨tp,0,none⟩),c,r] h (fun u h'=>∃b1 b2 b3,u = .func (.func 164) #[] #[.pointer (some ⟨b1,0,none⟩),.pointer (some ⟨b2,0,none⟩),.pointer (some ⟨b3,0,none⟩)]/\h.le h'/\Dis G h'/\h' b1=some (.cells #[.pointer (some ⟨tp,0,none⟩)] 34 (0,0))/\h' b2=some (.cells #[c] 3 (0,0))/\h' b3=some (.cells #[r] 3 (0,0))/\∀R,HL.Sep R h->HL.Sep R h'):=by
 refine al.assume fun d=>aq8 (by simp) ?_
 unfold S145
 simp only [fj]
 intro x hx gx y hy gy z hz gz
 have nxy:=je hy
 have nxz:x≠z:=fun e=>by subst e;rw [au nxy,ag]at hz;cases hz
 have nyz:=je hz
 refine ⟨x,y,z,rfl,((b8 hx).trans (b8 hy)).trans (b8 hz),((d.set gx).set gy).set gz,by rw [au nxz,au nxy,ag],by rw [au nyz,ag],ag,fun R s=>((s.past hx).past hy).past hz⟩
theorem Vg {G h a q:Hp} {y:Value} {Y Z:List (Int × Int)->Hp->Prop} {cc:List (Int × Int)->Bool} {Lt:List (Int × Int)} {b1 b2 b3 tp:Nat} {T:Tb} {c r:Int}
   (yl:HL.Yl P_ gapA G y Y Z cc) (ya:Y Lt a) (s:HL.Sep [a,q] h) (h1:q b1=some (.cells #[.pointer (some ⟨tp,0,none⟩)] 34 (0,0))) (h2:q b2=some (.cells #[c] 3 (0,0))) (h3:q b3=some (.cells #[r] 3 (0,0))) (ts:TSee G q tp T)
   (fw:∀L∈T,L.length<=50000):
   al P_ G 164 #[y,.pointer (some ⟨b1,0,none⟩),.pointer (some ⟨b2,0,none⟩),.pointer (some ⟨b3,0,none⟩)] h (fun _ h'=>Bh G q Y Z (HL.feed cc Lt (if inT T.length c=true then F0 (rowT T c) r else [])) h'):=by
 refine al.assume fun d=>Tr (by simp) ?_
 unfold S164
 generalize hTT:HL.feed cc Lt _=TT
 have c1:∀{h':Hp},q.le h'->∀j,af G h' ⟨b1,j,none⟩=_:=fun l j=>aj (ai (l _ _ h1))
 have c2:∀{h':Hp},q.le h'->∀j,af G h' ⟨b2,j,none⟩=_:=fun l j=>aj (ai (l _ _ h2))
 have c3:∀{h':Hp},q.le h'->∀j,af G h' ⟨b3,j,none⟩=_:=fun l j=>aj (ai (l _ _ h3))
 have lq:=s.in 1 rfl
 simp only [fj,c1 lq,c2 lq]
 refine (Sw (c:=c) (ts.up lq d)).mono ?_
 rintro _ h ⟨rfl,rfl⟩
 rw [Xg]
 cases hc:inT T.length c with
 |false=>
   rw [hc,if_neg (by decide)]at hTT
   try simp only [fj]
   exact Bh.go s d ya hTT
 |true=>
 obtain ⟨k0,k1⟩:=Da.1 hc
 have hL:=yo k0 k1
 rw [hc,if_pos rfl]at hTT
 generalize hLL:rowT T c=L at*
 obtain ⟨rb,e1,e2⟩:=ts
 obtain ⟨sa,cap,e3,e4⟩:=e2 _ _ hL
 have fL:=fw L (List.mem_of_getElem? hL)
 try simp only [fj]
 unfold Qs
 simp (disch:=decide) only [fj,c1 lq,c2 lq,c3 lq,ng lq d e1,ix98p k0 k1,Nat.mul_one,ng lq d e3]
 generalize hKK:retK P_ G _ _=KK
 refine di (fun m p h3=>∃(i:Nat) (a:Hp) (Lt:List (Int × Int)) (at_:Int),m=L.length-i/\i<=L.length/\p 0=y/\p 1 = .pointer (some ⟨b1,0,none⟩)/\p 2 = .pointer (some ⟨b2,0,none⟩)/\p 3 = .pointer (some ⟨b3,0,none⟩)/\p 5 = .int .i64 at_/\p 18 = .slice sa L.length cap/\p 19 = .int .i64 L.length/\p 20 = .int .i64 i/\
     Y Lt a/\HL.Sep [a,q] h3/\Dis G h3/\HL.feed cc Lt (fu r (L.drop i) at_)=TT) ?_
   (m:=L.length) ⟨0,a,Lt,0,rfl,Nat.zero_le _,by simp (disch:=decide) only [fj],by simp (disch:=decide) only [fj],by simp (disch:=decide) only [fj],by simp (disch:=decide) only [fj],by simp (disch:=decide) only [fj],by simp (disch:=decide) only [fj],by simp (disch:=decide) only [fj],by simp only [fj]<;>rfl,ya,s,d,hTT⟩
 clear ya s d lq
 clear hTT
 clear Lt a h
 rintro m p h ⟨i,a,Lt,at_,rfl,hi,p0,p1,p2,p3,p5,p18,p19,p20,ya,s,d,hTT⟩ X HX
 have lq:=s.in 1 rfl
 unfold Qp
 simp only [fj,p19,p20]
 refine bv (fun hlt=>?_) (fun hge=>?_)
 rotate_left
 . -- the last one
   obtain rfl:i=L.length:=by omega
   rw [List.drop_of_length_le (Nat.le_refl _),fu]at hTT
   try simp (disch:=first|decide|omega) only [fj,Nat.reduceAdd,Nat.reduceMul]
   unfold Qq
   simp (disch:=decide) only [fj,p5]
   refine bv (fun hl=>?_) (fun hl=>?_)
   . rw [if_pos hl]at hTT
     simp only [fj,p0]
     refine jv ?_ (yl Lt (at_,FV) a q h ya s d)
     rintro v h' ⟨a',rfl,s',d',hy⟩
     rw [<- hKK]
     try simp only [fj]
     cases hc2:cc (Lt++[(at_,FV)])with
     |true=>
       rw [hc2,if_pos rfl]at hy
       rw [HL.I0 hc2]at hTT
       exact Bh.go s' d' hy hTT
     |false=>
       rw [hc2,if_neg (by decide)]at hy
       exact Bh.no s' d' hy hc2 hTT
   . rw [if_neg hl]at hTT
     rw [<- hKK]
     try simp only [fj]
     exact Bh.go s d ya hTT
 obtain ⟨sl,hs⟩:∃sl,L[i]?=some sl:=⟨_,List.getElem?_eq_getElem (by omega)⟩
 obtain ⟨b',of,rfl,z0,z1,z2⟩:=Sees.slot (e4.up lq d) hs
 rw [ak4 hs]at hTT
 unfold B8
 simp (disch:=first|decide|exact aq|exact ao|omega|rfl) only [fj,p18,p20,ix99 (Int.natCast_nonneg i) hlt,z0,z1,z2]
 intro x hx gx
 generalize eh:Hp.set h x _=h4
 obtain ⟨l4,d4,b4⟩:=boxed eh hx d gx
 have s4:HL.Sep [a,q] h4:=by rw [<- eh];exact s.past hx
 have lq4:=s4.in 1 rfl
 have cx:∀j,af G h4 ⟨x,j,none⟩=_:=fun j=>aj (ai b4)
 have next:∀(K0:Exit->Rg->Hp->Prop) (p':Rg) (h5 a':Hp) (Lt':List (Int × Int)) (at':Int),(∀k,k<=3->p' k=p k)->p' 18=p 18->p' 19=p 19->p' 20=p 20->p' 5 = .int .i64 at'->Y Lt' a'->HL.Sep [a',q] h5->Dis G h5->HL.feed cc Lt' (fu r (L.drop (i+1)) at')=TT->
     qn G (ci X K0) p' h5:=by
   intro K0 p' h5 a' Lt' at' hk w18 w19 w20 w5 ya' s' d' hT'
   unfold qn
   simp (disch:=first|decide|omega) only [fj,w20,p20]
   exact HX (L.length-(i+1)) _ _ (by omega) ⟨i+1,a',Lt',at',rfl,by omega,by simp (disch:=decide) only [fj,hk 0 (by decide),p0],by simp (disch:=decide) only [fj,hk 1 (by decide),p1],by simp (disch:=decide) only [fj,hk 2 (by decide),p2],by simp (disch:=decide) only [fj,hk 3 (by decide),p3],by simp (disch:=decide) only [fj,w5],by simp (disch:=decide) only [fj,w18,p18],by simp (disch:=decide) only [fj,w19,p19],by simp only [fj]<;>rfl,ya',s',d',hT'⟩
 simp only [fj,cx,p3,c3 lq4]
 refine pl (fun hb=>?_) (fun hb=>?_)
 . rw [if_pos (by simpa using hb)]at hTT
   exact next _ _ _ a Lt at_ (fun k hk=>by simp (disch:=omega) only [av]) (by simp (disch:=decide) only [fj]) (by simp (disch:=decide) only [fj]) (by simp (disch:=decide) only [fj]) (by simp (disch:=decide) only [fj,p5]) ya s4 d4 hTT
 rw [if_neg (by simpa using hb)]at hTT
 unfold B7
 have k7:∀(K0:Exit->Rg->Hp->Prop) (p':Rg) (h5 a':Hp) (Lt':List (Int × Int)),(∀k,k<=3->p' k=p k)->p' 18=p 18->p' 19=p 19->p' 20=p 20->p' 7 = .pointer (some ⟨x,0,none⟩)->h5 x=some (A5 sl)->Y Lt' a'->HL.Sep [a',q] h5->Dis G h5->HL.feed cc Lt' (fu r (L.drop (i+1)) sl.t)=TT->
     tr G (ci X K0) p' h5:=by
   intro K0 p' h5 a' Lt' hk w18 w19 w20 w7 b5 ya' s' d' hT'
   have c5:∀j,af G h5 ⟨x,j,none⟩=_:=fun j=>aj (ai b5)
   unfold tr
   simp only [fj,w7,c5]
   exact next _ _ _ a' Lt' sl.t (fun k hk'=>by simp (disch:=omega) only [av];exact hk k hk') (by simp (disch:=decide) only [fj,w18]) (by simp (disch:=decide) only [fj,w19]) (by simp (disch:=decide) only [fj,w20]) (by simp only [fj]) ya' s' d' hT'
 simp (disch:=decide) only [fj,cx,p5]
 by_cases hg:sl.f>at_
 rotate_left
 . rw [if_neg hg]at hTT
   simp only [fj,show decide (sl.f>at_)=false from decide_eq_false hg,fe]
   exact k7 _ _ _ a Lt (fun k hk=>by simp (disch:=omega) only [av]) (by simp (disch:=decide) only [fj]) (by simp (disch:=decide) only [fj]) (by simp (disch:=decide) only [fj]) (by simp (disch:=decide) only [fj]) b4 ya s4 d4 hTT
 rw [if_pos hg]at hTT
 simp only [fj,show decide (sl.f>at_)=true from decide_eq_true hg,p0,p5,cx]
 have s5:HL.Sep [a,q.set x (A5 sl)] h4:=by
   rw [<- eh]
   have:=(s.swap.grow (o:=A5 sl) hx).swap
   exact this
 refine jv ?_ (yl Lt (at_,sl.f) a (q.set x (A5 sl)) h4 ya s5 d4)
 rintro v h6 ⟨a',rfl,s',d',hy⟩
 have b6:h6 x=some (A5 sl):=s'.at 1 rfl ag
 have s6:HL.Sep [a',q] h6:=(s'.swap.cut (b8 (s.drop.hd.none hx))).swap
 simp only [fj]
 cases hc2:cc (Lt++[(at_,sl.f)])with
 |true=>
   rw [hc2,if_pos rfl]at hy
   rw [HL.I0 hc2]at hTT
   simp only [fj]
   exact k7 _ _ _ a' _ (fun k hk=>by simp (disch:=omega) only [av]) (by simp (disch:=decide) only [fj]) (by simp (disch:=decide) only [fj]) (by simp (disch:=decide) only [fj]) (by simp (disch:=decide) only [fj]) b6 hy s6 d' hTT
 |false=>
   rw [hc2,if_neg (by decide)]at hy
   simp only [fj]
   rw [<- hKK]
   try simp only [fj]
   exact Bh.no s6 d' hy hc2 hTT
def bRtM:=jq bC (jq (jq (jq (jq @al203 @kg) (jq @X6 (jq @Tn @Gz))) (jq (jq @Gy @Gw) (jq @ld203 (jq @ld3 @ld34)))) (jq (jq (jq @Xb @ld3p) (jq @ld98p (jq @ld99p @ln99p))) (jq (jq @ir (jq @my @kq)) (jq @qt (jq @sn @Uq)))))
theorem Vf {G h a q:Hp} {y:Value} {Y:List (Int × Int)->Hp->Prop} {N:Nat} {b1 b2 b3 tp:Nat} {T:Tb} {c r:Int}
   (yl:YlN P_ gapA (fun _=>True) N G y Y) (ya:Y [] a) (s:HL.Sep [a,q] h) (h1:q b1=some (.cells #[.pointer (some ⟨tp,0,none⟩)] 34 (0,0))) (h2:q b2=some (.cells #[c] 3 (0,0))) (h3:q b3=some (.cells #[r] 3 (0,0))) (ts:TSee G q tp T)
   (fw:∀L∈T,L.length<=50000) (hN:(if inT T.length c=true then F0 (rowT T c) r else []).length<=N+1):
   al P_ G 164 #[y,.pointer (some ⟨b1,0,none⟩),.pointer (some ⟨b2,0,none⟩),.pointer (some ⟨b3,0,none⟩)] h (fun _ h'=>yd G q Y (if inT T.length c=true then F0 (rowT T c) r else []) h'):=by
 refine al.assume fun d=>Tr (by simp) ?_
 unfold S164
 generalize hTT:(if inT T.length c=true then F0 (rowT T c) r else [])=TT at hN ⊢
 have c1:∀{h':Hp},q.le h'->∀j,af G h' ⟨b1,j,none⟩=_:=fun l j=>aj (ai (l _ _ h1))
 have c2:∀{h':Hp},q.le h'->∀j,af G h' ⟨b2,j,none⟩=_:=fun l j=>aj (ai (l _ _ h2))
 have c3:∀{h':Hp},q.le h'->∀j,af G h' ⟨b3,j,none⟩=_:=fun l j=>aj (ai (l _ _ h3))
 have lq:=s.in 1 rfl
 simp only [bRtM,c1 lq,c2 lq]
 refine (Sw (c:=c) (ts.up lq d)).mono ?_
 rintro _ h ⟨rfl,rfl⟩
 rw [Xg]
 cases hc:inT T.length c with
 |false=>
   rw [hc,if_neg (by decide)]at hTT
   try simp only [bRtM]
   exact yd.go s d ya hTT
 |true=>
 obtain ⟨k0,k1⟩:=Da.1 hc
 have hL:=yo k0 k1
 rw [hc,if_pos rfl]at hTT
 generalize hLL:rowT T c=L at*
 obtain ⟨rb,e1,e2⟩:=ts
 obtain ⟨sa,cap,e3,e4⟩:=e2 _ _ hL
 have fL:=fw L (List.mem_of_getElem? hL)
 try simp only [bRtM]
 unfold Qs
 simp (disch:=decide) only [bRtM,c1 lq,c2 lq,c3 lq,ng lq d e1,ix98p k0 k1,Nat.mul_one,ng lq d e3]
 generalize hKK:retK P_ G _ _=KK
 refine di (fun m p h3=>∃(i:Nat) (a:Hp) (Lt:List (Int × Int)) (at_:Int),m=L.length-i/\i<=L.length/\p 0=y/\p 1 = .pointer (some ⟨b1,0,none⟩)/\p 2 = .pointer (some ⟨b2,0,none⟩)/\p 3 = .pointer (some ⟨b3,0,none⟩)/\p 5 = .int .i64 at_/\p 18 = .slice sa L.length cap/\p 19 = .int .i64 L.length/\p 20 = .int .i64 i/\
     Y Lt a/\HL.Sep [a,q] h3/\Dis G h3/\Lt++fu r (L.drop i) at_=TT) ?_
   (m:=L.length) ⟨0,a,[],0,rfl,Nat.zero_le _,by simp (disch:=decide) only [bRtM],by simp (disch:=decide) only [bRtM],by simp (disch:=decide) only [bRtM],by simp (disch:=decide) only [bRtM],by simp (disch:=decide) only [bRtM],by simp (disch:=decide) only [bRtM],by simp (disch:=decide) only [bRtM],by simp only [bRtM]<;>rfl,ya,s,d,hTT⟩
 clear ya s d lq
 clear hTT
 clear a h
 rintro m p h ⟨i,a,Lt,at_,rfl,hi,p0,p1,p2,p3,p5,p18,p19,p20,ya,s,d,hTT⟩ X HX
 have lq:=s.in 1 rfl
 unfold Qp
 simp only [bRtM,p19,p20]
 refine bv (fun hlt=>?_) (fun hge=>?_)
 rotate_left
 . -- the last one
   obtain rfl:i=L.length:=by omega
   rw [List.drop_of_length_le (Nat.le_refl _),fu]at hTT
   try simp (disch:=first|decide|omega) only [bRtM,Nat.reduceAdd,Nat.reduceMul]
   unfold Qq
   simp (disch:=decide) only [bRtM,p5]
   refine bv (fun hl=>?_) (fun hl=>?_)
   . rw [if_pos hl]at hTT
     simp only [bRtM,p0]
     refine jv ?_ (yl Lt (at_,FV) a q h (by rw [<- hTT]at hN;simp only [List.length_append,List.length_cons,List.length_nil]at hN;omega) trivial ya s d)
     rintro v h' ⟨a',rfl,s',d',hy⟩
     rw [<- hKK]
     try simp only [bRtM]
     exact yd.go s' d' hy hTT
   . rw [if_neg hl,List.append_nil]at hTT
     rw [<- hKK]
     try simp only [bRtM]
     exact yd.go s d ya hTT
 obtain ⟨sl,hs⟩:∃sl,L[i]?=some sl:=⟨_,List.getElem?_eq_getElem (by omega)⟩
 obtain ⟨b',of,rfl,z0,z1,z2⟩:=Sees.slot (e4.up lq d) hs
 rw [ak4 hs]at hTT
 unfold B8
 simp (disch:=first|decide|exact aq|exact ao|omega|rfl) only [bRtM,p18,p20,ix99 (Int.natCast_nonneg i) hlt,z0,z1,z2]
 intro x hx gx
 generalize eh:Hp.set h x _=h4
 obtain ⟨l4,d4,b4⟩:=boxed eh hx d gx
 have s4:HL.Sep [a,q] h4:=by rw [<- eh];exact s.past hx
 have lq4:=s4.in 1 rfl
 have cx:∀j,af G h4 ⟨x,j,none⟩=_:=fun j=>aj (ai b4)
 have next:∀(K0:Exit->Rg->Hp->Prop) (p':Rg) (h5 a':Hp) (Lt':List (Int × Int)) (at':Int),(∀k,k<=3->p' k=p k)->p' 18=p 18->p' 19=p 19->p' 20=p 20->p' 5 = .int .i64 at'->Y Lt' a'->HL.Sep [a',q] h5->Dis G h5->Lt'++fu r (L.drop (i+1)) at'=TT->
     qn G (ci X K0) p' h5:=by
   intro K0 p' h5 a' Lt' at' hk w18 w19 w20 w5 ya' s' d' hT'
   unfold qn
   simp (disch:=first|decide|omega) only [bRtM,w20,p20]
   exact HX (L.length-(i+1)) _ _ (by omega) ⟨i+1,a',Lt',at',rfl,by omega,by simp (disch:=decide) only [bRtM,hk 0 (by decide),p0],by simp (disch:=decide) only [bRtM,hk 1 (by decide),p1],by simp (disch:=decide) only [bRtM,hk 2 (by decide),p2],by simp (disch:=decide) only [bRtM,hk 3 (by decide),p3],by simp (disch:=decide) only [bRtM,w5],by simp (disch:=decide) only [bRtM,w18,p18],by simp (disch:=decide) only [bRtM,w19,p19],by simp only [bRtM]<;>rfl,ya',s',d',hT'⟩
 simp only [bRtM,cx,p3,c3 lq4]
 refine pl (fun hb=>?_) (fun hb=>?_)
 . rw [if_pos (by simpa using hb)]at hTT
   exact next _ _ _ a Lt at_ (fun k hk=>by simp (disch:=omega) only [av]) (by simp (disch:=decide) only [bRtM]) (by simp (disch:=decide) only [bRtM]) (by simp (disch:=decide) only [bRtM]) (by simp (disch:=decide) only [bRtM,p5]) ya s4 d4 hTT
 rw [if_neg (by simpa using hb)]at hTT
 unfold B7
 have k7:∀(K0:Exit->Rg->Hp->Prop) (p':Rg) (h5 a':Hp) (Lt':List (Int × Int)),(∀k,k<=3->p' k=p k)->p' 18=p 18->p' 19=p 19->p' 20=p 20->p' 7 = .pointer (some ⟨x,0,none⟩)->h5 x=some (A5 sl)->Y Lt' a'->HL.Sep [a',q] h5->Dis G h5->Lt'++fu r (L.drop (i+1)) sl.t=TT->
     tr G (ci X K0) p' h5:=by
   intro K0 p' h5 a' Lt' hk w18 w19 w20 w7 b5 ya' s' d' hT'
   have c5:∀j,af G h5 ⟨x,j,none⟩=_:=fun j=>aj (ai b5)
   unfold tr
   simp only [bRtM,w7,c5]
   exact next _ _ _ a' Lt' sl.t (fun k hk'=>by simp (disch:=omega) only [av];exact hk k hk') (by simp (disch:=decide) only [bRtM,w18]) (by simp (disch:=decide) only [bRtM,w19]) (by simp (disch:=decide) only [bRtM,w20]) (by simp only [bRtM]) ya' s' d' hT'
 simp (disch:=decide) only [bRtM,cx,p5]
 by_cases hg:sl.f>at_
 rotate_left
 . rw [if_neg hg]at hTT
   simp only [bRtM,show decide (sl.f>at_)=false from decide_eq_false hg,fe]
   exact k7 _ _ _ a Lt (fun k hk=>by simp (disch:=omega) only [av]) (by simp (disch:=decide) only [bRtM]) (by simp (disch:=decide) only [bRtM]) (by simp (disch:=decide) only [bRtM]) (by simp (disch:=decide) only [bRtM]) b4 ya s4 d4 hTT
 rw [if_pos hg]at hTT
 simp only [bRtM,show decide (sl.f>at_)=true from decide_eq_true hg,p0,p5,cx]
 have s5:HL.Sep [a,q.set x (A5 sl)] h4:=by
   rw [<- eh]
   have:=(s.swap.grow (o:=A5 sl) hx).swap
   exact this
 refine jv ?_ (yl Lt (at_,sl.f) a (q.set x (A5 sl)) h4 (by rw [<- hTT]at hN;simp only [List.length_append,List.length_cons]at hN;omega) trivial ya s5 d4)
 rintro v h6 ⟨a',rfl,s',d',hy⟩
 have b6:h6 x=some (A5 sl):=s'.at 1 rfl ag
 have s6:HL.Sep [a',q] h6:=(s'.swap.cut (b8 (s.drop.hd.none hx))).swap
 simp only [bRtM]
 exact k7 _ _ _ a' _ (fun k hk=>by simp (disch:=omega) only [av]) (by simp (disch:=decide) only [bRtM]) (by simp (disch:=decide) only [bRtM]) (by simp (disch:=decide) only [bRtM]) (by simp (disch:=decide) only [bRtM]) b6 hy s6 d' (by rw [<- hTT];simp)
end Go.Proofs.YtfflipnhffknnaaGreatDoor.Rv
end
section
namespace Go.Proofs.YtfflipnhffknnaaGreatDoor
open Go Go.HL Go.Proofs.Resv Go.Proofs.Srch
def bRtN:=jq bC (jq (jq (jq @al142 (jq @al28 @ae0)) (jq @gg (jq @Na @cf145))) (jq (jq @cf146 (jq @cf88 @ld142)) (jq (jq @ld28 @ln22) (jq @Lo @true_and))))
theorem setR2 {n d e:Nat} {v u:Value} {r:Rg} (hd:d<n) (he:e<n):setR n #[d,e] #[v,u] r=upd (upd r d v) e u:=by
 show putR n (putR n r (some d) v) (some e) u=_
 simp only [putR,if_pos hd,if_pos he]
theorem ai5 {G:Hp} {a b c y:Value} {h:Hp} {K:VK}:opE P_ G (ij (.func (.func 164) #[] #[a,b,c]) #[y]) h K=al P_ G 164 #[y,a,b,c] h K:=by kernel_rfl
def SpY (xb l:Nat) (ob:Obj) (L:List Sp) (b:Hp):Prop:=∃ip v,Slc mc 151 ip v L/\Sep [ip,noHp.set xb (.cells #[v] 142 (0,0)),noHp.set l ob] b
theorem Vh {G:Hp} {y:Value} {xb l:Nat} {oo:Option Exit->Obj} {r:Rg} (gl:G l=none) (ho:∀e,gu (oo e)=false) (g13:r 13 = .pointer (some ⟨xb,0,none⟩))
   (hy:∀(args:Array Value) (h1:Hp) (K1:Value->Hp->Prop),args.size=2->h1 l=some (oo none)->
     Ce G (setR 46 #[33,34] args r) h1 (fun e r2 h2=>e = .normal/\h2 l=some (oo none)/\∀ob,gu ob=false->Cd G r2 (h2.set l ob) (fun e _ h3=>h3 l=some ob/\match e with
       | .normal=>K1 (.bool true) (h3.set l (oo none))
       | .panic _=>False
       | .outgrown=>False
       |e=>K1 (.bool false) (h3.set l (oo (some e)))))->
     opH P_ G (ij y args) h1 K1):YlN P_ Rv.gapA (fun _=>True) 60000 G y (SpY xb l (oo none)):=by
 rintro L p b q h hL _ ⟨ip,v,sl,sb⟩ s d
 have s1:Sep [ip,noHp.set xb (.cells #[v] 142 (0,0)),noHp.set l (oo none),q] h:=s.open sb
 refine hy (Rv.gapA p) h _ rfl (s1.at 2 rfl ag) ?_
 rw [setR2 (by decide) (by decide)]
 unfold Ce
 refine ⟨rfl,s1.at 2 rfl ag,fun ob hob=>?_⟩
 have s2:=(s1.pick 2 rfl rfl).put (o:=ob) ag
 rw [set_set]at s2
 have d2:Dis G (h.set l ob):=d.set gl
 generalize Hp.set h l ob=h2 at s2 d2 ⊢
 have cb:af G h2 ⟨xb,0,none⟩=some v:=by rw [aj (ai (s2.at 2 rfl ag))];rfl
 unfold Cd
 simp (disch:=decide) only [bRtN,g13,cb]
 intro x hx gx
 have s4:=s2.past (o := .cells #[p.1,p.2] 151 (0,0)) hx
 have d4:=d2.set (o := .cells #[p.1,p.2] 151 (0,0)) gx
 have hxs:(h2.set x (.cells #[p.1,p.2] 151 (0,0))) x=some (.cells #[p.1,p.2] 151 (0,0)):=ag
 generalize Hp.set h2 x _=h4 at s4 d4 hxs ⊢
 refine ez mc (by decide) (L:=L) (M:=[p]) Wo eospan (by decide) (by decide) (s4.pick 1 rfl rfl) d4 sl (Sees.row hxs (by simp [mc,Cod.rows]) (by simp)) (by simp;omega) ?_
 intro v' ip' h5 sl' s5 d5
 obtain ⟨sa,cap,rfl,hcap⟩:=sl.len (by decide)
 obtain ⟨sa',cap',rfl,hcap'⟩:=sl'.len (by decide)
 have hk5:h5 xb=some (.cells [Value.slice sa L.length cap].toArray 142 (0,0)):=s5.at 2 rfl ag
 try simp (disch:=first|decide|omega) only [bRtN,Nat.reduceAdd,Nat.reduceMul]
 rw [dh sz142 rfl hk5 (by simp)]
 try simp only [bRtN,List.set_cons_zero]
 have s7:=(s5.pick 2 rfl rfl).put (o := .cells #[.slice sa' (L++[p]).length cap'] 142 (0,0)) ag
 rw [set_set]at s7
 have d7:=d5.set (o := .cells #[.slice sa' (L++[p]).length cap'] 142 (0,0)) (d5 _ _ hk5)
 generalize Hp.set h5 xb _=h7 at s7 d7 ⊢
 try simp (disch:=first|decide|omega) only [bRtN,Nat.reduceAdd,Nat.reduceMul]
 refine ⟨s7.at 2 rfl ag,?_⟩
 have s8:=(s7.pick 2 rfl rfl).put (o:=oo none) ag
 rw [set_set]at s8
 obtain ⟨b',t1,t2⟩:=Sep.pack [_,_,_] (s8.sel (L':=[ip',noHp.set xb (.cells #[.slice sa' (L++[p]).length cap'] 142 (0,0)),noHp.set l (oo none),q]) [2,1,0,3] (by decide) rfl)
 exact ⟨b',t1,d7.set gl,ip',_,sl',t2⟩
theorem ac0 {T:Tb} {r:Int} {N:List Int} {n:Int}:li T r (N++[n])=qc (li T r N) (mu T r n):=by
 unfold li
 rw [List.foldl_append]
 rfl
theorem Eu {G h:Hp} {g cv:Value} {w k tp bb:Nat} {f:Nat->Nat->Int} {T:Tb} {r:Int} {cells:List Cell} (gs:GS G h g w k f) (ts:Rv.TSee G h tp T) (gt:kc T) (fw:Few T bb) (hbb:bb<=50000) (sc:Sees dr G h cv cells) (hc:cells.length<=300):
   al P_ G 108 #[g,.pointer (some ⟨tp,0,none⟩),r,cv] h (fun u h'=>∃ip,Slc mc 151 ip u (li T r (cells.map (numI w k)))/\Sep [ip,h] h'/\Dis G h'):=by
 obtain ⟨ca,cc,rfl,_⟩:=id sc
 refine al.assume fun d=>at5 (by simp) ?_
 unfold S108
 simp only [bRtN]
 intro x0 hx0 gx0
 have s0:=(Sep.one (h:=h)).new (o := .cells #[(0:Int),(4611686018427387904:Int)] 151 (0,0)) hx0
 have d0:=d.set (o := .cells #[(0:Int),(4611686018427387904:Int)] 151 (0,0)) gx0
 generalize Hp.set h x0 _=h0 at s0 d0 ⊢
 generalize hKK:retK P_ G _ _=KK
 refine di (fun m p h'=>∃(i:Nat) (ip:Hp) (v:Value),m=cells.length-i/\i<=cells.length/\p 0=g/\p 1 = .pointer (some ⟨tp,0,none⟩)/\p 2 = .int .i64 r/\p 9=v/\p 18 = .slice ca cells.length cc/\p 19 = .int .i64 cells.length/\p 20 = .int .i64 i/\
   Slc mc 151 ip v (li T r ((cells.take i).map (numI w k)))/\Sep [ip,h] h'/\Dis G h') ?_ (m:=cells.length)
   ⟨0,noHp.set x0 (.cells #[(0:Int),(4611686018427387904:Int)] 151 (0,0)),.slice (some ⟨x0,0,none⟩) 1 1,rfl,by omega,by simp (disch:=decide) only [bRtN],by simp (disch:=decide) only [bRtN],by simp (disch:=decide) only [bRtN],by simp (disch:=decide) only [bRtN],by simp (disch:=decide) only [bRtN],by simp (disch:=decide) only [bRtN],by simp only [bRtN];rfl,⟨some x0,1,[],rfl,by rw [ag];rfl,rfl⟩,s0,d0⟩
 rintro m p h1 ⟨i,ip,v,rfl,hi,g0,g1,g2,g9,g18,g19,g20,sl,s,d1⟩ X hX
 unfold Zg
 simp only [bRtN,g19,g20]
 refine bv (fun hlt=>?_) (fun hge=>?_)
 rotate_left
 . obtain rfl:i=cells.length:=by omega
   try simp (disch:=first|decide|omega) only [bRtN,Nat.reduceAdd,Nat.reduceMul]
   unfold Zh
   rw [<- hKK]
   try simp (disch:=decide) only [bRtN,g9]
   rw [List.take_length]at sl
   exact ⟨ip,sl,s,d1⟩
 obtain ⟨c,hcx⟩:∃c,cells[i]?=some c:=⟨_,List.getElem?_eq_getElem (by omega)⟩
 obtain ⟨b,o,rfl,e1,e2⟩:=Sees.cell (sc.up (s.in 1 rfl) d1) hcx
 have htk:cells.take (i+1)=cells.take i++[c]:=by rw [List.take_add_one,hcx];rfl
 unfold Kx
 simp (disch:=first|decide|exact aq|exact ao|omega|rfl) only [bRtN,g18,g20,g0,ix22 (Int.natCast_nonneg i) hlt,e1,e2]
 intro y hy gy
 have s2:=s.past (o := .cells #[c.1,c.2] 28 (0,0)) hy
 have d2:=d1.set (o := .cells #[c.1,c.2] 28 (0,0)) gy
 have hys:(h1.set y (.cells #[c.1,c.2] 28 (0,0))) y=some (.cells #[c.1,c.2] 28 (0,0)):=ag
 try simp (disch:=first|decide|omega) only [bRtN,Nat.reduceAdd,Nat.reduceMul]
 generalize Hp.set h1 y _=h2 at s2 d2 hys ⊢
 have cy:∀k,af G h2 ⟨y,k,none⟩=_:=fun k=>aj (ai hys)
 try simp (disch:=first|decide|omega) only [bRtN,Nat.reduceAdd,Nat.reduceMul,cy]
 refine (nn (c:=c) (gs.up (s2.in 1 rfl) d2)).mono ?_
 rintro _ h2 ⟨rfl,rfl⟩
 try simp only [bRtN]
 refine bv (fun hneg=>?_) (fun hpos=>?_)
 . rw [<- hKK]
   try simp only [bRtN]
   have hin:inT T.length (numI w k c)=false:=by
     cases e:inT T.length (numI w k c)with
     |false=>rfl
     |true=>have:=(Da.1 e).1;omega
   rw [al0 (List.mem_map.2 ⟨c,List.mem_of_getElem? hcx,rfl⟩) hin]
   exact ⟨noHp,Slc.nil,s2.drop.none,d2⟩
 unfold Kw
 simp (disch:=decide) only [bRtN,g1,g2]
 intro xb hxb gxb
 have s3:=s2.new (o := .cells #[.slice none 0 0] 142 (0,0)) hxb
 have d3:=d2.set (o := .cells #[.slice none 0 0] 142 (0,0)) gxb
 try simp (disch:=first|decide|omega) only [bRtN,Nat.reduceAdd,Nat.reduceMul]
 generalize Hp.set h2 xb _=h3 at s3 d3 ⊢
 refine (Rv.S2).mono ?_
 rintro _ h4 ⟨b1,b2,b3,rfl,l4,d4,q1,q2,q3,hR⟩
 have s4:=hR _ s3
 have hx4:h4 xb=some (.cells #[.slice none 0 0] 142 (0,0)):=s4.at 0 rfl ag
 have ne1:b1≠xb:=fun e=>by rw [e,hx4]at q1;simp at q1
 have ne2:b2≠xb:=fun e=>by rw [e,hx4]at q2;simp at q2
 have ne3:b3≠xb:=fun e=>by rw [e,hx4]at q3;simp at q3
 obtain ⟨s5,sQ⟩:=s4.but
 generalize hQ:but h4 xb=Q at s5 sQ
 have dQ:Dis G Q:=fun b o e=>d4 b o (s5.in 1 rfl _ _ e)
 intro y2 l oo hl gl hoo hy2
 rw [ai5]
 have yl:=Vh (xb:=xb) gl hoo (by simp (disch:=decide) only [bRtN]) hy2
 have s6:Sep [noHp,noHp.set xb (.cells #[.slice none 0 0] 142 (0,0)),noHp.set l (oo none),Q] (h4.set l (oo none)):=((s5.new (o:=oo none) hl).none).sel [0,2,1,3] (by decide) rfl
 obtain ⟨a,s7,sa⟩:=Sep.pack [_,_,_] s6
 refine (Rv.Vf (T:=T) yl ⟨noHp,.slice none 0 0,Slc.nil,sa⟩ s7 (by rw [<- hQ,P0 ne1];exact q1) (by rw [<- hQ,P0 ne2];exact q2) (by rw [<- hQ,P0 ne3];exact q3) (ts.up (sQ.in 1 rfl) dQ) (fun L hL=>by have:=fw L hL;omega)
   (by have:=Et fw r (numI w k c);unfold mu at this;omega)).mono ?_
 rintro _ h8 ⟨a',s8,d8,ip2,v2,sl2,sa2⟩
 obtain ⟨h9,s9,t9⟩:=Sep.pack [_,_,_,_] ((((s8.open sa2).pick 3 rfl rfl).open sQ).sel (L':=[ip2,noHp.set xb (.cells #[v2] 142 (0,0)),ip,h,noHp.set l (oo none)]) [2,3,0,1,4] (by decide) rfl)
 have d9:Dis G h9:=fun b o e=>d8 b o (s9.in 0 rfl _ _ e)
 refine ⟨h9,s9.in 0 rfl,?_,.inl ⟨s9.at 1 rfl ag,?_⟩⟩
 . rcases s9.apart (b:=noHp.set l (oo none)) (by simp) l with e|e
   . exact e
   . rw [ag]at e;cases e
 try simp only [bRtN]
 unfold Kv
 have cb:af G h9 ⟨xb,0,none⟩=some v2:=by rw [aj (ai (t9.at 1 rfl ag))];rfl
 simp (disch:=decide) only [bRtN,cb,g9]
 have hlA:=Dd gt fw r ((cells.take i).map (numI w k))
 have hlB:=Et fw r (numI w k c)
 have hmul:((cells.take i).map (numI w k)).length*(bb+1)<=300*50001:=Nat.mul_le_mul (by rw [List.length_map,List.length_take];omega) (by omega)
 refine (E2 (A:=li T r ((cells.take i).map (numI w k))) (B:=mu T r (numI w k c)) (sl.see (by decide) (t9.in 2 rfl)) (sl2.see (by decide) (t9.in 0 rfl)) (by omega)).mono ?_
 rintro v3 h10 ⟨ip3,sl3,s10,d10⟩
 have s11:Sep [ip3,h] h10:=(s10.swap.cut (t9.in 3 rfl)).swap
 unfold Cc
 simp (disch:=first|decide|omega) only [bRtN,g20]
 refine hX (cells.length-(i+1)) _ _ (by omega) ⟨i+1,ip3,v3,rfl,by omega,by simp (disch:=decide) only [bRtN,g0],by simp (disch:=decide) only [bRtN,g1],by simp (disch:=decide) only [bRtN,g2],by simp (disch:=decide) only [bRtN],by simp (disch:=decide) only [bRtN,g18],by simp (disch:=decide) only [bRtN,g19],by simp only [bRtN];rfl,?_,s11,d10⟩
 rw [htk,List.map_append,List.map_cons,List.map_nil,ac0,<- Av _ _ _ (Nat.le_refl _) (yq gt r _) (Cq gt r _)]
 exact sl3
end Go.Proofs.YtfflipnhffknnaaGreatDoor
end
section
namespace Go.Proofs.YtfflipnhffknnaaGreatDoor
open Go Go.HL
section
variable (G:Hp) (K:EK) (r:Rg) (h:Hp)
def md90:Nat->Hint
 |_=>mh false [] [] [] false
def aw2:Prop:=
 opH P_ G (callFunc 134 #[(r 5),(.func (.func 135) #[] #[(r 2)])]) h fun v8 h8=>
 c_ G 136 #[(r 5)] h8 fun v9 h9=>
 K .ret (u6 r 15 (r 5) 16 (.func (.func 135) #[] #[(r 2)]) 17 v8 18 (r 5) 19 v9 4 v9) h9
def S90:Prop:=
 o_ G (Instr.box 68 (r 0)) h fun v0 h0=>o_ G (Instr.box 48 (r 1)) h0 fun v1 h1=>o_ G (Instr.loadAt 68 v0) h1 fun v2 h2=>o_ G (Instr.loadAt 48 v1) h2 fun v3 h3=>
 c_ G 127 #[v2,v3] h3 fun v4 h4=>o_ G (Instr.extract v4 0) h4 fun v5 h5=>o_ G (Instr.extract v4 1) h5 fun v6 h6=>o_ G (Op.unary .not v6) h6 fun v7 h7=>
 (fun q=>cond v7
 (K .ret (upd q 4 (.slice none 0 0)) h7)
 (aw2 G K q h7))
 (u3 (u10 r 2 v0 3 v1 4 (.slice none 0 0) 8 v2 9 v3 10 v4 7 v4 11 v5 12 v6 5 v5) 6 v6 13 v6 14 v7)
theorem enter90:Ent 20 90 [.tmp 4] S90:=ent_ (m:=md90) (c:=(Tryz.f90.body.getD .skip)) (fun _ _ _ _=>by kernel_rfl) Tryz.func90 rfl rfl rfl
def md135:Nat->Hint
 |1=>mh false [0,0,3,0,0,31,63,127] [m_,m_,e_,m_,m_,e_,n_,n_] [false,false,true,false,false,false,false,false] false
 |_=>mh false [] [] [] false
def S135:Prop:=
 o_ G (Instr.box 28 (r 0)) h fun v0 h0=>o_ G (Instr.box 28 (r 1)) h0 fun v1 h1=>
 w_ G h1 (Instr.loadAt 68 (r 2)) h1 fun v2 h2=>
 w_ G h1 (Instr.loadAt 28 v0) h2 fun v3 h3=>
 c_ G 88 #[v2,v3] h3 fun v4 h4=>h1.le h4/\
 w_ G h1 (Instr.loadAt 68 (r 2)) h4 fun v5 h5=>
 w_ G h1 (Instr.loadAt 28 v1) h5 fun v6 h6=>
 c_ G 88 #[v5,v6] h6 fun v7 h7=>
 p_ (binOp .sub 3 v4 v7) h7 fun v8 h8=>
 K .ret (upd (u10 r 3 v0 4 v1 5 (.int .i64 0) 6 v2 7 v3 8 v4 9 v5 10 v6 11 v7 12 v8) 5 v8) h8
theorem ar3:Ent 13 135 [.tmp 5] S135:=ent_ (m:=md135) (c:=(Tryz.f135.body.getD .skip)) (fun _ _ _ _=>by kernel_rfl) Tryz.func135 rfl rfl rfl
def md136:Nat->Hint
 |6=>mh false [0,0,3,7,0,0,32,112,240,511] [n_,n_,n_,m_,n_,n_,n_,n_,m_,m_] (fs 10) false
 |11=>mh false [0,0,3,7,0,0,32,112,240,511] [n_,n_,n_,m_,n_,n_,n_,n_,m_,m_] (fs 10) false
 |_=>mh false [] [] [] false
def Yt (G:Hp) (K:EK) (r:Rg) (h:Hp):Prop:=
 K .ret (u2 r 60 (r 0) 2 (r 0)) h
def B9:Prop:=
 o_ G (binOp .add 3 (r 3) (.int .i64 1)) h fun v4 h4=>
 K .normal (u3 r 14 (r 3) 15 v4 3 v4) h4
def J7:Prop:=
 o_ G (Instr.sliceAt 22 (r 0) (some (r 3)) none none) h fun v12 h12=>o_ G (Builtin.clear_ #[22] 0 #[v12]) h12 fun v13 h13=>o_ G (Instr.sliceAt 22 (r 0) none (some (r 3)) none) h13 fun v14 h14=>
 K .ret (u7 r 54 (r 0) 55 (r 3) 56 v12 57 (r 0) 58 (r 3) 59 v14 2 v14) h14
def qp:Prop:=
 o_ G (binOp .add 3 (r 5) (.int .i64 1)) h fun v17 h17=>
 K .normal (u3 r 33 (r 5) 34 v17 5 v17) h17
def Bl:Prop:=
 p_ (Instr.indexAt 22 (r 4) (r 5)) h fun v18 h18=>
 w_ G h (Instr.loadAt 28 v18) h18 fun v19 h19=>
 p_ (binOp .sub 3 (r 5) (.int .i64 1)) h19 fun v20 h20=>
 p_ (Instr.indexAt 22 (r 4) v20) h20 fun v21 h21=>
 w_ G h (Instr.loadAt 28 v21) h21 fun v22 h22=>
 bm P_ G h (xEq .neq 28 (.tmp 0) (.tmp 0) v19 v22) h22 fun v23 h23=>
 cond v23
 (o_ G (Instr.indexAt 22 (r 4) (r 5)) h23 fun v24 h24=>o_ G (Instr.loadAt 28 v24) h24 fun v25 h25=>o_ G (Instr.indexAt 22 (r 0) (r 3)) h25 fun v26 h26=>
 opH P_ G (su (Instr.storeAt 28 v26 v25)) h26 fun v27 h27=>o_ G (binOp .add 3 (r 3) (.int .i64 1)) h27 fun v28 h28=>
 qp G K (u10 (u10 r 35 (r 4) 36 (r 5) 37 v18 38 v19 39 (r 4) 40 (r 5) 41 v20 42 v21 43 v22 44 v23) 45 (r 0) 46 (r 3) 47 (r 4) 48 (r 5) 49 v24 50 v25 51 v26 52 (r 3) 53 v28 3 v28) h28)
 (qp G K (u10 r 35 (r 4) 36 (r 5) 37 v18 38 v19 39 (r 4) 40 (r 5) 41 v20 42 v21 43 v22 44 v23) h23)
def J6 (r:Rg) (h:Hp) (K:EK):Prop:=
 o_ G (Builtin.len_ #[22] 3 #[(r 4)]) h fun v15 h15=>o_ G (binOp .lss 3 (r 5) v15) h15 fun v16 h16=>
 cond v16
 (Bl G K (u4 r 29 (r 5) 30 (r 4) 31 v15 32 v16) h16)
 (K (.exit 2) (u4 r 29 (r 5) 30 (r 4) 31 v15 32 v16) h16)
def J8:Prop:=
 p_ (Instr.indexAt 22 (r 0) (r 3)) h fun v5 h5=>
 w_ G h (Instr.loadAt 28 v5) h5 fun v6 h6=>
 p_ (binOp .sub 3 (r 3) (.int .i64 1)) h6 fun v7 h7=>
 p_ (Instr.indexAt 22 (r 0) v7) h7 fun v8 h8=>
 w_ G h (Instr.loadAt 28 v8) h8 fun v9 h9=>
 bm P_ G h (xEq .eql 28 (.tmp 0) (.tmp 0) v6 v9) h9 fun v10 h10=>
 cond v10
 (o_ G (Instr.sliceAt 22 (r 0) (some (r 3)) none none) h10 fun v11 h11=>
 dl (J6 G) (u5 (u10 r 16 (r 0) 17 (r 3) 18 v5 19 v6 20 (r 0) 21 (r 3) 22 v7 23 v8 24 v9 25 v10) 26 (r 0) 27 (r 3) 28 v11 4 v11 5 (.int .i64 1)) h11 (bo 2 (ci (J7 G K) (bo 1 (ci (B9 G K) K)))))
 (B9 G K (u10 r 16 (r 0) 17 (r 3) 18 v5 19 v6 20 (r 0) 21 (r 3) 22 v7 23 v8 24 v9 25 v10) h10)
def Ys (r:Rg) (h:Hp) (K:EK):Prop:=
 o_ G (Builtin.len_ #[22] 3 #[(r 0)]) h fun v2 h2=>o_ G (binOp .lss 3 (r 3) v2) h2 fun v3 h3=>
 cond v3
 (J8 G K (u4 r 10 (r 3) 11 (r 0) 12 v2 13 v3) h3)
 (K (.exit 0) (u4 r 10 (r 3) 11 (r 0) 12 v2 13 v3) h3)
def Yu:Prop:=
 dl (Ys G) (upd r 3 (.int .i64 1)) h (bo 0 (ci (Yt G K) K))
def S136:Prop:=
 o_ G (Builtin.len_ #[22] 3 #[(r 0)]) h fun v0 h0=>o_ G (binOp .lss 3 v0 (.int .i64 2)) h0 fun v1 h1=>
 (fun q=>cond v1
 (K .ret (u2 q 9 (r 0) 2 (r 0)) h1)
 (Yu G K q h1))
 (u4 r 2 (.slice none 0 0) 6 (r 0) 7 v0 8 v1)
theorem ar2:Ent 61 136 [.tmp 2] S136:=ent_ (m:=md136) (c:=(Tryz.f136.body.getD .skip)) (fun _ _ _ _=>by kernel_rfl) Tryz.func136 rfl rfl rfl
end
section
variable (G:Hp) (K:EK) (r:Rg) (h:Hp)
def md21:Nat->Hint
 |_=>mh false [] [] [] false
def S21:Prop:=
 o_ G (Instr.box 26 (r 0)) h fun v0 h0=>o_ G (Instr.fieldAt 26 v0 0) h0 fun v1 h1=>o_ G (Instr.loadAt 3 v1) h1 fun v2 h2=>o_ G (binOp .leq 3 v2 (.int .i64 6)) h2 fun v3 h3=>g_ v3 true (o_ G (Instr.fieldAt 26 v0 1) h3) h3 fun v4 h4=>g_ v3 true (o_ G (Instr.loadAt 3 v4) h4) h4 fun v5 h5=>g_ v3 true (o_ G (binOp .leq 3 v5 (.int .i64 6)) h5) h5 fun v6 h6=>
 opH P_ G (bj v3 v6 (.bool false)) h6 fun v7 h7=>g_ v7 true (o_ G (Instr.fieldAt 26 v0 14) h7) h7 fun v8 h8=>g_ v7 true (o_ G (Instr.loadAt 3 v8) h8) h8 fun v9 h9=>g_ v7 true (o_ G (binOp .leq 3 v9 (.int .i64 4000)) h9) h9 fun v10 h10=>
 opH P_ G (bj v7 v10 (.bool false)) h10 fun v11 h11=>g_ v11 true (o_ G (Instr.fieldAt 26 v0 7) h11) h11 fun v12 h12=>g_ v11 true (o_ G (Instr.loadAt 3 v12) h12) h12 fun v13 h13=>g_ v11 true (o_ G (binOp .leq 3 v13 (.int .i64 100)) h13) h13 fun v14 h14=>
 opH P_ G (bj v11 v14 (.bool false)) h14 fun v15 h15=>g_ v15 true (o_ G (Instr.fieldAt 26 v0 10) h15) h15 fun v16 h16=>g_ v15 true (o_ G (Instr.loadAt 3 v16) h16) h16 fun v17 h17=>g_ v15 true (o_ G (binOp .leq 3 v17 (.int .i64 200)) h17) h17 fun v18 h18=>
 opH P_ G (bj v15 v18 (.bool false)) h18 fun v19 h19=>g_ v19 true (o_ G (Instr.fieldAt 26 v0 11) h19) h19 fun v20 h20=>g_ v19 true (o_ G (Instr.loadAt 3 v20) h20) h20 fun v21 h21=>g_ v19 true (o_ G (binOp .leq 3 v21 (.int .i64 200)) h21) h21 fun v22 h22=>
 opH P_ G (bj v19 v22 (.bool false)) h22 fun v23 h23=>g_ v23 true (o_ G (Instr.fieldAt 26 v0 5) h23) h23 fun v24 h24=>g_ v23 true (o_ G (Instr.loadAt 23 v24) h24) h24 fun v25 h25=>g_ v23 true (o_ G (Builtin.len_ #[23] 3 #[v25]) h25) h25 fun v26 h26=>g_ v23 true (o_ G (binOp .leq 3 v26 (.int .i64 4)) h26) h26 fun v27 h27=>
 opH P_ G (bj v23 v27 (.bool false)) h27 fun v28 h28=>g_ v28 true (o_ G (Instr.loadAt 26 v0) h28) h28 fun v29 h29=>g_ v28 true (c_ G 38 #[v29] h29) h29 fun v30 h30=>
 opH P_ G (bj v28 v30 (.bool false)) h30 fun v31 h31=>
 K .ret (upd (u10 (u10 (u10 (u10 r 1 v0 2 (.bool false) 3 v1 4 v2 5 v3 6 v3 7 v4 8 v5 9 v6 10 v7) 11 v7 12 v8 13 v9 14 v10 15 v11 16 v11 17 v12 18 v13 19 v14 20 v15) 21 v15 22 v16 23 v17 24 v18 25 v19 26 v19 27 v20 28 v21 29 v22 30 v23) 31 v23 32 v24 33 v25 34 v26 35 v27 36 v28 37 v28 38 v29 39 v30 40 v31) 2 v31) h31
theorem enter21:Ent 41 21 [.tmp 2] S21:=ent_ (m:=md21) (c:=(Tryz.f21.body.getD .skip)) (fun _ _ _ _=>by kernel_rfl) Tryz.func21 rfl rfl rfl
end
abbrev cellO (c:Cell):Obj := .cells #[c.1,c.2] 28 (0,0)
def j5 {α:Type} (p:Nat->Bool) (mk:Nat->α):Nat->Nat->List α
 |_,0=>[]
 |n,k+1=>if p n=true then mk n::j5 p mk (n+1) k else j5 p mk (n+1) k
section
theorem Ew:∀(n:Nat) (L:List Nat),L.Nodup->(∀x∈L,x<n)->L.length<=n
 |0,L,_,h=>by
   cases L with
   |nil=>simp
   |cons x L=>exact absurd (h x (.head _)) (by omega)
 |n+1,L,hn,h=>by
   by_cases hm:n∈L
   . have h1:=Ew n (L.erase n) (hn.erase n) (fun x hx=>by
       have h2:=h x (List.mem_of_mem_erase hx)
       have h3:x≠n:=(List.Nodup.mem_erase_iff hn).1 hx |>.1
       omega)
     rw [List.length_erase_of_mem hm]at h1
     have:=List.length_pos_of_mem hm
     omega
   . have:=Ew n L hn (fun x hx=>by
       have h2:=h x hx
       have h3:x≠n:=fun e=>hm (e▸hx)
       omega)
     omega
theorem Ap {w k:Nat} {L:List Cell} (hn:L.Nodup) (h:∀c∈L,inW w k c=true):L.length<=w*k:=by
 have h1:=Ew (w*k) (L.map fun c=>c.2.toNat*w+c.1.toNat) ?_ ?_
 . simpa using h1
 . rw [List.nodup_iff_pairwise_ne,List.pairwise_map]
   rw [List.nodup_iff_pairwise_ne]at hn
   refine List.Pairwise.imp_of_mem ?_ hn
   intro a b ha hb hab e
   apply hab
   obtain ⟨a1,a2,a3,a4⟩:=jc.1 (h a ha)
   obtain ⟨b1,b2,b3,b4⟩:=jc.1 (h b hb)
   have hw:0<w:=by omega
   obtain ⟨x1,y1⟩:=(cellN (n:=b.2.toNat*w+b.1.toNat) hw (show a.1.toNat<w by omega)).1 e
   obtain ⟨x2,y2⟩:=(cellN (n:=b.2.toNat*w+b.1.toNat) hw (show b.1.toNat<w by omega)).1 rfl
   have e1:a.1.toNat=b.1.toNat:=by rw [x1,<- x2]
   have e2:a.2.toNat=b.2.toNat:=by rw [y1,<- y2]
   exact Prod.ext (by omega) (by omega)
 . intro x hx
   obtain ⟨c,hc,rfl⟩:=List.mem_map.1 hx
   exact (uv (h c hc)).2.2.2
section
variable {C:Conf}
theorem ru (hw:ax C.w 1 16=true) (hk:ax C.h 1 16=true):C.w=(wC C:Int)/\C.h=(kC C:Int)/\1<=wC C/\wC C<=16/\1<=kC C/\kC C<=16:=by
 unfold ax at hw hk
 simp only [Bool.and_eq_true,decide_eq_true_eq]at hw hk
 unfold wC kC
 omega
theorem px (hw:ax C.w 1 16=true) (hk:ax C.h 1 16=true) (c:Cell):inW (wC C) (kC C) c=inB C c:=by
 obtain ⟨e1,e2,_⟩:=ru hw hk
 rw [Bool.eq_iff_iff,jc]
 unfold inB
 simp only [Bool.and_eq_true,decide_eq_true_eq]
 rw [e1,e2]
 constructor
 . rintro ⟨a,b,c,d⟩;exact ⟨a,c,b,d⟩
 . rintro ⟨a,b,c,d⟩;exact ⟨a,c,b,d⟩
theorem M0 {c:Cell} (h1:0<=c.1) (h2:0<=c.2):fAt (f0C C) c=if c∈C.bl then -1 else if c∈C.po then (C.po.idxOf c:Int)+1 else 0:=by
 have e:((c.1.toNat:Int),(c.2.toNat:Int))=c:=by rw [Int.toNat_of_nonneg h1,Int.toNat_of_nonneg h2]
 unfold fAt f0C kd
 rw [e]
 by_cases hb:c∈C.bl
 . rw [if_pos (List.mem_append_left _ hb),if_pos hb,List.idxOf_append,if_pos hb,if_pos (List.idxOf_lt_length_of_mem hb)]
 . rw [if_neg hb]
   by_cases hp:c∈C.po
   . rw [if_pos (List.mem_append_right _ hp),if_pos hp,List.idxOf_append,if_neg hb,if_neg (by omega)]
     omega
   . rw [if_neg (by simp [hb,hp]),if_neg hp]
theorem O1 (hw:ax C.w 1 16=true) (hk:ax C.h 1 16=true) (c:Cell):oc (wC C) (kC C) (f0C C) c=nc C c:=by
 unfold oc nc
 rw [px hw hk]
 cases hc:inB C c with
 |false=>rfl
 |true=>
   have hc':=hc
   rw [<- px hw hk]at hc'
   obtain ⟨a1,a2,a3,a4⟩:=jc.1 hc'
   rw [M0 a1 a3]
   simp only [Bool.true_and]
   rw [Bool.eq_iff_iff]
   by_cases hb:c∈C.bl
   . simp [hb,List.count_eq_zero]
   . have:List.count c C.bl=0:=List.count_eq_zero.2 hb
     rw [if_neg hb]
     simp only [this,beq_self_eq_true,iff_true]
     split
     . simp;omega
     . simp
theorem Ao (hw:ax C.w 1 16=true) (hk:ax C.h 1 16=true) (p:Pose):dg (wC C) (kC C) (f0C C) p=fi C p:=by
 unfold dg fi
 rw [O1 hw hk,O1 hw hk]
theorem Pd (hw:ax C.w 1 16=true) (hk:ax C.h 1 16=true) {c:Cell} (hc:inB C c=true):vc (wC C) (kC C) (f0C C) c.1.toNat c.2.toNat=(decide (c∈C.bl)||lj C c):=by
 have hc':=hc
 rw [<- px hw hk]at hc'
 obtain ⟨a1,a2,a3,a4⟩:=jc.1 hc'
 have e1:(c.1.toNat:Int)=c.1:=Int.toNat_of_nonneg a1
 have e2:(c.2.toNat:Int)=c.2:=Int.toNat_of_nonneg a3
 have hf:=M0 (C:=C) a1 a3
 unfold vc
 rw [Ao hw hk,Ao hw hk]
 rw [show f0C C c.1.toNat c.2.toNat=fAt (f0C C) c from rfl,hf]
 unfold fi east lj
 simp only [e1,e2]
 by_cases hb:c∈C.bl
 . simp [hb]
 . have ho:nc C (c.1,c.2)=true:=by
     unfold nc
     rw [show ((c.1,c.2):Cell)=c from rfl,hc]
     simp [List.count_eq_zero.2 hb]
   rw [if_neg hb,ho]
   have hne:((if c∈C.po then (C.po.idxOf c:Int)+1 else 0) == -1)=false:=by
     split
     . simp;omega
     . rfl
   rw [hne]
   simp [hb]
theorem Db {c:Cell}:rh C c=true↔c∈C.ro.flatMap bz:=by
 unfold rh
 rw [List.any_eq_true,List.mem_flatMap]
 refine exists_congr fun p=>and_congr_right fun _=>?_
 rw [decide_eq_true_eq,<- List.count_pos_iff]
 omega
theorem ah9 {c:Cell}:H7 C c<0↔c∉C.po:=by
 unfold H7
 split
 . rename_i h;simp [h]<;>omega
 . rename_i h;simp [h]
theorem f1_at (hw:ax C.w 1 16=true) (hk:ax C.h 1 16=true) {c:Cell} (hc:inB C c=true):fAt (f1 (wC C) (kC C) (f0C C)) c=if c∈C.bl then -1 else if lj C c=true then (if c∈C.po then (C.po.idxOf c:Int)+1 else 0)else -2:=by
 have hc':=hc
 rw [<- px hw hk]at hc'
 obtain ⟨a1,a2,a3,a4⟩:=jc.1 hc'
 unfold fAt f1
 rw [Pd hw hk hc,show f0C C c.1.toNat c.2.toNat=fAt (f0C C) c from rfl,M0 a1 a3]
 by_cases hb:c∈C.bl
 . simp [hb]
 . by_cases hs:lj C c=true
   . simp [hb,hs]
   . simp [hb,hs]
theorem f3_at (hw:ax C.w 1 16=true) (hk:ax C.h 1 16=true) {c:Cell} (hc:inB C c=true):fAt (f3C C) c=if rh C c=true then -2 else if c∈C.bl then -1 else if lj C c=true then (if c∈C.po then (C.po.idxOf c:Int)+1 else 0)else -2:=by
 have hc':=hc
 rw [<- px hw hk]at hc'
 obtain ⟨a1,a2,a3,a4⟩:=jc.1 hc'
 have e:((c.1.toNat:Int),(c.2.toNat:Int))=c:=by rw [Int.toNat_of_nonneg a1,Int.toNat_of_nonneg a3]
 have h1:=f1_at hw hk hc
 unfold f3C fAt f2
 rw [e]
 by_cases hh:c∈C.ro.flatMap bz
 . rw [if_pos hh,if_pos (Db.2 hh)]
 . rw [if_neg hh,if_neg (fun q=>hh (Db.1 q))]
   exact h1
theorem Hm (hw:ax C.w 1 16=true) (hk:ax C.h 1 16=true) (c:Cell):(inW (wC C) (kC C) c=true/\fAt (f3C C) c=0)↔si C c=true:=by
 rw [px hw hk]
 unfold si nc
 cases hc:inB C c with
 |false=>simp
 |true=>
   rw [f3_at hw hk hc]
   simp only [Bool.true_and,true_and,Bool.and_eq_true,decide_eq_true_eq,beq_iff_eq,Bool.not_eq_true',ah9,List.count_eq_zero]
   by_cases hh:rh C c=true
   . simp [hh]
   . have hh':rh C c=false:=by simpa using hh
     by_cases hb:c∈C.bl
     . simp [hh',hb]
     . by_cases hs:lj C c=true
       . by_cases hp:c∈C.po
         . simp [hh',hb,hs,hp];omega
         . simp [hh',hb,hs,hp]
       . have hs':lj C c=false:=by simpa using hs
         simp [hh',hb,hs']
theorem Wv:(∀n∈[C.un,C.ac,C.sp,C.tu,C.ho,C.re],ax n 1 1000=true)↔ax C.un 1 1000=true/\ax C.ac 1 1000=true/\ax C.sp 1 1000=true/\ax C.tu 1 1000=true/\ax C.ho 1 1000=true/\ax C.re 1 1000=true:=by
 simp only [List.mem_cons,List.not_mem_nil,or_false,forall_eq_or_imp,forall_eq]
theorem uz:cj C↔Zk C:=by
 constructor
 . intro M
   have hw:=M.laid.w
   have hk:=M.laid.h
   obtain ⟨e1,e2,w1,w2,k1,k2⟩:=ru hw hk
   have hm:wC C*kC C<=16*16:=Nat.mul_le_mul w2 k2
   obtain ⟨s1,s2,s3,s4,s5,s6⟩:=Wv.1 M.six
   have hnd:=List.nodup_append.1 M.laid.once
   have hall:=M.laid.all
   have hin:∀c∈C.bl++C.po,inB C c=true:=fun c hc=>by rw [<- px hw hk];exact hall c hc
   have hpb:∀c∈C.po,lj C c=true:=fun c hc=>by
     have hcin:=hin c (List.mem_append_right _ hc)
     have hcw:=hall c (List.mem_append_right _ hc)
     obtain ⟨a1,a2,a3,a4⟩:=jc.1 hcw
     have hnb:c∉C.bl:=fun hb=>hnd.2.2 c hb c hc rfl
     have hkeep:=Pd hw hk hcin
     cases hs:lj C c with
     |true=>rfl
     |false=>
       exfalso
       have:=M.rob.plain c.1.toNat c.2.toNat (by omega) (by omega) (by rw [hkeep,hs];simp [hnb])
       rw [show f0C C c.1.toNat c.2.toNat=fAt (f0C C) c from rfl,M0 a1 a3,if_neg hnb,if_pos hc]at this
       omega
   refine ⟨?_,M.laid.po8,M.rob.r8,?_,fun c hc=>⟨hin c (List.mem_append_left _ hc),List.nodup_iff_count.1 hnd.1 c,List.count_eq_zero.2 fun hp=>hnd.2.2 c hc c hp rfl⟩,
     fun c hc=>⟨hin c (List.mem_append_right _ hc),List.nodup_iff_count.1 hnd.2.1 c,?_,hpb c hc⟩,fun p hp=>by rw [<- Ao hw hk];exact M.rob.fit p hp,fun c _=>List.nodup_iff_count.1 M.rob.once c,?_⟩
   . unfold og
     simp [hw,hk,M.ht,M.qu,M.bu,s1,s2,s3,s4,s5,s6]
   . have:=Ap (w:=wC C) (k:=kC C) hnd.1 (fun c hc=>hall c (List.mem_append_left _ hc))
     omega
   . cases hh:rh C c with
     |false=>rfl
     |true=>
       exfalso
       have:=M.rob.low c (Db.1 hh)
       rw [f1_at hw hk (hin c (List.mem_append_right _ hc)),if_neg (fun hb=>hnd.2.2 c hb c hc rfl),if_pos (hpb c hc),if_pos hc]at this
       omega
   . refine ⟨?_,fun s hs=>?_,M.sta.apart,M.sta.most,M.sta.nums,M.sta.once⟩
     . have:=Ap (w:=wC C) (k:=kC C) M.sta.apart (fun c hc=>by
         obtain ⟨s,hs,rfl⟩:=List.mem_map.1 hc
         exact (M.sta.each s hs).1)
       rw [List.length_map]at this
       omega
     . obtain ⟨q1,q2,q3⟩:=M.sta.each s hs
       exact ⟨(Hm hw hk s.1).1 ⟨q1,q2⟩,q3⟩
 . intro M
   have hn:=M.nums
   unfold og at hn
   simp only [Bool.and_eq_true]at hn
   obtain ⟨hw,hk,hht,s1,s2,s3,s4,s5,s6,hqu,hbu⟩:=hn
   obtain ⟨e1,e2,w1,w2,k1,k2⟩:=ru hw hk
   have hin:∀c∈C.bl++C.po,inW (wC C) (kC C) c=true:=fun c hc=>by
     rw [px hw hk]
     rcases List.mem_append.1 hc with h|h
     . exact (M.blk c h).1
     . exact (M.prt c h).1
   have hnb:C.bl.Nodup:=List.nodup_iff_count.2 fun c=>by
     by_cases hc:c∈C.bl
     . exact (M.blk c hc).2.1
     . rw [List.count_eq_zero.2 hc];omega
   have hnp:C.po.Nodup:=List.nodup_iff_count.2 fun c=>by
     by_cases hc:c∈C.po
     . exact (M.prt c hc).2.1
     . rw [List.count_eq_zero.2 hc];omega
   have hdis:∀a∈C.bl,∀b∈C.po,a≠b:=fun a ha b hb e=>by
     have:=(M.blk a ha).2.2
     rw [List.count_eq_zero]at this
     exact this (e▸hb)
   have hnd:(C.bl++C.po).Nodup:=List.nodup_append.2 ⟨hnb,hnp,hdis⟩
   have hlaid:Ra C:=⟨hw,hk,M.po8,by
     have:=Ap (w:=wC C) (k:=kC C) hnb (fun c hc=>hin c (List.mem_append_left _ hc))
     rw [e1,e2,<- Int.natCast_mul];omega,hin,hnd⟩
   have hro:∀c∈C.ro.flatMap bz,inB C c=true/\c∉C.bl:=fun c hc=>by
     obtain ⟨p,hp,hcp⟩:=List.mem_flatMap.1 hc
     have hf:=M.fit p hp
     rw [<- Ao hw hk]at hf
     obtain ⟨q1,q2⟩:=o9 hf c hcp
     obtain ⟨a1,a2,a3,a4⟩:=jc.1 q1
     refine ⟨by rw [<- px hw hk];exact q1,fun hb=>q2 ?_⟩
     rw [M0 a1 a3,if_pos hb]
   refine ⟨Wv.2 ⟨s1,s2,s3,s4,s5,s6⟩,hht,hqu,hbu,hlaid,⟨M.ro8,fun x y hx hy hkp=>?_,fun p hp=>by rw [Ao hw hk];exact M.fit p hp,fun c hc=>?_,?_⟩,⟨fun s hs=>?_,M.bins.apart,M.bins.nums,M.bins.once,M.bins.most⟩⟩
   . have hcw:inW (wC C) (kC C) ((x:Int),(y:Int))=true:=jc.2 ⟨by simp,by simpa using hx,by simp,by simpa using hy⟩
     have hcb:=hcw
     rw [px hw hk]at hcb
     have hkeep:=Pd hw hk hcb
     simp only [Int.toNat_natCast]at hkeep
     rw [hkp]at hkeep
     have h0:=M0 (C:=C) (c:=((x:Int),(y:Int))) (by simp) (by simp)
     unfold fAt at h0
     simp only [Int.toNat_natCast]at h0
     rw [h0]
     by_cases hp:((x:Int),(y:Int))∈C.po
     . have:=(M.prt _ hp).2.2.2
       rw [this]at hkeep
       simp at hkeep
     . rw [if_neg hp]
       split<;>omega
   . obtain ⟨q1,q2⟩:=hro c hc
     rw [f1_at hw hk q1,if_neg q2]
     split
     . have hnp':c∉C.po:=fun hp=>by
         have:=(M.prt c hp).2.2.1
         rw [Db.2 hc]at this
         cases this
       rw [if_neg hnp']
       exact Int.le_refl _
     . omega
   . exact List.nodup_iff_count.2 fun c=>by
       by_cases hc:c∈C.ro.flatMap bz
       . exact M.once c hc
       . rw [List.count_eq_zero.2 hc];omega
   . obtain ⟨q1,q2⟩:=M.bins.each s hs
     obtain ⟨q3,q4⟩:=(Hm hw hk s.1).2 q1
     exact ⟨q3,q4,q2⟩
end
end
section
variable {C:Conf}
theorem Xw (m:cj C) (x y:Nat):f3C C x y = -1↔f0C C x y = -1:=by
 unfold f3C
 refine Xx (fun c hc=>?_) x y
 obtain ⟨p,hp,hcp⟩:=List.mem_flatMap.1 hc
 exact (o9 (m.rob.fit p hp) c hcp).2
theorem ai2 (m:cj C) (c:Cell):oc (wC C) (kC C) (f3C C) c=nc C c:=by
 rw [<- O1 m.laid.w m.laid.h]
 exact yz (fun x y _ _=>Xw m x y) c
theorem py (m:cj C) (p:Pose):dg (wC C) (kC C) (f3C C) p=fi C p:=by
 rw [<- Ao m.laid.w m.laid.h]
 exact zn (fun x y _ _=>Xw m x y) p
theorem ai7 (m:cj C) (c:Cell):numI (wC C) (kC C) c=numR C c:=by
 unfold numI numR
 rw [px m.laid.w m.laid.h,(ru m.laid.w m.laid.h).1]
end
def ep:=jq bC (jq (jq (jq (jq (jq @Bool.and_true @Ds) (jq @Dr @ue)) (jq (jq @zx @cf100) (jq @cf22 @cf60))) (jq (jq (jq @cf98 @cf99) (jq @eq30 @zr)) (jq (jq @Bv @tk) (jq @Ex (jq @zq @al8))))) (jq (jq (jq (jq @fa48_1p @Vn) (jq @Pr @al7)) (jq (jq @Pq @Pp) (jq @De @ld26))) (jq (jq (jq @zi @ld28) (jq @t6 @ld3)) (jq (jq @ld30 @qw) (jq @ld3p (jq @ld4 @ne30p))))))
theorem Ou {G h:Hp} {p:Pose}:al P_ G 100 #[ja p] h (fun u h'=>∃ip s,u = .slice s 4 4/\Slc dr 28 ip u (ec (p.x,p.y))/\Sep [ip,h] h'/\Dis G h'):=by
 refine al.assume fun d=>au0 (by simp) ?_
 unfold S100
 simp only [ep]
 intro x hx gx
 generalize e1:Hp.set h x _=h1
 obtain ⟨l1,d1,b1⟩:=boxed e1 hx d gx
 have cx:∀j,af G h1 ⟨x,j,none⟩=_:=fun j=>aj (ai b1)
 try simp (disch:=first|decide|omega) only [ep,Nat.reduceAdd,Nat.reduceMul,cx]
 intro b hb gb
 refine ⟨noHp.set b _,some ⟨b,0,none⟩,rfl,⟨some b,4,[],rfl,ag,rfl⟩,(Sep.one.new (hb)).swap.cut l1 |>.swap,d1.set gb⟩
def tc (C:Conf) (m:Move) (i:Nat):Bool:=fi C (dw m.f m.d ((i:Int)+1))
def df (C:Conf) (m:Move):Bool:=fi C m.f&&
 (if m.k=1 then ax m.n 1 16&&(ax m.d 0 3&&(decide (m.t=dw m.f m.d m.n)&&(List.range m.n.toNat).all (tc C m)))
  else if m.k=2 then (ec (m.f.x,m.f.y)).all (nc C)&&(decide (m.n=0)&&(decide (m.d=0)&&decide (m.t=yg m.f)))
  else decide (m.k=3\/m.k=4)&&(decide (m.n=0)&&(decide (m.d=0)&&decide (m.t=m.f))))
theorem ne_pose {p q:Pose}:(!((p.x==q.x&&p.y==q.y)&&(p.d==q.d))) = !decide (p=q):=by rw [pi]
theorem Dk {n:Int}:(n==0)=decide (n=0):=by rw [Bool.eq_iff_iff];simp
theorem R2 {G h:Hp} {v:Value} {C:Conf} {m:Move} (hv:CV G h v C) (hL:C.bl.length<=100000000000000):al P_ G 45 #[v,Fm m] h (fun u h'=>u = .bool (df C m)/\h'=h):=by
 have hv0:=hv
 obtain ⟨ab,cb,ap,cp,ar,cr,az,cs,rfl,ca⟩:=hv
 refine al.assume fun d=>quietly (enter45 (by simp) ?_)
 unfold S45
 simp only [ep,Nat.reduceAdd]
 intro x hx gx
 generalize e1:Hp.set h x _=h1
 obtain ⟨l1,d1,b1⟩:=boxed e1 hx d gx
 intro y hy gy
 generalize e2:Hp.set h1 y _=h2
 obtain ⟨l2,d2,b2⟩:=boxed e2 hy d1 gy
 have L:=l1.trans l2
 have bx:=l2 _ _ b1
 have cx:∀j,af G h2 ⟨x,j,none⟩=_:=fun j=>aj (ai bx)
 have cy:∀j,af G h2 ⟨y,j,none⟩=_:=fun j=>aj (ai b2)
 have hv2:=hv0.up L d2
 try simp only [ep,cx,cy]
 refine (vq (p:=m.f) hv2 hL).mono ?_
 rintro _ h2 ⟨rfl,rfl⟩
 have fin:∀b,df C m=b->(Value.bool b = .bool (df C m)/\h.le h2):=fun b e=>⟨by rw [e],L⟩
 cases hf:fi C m.f with
 |false=>
   try simp only [ep]
   exact fin _ (by unfold df;rw [hf];rfl)
 |true=>
 try simp only [ep]
 unfold az6
 try simp (disch:=decide) only [ep,Nat.reduceAdd,cy]
 by_cases hk1:m.k=1
 . have el:df C m=(ax m.n 1 16&&(ax m.d 0 3&&(decide (m.t=dw m.f m.d m.n)&&(List.range m.n.toNat).all (tc C m)))):=by
     unfold df
     rw [if_pos hk1,hf,Bool.true_and]
   try simp only [ep,show (m.k==1)=true by simp [hk1]]
   refine ⟨h2,Hp.le.refl _,?_⟩
   try simp only [ep,cy]
   refine (gm (n:=m.n) (a:=1) (b:=16)).mono ?_
   rintro _ h2 ⟨rfl,rfl⟩
   refine ⟨Hp.le.refl _,?_⟩
   cases hn:ax m.n 1 16 with
   |false=>try simp only [ep];exact fin _ (by rw [el,hn];rfl)
   |true=>
   try simp only [ep,cy]
   refine (gm (n:=m.d) (a:=0) (b:=3)).mono ?_
   rintro _ h2 ⟨rfl,rfl⟩
   refine ⟨Hp.le.refl _,?_⟩
   cases hd:ax m.d 0 3 with
   |false=>try simp only [ep];exact fin _ (by rw [el,hn,hd];rfl)
   |true=>
   try simp only [ep,Nat.reduceAdd,cy]
   refine (Fk (p:=m.f) (dir:=m.d) (n:=m.n)).mono ?_
   rintro _ h2 ⟨rfl,rfl⟩
   refine ⟨Hp.le.refl _,?_⟩
   try simp only [ep,ne_pose]
   cases ht:decide (m.t=dw m.f m.d m.n)with
   |false=>try simp only [ep];exact fin _ (by rw [el,hn,hd,ht];rfl)
   |true=>
   try simp only [ep]
   unfold az5
   obtain ⟨n1,n16⟩:=dv.1 hn
   refine di (fun mm r h3=>∃i:Nat,mm=m.n.toNat-i/\i<=m.n.toNat/\r 2 = .pointer (some ⟨x,0,none⟩)/\r 3 = .pointer (some ⟨y,0,none⟩)/\r 5 = .int .i64 ((i:Int)+1)/\h3=h2/\∀j,j<i->tc C m j=true) ?_
     (m:=m.n.toNat) ⟨0,rfl,Nat.zero_le _,by simp (disch:=decide) only [ep],by simp (disch:=decide) only [ep],by simp only [ep]<;>rfl,rfl,by simp⟩
   rintro mm r h3 ⟨i,rfl,hi,g2,g3,g5,rfl,hs⟩ X HX
   unfold az2
   simp only [ep,g3,g5,cy]
   refine bv (fun hle=>?_) (fun hgt=>?_)
   rotate_left
   . obtain rfl:i=m.n.toNat:=by omega
     try simp (disch:=first|decide|omega) only [ep,Nat.reduceAdd,Nat.reduceMul]
     unfold az4
     try simp only [ep]
     refine fin _ ?_
     rw [el,hn,hd,ht]
     simp only [Bool.true_and,List.all_eq_true,List.mem_range]
     exact fun j hj=>hs j hj
   unfold Nx
   refine ⟨h3,Hp.le.refl _,?_⟩
   try simp (disch:=decide) only [ep,Nat.reduceAdd,g2,g3,g5,cx,cy]
   refine (Fk (p:=m.f) (dir:=m.d) (n:=(i:Int)+1)).mono ?_
   rintro _ h3 ⟨rfl,rfl⟩
   refine ⟨Hp.le.refl _,?_⟩
   refine (vq (p:=dw m.f m.d ((i:Int)+1)) hv2 hL).mono ?_
   rintro _ h3 ⟨rfl,rfl⟩
   cases hb:fi C (dw m.f m.d ((i:Int)+1))with
   |false=>
     try simp only [ep]
     refine fin _ ?_
     rw [el,hn,hd,ht]
     have:(List.range m.n.toNat).all (tc C m)=false:=by
       rw [List.all_eq_false]
       exact ⟨i,List.mem_range.2 (by omega),by unfold tc;rw [hb];simp⟩
     rw [this]
     rfl
   |true=>
     try simp only [ep]
     unfold Nw
     try simp (disch:=first|decide|omega) only [ep,g5]
     exact HX (m.n.toNat-(i+1)) _ _ (by omega) ⟨i+1,rfl,by omega,by simp (disch:=decide) only [ep,g2],by simp (disch:=decide) only [ep,g3],by simp only [ep]<;>rfl,rfl,yu hs hb⟩
 have ek1:(m.k==1)=false:=by simp [hk1]
 have el:df C m=(if m.k=2 then (ec (m.f.x,m.f.y)).all (nc C)&&(decide (m.n=0)&&(decide (m.d=0)&&decide (m.t=yg m.f)))else decide (m.k=3\/m.k=4)&&(decide (m.n=0)&&(decide (m.d=0)&&decide (m.t=m.f)))):=by
   unfold df
   rw [if_neg hk1,hf,Bool.true_and]
 by_cases hk2:m.k=2
 . rw [if_pos hk2]at el
   try simp only [ep,cy,ek1,show (m.k==2)=true by simp [hk2]]
   refine (Ou (p:=m.f)).mono ?_
   rintro _ h4 ⟨ip,sa,rfl,o,s4,d4⟩
   have hv4:=hv2.up (s4.in 1 rfl) d4
   have cx4:∀j,af G h4 ⟨x,j,none⟩=_:=fun j=>aj (ai (s4.at 1 rfl bx))
   have cy4:∀j,af G h4 ⟨y,j,none⟩=_:=fun j=>aj (ai (s4.at 1 rfl b2))
   have fin:∀b,df C m=b->(Value.bool b = .bool (df C m)/\h.le h4):=fun b e=>⟨by rw [e],L.trans (s4.in 1 rfl)⟩
   refine di (fun mm r h3=>∃i:Nat,mm=4-i/\i<=4/\r 2 = .pointer (some ⟨x,0,none⟩)/\r 3 = .pointer (some ⟨y,0,none⟩)/\r 6 = .slice sa 4 4/\r 7 = .int .i64 i/\h3=h4/\((ec (m.f.x,m.f.y)).take i).all (nc C)=true) ?_
     (m:=4) ⟨0,rfl,Nat.zero_le _,by simp (disch:=decide) only [ep],by simp (disch:=decide) only [ep],by simp (disch:=decide) only [ep],by simp only [ep]<;>rfl,rfl,by simp⟩
   rintro mm r h3 ⟨i,rfl,hi,g2,g3,g6,g7,rfl,hs⟩ X HX
   unfold az1
   simp only [ep,g7]
   refine bv (fun hlt=>?_) (fun hge=>?_)
   rotate_left
   . obtain rfl:i=4:=by omega
     rw [List.take_of_length_le (show (ec (m.f.x,m.f.y)).length<=4 from Nat.le_refl 4)]at hs
     rw [hs,Bool.true_and]at el
     try simp (disch:=first|decide|omega) only [ep,Nat.reduceAdd,Nat.reduceMul]
     unfold az3
     try simp (disch:=decide) only [ep,g3,cy4,Dk]
     cases hn:decide (m.n=0)with
     |false=>try simp only [ep];exact fin _ (by rw [el,hn];rfl)
     |true=>
     try simp only [ep,g3,cy4,Dk]
     cases hd:decide (m.d=0)with
     |false=>try simp only [ep];exact fin _ (by rw [el,hn,hd];rfl)
     |true=>
     try simp only [ep,Nat.reduceAdd,g3,cy4]
     refine fin _ ?_
     rw [el,hn,hd,<- pi]
     rfl
   have hlt':i<4:=by omega
   obtain ⟨c,hc⟩:∃c,(ec (m.f.x,m.f.y))[i]?=some c:=⟨_,List.getElem?_eq_getElem (by simpa [ec]using hlt')⟩
   obtain ⟨b,ofs,rfl,z0,z1⟩:=Sees.cell (L:=ec (m.f.x,m.f.y)) (G:=G) (o.sees (by decide) (s4.in 0 rfl)) hc
   unfold Jo
   try simp (disch:=decide) only [ep,g2,g6,g7,cx4,qe (Int.natCast_nonneg i) (show (i:Int)<(4:Nat)by omega),z0,z1]
   refine (qj (c:=c) hv4 hL).mono ?_
   rintro _ h3 ⟨rfl,rfl⟩
   have hcm:c∈ec (m.f.x,m.f.y):=List.mem_of_getElem? hc
   cases hb:nc C c with
   |false=>
     try simp only [ep]
     refine fin _ ?_
     have:(ec (m.f.x,m.f.y)).all (nc C)=false:=by
       rw [List.all_eq_false]
       exact ⟨c,hcm,by simp [hb]⟩
     rw [el,this]
     rfl
   |true=>
     try simp only [ep]
     unfold Jn
     try simp (disch:=first|decide|omega) only [ep,g7]
     refine HX (4-(i+1)) _ _ (by omega) ⟨i+1,rfl,hlt',by simp (disch:=decide) only [ep,g2],by simp (disch:=decide) only [ep,g3],by simp (disch:=decide) only [ep,g6],by simp only [ep]<;>rfl,rfl,?_⟩
     rw [List.take_add_one,hc]
     simp [hs,hb]
 have ek2:(m.k==2)=false:=by simp [hk2]
 rw [if_neg hk2]at el
 by_cases hk34:m.k=3\/m.k=4
 rotate_left
 . try simp only [ep,cy,ek1,ek2,show (m.k==3)=false by simp;omega,show (m.k==4)=false by simp;omega]
   unfold D4
   try simp (disch:=decide) only [ep]
   unfold Qe
   try simp only [ep]
   exact fin _ (by rw [el,decide_eq_false hk34];rfl)
 rw [decide_eq_true hk34,Bool.true_and]at el
 have k12:∀r:Rg,r 3 = .pointer (some ⟨y,0,none⟩)->r 91 = .bool true->D4 G (retK P_ G [.tmp 4] fun u h'=>u = .bool (df C m)/\h.le h') r h2:=by
   intro r g3 g91
   unfold D4
   simp only [ep,g91,g3,cy,Dk]
   cases hn:decide (m.n=0)with
   |false=>try simp only [ep];exact fin _ (by rw [el,hn];rfl)
   |true=>
   try simp only [ep,g3,cy,Dk]
   cases hd:decide (m.d=0)with
   |false=>try simp only [ep];exact fin _ (by rw [el,hn,hd];rfl)
   |true=>
   try simp only [ep,Nat.reduceAdd,g3,cy]
   refine fin _ ?_
   rw [el,hn,hd,<- pi]
   rfl
 rcases hk34 with h3|h4
 . try simp only [ep,cy,ek1,ek2,show (m.k==3)=true by simp [h3]]
   exact k12 _ (by simp (disch:=decide) only [ep]) (by simp only [ep])
 . try simp only [ep,cy,ek1,ek2,show (m.k==3)=false by simp [h4],show (m.k==4)=true by simp [h4]]
   exact k12 _ (by simp (disch:=decide) only [ep]) (by simp only [ep])
section
variable {C:Conf}
theorem Rs {p:Pose} (hp:PB p) {d:Int}:gj p d 0=p:=by
 obtain ⟨h1,h2⟩:=hp
 unfold gj
 rw [Int.zero_mul,Int.zero_mul,Int.add_zero,Int.add_zero,Lh h1,Lh h2]
theorem Jl {s:Nat->Bool} {n:Nat}:(List.range (n+1)).all s=(s 0&&(List.range n).all fun i=>s (i+1)):=by
 rw [List.range_succ_eq_map,List.all_cons,List.all_map]
 rfl
theorem Ig (m:cj C) {v:Move} (hp:PB v.f):wayB (wC C) (kC C) (f3C C) v=df C v:=by
 have ho:=ai2 m
 have hf:=py m
 unfold wayB df
 rw [hf]
 cases hfp:fi C v.f with
 |false=>rfl
 |true=>
 rw [Bool.true_and,Bool.true_and]
 by_cases hk1:v.k=1
 . rw [if_pos hk1,if_pos hk1,Jl]
   have e0:qa (wC C) (kC C) (f3C C) v 0=ax v.d 0 3:=by
     unfold qa okS
     rw [hf,show ((0:Nat):Int)=0 from rfl,Rs hp,hfp,show ax 0 0 16=true from rfl]
     simp
   rw [e0]
   cases hd:ax v.d 0 3 with
   |false=>simp
   |true=>
   have hd2:=dv.1 hd
   by_cases hn:1<=v.n
   . by_cases hn2:v.n<=16
     . rw [decide_eq_true hn,show ax v.n 1 16=true from dv.2 ⟨hn,hn2⟩,um hp hd2]
       have:((List.range v.n.toNat).all fun i=>qa (wC C) (kC C) (f3C C) v (i+1))=(List.range v.n.toNat).all (tc C v):=by
         rw [Bool.eq_iff_iff,List.all_eq_true,List.all_eq_true]
         have e:∀i∈List.range v.n.toNat,qa (wC C) (kC C) (f3C C) v (i+1)=tc C v i:=by
           intro i hi
           have hi:=List.mem_range.1 hi
           unfold qa tc okS
           rw [hd,show ax ((i+1:Nat):Int) 0 16=true from dv.2 (by omega),hf,um hp hd2]
           rfl
         exact ⟨fun h i hi=>by rw [<- e i hi];exact h i hi,fun h i hi=>by rw [e i hi];exact h i hi⟩
       rw [this]
       simp only [Bool.true_and]
       rw [Bool.and_comm]
     . have h1:((List.range v.n.toNat).all fun i=>qa (wC C) (kC C) (f3C C) v (i+1))=false:=by
         rw [List.all_eq_false]
         refine ⟨16,List.mem_range.2 (by omega),?_⟩
         unfold qa okS
         rw [show ax ((16+1:Nat):Int) 0 16=false from rfl]
         simp
       have h2:ax v.n 1 16=false:=by
         cases h:ax v.n 1 16 with
         |false=>rfl
         |true=>exact absurd (dv.1 h).2 hn2
       rw [h1,h2]
       simp
   . have h2:ax v.n 1 16=false:=by
       cases h:ax v.n 1 16 with
       |false=>rfl
       |true=>exact absurd (dv.1 h).1 hn
     rw [decide_eq_false hn,h2]
     simp
 . rw [if_neg hk1,if_neg hk1]
   have e1:decide (v.d=0/\v.n=0)=(decide (v.n=0)&&decide (v.d=0)):=by
     rw [Bool.eq_iff_iff];simp [and_comm]
   rw [e1]
   by_cases hk2:v.k=2
   . rw [if_pos hk2,if_pos hk2]
     have e2:(ec (v.f.x,v.f.y)).all (oc (wC C) (kC C) (f3C C))=(ec (v.f.x,v.f.y)).all (nc C):=by
       congr 1
       funext c
       exact ho c
     rw [e2]
     cases decide (v.n=0)<;>cases decide (v.d=0)<;>simp
   . rw [if_neg hk2,if_neg hk2]
     cases decide (v.n=0)<;>cases decide (v.d=0)<;>simp
def mkR (p:Pose) (d n:Nat):Move:=⟨1,d,n,p,dw p d n,0,0⟩
def rrunD (C:Conf) (p:Pose) (d:Nat):List Move:=kz (fun n=>df C (mkR p d n)) (mkR p d) 1 16
def Cp (C:Conf) (p:Pose):List Move:=if fi C p=true then lx (rrunD C p) 0 4++(if df C (m9 p)=true then [m9 p]else [])else []
theorem F2 {α:Type} {D E:Nat->List α}:∀{k i:Nat},(∀j,i<=j->j<i+k->D j=E j)->lx D i k=lx E i k
 |0,i,_=>rfl
 |k+1,i,h=>by
   unfold lx
   rw [h i (Nat.le_refl _) (by omega),F2 fun j h1 h2=>h j (by omega) (by omega)]
theorem ag4 (m:cj C) {p:Pose} (hp:PB p) (hf:fi C p=true) {d:Nat} (hd:d<4):∀(k n:Nat),1<=n->n+k<=17->(∀j,1<=j->j<n->fi C (dw p d j)=true)->
   kz (C1 (wC C) (kC C) (f3C C) p d) (uy p d) n k=kz (fun n=>df C (mkR p d n)) (mkR p d) n k
 |0,n,_,_,_=>rfl
 |k+1,n,h1,h2,h3=>by
   have hd2:(0:Int)<=(d:Int)/\(d:Int)<=3:=by omega
   have e1:C1 (wC C) (kC C) (f3C C) p d n=fi C (dw p d n):=by
     unfold C1
     rw [py m,um hp hd2]
   have e2:uy p d n=mkR p d n:=by
     unfold uy mkR
     rw [um hp hd2]
   have e3:df C (mkR p d n)=fi C (dw p d n):=by
     unfold df
     rw [show (mkR p d n).f=p from rfl,hf,Bool.true_and,if_pos (show (mkR p d n).k=1 from rfl),show ax (mkR p d n).n 1 16=true from dv.2 (show (1:Int)<=(n:Int)/\(n:Int)<=16 by omega),show ax (mkR p d n).d 0 3=true from dv.2 hd2,show decide ((mkR p d n).t=dw p (mkR p d n).d (mkR p d n).n)=true from decide_eq_true rfl,show (mkR p d n).n.toNat=(n-1)+1 from (by show (n:Int).toNat=_;omega),List.range_succ,List.all_append]
     have e4:(List.range (n-1)).all (tc C (mkR p d n))=true:=by
       rw [List.all_eq_true]
       intro i hi
       have hi:=List.mem_range.1 hi
       exact h3 (i+1) (by omega) (by omega)
     rw [e4]
     show (true&&(true&&(true&&(true&&(fi C (dw p d (((n-1:Nat):Int)+1))&&true)))))=_
     rw [show ((n-1:Nat):Int)+1=(n:Int)by omega]
     simp
   unfold kz
   rw [e1,e2,e3]
   cases hb:fi C (dw p d n)with
   |false=>rfl
   |true=>
     rw [if_pos rfl,if_pos rfl,ag4 m hp hf hd k (n+1) (by omega) (by omega) fun j a b=>by
       by_cases hj:j<n
       . exact h3 j a hj
       . obtain rfl:j=n:=by omega
         exact hb]
theorem aj1 (m:cj C) {p:Pose} (hp:PB p):lr (wC C) (kC C) (f3C C) p=Cp C p:=by
 unfold lr Cp
 rw [py m,Ig m (v:=m9 p) hp]
 cases hf:fi C p with
 |false=>rfl
 |true=>
   rw [if_pos rfl,if_pos rfl]
   congr 1
   unfold Fj
   exact F2 fun j _ hj=>ag4 m hp hf (by omega) 16 1 (Nat.le_refl _) (by decide) fun j a b=>absurd b (by omega)
theorem Ek {α:Type} {p:Nat->Bool} {mk:Nat->α} {n k:Nat}:j5 p mk n (k+1)=if p n=true then mk n::j5 p mk (n+1) k else j5 p mk (n+1) k:=rfl
end
def eo:List Cell->List Cell
 |[]=>[]
 |a::L=>match L with
   |[]=>[a]
   |b::_=>if a=b then eo L else a::eo L
theorem nx {a b:Cell} {L:List Cell}:eo (a::b::L)=if a=b then eo (b::L)else a::eo (b::L):=rfl
theorem F4 {x:Cell}:∀{L:List Cell},x∈eo L↔x∈L:=by
 intro L
 induction L with
 |nil=>exact Iff.rfl
 |cons a L ih=>
   cases L with
   |nil=>exact Iff.rfl
   |cons b L=>
     rw [nx]
     by_cases h:a=b
     . rw [if_pos h,ih]
       subst h
       simp
     . rw [if_neg h,List.mem_cons,ih,List.mem_cons (a:=x) (b:=a)]
theorem I8 {n:Cell->Int} (inj:∀{L:List Cell},True):∀{L:List Cell},(∀a∈L,∀b∈L,n a=n b->a=b)->L.Pairwise (fun a b=>n a<=n b)->(eo L).Pairwise (fun a b=>n a<n b):=by
 intro L
 induction L with
 |nil=>intro _ _;exact .nil
 |cons a L ih=>
   intro hi hp
   obtain ⟨h1,h2⟩:=List.pairwise_cons.1 hp
   cases L with
   |nil=>exact List.pairwise_singleton _ _
   |cons b L=>
     have rest:=ih (fun x hx y hy=>hi x (.tail _ hx) y (.tail _ hy)) h2
     rw [nx]
     by_cases h:a=b
     . rw [if_pos h];exact rest
     . rw [if_neg h]
       refine List.pairwise_cons.2 ⟨fun x hx=>?_,rest⟩
       rw [F4]at hx
       have hab:n a<n b:=by
         have:=h1 b (.head _)
         have:n a≠n b:=fun e=>h (hi a (.head _) b (.tail _ (.head _)) e)
         omega
       rcases List.mem_cons.1 hx with rfl|hx'
       . exact hab
       . have:=(List.pairwise_cons.1 h2).1 x hx';omega
theorem Hu {n:Cell->Int}:∀{L M:List Cell},L.Pairwise (fun a b=>n a<n b)->M.Pairwise (fun a b=>n a<n b)->(∀x,x∈L↔x∈M)->L=M:=by
 intro L
 induction L with
 |nil=>
   intro M _ _ h
   cases M with
   |nil=>rfl
   |cons a M=>exact absurd ((h a).2 (.head _)) (by simp)
 |cons a L ih=>
   intro M hL hM h
   cases M with
   |nil=>exact absurd ((h a).1 (.head _)) (by simp)
   |cons b M=>
     obtain ⟨l1,l2⟩:=List.pairwise_cons.1 hL
     obtain ⟨m1,m2⟩:=List.pairwise_cons.1 hM
     have e:a=b:=by
       rcases List.mem_cons.1 ((h a).1 (.head _))with e|e
       . exact e
       . rcases List.mem_cons.1 ((h b).2 (.head _))with e'|e'
         . exact e'.symm
         . have:=m1 a e;have:=l1 b e';omega
     subst e
     rw [ih l2 m2 fun x=>?_]
     constructor
     . intro hx
       rcases List.mem_cons.1 ((h x).1 (.tail _ hx))with rfl|h2
       . have:=l1 _ hx;omega
       . exact h2
     . intro hx
       rcases List.mem_cons.1 ((h x).2 (.tail _ hx))with rfl|h2
       . have:=m1 _ hx;omega
       . exact h2
def ml (w k:Nat) (W:List Cell):List Cell:=lx (fun y=>j5 (fun x=>decide ((((x:Nat):Int),((y:Nat):Int))∈W)) (fun x=>(((x:Nat):Int),((y:Nat):Int))) 0 w) 0 k
def numW (w:Nat) (c:Cell):Int:=c.2*w+c.1
theorem Cx {α:Type} {p:Nat->Bool} {mk:Nat->α} {x:α}:∀{k n:Nat},x∈j5 p mk n k↔∃j,n<=j/\j<n+k/\p j=true/\x=mk j:=by
 intro k
 induction k with
 |zero=>intro n;simp [j5];intro j h1 h2;omega
 |succ k ih=>
   intro n
   rw [Ek]
   constructor
   . intro h
     split at h
     . rename_i hp
       rcases List.mem_cons.1 h with rfl|h'
       . exact ⟨n,Nat.le_refl _,by omega,hp,rfl⟩
       . obtain ⟨j,a,b,c,e⟩:=ih.1 h'
         exact ⟨j,by omega,by omega,c,e⟩
     . obtain ⟨j,a,b,c,e⟩:=ih.1 h
       exact ⟨j,by omega,by omega,c,e⟩
   . rintro ⟨j,a,b,c,rfl⟩
     by_cases hj:j=n
     . subst hj
       rw [if_pos c]
       exact .head _
     . have:=(ih (n:=n+1)).2 ⟨j,by omega,by omega,c,rfl⟩
       split
       . exact .tail _ this
       . exact this
theorem pick_pw {α:Type} {p:Nat->Bool} {mk:Nat->α} {R:α->α->Prop} (h:∀i j,i<j->R (mk i) (mk j)):∀{k n:Nat},(j5 p mk n k).Pairwise R:=by
 intro k
 induction k with
 |zero=>intro n;exact .nil
 |succ k ih=>
   intro n
   rw [Ek]
   split
   . refine List.pairwise_cons.2 ⟨fun x hx=>?_,ih⟩
     obtain ⟨j,a,_,_,rfl⟩:=Cx.1 hx
     exact h n j (by omega)
   . exact ih
theorem pc {w k:Nat} {W:List Cell} {x:Cell}:x∈ml w k W↔(0<=x.1/\x.1<w/\0<=x.2/\x.2<k)/\x∈W:=by
 unfold ml
 suffices H:∀(n i:Nat),x∈lx (fun y=>j5 (fun x=>decide ((((x:Nat):Int),((y:Nat):Int))∈W)) (fun x=>(((x:Nat):Int),((y:Nat):Int))) 0 w) i n↔∃y,i<=y/\y<i+n/\x∈j5 (fun x=>decide ((((x:Nat):Int),((y:Nat):Int))∈W)) (fun x=>(((x:Nat):Int),((y:Nat):Int))) 0 w by
   rw [H]
   constructor
   . rintro ⟨y,_,h2,h3⟩
     obtain ⟨j,_,j2,j3,rfl⟩:=Cx.1 h3
     exact ⟨⟨by simp,by simp;omega,by simp,by simp;omega⟩,by simpa using j3⟩
   . rintro ⟨⟨a,b,c,d⟩,h⟩
     obtain ⟨x1,x2⟩:=x
     refine ⟨x2.toNat,by omega,by simp at d c;omega,Cx.2 ⟨x1.toNat,by omega,by simp at a b;omega,?_,?_⟩⟩
     . simp only at a c
       rw [show ((x1.toNat:Nat):Int)=x1 by omega,show ((x2.toNat:Nat):Int)=x2 by omega]
       simpa using h
     . simp only at a c
       rw [show ((x1.toNat:Nat):Int)=x1 by omega,show ((x2.toNat:Nat):Int)=x2 by omega]
 intro n
 induction n with
 |zero=>intro i;simp [lx];intro y h1 h2;omega
 |succ n ih=>
   intro i
   rw [lx,List.mem_append,ih]
   constructor
   . rintro (h|⟨y,a,b,c⟩)
     . exact ⟨i,Nat.le_refl _,by omega,h⟩
     . exact ⟨y,by omega,by omega,c⟩
   . rintro ⟨y,a,b,c⟩
     by_cases e:y=i
     . subst e;exact .inl c
     . exact .inr ⟨y,by omega,by omega,c⟩
theorem rk {w k:Nat} {W:List Cell}:(ml w k W).Pairwise (fun a b=>numW w a<numW w b):=by
 unfold ml
 suffices H:∀(n i:Nat),(lx (fun y=>j5 (fun x=>decide ((((x:Nat):Int),((y:Nat):Int))∈W)) (fun x=>(((x:Nat):Int),((y:Nat):Int))) 0 w) i n).Pairwise (fun a b=>numW w a<numW w b)/\
     ∀x∈lx (fun y=>j5 (fun x=>decide ((((x:Nat):Int),((y:Nat):Int))∈W)) (fun x=>(((x:Nat):Int),((y:Nat):Int))) 0 w) i n,((i*w:Nat):Int)<=numW w x from (H k 0).1
 intro n
 induction n with
 |zero=>intro i;exact ⟨.nil,fun _ h=>by cases h⟩
 |succ n ih=>
   intro i
   rw [lx]
   obtain ⟨h1,h2⟩:=ih (i+1)
   have hrow:∀x∈j5 (fun x=>decide ((((x:Nat):Int),((i:Nat):Int))∈W)) (fun x=>(((x:Nat):Int),((i:Nat):Int))) 0 w,((i*w:Nat):Int)<=numW w x/\numW w x<(((i+1)*w:Nat):Int):=by
     intro x hx
     obtain ⟨j,_,j2,_,rfl⟩:=Cx.1 hx
     unfold numW
     simp only
     have e1:(((i+1)*w:Nat):Int)=((i*w:Nat):Int)+(w:Int):=by rw [Nat.succ_mul];push_cast;rfl
     have e2:((i:Nat):Int)*(w:Int)=((i*w:Nat):Int):=by push_cast;rfl
     rw [e1,e2]
     omega
   refine ⟨List.pairwise_append.2 ⟨pick_pw fun a b hab=>?_,h1,fun a ha b hb=>?_⟩,fun x hx=>?_⟩
   . unfold numW
     simp only
     omega
   . have:=(hrow a ha).2
     have:=h2 b hb
     omega
   . rcases List.mem_append.1 hx with h|h
     . exact (hrow x h).1
     . have:=h2 x h
       have e1:(((i+1)*w:Nat):Int)=((i*w:Nat):Int)+(w:Int):=by rw [Nat.succ_mul];push_cast;rfl
       omega
theorem Lf {w k:Nat} {W S:List Cell} (hw:0<w) (hin:∀c∈W,0<=c.1/\c.1<w/\0<=c.2/\c.2<k) (hp:S.Perm W) (hs:S.Pairwise fun a b=>numW w a<=numW w b):eo S=ml w k W:=by
 refine Hu (n:=numW w) (I8 (fun {_}=>trivial) (fun a ha b hb e=>?_) hs) rk fun x=>?_
 . obtain ⟨a1,a2,a3,a4⟩:=hin a (hp.mem_iff.1 ha)
   obtain ⟨b1,b2,b3,b4⟩:=hin b (hp.mem_iff.1 hb)
   obtain ⟨x,y⟩:=a
   obtain ⟨x',y'⟩:=b
   unfold numW at e
   simp only at*
   have ey:y=y':=by
     rcases Int.lt_trichotomy y y' with h|h|h
     . have:(y+1)*(w:Int)<=y'*w:=Int.mul_le_mul_of_nonneg_right (by omega) (by omega)
       rw [Int.add_mul,Int.one_mul]at this
       omega
     . exact h
     . have:(y'+1)*(w:Int)<=y*w:=Int.mul_le_mul_of_nonneg_right (by omega) (by omega)
       rw [Int.add_mul,Int.one_mul]at this
       omega
   subst ey
   rw [show x=x' by omega]
 . rw [F4,pc,hp.mem_iff]
   exact ⟨fun h=>⟨hin x h,h⟩,fun h=>h.2⟩
def ji:=jq bC (jq (jq @Bool.and_true (jq @X0 @ix22)) (jq (jq @ld28 @t6) (jq @ln22 @ne28p)))
theorem ad1 {P:Program} {G h:Hp} {α:Type} (c:Cod α) (d0:α) {T e:TypeId} (hu:P.underlying T=some (.slice e)) (hn:0<c.n) (hz:((P.info? e).bind (·.zero)).map (·.cells.toList)=some (c.enc d0)) {ty:TypeId} {b off n cap:Nat} {l:List Value} {e':TypeId}
   (hb:h b=some (.cells l.toArray e' (0,0))) (h0:0<n) (hfit:off+n*c.n<=l.length) {K:VK}
   (H:∀l':List Value,l'.length=l.length->l'.take off=l.take off->K (.tuple #[]) (h.set b (.cells l'.toArray e' (0,0)))):
   wpH P G (Builtin.clear_ #[T] ty #[.slice (some ⟨b,off,none⟩) n cap]) h K:=by
 cases hi:P.info? e with
 |none=>rw [hi]at hz;cases hz
 |some inf=>
 rw [hi]at hz
 simp only [Option.bind_some]at hz
 cases hzz:inf.zero with
 |none=>rw [hzz]at hz;cases hz
 |some z=>
 rw [hzz]at hz
 simp only [Option.map_some,Option.some.injEq]at hz
 obtain ⟨n',rfl⟩:∃n',n=n'+1:=⟨n-1,by omega⟩
 have hrow:=yn c d0 (n'+1) z.cells hz.symm hn
 have hsz:z.cells.size=c.n:=by rw [<- Array.length_toList,hz,c.len]
 have hcells:(Builtin.zeroCells z.cells (n'+1)).toList=c.rows (List.replicate (n'+1) d0):=by
   refine Eq.trans ?_ ((congrArg Array.toList hrow).trans (by simp))
   rw [<- hsz]
   rfl
 have key:wpH P G (storeCells ⟨b,off,none⟩ (c.rows (List.replicate (n'+1) d0))) h (fun _ h'=>K (.tuple #[]) h'):=by
   rw [od _ (k:=0) hb (by rw [c.rows_length,List.length_replicate];omega) (c.rows_one _)]
   exact H _ (yv _ _ _) (by
     rw [vu _ _ _ (by rw [c.rows_length,List.length_replicate];omega),List.append_assoc,List.take_append_of_le_length (by rw [List.length_take];omega),Nat.add_zero,List.take_take,Nat.min_self])
 unfold Builtin.clear_ underlying
 simp only [List.getElem?_toArray,List.getElem?_cons_zero,bind,da,program,wpH,hu,pure]
 simp only [zeroValue,typeInfo,program,bind,da,wpH,hi,hzz,pure]
 rw [hcells]
 exact key
theorem M6 {y x:Cell}:∀{T:List Cell},eo (T++[y,x])=if y=x then eo (T++[y])else eo (T++[y])++[x]
 |[]=>by
   show eo (y::[x])=if y=x then eo [y]else eo [y]++[x]
   rw [nx]
   by_cases h:y=x<;>simp [h,eo]
 |[a]=>by
   show eo (a::y::[x])=if y=x then eo (a::y::[])else eo (a::y::[])++[x]
   simp only [nx]
   by_cases h1:a=y<;>by_cases h2:y=x<;>simp [h1,h2,eo]
 |a::b::T=>by
   show eo (a::b::(T++[y,x]))=if y=x then eo (a::b::(T++[y]))else eo (a::b::(T++[y]))++[x]
   rw [nx,nx]
   have ih:=M6 (y:=y) (x:=x) (T:=b::T)
   simp only [List.cons_append]at ih
   rw [ih]
   by_cases h1:a=b<;>by_cases h2:y=x<;>simp [h1,h2]
theorem Au {L:List Cell} {k:Nat} {y x:Cell} (hk:1<=k) (hy:L[k-1]?=some y) (hx:L[k]?=some x):eo (L.take (k+1))=if y=x then eo (L.take k)else eo (L.take k)++[x]:=by
 obtain ⟨j,rfl⟩:∃j,k=j+1:=⟨k-1,by omega⟩
 rw [Nat.add_sub_cancel]at hy
 rw [List.take_add_one,List.take_add_one,hx,hy]
 simp only [Option.toList,List.append_assoc,List.cons_append,List.nil_append]
 exact M6
theorem I9 {L:List Cell} (h:L.length<2):eo L=L:=by
 match L,h with
 |[],_=>rfl
 |[a],_=>rfl
theorem st_elem {G h:Hp} {b i:Nat} {M:List Cell} {t:List Value} {x:Cell} {K:Unit->Hp->Prop} (hb:h b=some (.cells (dr.rows M++t).toArray 28 (0,0))) (hi:i<M.length):
   wpH P_ G (Instr.storeAt 28 (.pointer (some ⟨b,i*2,none⟩)) (.agg #[x.1,x.2])) h K=K () (h.set b (.cells (dr.rows (M.set i x)++t).toArray 28 (0,0))):=by
 rw [qs (n:=2) sz28 hb rfl (by rw [List.length_append,dr.rows_length,show dr.n=2 from rfl];omega) (by intro v hv;simp [Value.cells]at hv;rcases hv with rfl|rfl<;>rfl)]
 have:=dr.rows_put (t:=t) (x:=x) hi
 rw [<- this]
 rfl
theorem Ry {G h:Hp} {b:Nat} {M:List Cell} {t:List Value} (hb:HL.look G h b=some (.cells (dr.rows M++t).toArray 28 (0,0))) {i:Nat} {x:Cell} (hx:M[i]?=some x):af G h ⟨b,i*2,none⟩=some (.int .i64 x.1)/\af G h ⟨b,i*2+1,none⟩=some (.int .i64 x.2):=by
 have g0:=dr.rows_get (t:=t) hx (j:=0) (by decide)
 have g1:=dr.rows_get (t:=t) hx (j:=1) (by decide)
 rw [show dr.n=2 from rfl]at g0 g1
 exact ⟨(aj hb).trans g0,(aj hb).trans g1⟩
theorem Pz {G h a:Hp} {R:List Hp} {v:Value} {L:List Cell} (s:HL.Sep (a::R) h) (o:Slc dr 28 a v L) (hL:L.length<=100000):al P_ G 136 #[v] h (fun u h'=>∃a',Slc dr 28 a' u (eo L)/\HL.Sep (a'::R) h'/\Dis G h'):=by
 refine al.assume fun d=>ar2 (by simp) ?_
 unfold S136
 obtain ⟨sa,cap,rfl,hcap⟩:=o.len (by decide)
 simp only [ji]
 refine bv (fun hlt=>?_) (fun hge=>?_)
 . try simp (disch:=first|decide|omega) only [ji,Nat.reduceAdd,Nat.reduceMul]
   exact ⟨a,by rw [I9 (by omega)];exact o,s,d⟩
 unfold Yu
 obtain ⟨ob,o'⟩:=id o
 cases ob with
 |none=>exact absurd o'.2 (fun e=>by rw [e]at hge;simp at hge)
 |some b=>
 obtain ⟨cap',t,e9,hb,hbl⟩:=o'
 simp only [Value.slice.injEq,true_and]at e9
 obtain ⟨rfl,rfl⟩:=e9
 have hbh:=s.at 0 rfl hb
 have rd:=fun {i:Nat} {x:Cell} (hx:L[i]?=some x)=>Ry (G:=G) (ai hbh) hx
 try simp (disch:=first|decide|omega) only [ji,Nat.reduceAdd,Nat.reduceMul]
 generalize hKK:retK P_ G _ _=KK
 refine di (fun m q h3=>∃k:Nat,m=L.length-k/\1<=k/\k<=L.length/\q 0 = .slice (some ⟨b,0,none⟩) L.length cap/\q 3 = .int .i64 k/\h3=h/\eo (L.take k)=L.take k) ?_
   (m:=L.length-1) ⟨1,rfl,Nat.le_refl _,by omega,by simp (disch:=decide) only [ji],by simp only [ji]<;>rfl,rfl,I9 (by rw [List.length_take];omega)⟩
 rintro m q h3 ⟨k,rfl,h1,hk,q0,q3,rfl,hc⟩ X HX
 unfold Ys
 simp only [ji,q0,q3]
 refine bv (fun hlt=>?_) (fun hge2=>?_)
 rotate_left
 . obtain rfl:k=L.length:=by omega
   rw [List.take_of_length_le (Nat.le_refl _)]at hc
   try simp (disch:=first|decide|omega) only [ji,Nat.reduceAdd,Nat.reduceMul]
   unfold Yt
   rw [<- hKK]
   try simp (disch:=decide) only [ji,q0]
   exact ⟨a,by rw [hc];exact o,s,d⟩
 obtain ⟨x,hx⟩:∃x,L[k]?=some x:=⟨_,List.getElem?_eq_getElem (by omega)⟩
 obtain ⟨y,hy⟩:∃y,L[k-1]?=some y:=⟨_,List.getElem?_eq_getElem (by omega)⟩
 obtain ⟨x0,x1⟩:=rd hx
 obtain ⟨y0,y1⟩:=rd hy
 have ek:(k:Int)-1=((k-1:Nat):Int):=by omega
 unfold J8
 try simp (disch:=first|decide|omega) only [ji,q0,q3,ek,qe (Int.natCast_nonneg k) hlt,qe (Int.natCast_nonneg (k-1)) (show ((k-1:Nat):Int)<(L.length:Nat)by omega),Int.toNat_natCast,x0,x1,y0,y1,zw]
 refine pl (fun hb2=>?_) (fun hb2=>?_)
 rotate_left
 . unfold B9
   try simp (disch:=first|decide|omega) only [ji,q3]
   refine HX (L.length-(k+1)) _ _ (by omega) ⟨k+1,rfl,by omega,by omega,by simp (disch:=decide) only [ji,q0],by simp only [ji]<;>rfl,rfl,?_⟩
   rw [Au h1 hy hx,if_neg (fun e=>by rw [e,beq_self_eq_true]at hb2;cases hb2),hc,List.take_add_one,hx]
   rfl
 have exy:y=x:=(eq_of_beq hb2).symm
 try simp (disch:=first|decide|omega) only [ji,Nat.reduceAdd,Nat.reduceMul,q0,q3]
 rw [Ho un22 sz28 (by omega) (by omega) hcap]
 rw [Int.toNat_natCast,if_neg (show ¬cap=k by omega),nt,Nat.zero_add]
 have hmax:(dr.rows L++t).length=cap*2:=hbl
 try simp (disch:=first|decide|omega) only [ji,Nat.reduceAdd,Nat.reduceMul]
 refine di (fun m q h4=>∃(w j:Nat) (M:List Cell) (a:Hp),m=L.length-j/\k<=w/\w<j/\k+1<=j/\j<=L.length/\M.length=L.length/\q 0 = .slice (some ⟨b,0,none⟩) L.length cap/\q 3 = .int .i64 w/\q 4 = .slice (some ⟨b,k*2,none⟩) (L.length-k) (cap-k)/\q 5 = .int .i64 (((j-k:Nat):Nat):Int)/\
     a b=some (.cells (dr.rows M++t).toArray 28 (0,0))/\HL.Sep (a::R) h4/\Dis G h4/\M.take w=eo (L.take j)/\∀p,j-1<=p->M[p]?=L[p]?) ?_
   (m:=L.length-(k+1)) ⟨k,k+1,L,a,rfl,Nat.le_refl _,by omega,Nat.le_refl _,by omega,rfl,by simp (disch:=decide) only [ji,q0],by simp (disch:=decide) only [ji,q3],by simp (disch:=decide) only [ji],by simp only [ji]<;>(rw [show k+1-k=1 by omega];rfl),hb,s,d,by rw [Au h1 hy hx,if_pos exy,hc],fun p _=>rfl⟩
 clear HX q0 q3 x0 x1 y0 y1 hc hx hy exy hb2 ek rd hbh hb o s d
 rintro m q h4 ⟨w,j,M,a,rfl,hkw,hwj,hkj,hj,hM,q0,q3,q4,q5,hb,s,d,htk,hsame⟩ X HX
 have hbh:=s.at 0 rfl hb
 have rd:=fun {i:Nat} {x:Cell} (hx:M[i]?=some x)=>Ry (G:=G) (ai hbh) hx
 unfold J6
 simp only [ji,q4,q5]
 refine bv (fun hlt2=>?_) (fun hge3=>?_)
 . obtain ⟨x,hx⟩:∃x,L[j]?=some x:=⟨_,List.getElem?_eq_getElem (by omega)⟩
   obtain ⟨y,hy⟩:∃y,L[j-1]?=some y:=⟨_,List.getElem?_eq_getElem (by omega)⟩
   obtain ⟨x0,x1⟩:=rd ((hsame j (by omega)).trans hx)
   obtain ⟨y0,y1⟩:=rd ((hsame (j-1) (Nat.le_refl _)).trans hy)
   have ej:j*2=k*2+(j-k)*2:=by omega
   have ej1:(j-1)*2=k*2+(j-k-1)*2:=by omega
   rw [ej]at x0 x1
   rw [ej1]at y0 y1
   have e5:(((j-k:Nat):Nat):Int)-1=((j-k-1:Nat):Int):=by omega
   unfold Bl
   try simp (disch:=first|decide|omega) only [ji,q4,q5,e5,qe (Int.natCast_nonneg (j-k)) hlt2,qe (Int.natCast_nonneg (j-k-1)) (show ((j-k-1:Nat):Int)<((L.length-k:Nat):Int)by omega),Int.toNat_natCast,x0,x1,y0,y1,zw]
   have nxt:(((j-k:Nat):Nat):Int)+1=((j+1-k:Nat):Int):=by omega
   cases hxy:(x==y)with
   |true=>
     try simp only [ji]
     unfold qp
     try simp (disch:=first|decide|omega) only [ji,q5]
     refine HX (L.length-(j+1)) _ _ (by omega) ⟨w,j+1,M,a,rfl,hkw,by omega,by omega,by omega,hM,by simp (disch:=decide) only [ji,q0],by simp (disch:=decide) only [ji,q3],by simp (disch:=decide) only [ji,q4],by simp only [ji]<;>rw [nxt],hb,s,d,?_,fun p hp=>hsame p (by omega)⟩
     rw [htk,Au (by omega) hy hx,if_pos (eq_of_beq hxy).symm]
   |false=>
     have hwl:(w:Int)<(L.length:Nat):=by omega
     try simp (disch:=first|decide|omega) only [ji,q0,q3,q4,q5,ix22 (Int.natCast_nonneg (j-k)) hlt2,ix22 (Int.natCast_nonneg w) hwl,Int.toNat_natCast,x0,x1]
     rw [st_elem (x:=x) hbh (by omega)]
     have s5:=s.put (o := .cells (dr.rows (M.set w x)++t).toArray 28 (0,0)) hb
     have d5:=d.set (o := .cells (dr.rows (M.set w x)++t).toArray 28 (0,0)) (d _ _ hbh)
     generalize Hp.set h4 b _=h5 at s5 d5 ⊢
     try simp (disch:=first|decide|omega) only [ji,Nat.reduceAdd,Nat.reduceMul,q3]
     unfold qp
     try simp (disch:=first|decide|omega) only [ji,q5]
     refine HX (L.length-(j+1)) _ _ (by omega) ⟨w+1,j+1,M.set w x,_,rfl,by omega,by omega,by omega,by omega,by rw [List.length_set,hM],by simp (disch:=decide) only [ji,q0],by simp (disch:=decide) only [ji]<;>rfl,by simp (disch:=decide) only [ji,q4],by simp only [ji]<;>rw [nxt],ag,s5,d5,?_,fun p hp=>?_⟩
     . rw [Au (by omega) hy hx,if_neg (fun e=>by rw [e,beq_self_eq_true]at hxy;cases hxy),<- htk,List.take_add_one,List.getElem?_set_self (by omega),List.take_set_of_le (Nat.le_refl _)]
       rfl
     . rw [List.getElem?_set_ne (by omega)]
       exact hsame p (by omega)
 . obtain rfl:j=L.length:=by omega
   rw [List.take_of_length_le (Nat.le_refl _)]at htk
   clear HX
   have hwl:w<L.length:=hwj
   try simp (disch:=first|decide|omega) only [ji,Nat.reduceAdd,Nat.reduceMul]
   unfold J7
   try simp (disch:=decide) only [ji,q0,q3]
   rw [Ho un22 sz28 (by omega) (by omega) hcap]
   rw [Int.toNat_natCast,if_neg (show ¬cap=w by omega),nt,Nat.zero_add]
   try simp (disch:=first|decide|omega) only [ji,Nat.reduceAdd,Nat.reduceMul]
   have hlen:(dr.rows M++t).length=cap*2:=by
     rw [List.length_append,dr.rows_length,hM,<- dr.rows_length,<- List.length_append,hmax]
   refine ad1 dr ((0,0):Cell) un22 (by decide) (by kernel_rfl) hbh (by omega) (by rw [hlen,show dr.n=2 from rfl];omega) fun l' hl1 hl2=>?_
   have s5:=s.put (o := .cells l'.toArray 28 (0,0)) hb
   have d5:=d.set (o := .cells l'.toArray 28 (0,0)) (d _ _ hbh)
   generalize Hp.set h4 b _=h5 at s5 d5 ⊢
   try simp (disch:=first|decide|omega) only [ji,Nat.reduceAdd,Nat.reduceMul,q0,q3]
   rw [Rp un22 sz28 (by omega) (by omega)]
   rw [Int.toNat_natCast]
   rw [<- hKK]
   try simp only [ji]
   have hcl:eo L=M.take w:=htk.symm
   have hml:(M.take w).length=w:=by rw [List.length_take];omega
   have hl3:l'=dr.rows (eo L)++l'.drop (w*2):=by
     rw [hcl]
     have:=dr.rows_take (L:=M) (t:=t) (k:=w) (by omega)
     rw [show dr.n=2 from rfl]at this
     rw [<- this,<- hl2,List.take_append_drop]
   refine ⟨_,⟨some b,cap,l'.drop (w*2),by rw [hcl,hml],?_,?_⟩,s5,d5⟩
   . rw [<- hl3];exact ag
   . rw [<- hl3,hl1,hlen];rfl
end Go.Proofs.YtfflipnhffknnaaGreatDoor
end
section
namespace Go.Proofs.YtfflipnhffknnaaGreatDoor
open Go Go.HL Go.Proofs
def A3:Go.Shelf.Ren:=⟨fun|6=>134|15=>161|14=>160|28=>179|29=>180|20=>171|21=>172|22=>173|23=>174|24=>175|25=>176|26=>177|27=>178|46=>188|47=>189|48=>190|49=>191|50=>192|57=>198|n=>n,fun|22=>22|24=>28|25=>247|3=>3|39=>272|0=>0|53=>159|55=>284|4=>4|46=>277|45=>276|50=>251|5=>5|9=>9|66=>289|70=>293|76=>299|77=>300|n=>n,fun|n=>n⟩
theorem Zu:Go.Proofs.SlLaysF0.n6 P_ A3 where
 mixed:=by kernel_rfl
 f6:=⟨ "slices.SortFunc[[]skep/api.Cell,skep/api.Cell]",by decide,Tryz.func134.trans (congrArg some (by kernel_rfl))⟩
 f14:=⟨ "slices.pdqsortCmpFunc[skep/api.Cell]",by decide,Tryz.func160.trans (congrArg some (by kernel_rfl))⟩
 f15:=Tryz.func161.trans (congrArg some (by kernel_rfl))
 f20:=⟨ "slices.insertionSortCmpFunc[skep/api.Cell]",by decide,Tryz.func171.trans (congrArg some (by kernel_rfl))⟩
 f21:=⟨ "slices.heapSortCmpFunc[skep/api.Cell]",by decide,Tryz.func172.trans (congrArg some (by kernel_rfl))⟩
 f22:=⟨ "slices.breakPatternsCmpFunc[skep/api.Cell]",by decide,Tryz.func173.trans (congrArg some (by kernel_rfl))⟩
 f23:=⟨ "slices.choosePivotCmpFunc[skep/api.Cell]",by decide,Tryz.func174.trans (congrArg some (by kernel_rfl))⟩
 f24:=⟨ "slices.reverseRangeCmpFunc[skep/api.Cell]",by decide,Tryz.func175.trans (congrArg some (by kernel_rfl))⟩
 f25:=⟨ "slices.partialInsertionSortCmpFunc[skep/api.Cell]",by decide,Tryz.func176.trans (congrArg some (by kernel_rfl))⟩
 f26:=⟨ "slices.partitionEqualCmpFunc[skep/api.Cell]",by decide,Tryz.func177.trans (congrArg some (by kernel_rfl))⟩
 f27:=⟨ "slices.partitionCmpFunc[skep/api.Cell]",by decide,Tryz.func178.trans (congrArg some (by kernel_rfl))⟩
 f28:=Tryz.func179.trans (congrArg some (by kernel_rfl))
 f29:=Tryz.func180.trans (congrArg some (by kernel_rfl))
 f46:=⟨ "slices.siftDownCmpFunc[skep/api.Cell]",by decide,Tryz.func188.trans (congrArg some (by kernel_rfl))⟩
 f47:=Tryz.func189.trans (congrArg some (by kernel_rfl))
 f48:=Tryz.func190.trans (congrArg some (by kernel_rfl))
 f49:=⟨ "slices.medianAdjacentCmpFunc[skep/api.Cell]",by decide,Tryz.func191.trans (congrArg some (by kernel_rfl))⟩
 f50:=⟨ "slices.medianCmpFunc[skep/api.Cell]",by decide,Tryz.func192.trans (congrArg some (by kernel_rfl))⟩
 f57:=⟨ "slices.order2CmpFunc[skep/api.Cell]",by decide,Tryz.func198.trans (congrArg some (by kernel_rfl))⟩
 t0:=Tryz.underlying0
 a0:=Tryz.isAgg0
 z0:=Tryz.sizeOf0
 v0:=Tryz.zeroValue0
 t3:=Tryz.underlying3
 a3:=Tryz.isAgg3
 z3:=Tryz.sizeOf3
 v3:=Tryz.zeroValue3
 t4:=Tryz.underlying4
 a4:=Tryz.isAgg4
 z4:=Tryz.sizeOf4
 v4:=Tryz.zeroValue4
 t5:=Tryz.underlying5
 a5:=Tryz.isAgg5
 z5:=Tryz.sizeOf5
 v5:=Tryz.zeroValue5
 t9:=Tryz.underlying9
 a9:=Tryz.isAgg9
 z9:=Tryz.sizeOf9
 v9:=Tryz.zeroValue9
 t22:=Tryz.underlying22
 a22:=Tryz.isAgg22
 z22:=Tryz.sizeOf22
 v22:=Tryz.zeroValue22
 t25:=Tryz.underlying247
 a25:=Tryz.isAgg247
 z25:=Tryz.sizeOf247
 v25:=Tryz.zeroValue247
 t39:=Tryz.underlying272
 a39:=Tryz.isAgg272
 z39:=Tryz.sizeOf272
 v39:=Tryz.zeroValue272
 t45:=Tryz.underlying276
 a45:=Tryz.isAgg276
 z45:=Tryz.sizeOf276
 v45:=Tryz.zeroValue276
 t46:=Tryz.underlying277
 a46:=Tryz.isAgg277
 z46:=Tryz.sizeOf277
 v46:=Tryz.zeroValue277
 t50:=Tryz.underlying251
 a50:=Tryz.isAgg251
 z50:=Tryz.sizeOf251
 v50:=Tryz.zeroValue251
 t53:=Tryz.underlying159
 a53:=Tryz.isAgg159
 z53:=Tryz.sizeOf159
 v53:=Tryz.zeroValue159
 t55:=Tryz.underlying284
 a55:=Tryz.isAgg284
 z55:=Tryz.sizeOf284
 v55:=Tryz.zeroValue284
 t66:=Tryz.underlying289
 a66:=Tryz.isAgg289
 z66:=Tryz.sizeOf289
 v66:=Tryz.zeroValue289
 t70:=Tryz.underlying293
 a70:=Tryz.isAgg293
 z70:=Tryz.sizeOf293
 v70:=Tryz.zeroValue293
 t76:=Tryz.underlying299
 a76:=Tryz.isAgg299
 z76:=Tryz.sizeOf299
 v76:=Tryz.zeroValue299
 t77:=Tryz.underlying300
 a77:=Tryz.isAgg300
 z77:=Tryz.sizeOf300
 v77:=Tryz.zeroValue300
end Go.Proofs.YtfflipnhffknnaaGreatDoor
end
section
namespace Go.Proofs.YtfflipnhffknnaaGreatDoor
open Go Go.HL
def xz:=jq bC (jq (jq (jq @ny @cf127) (jq @cf134 (jq @cf136 @cf88))) (jq (jq @t6 @ld48) (jq @ld68 (jq @Mn @true_and))))
theorem W6 {w k:Nat} {f:Nat->Nat->Int} {c:Cell} (h:oc w k f c=true):inW w k c=true:=by
 unfold oc at h
 rw [Bool.and_eq_true]at h
 exact h.1
theorem way_in {w k:Nat} {f:Nat->Nat->Int} {m:Move} (h:wayB w k f m=true):∀c∈wayL m,inW w k c=true:=by
 intro c hc
 unfold wayB at h
 unfold wayL at hc
 rw [Bool.and_eq_true]at h
 obtain ⟨hf,h⟩:=h
 by_cases h1:m.k=1
 . rw [if_pos h1]at h hc
   simp only [Bool.and_eq_true,List.all_eq_true,List.mem_flatMap]at h hc
   obtain ⟨i,hi,hc⟩:=hc
   have:=h.2.1 i hi
   unfold qa at this
   rw [Bool.and_eq_true]at this
   exact (o9 this.2 c hc).1
 . rw [if_neg h1]at h hc
   by_cases h2:m.k=2
   . rw [if_pos h2]at h hc
     simp only [Bool.and_eq_true,List.all_eq_true]at h
     exact W6 (h.2.1 c hc)
   . rw [if_neg h2]at hc
     exact (o9 hf c hc).1
theorem Te {D:Nat->List Cell} (h:∀i,(D i).length=2):∀n,((List.range n).flatMap D).length=2*n
 |0=>rfl
 |n+1=>by
   rw [List.range_succ,List.flatMap_append,List.length_append,Te h n]
   simp [h]
   omega
theorem way_len {w k:Nat} {f:Nat->Nat->Int} {m:Move} (h:wayB w k f m=true):(wayL m).length<=34/\wayL m≠[]:=by
 unfold wayB at h
 rw [Bool.and_eq_true]at h
 obtain ⟨hf,h⟩:=h
 unfold wayL
 by_cases h1:m.k=1
 . rw [if_pos h1]at h ⊢
   simp only [Bool.and_eq_true,List.all_eq_true,List.mem_range,decide_eq_true_eq]at h
   have:=h.2.1 m.n.toNat (by omega)
   unfold qa okS at this
   simp only [Bool.and_eq_true]at this
   have hn:=dv.1 this.1.1
   have e:=Te (D:=fun (i:Nat)=>bz (gj m.f m.d i)) (fun i=>rfl) (m.n.toNat+1)
   refine ⟨by rw [e];omega,fun hn=>?_⟩
   rw [hn]at e
   simp at e
 . rw [if_neg h1]
   split
   . exact ⟨by simp [ec],by simp [ec]⟩
   . exact ⟨by simp [bz],by simp [bz]⟩
theorem W7 {w k:Nat} {c:Cell} (h:inW w k c=true):numI w k c=numW w c:=by
 unfold numI numW
 rw [if_pos h]
theorem in_bd {w k:Nat} {c:Cell} (h:inW w k c=true):0<=c.1/\c.1<w/\0<=c.2/\c.2<k:=by
 unfold inW at h
 rw [Bool.and_eq_true]at h
 have h1:=dv.1 h.1
 have h2:=dv.1 h.2
 omega
theorem O4 {w k:Nat} {c:Cell} (hw:w<=16) (hk:k<=16) : -1<=numI w k c/\numI w k c<=1000:=by
 unfold numI
 split
 . rename_i h
   obtain ⟨a,b,c1,d⟩:=in_bd h
   have h1:0<=c.2*(w:Int):=Int.mul_nonneg c1 (by omega)
   have h2:c.2*(w:Int)<=16*16:=Int.mul_le_mul (by omega) (by omega) (by omega) (by omega)
   omega
 . omega
theorem T1 {G h:Hp} {v0 w k:Nat} {f:Nat->Nat->Int} {g:Value} {a b:Cell} (hv:∀j,af G h ⟨v0,j,none⟩=[g][j]?) (gs:GS G h g w k f):al P_ G 135 #[uc a,uc b,.pointer (some ⟨v0,0,none⟩)] h (fun u h'=>u = .int .i64 (numI w k a-numI w k b)/\h'=h):=by
 obtain ⟨gp,kb,hgp,_⟩:=gs.ex
 refine al.assume fun d=>quietly (ar3 (by simp) ?_)
 unfold S135
 simp only [xz]
 intro x hx gx
 generalize e1:Hp.set h x _=h1
 obtain ⟨l1,d1,b1⟩:=boxed e1 hx d gx
 intro y hy gy
 generalize e2:Hp.set h1 y _=h2
 obtain ⟨l2,d2,b2⟩:=boxed e2 hy d1 gy
 have cx:∀j,af G h2 ⟨x,j,none⟩=_:=fun j=>aj (ai (l2 _ _ b1))
 have cy:∀j,af G h2 ⟨y,j,none⟩=_:=fun j=>aj (ai b2)
 have l02:=l1.trans l2
 have cv:af G h2 ⟨v0,0,none⟩=some g:=ng l02 d2 (hv 0)
 have gs2:=gs.up l02 d2
 subst hgp
 try simp only [xz,cx,cy,cv]
 refine (nn (c:=a) gs2).mono ?_
 rintro _ h3 ⟨rfl,rfl⟩
 refine ⟨Hp.le.refl _,?_⟩
 try simp (disch:=first|decide|omega) only [xz,Nat.reduceAdd,Nat.reduceMul,cx,cy,cv]
 refine (nn (c:=b) gs2).mono ?_
 rintro _ h3 ⟨rfl,rfl⟩
 have ba:=O4 (c:=a) gs.w2 gs.k2
 have bb:=O4 (c:=b) gs.w2 gs.k2
 try simp (disch:=first|decide|omega) only [xz]
 first|exact l02|exact ⟨rfl,l02⟩
instance:Inhabited Cell:=⟨(0,0)⟩
theorem swo_num (n:Cell->Int):Go.Sort.SWO (Go.Proofs.ltOf fun a b=>n a-n b):=by
 refine ⟨fun x=>?_,fun x y z h1 h2=>?_,fun x y z h1 h2=>?_⟩<;>simp only [Go.Proofs.ltOf,decide_eq_true_eq,decide_eq_false_iff_not]at * <;> omega
def jj (w k:Nat) (f:Nat->Nat->Int) (m:Move):List Cell:=if wayB w k f m=true then ml w k (wayL m)else []
theorem He {G h:Hp} {g:Value} {w k:Nat} {f:Nat->Nat->Int} {m:Move} (gs:GS G h g w k f) (st:iq G) (mb:MB m):al P_ G 90 #[g,Fm m] h (fun u h'=>∃ip,Slc dr 28 ip u (jj w k f m)/\HL.Sep [ip,h] h'/\Dis G h'):=by
 obtain ⟨gp,kb,hgp,_⟩:=gs.ex
 subst hgp
 refine al.assume fun d=>enter90 (by simp) ?_
 unfold S90
 simp only [xz]
 intro x hx gx
 generalize e1:Hp.set h x _=h1
 obtain ⟨l1,d1,b1⟩:=boxed e1 hx d gx
 intro y hy gy
 generalize e2:Hp.set h1 y _=h2
 obtain ⟨l2,d2,b2⟩:=boxed e2 hy d1 gy
 have cx:∀j,af G h2 ⟨x,j,none⟩=_:=fun j=>aj (ai (l2 _ _ b1))
 have cy:∀j,af G h2 ⟨y,j,none⟩=_:=fun j=>aj (ai b2)
 have l02:=l1.trans l2
 have gs2:=gs.up l02 d2
 try simp only [xz,cx,cy]
 refine (Re (m:=m) gs2 st mb).mono ?_
 rintro _ h3 ⟨ip,v,L,rfl,o,s3,d3,hL⟩
 try simp only [xz]
 cases hw:wayB w k f m with
 |false=>
   try simp only [xz]
   refine ⟨noHp,?_,(s3.drop.cut l02).none,d3⟩
   unfold jj
   rw [hw]
   exact Slc.nil
 |true=>
   obtain rfl:=hL hw
   obtain ⟨wl,wn⟩:=way_len hw
   try simp only [xz]
   unfold aw2
   obtain ⟨ob,o'⟩:=o
   cases ob with
   |none=>exact absurd o'.2 wn
   |some b=>
   obtain ⟨cap,t,rfl,hb,hbl⟩:=o'
   try simp (disch:=decide) only [xz]
   have hx3:h2 x=some _:=l2 _ _ b1
   refine al.mono (f:=134) (Zt (ρ:=A3) Zu dr (by decide) Tryz.isAgg28 Tryz.sizeOf28 (swo_num (numI w k)) (g:=135) (cb:=#[.pointer (some ⟨x,0,none⟩)])
     (enters_of Tryz.func135 (by kernel_rfl) rfl) s3 d3 hb (fun p q h' s' d'=>T1 (a:=p) (b:=q) (fun j=>by rw [aj (ai (s'.in 0 rfl _ _ hx3))]) (gs2.up (s'.in 0 rfl) d')) (by omega)) ?_
   rintro _ h4 ⟨rfl,S,hp,hs,rfl⟩
   have s4:=s3.put (o := .cells (dr.rows S++t).toArray 28 (0,0)) hb
   have d4:=d3.set (o := .cells (dr.rows S++t).toArray 28 (0,0)) (d3 _ _ (s3.at 0 rfl hb))
   have hlS:S.length=(wayL m).length:=hp.length_eq
   have o4:Slc dr 28 (ip.set b (.cells (dr.rows S++t).toArray 28 (0,0))) (.slice (some ⟨b,0,none⟩) (wayL m).length cap) S:=⟨some b,cap,t,by rw [hlS],ag,by rw [<- hbl,List.length_append,List.length_append,dr.rows_length,dr.rows_length,hlS]⟩
   generalize Hp.set h3 b _=h4 at s4 d4 ⊢
   generalize Hp.set ip b _=ip4 at s4 o4
   try simp (disch:=first|decide|omega) only [xz,Nat.reduceAdd,Nat.reduceMul]
   refine (Pz s4 o4 (by omega)).mono ?_
   rintro u5 h5 ⟨a5,o5,s5,d5⟩
   try simp (disch:=first|decide|omega) only [xz,Nat.reduceAdd,Nat.reduceMul]
   refine ⟨a5,?_,((s5.pick 1 rfl rfl).cut l02).pick 1 rfl rfl,d5⟩
   have hin:=way_in hw
   have e:=Lf (w:=w) (k:=k) (W:=wayL m) (S:=S) (by have:=gs.w1;omega) (fun c hc=>in_bd (hin c hc)) hp (hs.imp_of_mem fun {a b} ha hb h=>by
     rw [W7 (hin a (hp.mem_iff.1 ha)),W7 (hin b (hp.mem_iff.1 hb))]at h
     omega)
   unfold jj
   rw [hw,if_pos rfl,<- e]
   exact o5
end Go.Proofs.YtfflipnhffknnaaGreatDoor
end
section
namespace Go.Proofs.Srch
open Go.Proofs.Resv
section
variable {P M:Type} [DecidableEq P]
inductive Rc (E:Env P M) (p0:P) (t0:Int):P->Nat->Int->Prop where
 |start {i:Nat} (h:inside (E.spans p0) t0=some i):Rc E p0 t0 p0 i t0
 |step {p:P} {i j:Nat} {t b:Int} {s0 s:Sp} {w:M × P × Int × List Sp} (h:Rc E p0 t0 p i t) (h0:(E.spans p)[i]?=some s0) (hw:w∈E.ways p) (hs:s∈w.2.2.2) (h1:s0.1<=s.1) (h2:s.2<=s0.2)
     (hb:t<=b) (hb2:s.1<=b) (he:sumI b w.2.2.1<=s.2) (he2:sumI b w.2.2.1<FV) (hj:inside (E.spans w.2.1) (sumI b w.2.2.1)=some j):Rc E p0 t0 w.2.1 j (sumI b w.2.2.1)
structure Cg (E:Env P M):Prop where
 ris:∀p,Ris (E.spans p)
 wris:∀p,∀w∈E.ways p,Ris w.2.2.2
 sub:∀p,∀w∈E.ways p,∀s∈w.2.2.2,∃s'∈E.spans w.2.1,s'.1<=s.1/\s.2<=s'.2
variable {E:Env P M}
theorem Ep {l:List Sp} (h:Ris l) {t:Int} {i:Nat} {s:Sp} (hs:l[i]?=some s) (h1:s.1<=t) (h2:t<s.2):inside l t=some i:=by
 unfold inside
 rw [List.findIdx?_eq_some_iff_getElem]
 obtain ⟨hi,rfl⟩:=List.getElem?_eq_some_iff.1 hs
 refine ⟨hi,by simp [insB,h1,h2],fun j hj=>?_⟩
 have:=List.pairwise_iff_getElem.1 h.pw j i (by omega) hi hj
 simp [insB]
 intro _
 omega
theorem ris_one {l:List Sp} (h:Ris l) {i j:Nat} {s u:Sp} (hs:l[i]?=some s) (hu:l[j]?=some u) {t:Int} (h1:s.1<=t) (h2:t<=s.2) (h3:u.1<=t) (h4:t<=u.2):i=j:=by
 obtain ⟨hi,rfl⟩:=List.getElem?_eq_some_iff.1 hs
 obtain ⟨hj,rfl⟩:=List.getElem?_eq_some_iff.1 hu
 rcases Nat.lt_trichotomy i j with h5|h5|h5
 . have:=List.pairwise_iff_getElem.1 h.pw i j hi hj h5;omega
 . exact h5
 . have:=List.pairwise_iff_getElem.1 h.pw j i hj hi h5;omega
theorem af7 {a b d:Int} (h:a<=b):sumI a d<=sumI b d:=by
 unfold sumI cutI FV
 split<;>split<;>omega
theorem Vc (r:Cg E) {p:P} {w:M × P × Int × List Sp} (hw:w∈E.ways p) {s:Sp} (hs:s∈w.2.2.2) {e e':Int} {j:Nat} (hj:inside (E.spans w.2.1) e=some j) (h1:s.1<=e') (h2:e'<=e) (h3:e<=s.2):inside (E.spans w.2.1) e'=some j:=by
 obtain ⟨s',hs',h4,h5⟩:=r.sub p w hw s hs
 obtain ⟨i,hi,rfl⟩:=List.getElem_of_mem hs'
 obtain ⟨u,hu,h6,h7,_⟩:=Fx hj
 have:=ris_one (r.ris w.2.1) (List.getElem?_eq_getElem hi) hu (t:=e) (by omega) (by omega) h6 (by omega)
 subst this
 rw [List.getElem?_eq_getElem hi]at hu
 cases hu
 exact Ep (r.ris w.2.1) (List.getElem?_eq_getElem hi) (by omega) (by omega)
def Up (S S':List (St P M)):Prop:=∀x∈S,∃x'∈S',x'.p=x.p/\x'.i=x.i/\x'.a<=x.a/\(x.dn=true->x'=x)
theorem Up.refl (S:List (St P M)):Up S S:=fun x hx=>⟨x,hx,rfl,rfl,Int.le_refl _,fun _=>rfl⟩
theorem Up.trans {S S' S'':List (St P M)} (a:Up S S') (b:Up S' S''):Up S S'':=fun x hx=>by
 obtain ⟨y,hy,e1,e2,e3,e4⟩:=a x hx
 obtain ⟨z,hz,f1,f2,f3,f4⟩:=b y hy
 refine ⟨z,hz,f1.trans e1,f2.trans e2,by omega,fun hd=>?_⟩
 have:=e4 hd;subst this
 exact f4 hd
theorem O5 {p0:P} {t0 lo:Int} {z:M} {S:List (St P M)} (v:Inv E p0 t0 z lo S) {p:P} {t:Int} {m:M} {b:Int} (hlo:lo<=t):Up S (note E S p t m b)/\∀x∈note E S p t m b,x.dn=true->x∈S:=by
 unfold note
 split
 . unfold xv
   split
   . rename_i k hk
     obtain ⟨x,hx,e1,e2⟩:=ti hk
     simp only [hx]
     split
     . rename_i hlt
       have hkl:k<S.length:=(List.getElem?_eq_some_iff.1 hx).1
       have hxe:S[k]=x:=(List.getElem?_eq_some_iff.1 hx).2
       have hnd:x.dn=false:=by
         cases hd:x.dn with
         |false=>rfl
         |true=>have:=v.dn x (List.mem_of_getElem? hx) hd;omega
       refine ⟨fun y hy=>?_,fun y hy hd=>?_⟩
       . obtain ⟨j,hj,rfl⟩:=List.getElem_of_mem hy
         by_cases hjk:j=k
         . subst hjk
           rw [hxe]
           refine ⟨{ x with a:=t,mv:=m,b:=b },List.mem_of_getElem? (i:=j) (by rw [List.getElem?_set_self hkl]),rfl,rfl,Int.le_of_lt hlt,fun hd=>?_⟩
           rw [hnd]at hd;cases hd
         . exact ⟨_,List.mem_of_getElem? (by rw [List.getElem?_set_ne (Ne.symm hjk)];exact List.getElem?_eq_getElem hj),rfl,rfl,Int.le_refl _,fun _=>rfl⟩
       . rcases List.mem_or_eq_of_mem_set hy with h|rfl
         . exact h
         . rw [hnd]at hd;cases hd
     . exact ⟨.refl _,fun _ h _=>h⟩
   . refine ⟨fun y hy=>⟨y,List.mem_append_left _ hy,rfl,rfl,Int.le_refl _,fun _=>rfl⟩,fun y hy hd=>?_⟩
     rcases List.mem_append.1 hy with h|h
     . exact h
     . rw [List.mem_singleton]at h;subst h;cases hd
 . exact ⟨.refl _,fun _ h _=>h⟩
theorem Sb {S:List (St P M)} {p:P} {t:Int} {m:M} {b:Int} {j:Nat} (hj:inside (E.spans p) t=some j):∃y∈note E S p t m b,y.p=p/\y.i=j/\y.a<=t:=by
 unfold note
 rw [hj]
 simp only
 unfold xv
 cases hk:key S p j with
 |none=>exact ⟨_,List.mem_append_right _ (.head _),rfl,rfl,Int.le_refl _⟩
 |some k=>
   obtain ⟨x,hx,e1,e2⟩:=ti hk
   have hkl:k<S.length:=(List.getElem?_eq_some_iff.1 hx).1
   simp only [hx]
   split
   . exact ⟨{ x with a:=t,mv:=m,b:=b },List.mem_of_getElem? (i:=k) (by rw [List.getElem?_set_self hkl]),e1,e2,Int.le_refl _⟩
   . exact ⟨x,List.mem_of_getElem? hx,e1,e2,by omega⟩
def K2 (E:Env P M) (S:List (St P M)) (x:St P M) (w:M × P × Int × List Sp) (s:Sp):Prop:=
 x.s.1<=s.1->s.2<=x.s.2->sumI (max x.a s.1) w.2.2.1<=s.2->sumI (max x.a s.1) w.2.2.1<FV->∀j,inside (E.spans w.2.1) (sumI (max x.a s.1) w.2.2.1)=some j->∃y∈S,y.p=w.2.1/\y.i=j/\y.a<=sumI (max x.a s.1) w.2.2.1
theorem K2.up {S S':List (St P M)} {x:St P M} {w:M × P × Int × List Sp} {s:Sp} (n:K2 E S x w s) (u:Up S S'):K2 E S' x w s:=fun h1 h2 h3 h4 j hj=>by
 obtain ⟨y,hy,e1,e2,e3⟩:=n h1 h2 h3 h4 j hj
 obtain ⟨z,hz,f1,f2,f3,_⟩:=u y hy
 exact ⟨z,hz,f1.trans e1,f2.trans e2,by omega⟩
structure Cl (E:Env P M) (p0:P) (t0:Int) (S:List (St P M)):Prop where
 start:∀i,inside (E.spans p0) t0=some i->∃x∈S,x.p=p0/\x.i=i/\x.a<=t0
 closed:∀x∈S,x.dn=true->∀w∈E.ways x.p,∀s∈w.2.2.2,K2 E S x w s
theorem step_up (ok:p8 E) {p0:P} {t0:Int} {z:M} {S:List (St P M)} {x:St P M} {k:Nat} (v:Inv E p0 t0 z x.a S) (ha:0<=x.a) {w:M × P × Int × List Sp} (hw:w∈E.ways x.p) {s:Sp}:
   Up S (ik E x k w S s)/\(∀y∈ik E x k w S s,y.dn=true->y∈S)/\K2 E (ik E x k w S s) x w s:=by
 unfold ik
 split
 . rename_i h;exact ⟨.refl _,fun _ h _=>h,fun h1 h2=>by omega⟩
 . split
   . rename_i h;exact ⟨.refl _,fun _ h _=>h,fun h1 h2 h3 h4=>by omega⟩
   . rename_i h1 h2
     have h4:=Hh (show 0<=max x.a s.1 by omega) (ok.lasts _ w hw).1 (by omega)
     have:=O5 v (p:=w.2.1) (t:=sumI (max x.a s.1) w.2.2.1) (m:=E.stamp w.1 (max x.a s.1) (sumI (max x.a s.1) w.2.2.1)) (b:=k) (by omega)
     exact ⟨this.1,this.2,fun _ _ _ _ j hj=>Sb hj⟩
theorem af1 (ok:p8 E) {p0:P} {t0:Int} {z:M} {x:St P M} {k:Nat} (hd:x.dn=true) (ha:0<=x.a) (hox:E.ok x.p) {w:M × P × Int × List Sp} (hw:w∈E.ways x.p):∀(l:List Sp) {S:List (St P M)},(∀s∈l,s∈w.2.2.2)->Inv E p0 t0 z x.a S->S[k]?=some x->
   Up S (l.foldl (ik E x k w) S)/\(∀y∈l.foldl (ik E x k w) S,y.dn=true->y∈S)/\∀s∈l,K2 E (l.foldl (ik E x k w) S) x w s
 |[],S,_,v,hx=>⟨.refl _,fun _ h _=>h,fun _ h=>by cases h⟩
 |s::l,S,hl,v,hx=>by
   obtain ⟨v1,h1⟩:=Hk ok v hx hd ha hox hw (hl s (.head _))
   obtain ⟨u1,d1,n1⟩:=step_up ok (k:=k) v ha hw (s:=s)
   obtain ⟨u2,d2,n2⟩:=af1 ok hd ha hox hw l (fun s hs=>hl s (.tail _ hs)) v1 h1
   refine ⟨u1.trans u2,fun y hy hyd=>d1 y (d2 y hy hyd) hyd,fun u hu=>?_⟩
   rcases List.mem_cons.1 hu with rfl|hu
   . exact n1.up u2
   . exact n2 u hu
theorem Wm (ok:p8 E) {p0:P} {t0:Int} {z:M} {x:St P M} {k:Nat} (hd:x.dn=true) (ha:0<=x.a) (hox:E.ok x.p):∀(l:List (M × P × Int × List Sp)) {S:List (St P M)},(∀w∈l,w∈E.ways x.p)->Inv E p0 t0 z x.a S->S[k]?=some x->
   Up S (l.foldl (tj E x k) S)/\(∀y∈l.foldl (tj E x k) S,y.dn=true->y∈S)/\∀w∈l,∀s∈w.2.2.2,K2 E (l.foldl (tj E x k) S) x w s
 |[],S,_,v,hx=>⟨.refl _,fun _ h _=>h,fun _ h=>by cases h⟩
 |w::l,S,hl,v,hx=>by
   obtain ⟨v1,h1⟩:=Oj ok hd ha hox (hl w (.head _)) w.2.2.2 (fun _ h=>h) v hx
   obtain ⟨u1,d1,n1⟩:=af1 ok (k:=k) hd ha hox (hl w (.head _)) w.2.2.2 (fun _ h=>h) v hx
   obtain ⟨u2,d2,n2⟩:=Wm ok hd ha hox l (fun w hw=>hl w (.tail _ hw)) v1 h1
   refine ⟨u1.trans u2,fun y hy hyd=>d1 y (d2 y hy hyd) hyd,fun u hu=>?_⟩
   rcases List.mem_cons.1 hu with rfl|hu
   . exact fun s hs=>(n1 s hs).up u2
   . exact n2 u hu
theorem take_up {S:List (St P M)} {k:Nat} {x:St P M} (hx:S[k]?=some x) (hnd:x.dn=false):(∀y∈S,∃y'∈take S k x,y'.p=y.p/\y'.i=y.i/\y'.a<=y.a)/\∀y∈take S k x,y.dn=true->y∈S\/y={ x with dn:=true }:=by
 have hkl:k<S.length:=(List.getElem?_eq_some_iff.1 hx).1
 have hxe:S[k]=x:=(List.getElem?_eq_some_iff.1 hx).2
 unfold take
 refine ⟨fun y hy=>?_,fun y hy hd=>?_⟩
 . obtain ⟨j,hj,rfl⟩:=List.getElem_of_mem hy
   by_cases hjk:j=k
   . subst hjk
     rw [hxe]
     exact ⟨{ x with dn:=true },List.mem_of_getElem? (i:=j) (by rw [List.getElem?_set_self hkl]),rfl,rfl,Int.le_refl _⟩
   . exact ⟨_,List.mem_of_getElem? (by rw [List.getElem?_set_ne (Ne.symm hjk)];exact List.getElem?_eq_getElem hj),rfl,rfl,Int.le_refl _⟩
 . rcases List.mem_or_eq_of_mem_set hy with h|h
   . exact .inl h
   . exact .inr h
theorem ag8 (ok:p8 E) {p0:P} {t0 lo:Int} {z:M} {S:List (St P M)} (v:Inv E p0 t0 z lo S) (c:Cl E p0 t0 S) {k:Nat} {x:St P M} (h:least E S=some (k,x)):
   Inv E p0 t0 z x.a (zm E { x with dn:=true } k (take S k x))/\Cl E p0 t0 (zm E { x with dn:=true } k (take S k x))/\
     (∀y∈zm E { x with dn:=true } k (take S k x),y.dn=true->y∈S\/y={ x with dn:=true }):=by
 obtain ⟨hx,hnd,_⟩:=th h
 have hxm:=List.mem_of_getElem? hx
 obtain ⟨v1,h1⟩:=Hc v h
 have ha:0<=x.a:=by
   obtain ⟨e1,e2,e3⟩:=v.at_ x hxm
   have:=ok.pos x.p x.s (List.mem_of_getElem? e1)
   omega
 have hox:=v.ok x hxm
 obtain ⟨v2,_⟩:=G9 ok (x:={ x with dn:=true }) rfl ha hox (E.ways x.p) (fun _ h=>h) v1 h1
 obtain ⟨u2,d2,n2⟩:=Wm ok (x:={ x with dn:=true }) rfl ha hox (E.ways x.p) (fun _ h=>h) v1 h1
 obtain ⟨u1,d1⟩:=take_up hx hnd
 refine ⟨v2,⟨fun i hi=>?_,fun y hy hd w hw s hs=>?_⟩,fun y hy hd=>d1 y (d2 y hy hd) hd⟩
 . obtain ⟨y,hy,e1,e2,e3⟩:=c.start i hi
   obtain ⟨y1,hy1,f1,f2,f3⟩:=u1 y hy
   obtain ⟨y2,hy2,g1,g2,g3,_⟩:=u2 y1 hy1
   exact ⟨y2,hy2,by rw [g1,f1,e1],by rw [g2,f2,e2],by omega⟩
 . rcases d1 y (d2 y hy hd) hd with h3|rfl
   . intro q1 q2 q3 q4 j hj
     obtain ⟨u,hu,e1,e2,e3⟩:=c.closed y h3 hd w hw s hs q1 q2 q3 q4 j hj
     obtain ⟨y1,hy1,f1,f2,f3⟩:=u1 u hu
     obtain ⟨y2,hy2,g1,g2,g3,_⟩:=u2 y1 hy1
     exact ⟨y2,hy2,by rw [g1,f1,e1],by rw [g2,f2,e2],by omega⟩
   . exact n2 w hw s hs
theorem R6 (ok:p8 E) (r:Cg E) {p0:P} {t0 lo:Int} {z:M} {S:List (St P M)} (v:Inv E p0 t0 z lo S) (c:Cl E p0 t0 S) {p:P} {i:Nat} {t:Int} (h:Rc E p0 t0 p i t):
   (∃x∈S,x.p=p/\x.i=i/\x.dn=true/\x.a<=t)\/∃y∈S,y.dn=false/\y.a<=t:=by
 induction h with
 |@start i h=>
   obtain ⟨x,hx,e1,e2,e3⟩:=c.start i h
   cases hd:x.dn with
   |true=>exact .inl ⟨x,hx,e1,e2,hd,e3⟩
   |false=>exact .inr ⟨x,hx,hd,e3⟩
 |@step p i j t b s0 s w h h0 hw hs h1 h2 hb hb2 he he2 hj ih=>
   have hb0:0<=b:=by have:=(r.wris p w hw).bd s hs;omega
   have hlt:=Hh hb0 (ok.lasts _ w hw).1 he2
   rcases ih with ⟨x,hx,rfl,rfl,hd,e3⟩|⟨y,hy,hd,e⟩
   . have hxs:x.s=s0:=by have:=(v.at_ x hx).1;rw [h0]at this;exact (Option.some.inj this).symm
     have hm:sumI (max x.a s.1) w.2.2.1<=sumI b w.2.2.1:=af7 (by omega)
     have hx0:0<=max x.a s.1:=by have:=(r.wris _ w hw).bd s hs;omega
     have hlt2:=Hh hx0 (ok.lasts _ w hw).1 (show sumI (max x.a s.1) w.2.2.1<FV by omega)
     have hj':=Vc r hw hs hj (e':=sumI (max x.a s.1) w.2.2.1) (by omega) hm he
     obtain ⟨y,hy,f1,f2,f3⟩:=c.closed x hx hd w hw s hs (by rw [hxs];exact h1) (by rw [hxs];exact h2) (by omega) (by omega) j hj'
     cases hd2:y.dn with
     |true=>exact .inl ⟨y,hy,f1,f2,hd2,by omega⟩
     |false=>exact .inr ⟨y,hy,hd2,by omega⟩
   . exact .inr ⟨y,hy,hd,by omega⟩
theorem Wx (ok:p8 E) (r:Cg E) {p0:P} {t0:Int} {z:M} {goal:P->Sp->Bool}:∀(n:Nat) {lo:Int} {S:List (St P M)},Inv E p0 t0 z lo S->Cl E p0 t0 S->(∀x∈S,x.dn=true->goal x.p x.s=false)->
   (∃lo' S' k x f,run E goal n S = .ok (path S' f k [])/\S'.length=f/\Inv E p0 t0 z lo' S'/\S'[k]?=some x/\goal x.p x.s=true/\∀p i t s,Rc E p0 t0 p i t->(E.spans p)[i]?=some s->goal p s=true->x.a<=t)\/
   (run E goal n S = .no 6/\∀p i t s,Rc E p0 t0 p i t->(E.spans p)[i]?=some s->goal p s=false)\/run E goal n S = .no 7
 |0,lo,S,v,c,g => .inr (.inr rfl)
 |n+1,lo,S,v,c,g=>by
   unfold run
   cases h:least E S with
   |none=>
     refine .inr (.inl ⟨rfl,fun p i t s hr hs=>?_⟩)
     have hall:=Ih h
     rcases R6 ok r v c hr with ⟨x,hx,rfl,rfl,hd,_⟩|⟨y,hy,hd,_⟩
     . have:=(v.at_ x hx).1
       rw [hs]at this
       rw [Option.some.inj this]
       exact g x hx hd
     . rw [hall y hy]at hd;cases hd
   |some q=>
     obtain ⟨k,x⟩:=q
     simp only
     obtain ⟨hx,hnd,hmin⟩:=th h
     by_cases hg:goal x.p x.s=true
     . rw [if_pos hg]
       obtain ⟨v1,h1⟩:=Hc v h
       refine .inl ⟨_,take S k x,k,_,S.length,rfl,by simp [take],v1,h1,hg,fun p i t s hr hs hgs=>?_⟩
       rcases R6 ok r v c hr with ⟨y,hy,rfl,rfl,hd,_⟩|⟨y,hy,hd,hle⟩
       . have:=(v.at_ y hy).1
         rw [hs]at this
         rw [Option.some.inj this,g y hy hd]at hgs
         cases hgs
       . have:=hmin y hy hd
         unfold ltK at this
         simp only [decide_eq_false_iff_not]at this
         simp only
         omega
     . rw [if_neg hg]
       obtain ⟨v2,c2,d2⟩:=ag8 ok v c h
       rcases Wx ok r n v2 c2 (fun y hy hd=>by
         rcases d2 y hy hd with h3|rfl
         . exact g y h3 hd
         . simpa using hg)with h|h|h
       . exact .inl h
       . exact .inr (.inl h)
       . exact .inr (.inr h)
theorem Zr (ok:p8 E) {p0:P} {t0:Int} {z:M} (hok:E.ok p0):Inv E p0 t0 z t0 (note E [] p0 t0 z (-1))/\Cl E p0 t0 (note E [] p0 t0 z (-1))/\∀x∈note E [] p0 t0 z (-1),x.dn=false:=by
 refine ⟨Ib (Inv.start _ _ _ _) (Int.le_refl _) hok (.inl ⟨rfl,rfl,rfl,rfl⟩),⟨fun i hi=>Sb hi,fun x hx hd=>?_⟩,fun x hx=>?_⟩
 . have:=(O5 (Inv.start (E:=E) p0 t0 z t0) (p:=p0) (t:=t0) (m:=z) (b := -1) (Int.le_refl _)).2 x hx hd
   cases this
 . cases hd:x.dn with
   |false=>rfl
   |true=>
     have:=(O5 (Inv.start (E:=E) p0 t0 z t0) (p:=p0) (t:=t0) (m:=z) (b := -1) (Int.le_refl _)).2 x hx hd
     cases this
theorem al6 (ok:p8 E) (r:Cg E) {p0:P} {t0:Int} {z:M} {goal:P->Sp->Bool} (hok:E.ok p0) (n:Nat):
   (find E goal p0 t0 z n = .no 18/\inside (E.spans p0) t0=none)\/((inside (E.spans p0) t0).isSome=true/\
   ((∃lo' S' k x,find E goal p0 t0 z n = .ok (path S' S'.length k [])/\Inv E p0 t0 z lo' S'/\S'[k]?=some x/\goal x.p x.s=true/\∀p i t s,Rc E p0 t0 p i t->(E.spans p)[i]?=some s->goal p s=true->x.a<=t)\/
   (find E goal p0 t0 z n = .no 6/\∀p i t s,Rc E p0 t0 p i t->(E.spans p)[i]?=some s->goal p s=false)\/find E goal p0 t0 z n = .no 7)):=by
 unfold find
 cases h:inside (E.spans p0) t0 with
 |none=>exact .inl ⟨rfl,rfl⟩
 |some i=>
   refine .inr ⟨rfl,?_⟩
   obtain ⟨v,c,d⟩:=Zr ok (t0:=t0) (z:=z) hok
   rcases Wx ok r (goal:=goal) n v c (fun x hx hd=>by rw [d x hx]at hd;cases hd)with ⟨lo',S',k,x,f,h1,rfl,h2⟩|h|h
   . exact .inl ⟨lo',S',k,x,h1,h2⟩
   . exact .inr (.inl h)
   . exact .inr (.inr h)
end
end Go.Proofs.Srch
end
section
namespace Go.Proofs.Wt
structure It where
 k:Int
 m:Int
 s:Int
 n:Int
def It.b4 (x y:It):Bool:=decide (x.k<y.k\/(x.k=y.k/\(x.m<y.m\/(x.m=y.m/\x.s<y.s))))
def It.lt (x y:It):Bool:=if x.b4 y=true then true else if y.b4 x=true then false else decide (x.n<y.n)
def oa (L:List It) (i j:Nat):List It:=match L[i]?,L[j]? with
 |some x,some y=>(L.set i y).set j x
 |_,_=>L
theorem dm (L:List It) (i j:Nat):(oa L i j).length=L.length:=by
 unfold oa
 split<;>simp
def rc (L:List It) (i j:Nat):Bool:=match L[i]?,L[j]? with
 |some x,some y=>x.lt y
 |_,_=>false
def kw (L:List It) (i:Nat):List It:=if h:0<i/\rc L i ((i-1) / 2)=true then kw (oa L i ((i-1) / 2)) ((i-1) / 2)else L
 termination_by i
 decreasing_by omega
theorem uh (L:List It) (i:Nat):(kw L i).length=L.length:=by
 induction i using Nat.strongRecOn generalizing L with
 |_ i ih=>
   rw [kw]
   split
   . rw [ih _ (by omega),dm]
   . rfl
def im (L:List It) (first k:Nat):Nat:=if k<L.length/\rc L k first=true then k else first
def lu (L:List It) (i:Nat):Nat:=im L (im L i (2*i+1)) (2*i+2)
theorem Ah (L:List It) (f k:Nat):im L f k=f\/(im L f k=k/\k<L.length):=by
 unfold im
 split
 . rename_i h;exact .inr ⟨rfl,h.1⟩
 . exact .inl rfl
theorem nq (L:List It) (i:Nat):lu L i=i\/(i<lu L i/\lu L i<L.length):=by
 unfold lu
 rcases Ah L (im L i (2*i+1)) (2*i+2)with h|⟨h,h2⟩
 . rw [h]
   rcases Ah L i (2*i+1)with h|⟨h,h2⟩
   . exact .inl h
   . rw [h];exact .inr ⟨by omega,h2⟩
 . rw [h];exact .inr ⟨by omega,h2⟩
def jk (L:List It) (i:Nat):List It:=if h:lu L i=i then L else jk (oa L i (lu L i)) (lu L i)
 termination_by L.length-i
 decreasing_by
 rw [dm]
 have:=(nq L i).resolve_left h
 omega
theorem xi (L:List It) (i:Nat):(jk L i).length=L.length:=by
 have key:∀m L i,L.length-i<=m->(jk L i).length=L.length:=by
   intro m
   induction m with
   |zero=>
     intro L i hm
     rw [jk]
     split
     . rfl
     . rename_i h;have:=(nq L i).resolve_left h;omega
   |succ m ih=>
     intro L i hm
     rw [jk]
     split
     . rfl
     . rename_i h
       have:=(nq L i).resolve_left h
       rw [ih _ _ (by rw [dm];omega),dm]
 exact key _ L i (Nat.le_refl _)
def popL (L:List It):List It:=jk ((oa L 0 (L.length-1)).dropLast) 0
theorem yy (L:List It):(popL L).length=L.length-1:=by
 unfold popL
 rw [xi,List.length_dropLast,dm]
theorem aj9 (L:List It) (x:It) (h:L≠[]):L.set (L.length-1) x=L.dropLast++[x]:=by
 rw [List.set_eq_take_append_cons_drop,if_pos (by have:=List.length_pos_iff.2 h;omega),List.dropLast_eq_take]
 have:0<L.length:=List.length_pos_iff.2 h
 rw [show L.length-1+1=L.length by omega,List.drop_length]
theorem aj6 {x y:It}:x.lt y=true↔x.k<y.k\/(x.k=y.k/\(x.m<y.m\/(x.m=y.m/\(x.s<y.s\/(x.s=y.s/\x.n<y.n))))):=by
 unfold It.lt It.b4
 simp only [decide_eq_true_eq]
 split
 . simp;omega
 . split
   . simp;omega
   . simp;omega
def It.le (x y:It):Prop:=y.lt x=false
theorem Pb {x y:It}:x.le y↔x.k<y.k\/(x.k=y.k/\(x.m<y.m\/(x.m=y.m/\(x.s<y.s\/(x.s=y.s/\x.n<=y.n))))):=by
 unfold It.le
 rw [Bool.eq_false_iff,ne_eq,aj6]
 omega
theorem It.le.trans {x y z:It} (a:x.le y) (b:y.le z):x.le z:=by
 rw [Pb]at *;omega
theorem It.le.refl (x:It):x.le x:=by rw [Pb];omega
theorem le_of_lt {x y:It} (a:x.lt y=true):x.le y:=by rw [Pb];rw [aj6]at a;omega
def at_ (L:List It) (i:Nat):It:=L.getD i ⟨0,0,0,0⟩
theorem P5 {L:List It} {i:Nat} (h:i<L.length):L[i]?=some (at_ L i):=by
 unfold at_
 rw [List.getD_eq_getElem?_getD,List.getElem?_eq_getElem h]
 rfl
theorem Dv {L:List It} {i j:Nat} (hi:i<L.length) (hj:j<L.length):rc L i j=(at_ L i).lt (at_ L j):=by
 simp [rc,P5 hi,P5 hj]
theorem pq {L:List It} {i j:Nat} (hi:i<L.length) (hj:j<L.length) (k:Nat):at_ (oa L i j) k=if k=j then at_ L i else if k=i then at_ L j else at_ L k:=by
 unfold oa
 rw [P5 hi,P5 hj]
 simp only
 unfold at_
 simp only [List.getD_eq_getElem?_getD]
 by_cases h1:k=j
 . subst h1;rw [if_pos rfl,List.getElem?_set_self (by simpa using hj)];rfl
 . rw [if_neg h1,List.getElem?_set_ne (Ne.symm h1)]
   by_cases h2:k=i
   . subst h2;rw [if_pos rfl,List.getElem?_set_self hi];rfl
   . rw [if_neg h2,List.getElem?_set_ne (Ne.symm h2)]
theorem Ed (L:List It) (i j:Nat):(oa L i j).Perm L:=by
 unfold oa
 split
 . rename_i x y hx hy
   obtain ⟨hi,rfl⟩:=List.getElem?_eq_some_iff.1 hx
   obtain ⟨hj,rfl⟩:=List.getElem?_eq_some_iff.1 hy
   exact List.set_set_perm hi hj
 . exact .refl _
def wq (L:List It):Prop:=∀j,0<j->j<L.length->(at_ L ((j-1) / 2)).le (at_ L j)
def upOk (L:List It) (i:Nat):Prop:=(∀j,0<j->j<L.length->j≠i->(at_ L ((j-1) / 2)).le (at_ L j))/\
 (∀j,0<j->j<L.length->(j-1) / 2=i->0<i->(at_ L ((i-1) / 2)).le (at_ L j))
theorem Zw:∀(i:Nat) (L:List It),i<L.length->upOk L i->wq (kw L i):=by
 intro i
 induction i using Nat.strongRecOn with
 |_ i ih=>
   intro L hi ⟨h1,h2⟩
   rw [kw]
   split
   . rename_i h
     obtain ⟨h0,ha⟩:=h
     have hp:(i-1) / 2<L.length:=by omega
     rw [Dv hi hp]at ha
     refine ih _ (by omega) _ (by rw [dm];exact hp) ⟨?_,?_⟩
     . intro j j0 jl jne
       rw [dm]at jl
       rw [pq hi hp,pq hi hp]
       by_cases e1:j=i
       . subst e1
         rw [if_pos rfl,if_neg jne,if_pos rfl]
         exact le_of_lt ha
       . rw [if_neg jne,if_neg e1]
         by_cases e2:(j-1) / 2=(i-1) / 2
         . rw [if_pos e2]
           have:=h1 j j0 jl e1
           rw [e2]at this
           exact (le_of_lt ha).trans this
         . rw [if_neg e2]
           by_cases e3:(j-1) / 2=i
           . rw [if_pos e3]
             exact h2 j j0 jl e3 h0
           . rw [if_neg e3]
             exact h1 j j0 jl e1
     . intro j j0 jl jp p0
       rw [dm]at jl
       rw [pq hi hp,pq hi hp]
       rw [if_neg (by omega),if_neg (by omega),if_neg (by omega)]
       by_cases e1:j=i
       . rw [if_pos e1]
         exact h1 _ p0 hp (by omega)
       . rw [if_neg e1]
         have a1:=h1 j j0 jl e1
         rw [jp]at a1
         exact (h1 _ p0 hp (by omega)).trans a1
   . rename_i h
     intro j j0 jl
     by_cases e:j=i
     . subst e
       have:rc L j ((j-1) / 2)=false:=by
         cases ha:rc L j ((j-1) / 2)with
         |false=>rfl
         |true=>exact absurd ⟨j0,ha⟩ h
       rw [Dv jl (by omega)]at this
       exact this
     . exact h1 j j0 jl e
theorem Rq (i:Nat):∀L:List It,(kw L i).Perm L:=by
 induction i using Nat.strongRecOn with
 |_ i ih=>
   intro L
   rw [kw]
   split
   . rename_i h
     exact (ih _ (by omega) _).trans (Ed _ _ _)
   . exact .refl _
def downOk (L:List It) (i:Nat):Prop:=(∀j,0<j->j<L.length->(j-1) / 2≠i->(at_ L ((j-1) / 2)).le (at_ L j))/\
 (∀j,0<j->j<L.length->(j-1) / 2=i->0<i->(at_ L ((i-1) / 2)).le (at_ L j))
theorem W3 {L:List It} {f k:Nat} (hf:f<L.length):(at_ L (im L f k)).le (at_ L f)/\(k<L.length->(at_ L (im L f k)).le (at_ L k)):=by
 unfold im
 split
 . rename_i h
   rw [Dv h.1 hf]at h
   exact ⟨le_of_lt h.2,fun _ => .refl _⟩
 . rename_i h
   refine ⟨.refl _,fun hk=>?_⟩
   have:rc L k f=false:=by
     cases ha:rc L k f with
     |false=>rfl
     |true=>exact absurd ⟨hk,ha⟩ h
   rw [Dv hk hf]at this
   exact this
theorem Vj {L:List It} {i:Nat} (hi:i<L.length):(at_ L (lu L i)).le (at_ L i)/\∀j,0<j->j<L.length->(j-1) / 2=i->(at_ L (lu L i)).le (at_ L j):=by
 have h1:=W3 (L:=L) (f:=i) (k:=2*i+1) hi
 have hp:im L i (2*i+1)<L.length:=by
   rcases Ah L i (2*i+1)with h|⟨h,h'⟩<;>omega
 have h2:=W3 (L:=L) (f:=im L i (2*i+1)) (k:=2*i+2) hp
 refine ⟨h2.1.trans h1.1,fun j j0 jl jp=>?_⟩
 rcases (show j=2*i+1\/j=2*i+2 by omega)with rfl|rfl
 . exact h2.1.trans (h1.2 jl)
 . exact h2.2 jl
theorem Tf {L:List It} {i:Nat} (h:lu L i≠i):(lu L i-1) / 2=i:=by
 unfold lu at*
 rcases Ah L (im L i (2*i+1)) (2*i+2)with e|⟨e,_⟩
 . rw [e]at h ⊢
   rcases Ah L i (2*i+1)with e|⟨e,_⟩
   . exact absurd e h
   . rw [e];omega
 . rw [e];omega
theorem Rr:∀(m:Nat) (i:Nat) (L:List It),L.length-i<=m->i<L.length->downOk L i->wq (jk L i):=by
 intro m
 induction m with
 |zero=>intro i L hm hi;omega
 |succ m ih=>
   intro i L hm hi ⟨h1,h2⟩
   have hle:=Vj hi
   rw [jk]
   split
   . rename_i h
     intro j j0 jl
     by_cases e:(j-1) / 2=i
     . rw [h]at hle
       rw [e]
       exact hle.2 j j0 jl e
     . exact h1 j j0 jl e
   . rename_i h
     obtain ⟨f1,f2⟩:=(nq L i).resolve_left h
     have fp:=Tf h
     generalize lu L i=f at*
     refine ih f _ (by rw [dm];omega) (by rw [dm];exact f2) ⟨?_,?_⟩
     . intro j j0 jl jp
       rw [dm]at jl
       rw [pq hi f2,pq hi f2]
       by_cases e1:j=f
       . subst e1
         rw [if_pos rfl,if_neg jp,if_pos fp]
         exact hle.1
       . rw [if_neg jp,if_neg e1]
         by_cases e2:j=i
         . subst e2
           rw [if_pos rfl,if_neg (by omega)]
           exact h2 f (by omega) f2 fp j0
         . rw [if_neg e2]
           by_cases e3:(j-1) / 2=i
           . rw [if_pos e3]
             exact hle.2 j j0 jl e3
           . rw [if_neg e3]
             exact h1 j j0 jl e3
     . intro j j0 jl jp _
       rw [dm]at jl
       rw [pq hi f2,pq hi f2,fp]
       rw [if_neg (by omega),if_pos rfl,if_neg (by omega),if_neg (by omega)]
       have:=h1 j j0 jl (by omega)
       rwa [jp]at this
theorem K4:∀(m:Nat) (i:Nat) (L:List It),L.length-i<=m->(jk L i).Perm L:=by
 intro m
 induction m with
 |zero=>
   intro i L hm
   rw [jk]
   split
   . exact .refl _
   . rename_i h;have:=(nq L i).resolve_left h;omega
 |succ m ih=>
   intro i L hm
   rw [jk]
   split
   . exact .refl _
   . rename_i h
     have:=(nq L i).resolve_left h
     exact (ih _ _ (by rw [dm];omega)).trans (Ed _ _ _)
theorem ab4 {L:List It} (h:wq L):∀j,j<L.length->(at_ L 0).le (at_ L j):=by
 intro j
 induction j using Nat.strongRecOn with
 |_ j ih=>
   intro hj
   by_cases j0:j=0
   . subst j0;exact .refl _
   . exact (ih _ (by omega) (by omega)).trans (h j (by omega) hj)
theorem zy {L M:List It} {j:Nat} (h:j<L.length):at_ (L++M) j=at_ L j:=by
 unfold at_
 simp only [List.getD_eq_getElem?_getD]
 rw [List.getElem?_append_left h]
theorem push_ok {L:List It} {x:It} (h:wq L):wq (kw (L++[x]) L.length)/\(kw (L++[x]) L.length).Perm (x::L):=by
 refine ⟨Zw _ _ (by simp) ⟨fun j j0 jl jne=>?_,fun j j0 jl jp _=>?_⟩,(Rq _ _).trans (List.perm_append_singleton _ _)⟩
 . simp at jl
   rw [zy (by omega),zy (by omega)]
   exact h j j0 (by omega)
 . simp at jl
   omega
theorem F8 {L:List It} {j:Nat} (h:j<L.length-1):at_ L.dropLast j=at_ L j:=by
 unfold at_
 simp only [List.getD_eq_getElem?_getD,List.dropLast_eq_take]
 rw [List.getElem?_take_of_lt h]
theorem pop_ok {x:It} {L:List It} (h:wq (x::L)):wq (popL (x::L))/\(x::L).Perm (x::popL (x::L))/\∀y∈L,x.le y:=by
 have hroot:∀y∈L,x.le y:=by
   intro y hy
   obtain ⟨i,hi,rfl⟩:=List.getElem_of_mem hy
   have:=ab4 h (i+1) (by simpa using hi)
   simpa [at_,List.getD_eq_getElem?_getD,hi]using this
 have hM:(x::L).length-1<(x::L).length:=by simp
 have h0:0<(x::L).length:=by simp
 have hsl:=dm (x::L) 0 ((x::L).length-1)
 have hpop:wq (popL (x::L)):=by
   unfold popL
   by_cases hl:L=[]
   . subst hl
     intro j j0 jl
     rw [xi,List.length_dropLast,dm]at jl
     simp at jl
   . have hl':0<L.length:=List.length_pos_iff.2 hl
     refine Rr _ 0 _ (Nat.le_refl _) (by rw [List.length_dropLast,dm];simpa using hl') ⟨fun j j0 jl jp=>?_,fun j j0 jl jp i0=>by omega⟩
     rw [List.length_dropLast,dm]at jl
     rw [F8 (by rw [dm];omega),F8 (by rw [dm];omega),pq h0 hM,pq h0 hM]
     simp only [List.length_cons,Nat.add_sub_cancel]at jl ⊢
     rw [if_neg (by omega),if_neg (by omega),if_neg (by omega),if_neg (by omega)]
     exact h j j0 (by simp;omega)
 refine ⟨hpop,?_,hroot⟩
 have p1:(oa (x::L) 0 ((x::L).length-1)).Perm (x::L):=Ed _ _ _
 have hne:oa (x::L) 0 ((x::L).length-1)≠[]:=by intro e;rw [e]at hsl;simp at hsl
 have hlast:(oa (x::L) 0 ((x::L).length-1)).getLast hne=x:=by
   rw [List.getLast_eq_getElem]
   have e:=pq h0 hM ((x::L).length-1)
   rw [if_pos rfl]at e
   unfold at_ at e
   rw [List.getD_eq_getElem?_getD,List.getElem?_eq_getElem (by rw [hsl];exact hM)]at e
   simp only [Option.getD_some]at e
   simp only [hsl]
   rw [e]
   rfl
 have p2:(oa (x::L) 0 ((x::L).length-1)).Perm (x::(oa (x::L) 0 ((x::L).length-1)).dropLast):=by
   conv=>lhs;rw [<- List.dropLast_concat_getLast hne,hlast]
   exact List.perm_append_singleton _ _
 exact p1.symm.trans (p2.trans ((K4 _ 0 _ (Nat.le_refl _)).symm.cons x))
end Go.Proofs.Wt
end
section
namespace Go.Proofs.Srch
open Go.Proofs.Resv Go.Proofs.Wt
section
variable {P M:Type} [DecidableEq P] {E:Env P M}
structure QI (E:Env P M) (L:List It) (S:List (St P M)):Prop where
 old:∀w∈L,∃x∈S,E.num x.p=w.m/\(x.i:Int)=w.s/\x.a<=w.k
 all:∀x∈S,x.dn=false->∃w∈L,w.k=x.a/\w.m=E.num x.p/\w.s=x.i
theorem QI.perm {L L':List It} {S:List (St P M)} (q:QI E L S) (h:L'.Perm L):QI E L' S:=
 ⟨fun w hw=>q.old w (h.mem_iff.1 hw),fun x hx hd=>let ⟨w,hw,e⟩:=q.all x hx hd;⟨w,h.mem_iff.2 hw,e⟩⟩
def R8 (E:Env P M) (S:List (St P M)) (p:P) (t:Int):Option Nat:=match inside (E.spans p) t with
 |none=>none
 |some i=>match key S p i with
   |none=>some i
   |some k=>match S[k]? with
     |none=>none
     |some x=>if t<x.a then some i else none
theorem note_q {L L':List It} {S:List (St P M)} {p:P} {t:Int} {m:M} {b n:Int} (q:QI E L S)
   (h:match R8 E S p t with
     |some i=>L'.Perm (⟨t,E.num p,i,n⟩::L)
     |none=>L'=L):QI E L' (note E S p t m b):=by
 unfold note
 unfold R8 at h
 cases hi:inside (E.spans p) t with
 |none=>rw [hi]at h;simp only at h ⊢;rw [h];exact q
 |some i=>
   rw [hi]at h
   simp only at h ⊢
   unfold xv
   cases hk:key S p i with
   |none=>
     rw [hk]at h
     simp only at h ⊢
     refine QI.perm ⟨fun w hw=>?_,fun x hx hd=>?_⟩ h
     . rcases List.mem_cons.1 hw with rfl|hw
       . exact ⟨_,List.mem_append_right _ (.head _),rfl,rfl,Int.le_refl _⟩
       . obtain ⟨x,hx,e⟩:=q.old w hw
         exact ⟨x,List.mem_append_left _ hx,e⟩
     . rcases List.mem_append.1 hx with hx|hx
       . obtain ⟨w,hw,e⟩:=q.all x hx hd
         exact ⟨w,.tail _ hw,e⟩
       . rw [List.mem_singleton]at hx;subst hx
         exact ⟨_,.head _,rfl,rfl,rfl⟩
   |some k=>
     obtain ⟨x,hx,e1,e2⟩:=ti hk
     rw [hk]at h
     simp only [hx]at h ⊢
     by_cases hlt:t<x.a
     . rw [if_pos hlt]at h ⊢
       simp only at h
       have hkl:k<S.length:=(List.getElem?_eq_some_iff.1 hx).1
       have hself:(S.set k { x with a:=t,mv:=m,b:=b })[k]?=some { x with a:=t,mv:=m,b:=b }:=by rw [List.getElem?_set_self hkl]
       refine QI.perm ⟨fun w hw=>?_,fun y hy hd=>?_⟩ h
       . rcases List.mem_cons.1 hw with rfl|hw
         . exact ⟨_,List.mem_of_getElem? hself,by simp only [e1],by simp only [e2],Int.le_refl _⟩
         . obtain ⟨y,hy,f1,f2,f3⟩:=q.old w hw
           obtain ⟨j,hj,rfl⟩:=List.getElem_of_mem hy
           by_cases hjk:j=k
           . subst hjk
             have hxe:S[j]=x:=(List.getElem?_eq_some_iff.1 hx).2
             rw [hxe]at f1 f2 f3
             exact ⟨_,List.mem_of_getElem? hself,f1,f2,by simp only;omega⟩
           . have:(S.set k { x with a:=t,mv:=m,b:=b })[j]?=some S[j]:=by rw [List.getElem?_set_ne (Ne.symm hjk),List.getElem?_eq_getElem hj]
             exact ⟨_,List.mem_of_getElem? this,f1,f2,f3⟩
       . rcases List.mem_or_eq_of_mem_set hy with hy|rfl
         . obtain ⟨w,hw,e⟩:=q.all y hy hd
           exact ⟨w,.tail _ hw,e⟩
         . exact ⟨_,.head _,rfl,by simp only [e1],by simp only [e2]⟩
     . rw [if_neg hlt]at h ⊢
       simp only at h
       rw [h];exact q
theorem ai0 {S:List (St P M)} (q:QI E [] S):least E S=none:=by
 cases h:least E S with
 |none=>rfl
 |some r=>
   obtain ⟨k,x⟩:=r
   obtain ⟨h1,h2,h3⟩:=th h
   obtain ⟨w,hw,_⟩:=q.all x (List.mem_of_getElem? h1) h2
   cases hw
theorem popQ (ok:p8 E) {p0:P} {t0 lo:Int} {z:M} {S:List (St P M)} (v:Inv E p0 t0 z lo S) {w:It} {L L':List It} (q:QI E (w::L) S) (hmin:∀y∈L,w.le y) (hL:L'.Perm L):
   ∃k x,S[k]?=some x/\E.num x.p=w.m/\(x.i:Int)=w.s/\((x.dn=true\/x.a≠w.k)->QI E L' S)/\(x.dn=false->x.a=w.k->least E S=some (k,x)/\QI E L' (take S k x)):=by
 obtain ⟨x,hxm,e1,e2,e3⟩:=q.old w (.head _)
 obtain ⟨k,hk,rfl⟩:=List.getElem_of_mem hxm
 have hk?:S[k]?=some S[k]:=List.getElem?_eq_getElem hk
 generalize hx:S[k]=x at*
 have same:∀y∈S,E.num y.p=w.m->(y.i:Int)=w.s->y=x:=fun y hy f1 f2=>by
   obtain ⟨j,hj,rfl⟩:=List.getElem_of_mem hy
   have hp:=ok.inj _ _ (v.ok _ hy) (v.ok _ hxm) (f1.trans e1.symm)
   have:=v.uniq (List.getElem?_eq_getElem hj) hk? hp (by omega)
   subst this
   exact hx
 refine ⟨k,x,hk?,e1,e2,fun hst=>QI.perm ⟨fun u hu=>q.old u (.tail _ hu),fun y hy hd=>?_⟩ hL,fun hnd ha=>?_⟩
 . obtain ⟨u,hu,f1,f2,f3⟩:=q.all y hy hd
   rcases List.mem_cons.1 hu with rfl|hu
   . have:=same y hy f2.symm f3.symm
     subst this
     rcases hst with h|h
     . rw [hd]at h;cases h
     . exact absurd f1.symm h
   . exact ⟨u,hu,f1,f2,f3⟩
 . have least1:∀y∈S,y.dn=false->ltK E y x=false:=fun y hy hd=>by
     obtain ⟨u,hu,f1,f2,f3⟩:=q.all y hy hd
     have hle:w.le u:=by
       rcases List.mem_cons.1 hu with rfl|hu
       . exact .refl _
       . exact hmin u hu
     rw [Pb]at hle
     unfold ltK
     simp only [decide_eq_false_iff_not]
     omega
   refine ⟨?_,QI.perm ⟨fun u hu=>?_,fun y hy hd=>?_⟩ hL⟩
   . cases hl:least E S with
     |none=>have:=Ih hl x hxm;rw [hnd]at this;cases this
     |some r=>
       obtain ⟨j,y⟩:=r
       obtain ⟨g1,g2,g3⟩:=th hl
       have hym:=List.mem_of_getElem? g1
       obtain ⟨c1,c2,c3⟩:=ltK_tot (g3 x hxm hnd) (least1 y hym g2)
       have hp:=ok.inj _ _ (v.ok _ hym) (v.ok _ hxm) c2.symm
       have:=v.uniq g1 hk? hp c3.symm
       subst this
       rw [hk?]at g1
       cases g1
       rfl
   . obtain ⟨y,hy,f⟩:=q.old u (.tail _ hu)
     obtain ⟨j,hj,rfl⟩:=List.getElem_of_mem hy
     unfold take
     by_cases hjk:j=k
     . subst hjk
       rw [hx]at f
       exact ⟨{ x with dn:=true },List.mem_of_getElem? (i:=j) (by rw [List.getElem?_set_self hk]),f⟩
     . exact ⟨_,List.mem_of_getElem? (by rw [List.getElem?_set_ne (Ne.symm hjk)];exact List.getElem?_eq_getElem hj),f⟩
   . unfold take at hy
     rcases List.mem_or_eq_of_mem_set hy with hy|rfl
     . obtain ⟨u,hu,f1,f2,f3⟩:=q.all y hy hd
       rcases List.mem_cons.1 hu with rfl|hu
       . have hyx:=same y hy f2.symm f3.symm
         exfalso
         obtain ⟨j,hj,rfl⟩:=List.getElem_of_mem ‹y∈S.set k { x with dn:=true }›
         rw [List.getElem_set]at hyx hd
         split at hd
         . cases hd
         . rename_i hjk
           rw [if_neg hjk]at hyx
           have hj':j<S.length:=by simpa using hj
           exact hjk (v.uniq (List.getElem?_eq_getElem hj') hk? (by rw [hyx]) (by rw [hyx])).symm
       . exact ⟨u,hu,f1,f2,f3⟩
     . cases hd
inductive Eb (S:List (St P M)):Nat->List (Nat × St P M)->Prop where
 |start {k:Nat} {x:St P M} (h:S[k]?=some x) (hb:x.b<0):Eb S k [(k,x)]
 |step {k j:Nat} {x:St P M} {l:List (Nat × St P M)} (h:S[k]?=some x) (hb:x.b=(j:Nat)) (c:Eb S j l):Eb S k ((k,x)::l)
theorem T2 {p0:P} {t0 lo:Int} {z:M} {S:List (St P M)} (v:Inv E p0 t0 z lo S):∀(n k:Nat) (x:St P M),S[k]?=some x->(S.filter (fun y=>decide (y.a<x.a))).length<=n->∃l,Eb S k l/\l.length<=n+1
 |n,k,x,hk,hn=>by
   rcases v.by_ x (List.mem_of_getElem? hk)with ⟨h,_⟩|⟨y,h0,hy,hd,hlt,_⟩
   . exact ⟨_,.start hk (by omega),by simp⟩
   . have hym:=List.mem_of_getElem? hy
     have hmono:(S.filter (fun u=>decide (u.a<y.a))).length<(S.filter (fun u=>decide (u.a<x.a))).length:=by
       have h1:(S.filter (fun u=>decide (u.a<y.a)))=(S.filter (fun u=>decide (u.a<x.a))).filter (fun u=>decide (u.a<y.a)):=by
         rw [List.filter_filter]
         congr 1
         funext u
         rw [<- Bool.decide_and]
         exact decide_eq_decide.2 (by omega)
       rw [h1]
       have h2:y∈S.filter (fun u=>decide (u.a<x.a)):=List.mem_filter.2 ⟨hym,by simpa using hlt⟩
       refine List.length_filter_lt_length_iff_exists.2 ⟨y,h2,by simp⟩
     cases n with
     |zero=>omega
     |succ n=>
       obtain ⟨l,hl,hll⟩:=T2 v n x.b.toNat y hy (by omega)
       exact ⟨_,.step hk (by omega) hl,by simp;omega⟩
def nf:List (Nat × St P M)->List M
 |[]=>[]
 |[_]=>[]
 |p::l=>p.2.mv::nf l
theorem H8 {S:List (St P M)} {k:Nat} {l:List (Nat × St P M)} (c:Eb S k l):∀(f:Nat) (acc:List M),l.length<=f->path S f k acc=(nf l).reverse++acc:=by
 induction c with
 |start h hb=>
   intro f acc hf
   cases f with
   |zero=>simp at hf
   |succ f=>unfold path;rw [h];simp only [if_pos hb];rfl
 |@step k j x l h hb c ih=>
   intro f acc hf
   cases f with
   |zero=>simp at hf
   |succ f=>
     unfold path
     rw [h]
     have h0:¬x.b<0:=by omega
     simp only [if_neg h0]
     rw [show x.b.toNat=j by omega,ih f _ (by simpa using hf)]
     cases c<;>simp [nf]
theorem M7 {p0:P} {t0 lo:Int} {z:M} {S:List (St P M)} (v:Inv E p0 t0 z lo S) {k:Nat} {x:St P M} (hk:S[k]?=some x):∃l,Eb S k l/\l.length<=S.length:=by
 have hlt:(S.filter (fun y=>decide (y.a<x.a))).length<S.length:=
   List.length_filter_lt_length_iff_exists.2 ⟨x,List.mem_of_getElem? hk,by simp⟩
 obtain ⟨l,c,h⟩:=T2 v _ k x hk (Nat.le_refl _)
 exact ⟨l,c,by omega⟩
end
end Go.Proofs.Srch
end
section
namespace Go.Proofs.YtfflipnhffknnaaGreatDoor
open Go Go.HL Go.Proofs.Resv Go.Proofs.Srch
def bRtR:=jq bC (jq (jq (jq @vg (jq @cf88 @Di)) (jq @I6 (jq @Ps @Ex))) (jq (jq @Va (jq @t6 @qw)) (jq @ld4 (jq @Mn @ir))))
def numP (w k:Nat) (p:Pose):Int:=2*numI w k (p.x,p.y)+(if p.d=true then 1 else 0)
def lg (w k:Nat) (T:Tb) (r:Int) (p:Pose):List Sp:=li T r ((bz p).map (numI w k))
def wayE (C:Conf) (w k:Nat) (f:Nat->Nat->Int) (T:Tb) (r:Int) (m:Move):Move × Pose × Int × List Sp:=(m,m.t,dp C m,li T r ((jj w k f m).map (numI w k)))
def qr (C:Conf) (w k:Nat) (f:Nat->Nat->Int) (T:Tb) (r:Int) (p:Pose):List (Move × Pose × Int × List Sp):=(lr w k f p).map (wayE C w k f T r)
def yi (m:Move) (a e:Int):Move:={ m with a:=a,e:=e }
def envE (C:Conf) (w k:Nat) (f:Nat->Nat->Int) (T:Tb) (r:Int):Env Pose Move:=⟨numP w k,fun p=>dg w k f p=true,lg w k T r,qr C w k f T r,yi⟩
theorem Am {w k:Nat} {f:Nat->Nat->Int} {p:Pose} (h:dg w k f p=true):inW w k (p.x,p.y)=true:=by
 unfold dg at h
 rw [Bool.and_eq_true]at h
 exact W6 h.1
theorem num_inj {w k:Nat} {c e:Cell} (hc:inW w k c=true) (he:inW w k e=true) (h:numI w k c=numI w k e):c=e:=by
 unfold numI at h
 rw [if_pos hc,if_pos he]at h
 obtain ⟨a1,a2,a3,a4⟩:=jc.1 hc
 obtain ⟨b1,b2,b3,b4⟩:=jc.1 he
 have h1:c.1=(c.2*w+c.1) % w:=by rw [Int.add_comm,Int.add_mul_emod_self_right,Int.emod_eq_of_lt a1 a2]
 have h2:e.1=(e.2*w+e.1) % w:=by rw [Int.add_comm,Int.add_mul_emod_self_right,Int.emod_eq_of_lt b1 b2]
 have h3:c.1=e.1:=by rw [h1,h2,h]
 have h4:c.2*(w:Int)=e.2*(w:Int):=by omega
 have h5:c.2=e.2:=Int.eq_of_mul_eq_mul_right (by omega) h4
 exact Prod.ext h3 h5
theorem uu {w k:Nat} {f:Nat->Nat->Int} {p q:Pose} (hp:dg w k f p=true) (hq:dg w k f q=true) (h:numP w k p=numP w k q):p=q:=by
 have hpi:=Am hp
 have hqi:=Am hq
 unfold numP at h
 have hd:p.d=q.d:=by
   cases h1:p.d<;>cases h2:q.d<;>simp only [h1,h2,if_true,if_false,Bool.false_eq_true]at h<;>first|rfl|omega
 rw [hd]at h
 have hn:=num_inj hpi hqi (show numI w k (p.x,p.y)=numI w k (q.x,q.y)by omega)
 cases p;cases q
 simp only [Prod.mk.injEq]at hn hd
 obtain ⟨rfl,rfl⟩:=hn
 subst hd
 rfl
structure Cs where
 L1:List (Int × Value)
 L2:List (Int × Value)
 L3:List (Int × Value)
 P:Hp
def Gro (L L':List (Int × Value)):Prop:=∀k v,mget L k=some v->mget L' k=some v
theorem Gro.refl (L:List (Int × Value)):Gro L L:=fun _ _ h=>h
theorem Gro.trans {L M N:List (Int × Value)} (a:Gro L M) (b:Gro M N):Gro L N:=fun k v h=>b k v (a k v h)
structure Cs.le (c c':Cs):Prop where
 l1:Gro c.L1 c'.L1
 l2:Gro c.L2 c'.L2
 l3:Gro c.L3 c'.L3
 p:c.P.le c'.P
theorem Cs.le.refl (c:Cs):c.le c:=⟨.refl _,.refl _,.refl _,.refl _⟩
theorem Cs.le.trans {a b c:Cs} (x:a.le b) (y:b.le c):a.le c:=⟨x.l1.trans y.l1,x.l2.trans y.l2,x.l3.trans y.l3,x.p.trans y.p⟩
structure RawW where
 m:Move
 d:Int
 a:Option Addr
 n:Nat
 c:Nat
def tg:Cod RawW:=⟨13,fun x=>[.int .i64 x.m.k,.int .i64 x.m.d,.int .i64 x.m.n,.int .i64 x.m.f.x,.int .i64 x.m.f.y,.bool x.m.f.d,.int .i64 x.m.t.x,.int .i64 x.m.t.y,.bool x.m.t.d,.int .i64 x.m.a,.int .i64 x.m.e,.int .i64 x.d,.slice x.a x.n x.c],fun _=>rfl,
 fun _ v hv=>by simp at hv;rcases hv with rfl|rfl|rfl|rfl|rfl|rfl|rfl|rfl|rfl|rfl|rfl|rfl|rfl<;>rfl⟩
theorem eoway:gc P_ 232 tg.n 120:=eo232
def WayS (P:Hp) (v:Value) (W:List (Move × Pose × Int × List Sp)):Prop:=∃raws:List RawW,Slc tg 232 P v raws/\raws.length=W.length/\
 ∀(i:Nat) (x:RawW) (y:Move × Pose × Int × List Sp),raws[i]?=some x->W[i]?=some y->x.m=y.1/\x.d=y.2.2.1/\x.n=y.2.2.2.length/\Slc mc 151 P (.slice x.a x.n x.c) y.2.2.2
theorem WayS.le {P P':Hp} {v:Value} {W:List (Move × Pose × Int × List Sp)} (h:WayS P v W) (l:P.le P'):WayS P' v W:=by
 obtain ⟨raws,h1,h2,h3⟩:=h
 exact ⟨raws,h1.le l,h2,fun i x y hx hy=>let ⟨a,b,c,d⟩:=h3 i x y hx hy;⟨a,b,c,d.le l⟩⟩
structure Par where
 C:Conf
 w:Nat
 k:Nat
 f:Nat->Nat->Int
 T:Tb
 r:Int
def Par.E (p:Par):Env Pose Move:=envE p.C p.w p.k p.f p.T p.r
structure Ch (q:Par) (a:Hp) (ms mw mp:Nat) (c:Cs):Prop where
 sep:∃o1 o2 o3,MapO o1 c.L1/\MapO o2 c.L2/\MapO o3 c.L3/\HL.Sep [noHp.set ms o1,noHp.set mw o2,noHp.set mp o3,c.P] a
 m1:∀n v,mget c.L1 n=some v->∃p,dg q.w q.k q.f p=true/\numP q.w q.k p=n/\Slc mc 151 c.P v (lg q.w q.k q.T q.r p)
 m2:∀n v,mget c.L2 n=some v->∃p,dg q.w q.k q.f p=true/\numP q.w q.k p=n/\WayS c.P v (qr q.C q.w q.k q.f q.T q.r p)
 m3:∀n v,mget c.L3 n=some v->∃p,dg q.w q.k q.f p=true/\numP q.w q.k p=n/\v=ja p
def ou (C:Conf) (vb vp vr vz g:Value) (kp tp:Nat) (r:Int) (ms mw mp mt hp:Nat):List Value:=
 [.int .i64 C.w,.int .i64 C.h,.int .i64 C.ht,vb,vp,vr,vz,.int .i64 C.un,.int .i64 C.ac,.int .i64 C.sp,.int .i64 C.tu,.int .i64 C.ho,.int .i64 C.qu,.int .i64 C.re,.int .i64 C.bu,.bool C.back,g,.pointer (some ⟨kp,0,none⟩),.pointer (some ⟨tp,0,none⟩),.int .i64 r,.map (some ms),.map (some mw),.map (some mp),.map (some mt),.pointer (some ⟨hp,0,none⟩)]
structure Bg (G:Hp) (q:Par) (sp:Nat) (kp ms mw mp mt hp:Nat):Prop where
 ex:∃(ab:Option Addr) (cb:Nat) (ap:Option Addr) (cp:Nat) (ar:Option Addr) (cr:Nat) (az:Option Addr) (cs:Nat) (gp tp:Nat),∀h,Dis G h->
   CA G h q.C ab cb ap cp ar cr az cs/\(∀j,j<25->af G h ⟨sp,j,none⟩=(ou q.C (.slice ab q.C.bl.length cb) (.slice ap q.C.po.length cp) (.slice ar q.C.ro.length cr) (.slice az q.C.st.length cs) (.pointer (some ⟨gp,0,none⟩)) kp tp q.r ms mw mp mt hp)[j]?)/\
   GS G h (.pointer (some ⟨gp,0,none⟩)) q.w q.k q.f/\Rv.TSee G h tp q.T
 st:iq G
 gt:kc q.T
 fw:Few q.T 100
structure BC (G h:Hp) (sp:Nat) (g:Value) (kp tp:Nat) (r:Int) (ms mw mp mt hp:Nat):Prop where
 g:af G h ⟨sp,16,none⟩=some g
 k:af G h ⟨sp,17,none⟩=some (.pointer (some ⟨kp,0,none⟩))
 t:af G h ⟨sp,18,none⟩=some (.pointer (some ⟨tp,0,none⟩))
 r:af G h ⟨sp,19,none⟩=some (.int .i64 r)
 ms:af G h ⟨sp,20,none⟩=some (.map (some ms))
 mw:af G h ⟨sp,21,none⟩=some (.map (some mw))
 mp:af G h ⟨sp,22,none⟩=some (.map (some mp))
 mt:af G h ⟨sp,23,none⟩=some (.map (some mt))
 hp:af G h ⟨sp,24,none⟩=some (.pointer (some ⟨hp,0,none⟩))
theorem vh {G h:Hp} {C:Conf} {vb vp vr vz g:Value} {sp kp tp:Nat} {r:Int} {ms mw mp mt hp:Nat} (c:∀j,j<25->af G h ⟨sp,j,none⟩=(ou C vb vp vr vz g kp tp r ms mw mp mt hp)[j]?):BC G h sp g kp tp r ms mw mp mt hp:=
 ⟨by rw [c _ (by decide)];rfl,by rw [c _ (by decide)];rfl,by rw [c _ (by decide)];rfl,by rw [c _ (by decide)];rfl,by rw [c _ (by decide)];rfl,by rw [c _ (by decide)];rfl,by rw [c _ (by decide)];rfl,by rw [c _ (by decide)];rfl,by rw [c _ (by decide)];rfl⟩
theorem uo {α:Type} {c:Cod α} {G a B h h':Hp} {v:Value} {L:List α} (x:Sees c G B v L) (s:Sep [a,B] h) (d:Dis G h) (d':Dis (HL.under G h a) h'):Sees c (HL.under G h a) h' v L:=by
 obtain ⟨s',cap,e,hc,hcs⟩:=x
 refine ⟨s',cap,e,hc,hcs.imp id fun ⟨b,o,e2,hx⟩=>⟨b,o,e2,fun i y hy j hj=>?_⟩⟩
 have:=hx i y hy j hj
 rw [List.getElem?_eq_getElem (by rw [c.len];exact hj)]at this ⊢
 exact nk s d d' this
theorem Bg.of {G a B h:Hp} {q:Par} {sp kp ms mw mp mt hp:Nat} {ab:Option Addr} {cb:Nat} {ap:Option Addr} {cp:Nat} {ar:Option Addr} {cr:Nat} {az:Option Addr} {cs gp tp:Nat} (s:Sep [a,B] h) (d:Dis G h)
   (ca:CA G B q.C ab cb ap cp ar cr az cs) (hB:∀j,j<25->af G B ⟨sp,j,none⟩=(ou q.C (.slice ab q.C.bl.length cb) (.slice ap q.C.po.length cp) (.slice ar q.C.ro.length cr) (.slice az q.C.st.length cs) (.pointer (some ⟨gp,0,none⟩)) kp tp q.r ms mw mp mt hp)[j]?)
   (gs:GS G B (.pointer (some ⟨gp,0,none⟩)) q.w q.k q.f) (ts:Rv.TSee G B tp q.T) (st:iq G) (gt:kc q.T) (fw:Few q.T 100):Bg (HL.under G h a) q sp kp ms mw mp mt hp:=by
 refine ⟨⟨ab,cb,ap,cp,ar,cr,az,cs,gp,tp,fun h' d'=>⟨?_,fun j hj=>?_,?_,?_⟩⟩,st.under d (s.in 0 rfl),gt,fw⟩
 . obtain ⟨c1,c2,c3,raw,c4,c5⟩:=ca
   exact ⟨uo c1 s d d',uo c2 s d d',uo c3 s d d',raw,uo c4 s d d',fun i r s' h1 h2=>let ⟨x,y,z⟩:=c5 i r s' h1 h2;⟨x,y,uo z s d d'⟩⟩
 . have:=hB j hj
   rw [List.getElem?_eq_getElem (by simpa [ou]using hj)]at this ⊢
   exact nk s d d' this
 . obtain ⟨⟨gp',kb,e,h1,h2⟩,x1,x2,x3,x4⟩:=gs
   refine ⟨⟨gp',kb,e,fun j hj=>?_,fun n x hx=>nk s d d' (h2 n x hx)⟩,x1,x2,x3,x4⟩
   have:=h1 j hj
   rw [List.getElem?_eq_getElem (by simpa using hj)]at this ⊢
   exact nk s d d' this
 . obtain ⟨rb,e1,e2⟩:=ts
   exact ⟨rb,nk s d d' e1,fun c L hc=>let ⟨x,cap,e3,e4⟩:=e2 c L hc;⟨x,cap,nk s d d' e3,uo e4 s d d'⟩⟩
theorem un3r:P_.underlying 3=some (.int .i64):=by kernel_rfl
theorem unms:P_.underlying 128=some (.map 3 142):=by kernel_rfl
theorem unmw:P_.underlying 129=some (.map 3 229):=by kernel_rfl
theorem unmp:P_.underlying 130=some (.map 3 30):=by kernel_rfl
theorem zeros:o0 P_ 142=some (.slice none 0 0):=by kernel_rfl
theorem zerow:o0 P_ 229=some (.slice none 0 0):=by kernel_rfl
theorem zerop:o0 P_ 30=some (.agg #[(0:Int),(0:Int),.bool false]):=by kernel_rfl
theorem in_pb {w k:Nat} (hw:w<=16) (hk:k<=16) {p:Pose} (h:inW w k (p.x,p.y)=true):PB p:=by
 obtain ⟨a1,a2,a3,a4⟩:=jc.1 h
 simp only at a1 a2 a3 a4
 exact ⟨⟨by omega,by omega⟩,⟨by omega,by omega⟩⟩
theorem zd {G h a:Hp} {R:List Hp} {q:Par} {sp kp ms mw mp mt hp:Nat} {c:Cs} {p:Pose} (ch:Ch q a ms mw mp c) (bg:Bg G q sp kp ms mw mp mt hp) (s:Sep (a::R) h) (hpf:dg q.w q.k q.f p=true):
   al P_ G 115 #[.pointer (some ⟨sp,0,none⟩),ja p] h (fun u h'=>u = .int .i64 (numP q.w q.k p)/\∃a' c',Ch q a' ms mw mp c'/\c.le c'/\c'.L1=c.L1/\c'.L2=c.L2/\c'.P=c.P/\mget c'.L3 (numP q.w q.k p)=some (ja p)/\Sep (a'::R) h'/\Dis G h'):=by
 obtain ⟨ab,cb,ap,cp,ar,cr,az,cs,gp,tp,hbg⟩:=bg.ex
 refine al.assume fun d=>at2 (by simp) ?_
 have hin:=Am hpf
 unfold S115
 simp only [bRtR]
 intro x hx gx
 have s1:=s.past (o := .cells #[p.x,p.y,.bool p.d] 30 (0,0)) hx
 have d1:=d.set (o := .cells #[p.x,p.y,.bool p.d] 30 (0,0)) gx
 have hxs:(h.set x (.cells #[p.x,p.y,.bool p.d] 30 (0,0))) x=some (.cells #[p.x,p.y,.bool p.d] 30 (0,0)):=ag
 generalize Hp.set h x _=h1 at s1 d1 hxs ⊢
 have cx:∀k,af G h1 ⟨x,k,none⟩=_:=fun k=>aj (ai hxs)
 obtain ⟨ca,hB,gs,ts⟩:=hbg h1 d1
 have b:=vh hB
 try simp only [bRtR,cx,b.g]
 refine (nn (c:=(p.x,p.y)) gs).mono ?_
 rintro _ h1 ⟨rfl,rfl⟩
 have nb:=O4 (c:=(p.x,p.y)) gs.w2 gs.k2
 try simp (disch:=first|decide|omega) only [bRtR,cx]
 obtain ⟨o1,o2,o3,m1,m2,m3,sa⟩:=ch.sep
 have hmp:h1 mp=some o3:=(s1.open sa).at 2 rfl ag
 have k1:∀(r':Rg) (n:Int),n=numP q.w q.k p->r' 0 = .pointer (some ⟨sp,0,none⟩)->r' 3 = .pointer (some ⟨x,0,none⟩)->r' 5 = .int .i64 n->G7 G (retK P_ G [.tmp 4] fun u h'=>u = .int .i64 (numP q.w q.k p)/\∃a' c',Ch q a' ms mw mp c'/\c.le c'/\c'.L1=c.L1/\c'.L2=c.L2/\c'.P=c.P/\mget c'.L3 (numP q.w q.k p)=some (ja p)/\Sep (a'::R) h'/\Dis G h') r' h1:=by
   intro r' n hn e0 e3 e5
   unfold G7
   simp only [bRtR,e0,e3,e5,b.mp,cx]
   refine we unmp un3r hmp m3 fun o' mo'=>?_
   try simp (disch:=first|decide|omega) only [bRtR,Nat.reduceAdd,Nat.reduceMul,e5]
   have s2:=((s1.open sa).pick 2 rfl rfl).put (o:=o') ag
   rw [set_set]at s2
   have d2:=d1.set (o:=o') (d1 _ _ hmp)
   generalize Hp.set h1 mp _=h2 at s2 d2 ⊢
   obtain ⟨a',s3,t3⟩:=Sep.pack [noHp.set mp o',noHp.set ms o1,noHp.set mw o2,c.P] s2
   subst hn
   refine ⟨rfl,a',⟨c.L1,c.L2,mput c.L3 (numP q.w q.k p) (ja p),c.P⟩,⟨⟨o1,o2,o',m1,m2,mo',t3.sel [1,2,0,3] (by decide) rfl⟩,ch.m1,ch.m2,?_⟩,⟨.refl _,.refl _,?_,.refl _⟩,rfl,rfl,rfl,?_,s3,d2⟩
   . intro n v hv
     rw [ol]at hv
     split at hv
     . rename_i e
       cases hv
       exact ⟨p,hpf,e,rfl⟩
     . exact ch.m3 n v hv
   . intro n v hv
     rw [ol]
     split
     . rename_i e
       obtain ⟨p',f',n',rfl⟩:=ch.m3 n v hv
       rw [uu hpf f' (e.trans n'.symm)]
     . exact hv
   . rw [ol,if_pos rfl]
 cases hd:p.d with
 |true=>
   rw [hd]at cx
   try simp only [bRtR]
   refine k1 _ (2*numI q.w q.k (p.x,p.y)+1) (by simp [numP,hd]) (by simp (disch:=decide) only [bRtR]) (by simp (disch:=decide) only [bRtR]) (by simp only [bRtR])
 |false=>
   rw [hd]at cx
   try simp only [bRtR]
   refine k1 _ (2*numI q.w q.k (p.x,p.y)) (by simp [numP,hd]) (by simp (disch:=decide) only [bRtR]) (by simp (disch:=decide) only [bRtR]) (by simp (disch:=decide) only [bRtR])
def Dt:=jq bC (jq (jq (jq @cf108 (jq @cf115 @cf89)) (jq (jq @Di @Tm) (jq @Tl @fa134_5))) (jq (jq (jq @ld128 @ld30) (jq @qw @Xb)) (jq (jq @ld3p @Mn) (jq @ld @ir))))
theorem _root_.Go.HL.Sep.fr (A:List Hp) {R A':List Hp} {h:Hp} (s:HL.Sep (A++R) h) (is:List Nat) (nd:is.Nodup) (e:is.filterMap (fun i=>A[i]?)=A'):HL.Sep (A'++R) h:=by
 have sub:∀x∈A',x∈A:=fun x hx=>by
   rw [<- e,List.mem_filterMap]at hx
   obtain ⟨i,_,hi⟩:=hx
   exact List.mem_of_getElem? hi
 have hp:=List.pairwise_append.1 s.2
 have sA:HL.Sep A h:=⟨fun x hx=>s.1 x (List.mem_append_left _ hx),hp.1⟩
 have sA':=sA.sel is nd e
 refine ⟨fun x hx=>?_,List.pairwise_append.2 ⟨sA'.2,hp.2.1,fun x hx y hy=>hp.2.2 x (sub x hx) y hy⟩⟩
 rcases List.mem_append.1 hx with h1|h1
 . exact sA'.1 x h1
 . exact s.1 x (List.mem_append_right _ h1)
theorem Ch.look1 {q:Par} {a:Hp} {ms mw mp:Nat} {c:Cs} (ch:Ch q a ms mw mp c) {p:Pose} {v:Value} (hp:dg q.w q.k q.f p=true) (h:mget c.L1 (numP q.w q.k p)=some v):Slc mc 151 c.P v (lg q.w q.k q.T q.r p):=by
 obtain ⟨p',f',n',s'⟩:=ch.m1 _ _ h
 rw [uu f' hp n']at s'
 exact s'
theorem Ch.look2 {q:Par} {a:Hp} {ms mw mp:Nat} {c:Cs} (ch:Ch q a ms mw mp c) {p:Pose} {v:Value} (hp:dg q.w q.k q.f p=true) (h:mget c.L2 (numP q.w q.k p)=some v):WayS c.P v (qr q.C q.w q.k q.f q.T q.r p):=by
 obtain ⟨p',f',n',s'⟩:=ch.m2 _ _ h
 rw [uu f' hp n']at s'
 exact s'
theorem Ch.pool {q:Par} {a:Hp} {ms mw mp:Nat} {c:Cs} (ch:Ch q a ms mw mp c):c.P.le a:=by
 obtain ⟨o1,o2,o3,_,_,_,s⟩:=ch.sep
 exact s.in 3 rfl
theorem Ch.put1 {q:Par} {ms mw mp:Nat} {c:Cs} {o2 o3 o':Obj} {ip b:Hp} {p:Pose} {v:Value} (m1:∀n v,mget c.L1 n=some v->∃p,dg q.w q.k q.f p=true/\numP q.w q.k p=n/\Slc mc 151 c.P v (lg q.w q.k q.T q.r p))
   (ch:Ch q b ms mw mp c) (k1:MapO o' (mput c.L1 (numP q.w q.k p) v)) (k2:MapO o2 c.L2) (k3:MapO o3 c.L3) {h:Hp} {R:List Hp} (s:HL.Sep (noHp.set ms o'::noHp.set mw o2::noHp.set mp o3::c.P::ip::R) h) (hp:dg q.w q.k q.f p=true) (hn:mget c.L1 (numP q.w q.k p)=none)
   (sl:Slc mc 151 ip v (lg q.w q.k q.T q.r p)):∃a' c',Ch q a' ms mw mp c'/\c.le c'/\mget c'.L1 (numP q.w q.k p)=some v/\c'.L2=c.L2/\c'.L3=c.L3/\HL.Sep (a'::R) h:=by
 obtain ⟨P',s1,t1⟩:=Sep.pack [ip,c.P] (R:=noHp.set ms o'::noHp.set mw o2::noHp.set mp o3::R) (Sep.fr (R:=R) [noHp.set ms o',noHp.set mw o2,noHp.set mp o3,c.P,ip] s [4,3,0,1,2] (by decide) rfl)
 obtain ⟨a',s2,t2⟩:=Sep.pack [noHp.set ms o',noHp.set mw o2,noHp.set mp o3,P'] (R:=R) (Sep.fr (R:=R) [P',noHp.set ms o',noHp.set mw o2,noHp.set mp o3] s1 [1,2,3,0] (by decide) rfl)
 refine ⟨a',⟨mput c.L1 (numP q.w q.k p) v,c.L2,c.L3,P'⟩,⟨⟨o',o2,o3,k1,k2,k3,t2⟩,?_,?_,ch.m3⟩,⟨?_,.refl _,.refl _,t1.in 1 rfl⟩,by rw [ol,if_pos rfl],rfl,rfl,s2⟩
 . intro n u hu
   rw [ol]at hu
   split at hu
   . rename_i e
     cases hu
     exact ⟨p,hp,e,sl.le (t1.in 0 rfl)⟩
   . obtain ⟨p',f',n',s'⟩:=m1 n u hu
     exact ⟨p',f',n',s'.le (t1.in 1 rfl)⟩
 . intro n u hu
   obtain ⟨p',f',n',s'⟩:=ch.m2 n u hu
   exact ⟨p',f',n',s'.le (t1.in 1 rfl)⟩
 . intro n u hu
   rw [ol]
   split
   . rename_i e;rw [<- e,hn]at hu;cases hu
   . exact hu
theorem lv {G h a:Hp} {R:List Hp} {q:Par} {sp kp ms mw mp mt hp:Nat} {c:Cs} {p:Pose} (ch:Ch q a ms mw mp c) (bg:Bg G q sp kp ms mw mp mt hp) (s:HL.Sep (a::R) h) (hpf:dg q.w q.k q.f p=true):
   al P_ G 66 #[.pointer (some ⟨sp,0,none⟩),ja p] h (fun u h'=>∃a' c',Ch q a' ms mw mp c'/\c.le c'/\c'.L2=c.L2/\mget c'.L1 (numP q.w q.k p)=some u/\mget c'.L3 (numP q.w q.k p)=some (ja p)/\HL.Sep (a'::R) h'/\Dis G h'):=by
 obtain ⟨ab,cb,ap,cp,ar,cr,az,cs,gp,tp,hbg⟩:=id bg.ex
 refine al.assume fun d=>enter66 (by simp) ?_
 have hin:=Am hpf
 obtain ⟨_,_,gs,_⟩:=hbg h d
 have hpb:=in_pb gs.w2 gs.k2 hin
 unfold S66
 simp only [Dt]
 intro x hx gx
 have s1:=(s.new (o := .cells #[p.x,p.y,.bool p.d] 30 (0,0)) hx).swap
 have d1:=d.set (o := .cells #[p.x,p.y,.bool p.d] 30 (0,0)) gx
 generalize Hp.set h x _=h1 at s1 d1 ⊢
 have cx:∀k,af G h1 ⟨x,k,none⟩=_:=fun k=>aj (ai (s1.at 1 rfl ag))
 try simp (disch:=first|decide|omega) only [Dt,Nat.reduceAdd,Nat.reduceMul,cx]
 refine (zd ch bg s1 hpf).mono ?_
 rintro _ h2 ⟨rfl,a2,c2,ch2,cl2,e1,e2,e3,hm3,s2,d2⟩
 obtain ⟨ca2,hB2,gs2,ts2⟩:=hbg h2 d2
 have b2:=vh hB2
 obtain ⟨o1,o2,o3,m1,m2,m3,sa⟩:=id ch2.sep
 have hms:h2 ms=some o1:=(s2.open sa).at 0 rfl ag
 try simp only [Dt,b2.ms]
 rw [Ft unms un3r zeros (ai hms) m1]
 cases hg:mget c2.L1 (numP q.w q.k p)with
 |some v=>
   try simp only [Dt,Option.getD_some,Option.isSome_some]
   unfold Qc
   try simp (disch:=decide) only [Dt]
   exact ⟨a2,c2,ch2,cl2,e2,hg,hm3,s2.swap.drop,d2⟩
 |none=>
   have cx2:∀k,af G h2 ⟨x,k,none⟩=_:=fun k=>aj (ai (s2.at 1 rfl ag))
   try simp only [Dt,Option.getD_none,Option.isSome_none,b2.g,b2.t,b2.r,cx2]
   refine (mq (p:=p) bg.st hpb).mono ?_
   rintro _ h3 ⟨b,rfl,hb,gb,rfl⟩
   have s3:=s2.past (o := .cells #[p.x,p.y,(east p).1,(east p).2] 28 (0,0)) hb
   have d3:=d2.set (o := .cells #[p.x,p.y,(east p).1,(east p).2] 28 (0,0)) gb
   have hbs:(h2.set b (.cells #[p.x,p.y,(east p).1,(east p).2] 28 (0,0))) b=some (.cells #[p.x,p.y,(east p).1,(east p).2] 28 (0,0)):=ag
   refine ⟨b8 hb,?_⟩
   generalize Hp.set h2 b _=h3 at s3 d3 hbs ⊢
   have sc:Sees dr G h3 (.slice (some ⟨b,0,none⟩) (bz p).length 2) (bz p):=Sees.row hbs (by simp [dr,Cod.rows,bz]) (by simp [bz])
   refine (Eu (bb:=100) (hbg h3 d3).2.2.1 (hbg h3 d3).2.2.2 bg.gt bg.fw (by omega) sc (by simp [bz])).mono ?_
   rintro u h4 ⟨ip,sl,s4,d4⟩
   have s5:=(s4.swap.open s3).perm (List.perm_append_singleton _ _)
   have s6:=(Sep.fr [ip,a2] s5 [1,0] (by decide) rfl).open sa
   have b4:=vh (hbg h4 d4).2.1
   have hms4:h4 ms=some o1:=s6.at 0 rfl ag
   obtain ⟨su,cu,rfl,_⟩:=sl.len (by decide)
   try simp only [Dt,b4.ms]
   refine we unms un3r hms4 m1 fun o' mo'=>?_
   try simp (disch:=first|decide|omega) only [Dt,Nat.reduceAdd,Nat.reduceMul]
   have s7:=s6.put (o:=o') ag
   rw [set_set]at s7
   have d7:=d4.set (o:=o') (d4 _ _ hms4)
   generalize Hp.set h4 ms _=h7 at s7 d7 ⊢
   unfold Qc
   try simp (disch:=decide) only [Dt]
   obtain ⟨a8,c8,ch8,cl8,g8,l28,l38,s8⟩:=Ch.put1 ch2.m1 ch2 mo' m2 m3 s7 hpf hg sl
   exact ⟨a8,c8,ch8,cl2.trans cl8,by rw [l28,e2],g8,by rw [l38];exact hm3,s8.swap.drop,d7⟩
def oq:=jq bC (jq (jq (jq @ue @vf) (jq @cf113 (jq @cf114 @Px))) (jq (jq @Pw @ld151) (jq @ld3 (jq @ln142 @true_and))))
theorem Pf {G h:Hp} {b:Nat} {t:Int} {x:Sp} (hb:af G h ⟨b,0,none⟩=some (.int .i64 t)) (d:Dis G h):al P_ G 114 #[.agg #[x.1,x.2],.pointer (some ⟨b,0,none⟩)] h (fun u h'=>u = .bool (insB t x)/\h'=h):=by
 refine quietly (at3 (by simp) ?_)
 unfold S114
 simp only [oq]
 intro y hy gy
 have l:=b8 (o := .cells #[x.1,x.2] 151 (0,0)) hy
 have hb2:=ng l (d.set gy) hb
 try simp only [oq,hb2]
 by_cases h1:x.1<=t
 . rw [gi h1]
   try simp only [oq,hb2]
   exact ⟨by simp [insB,h1],l⟩
 . rw [ig h1]
   try simp only [oq,fe]
   exact ⟨by simp [insB,h1],l⟩
def insI (L:List Sp) (t:Int):Int:=match inside L t with
 |some i=>i
 |none => -1
theorem Ss {L:List Sp} {t:Int} (h:∀x∈L,insB t x=false):inside L t=none:=by
 unfold inside
 rw [List.findIdx?_eq_none_iff]
 exact h
theorem ab2 {L:List Sp} {t:Int} {i:Nat} {x:Sp} (hx:L[i]?=some x) (h:∀y∈L.take i,insB t y=false) (hi:insB t x=true):inside L t=some i:=by
 unfold inside
 rw [List.findIdx?_eq_some_iff_getElem]
 obtain ⟨hl,rfl⟩:=List.getElem?_eq_some_iff.1 hx
 refine ⟨hl,hi,fun j hj=>?_⟩
 have:=h L[j] (List.mem_of_getElem? (i:=j) (by rw [List.getElem?_take_of_lt hj];exact List.getElem?_eq_getElem (by omega)))
 rw [this];simp
theorem Fv {G h:Hp} {v:Value} {L:List Sp} {t:Int} (sv:Sees mc G h v L) (hL:L.length<=1000000000):
   al P_ G 65 #[v,t] h (fun u h'=>u = .int .i64 (insI L t)/\h'=h):=by
 obtain ⟨sa,cap,rfl,_⟩:=id sv
 refine al.assume fun d=>quietly (enter65 (by simp) ?_)
 unfold S65
 simp only [oq]
 intro x hx gx
 have l:=b8 (o := .cells #[t] 3 (0,0)) hx
 have d1:=d.set (o := .cells #[t] 3 (0,0)) gx
 have hxs:(h.set x (.cells #[t] 3 (0,0))) x=some (.cells #[t] 3 (0,0)):=ag
 generalize Hp.set h x _=h1 at l d1 hxs ⊢
 have cx:af G h1 ⟨x,0,none⟩=some (.int .i64 t):=by rw [aj (ai hxs)];rfl
 have key:al P_ G 113 #[.slice sa L.length cap,.func (.func 114) #[] #[.pointer (some ⟨x,0,none⟩)]] h1 (fun u h'=>u = .int .i64 (insI L t)/\h'=h1):=by
   refine quietly (at4 (by simp) ?_)
   unfold S113
   simp only [oq]
   refine di (fun m r h'=>∃i:Nat,m=L.length-i/\i<=L.length/\h'=h1/\r 0 = .slice sa L.length cap/\r 1 = .func (.func 114) #[] #[.pointer (some ⟨x,0,none⟩)]/\r 7 = .int .i64 L.length/\r 8 = .int .i64 i/\∀y∈L.take i,insB t y=false) ?_ (m:=L.length)
     ⟨0,rfl,by omega,rfl,by simp (disch:=decide) only [oq],by simp (disch:=decide) only [oq],by simp (disch:=decide) only [oq],by simp only [oq];rfl,by simp⟩
   rintro m r h' ⟨i,rfl,hi,rfl,g0,g1,g7,g8,hall⟩ X hX
   unfold Ze
   simp only [oq,g7,g8]
   refine bv (fun hlt=>?_) (fun hge=>?_)
   . obtain ⟨y,hy⟩:∃y,L[i]?=some y:=⟨_,List.getElem?_eq_getElem (by omega)⟩
     obtain ⟨b,o,rfl,y1,y2⟩:=Sees.span (sv.up l d1) hy
     unfold Ku
     simp (disch:=decide) only [oq,g0,g1,g8,Sq (Int.natCast_nonneg i) hlt,y1,y2]
     refine (Pf (x:=y) cx d1).mono ?_
     rintro _ h' ⟨rfl,rfl⟩
     refine pl (fun hb=>?_) (fun hb=>?_)
     . try simp (disch:=first|decide|omega) only [oq,Nat.reduceAdd,Nat.reduceMul,g8]
       refine ⟨?_,Hp.le.refl _⟩
       unfold insI
       rw [ab2 hy hall hb]
     . unfold Kt
       simp (disch:=first|decide|omega) only [oq,g8]
       refine hX (L.length-(i+1)) _ _ (by omega) ⟨i+1,rfl,by omega,rfl,by simp (disch:=decide) only [oq,g0],by simp (disch:=decide) only [oq,g1],by simp (disch:=decide) only [oq,g7],by simp only [oq];rfl,fun z hz=>?_⟩
       rw [List.take_add_one,hy]at hz
       rcases List.mem_append.1 hz with h2|h2
       . exact hall z h2
       . simp at h2;subst h2;exact hb
   . obtain rfl:i=L.length:=by omega
     try simp (disch:=first|decide|omega) only [oq,Nat.reduceAdd,Nat.reduceMul]
     unfold Zf
     try simp only [oq]
     refine ⟨?_,Hp.le.refl _⟩
     unfold insI
     rw [Ss (by rw [List.take_length]at hall;exact hall)]
 refine key.mono ?_
 rintro _ h1 ⟨rfl,rfl⟩
 try simp only [oq]
 exact l
end Go.Proofs.YtfflipnhffknnaaGreatDoor
end
section
namespace Go.Proofs.YtfflipnhffknnaaGreatDoor
open Go Go.HL
def fd:=jq bC (jq (jq (jq (jq @al30 (jq @al48 @Dr)) (jq (jq @Jf @Je) (jq @gg @Ja))) (jq (jq @ny (jq @cf155 @cf166)) (jq (jq @cf61 @cf78) (jq @tk @Ex)))) (jq (jq (jq @ld178 (jq @ld28 @ld30)) (jq (jq @ld4 @ld48) (jq @ld68 @my))) (jq (jq @kq (jq @qt @K6)) (jq (jq @sn @A0) (jq @Hn @true_and)))))
abbrev Fo (m:Move):Array Value:=#[Fm m]
theorem Sg {G h:Hp} {gp:Nat} {p:Pose}:al P_ G 149 #[.pointer (some ⟨gp,0,none⟩),ja p] h (fun u h'=>∃b1 b2,u = .func (.func 165) #[] #[.pointer (some ⟨b1,0,none⟩),.pointer (some ⟨b2,0,none⟩)]/\Sep [noHp.set b1 (.cells #[.pointer (some ⟨gp,0,none⟩)] 68 (0,0)),noHp.set b2 (.cells #[p.x,p.y,.bool p.d] 30 (0,0)),h] h'/\Dis G h'):=by
 refine al.assume fun d=>aq4 (by simp) ?_
 unfold S149
 simp only [fd]
 intro x hx gx y hy gy
 exact ⟨x,y,rfl,(((Sep.one (h:=h)).new hx).new hy).swap,(d.set gx).set gy⟩
theorem Us {G h a q:Hp} {y g:Value} {Y:List Move->Hp->Prop} {Q0:Move->Prop} {N:Nat} {gb pb w k:Nat} {f:Nat->Nat->Int} {p:Pose}
   (yl:YlN P_ Fo Q0 N G y Y) (ya:Y [] a) (s:Sep [a,q] h) (hg:q gb=some (.cells #[g] 68 (0,0))) (hpb:q pb=some (.cells #[p.x,p.y,.bool p.d] 30 (0,0))) (gs:GS G q g w k f) (st:iq G) (hN:(Fj w k f p).length<=N+1) (hQ:∀m∈Fj w k f p,Q0 m):
   al P_ G 182 #[y,.pointer (some ⟨gb,0,none⟩),.pointer (some ⟨pb,0,none⟩)] h (fun _ h'=>yd G q Y (Fj w k f p) h'):=by
 refine al.assume fun d=>ap0 (by simp) ?_
 unfold S182
 obtain ⟨T,hT⟩:∃T,Fj w k f p=T:=⟨_,rfl⟩
 rw [hT]at hN hQ ⊢
 refine di (fun m r h3=>∃(i:Nat) (a:Hp) (L:List Move),m=4-i/\i<=4/\r 0=y/\r 1 = .pointer (some ⟨gb,0,none⟩)/\r 2 = .pointer (some ⟨pb,0,none⟩)/\r 8 = .int .i64 i/\Sep [a,q] h3/\Dis G h3/\Y L a/\L++lx (runD w k f p) i (4-i)=T) ?_
   (m:=4) ⟨0,a,[],rfl,by decide,by simp (disch:=decide) only [fd],by simp (disch:=decide) only [fd],by simp (disch:=decide) only [fd],by simp only [fd]<;>rfl,s,d,ya,hT⟩
 rintro m r h3 ⟨i,a,L,rfl,hi,g0,g1,g2,g8,s,d,ya,hT⟩ X HX
 unfold Ye
 simp only [fd,g8]
 refine bv (fun hlt=>?_) (fun hge=>?_)
 rotate_left
 . obtain rfl:i=4:=by omega
   try simp (disch:=first|decide|omega) only [fd,Nat.reduceAdd,Nat.reduceMul]
   exact yd.go s d ya (by rw [<- hT];simp [lx])
 have hlt':i<4:=by omega
 unfold Jx
 refine di (fun m r2 h3=>∃(n:Nat) (a:Hp) (L:List Move),m=17-n/\1<=n/\n<=17/\r2 0=y/\r2 1 = .pointer (some ⟨gb,0,none⟩)/\r2 2 = .pointer (some ⟨pb,0,none⟩)/\r2 4 = .int .i64 i/\r2 5 = .int .i64 n/\r2 8 = .int .i64 i/\Sep [a,q] h3/\Dis G h3/\Y L a/\L++(kz (C1 w k f p i) (uy p i) n (17-n)++lx (runD w k f p) (i+1) (3-i))=T) ?_
   (m:=16) ⟨1,a,L,rfl,by decide,by decide,by simp (disch:=decide) only [fd,g0],by simp (disch:=decide) only [fd,g1],by simp (disch:=decide) only [fd,g2],by simp (disch:=decide) only [fd,g8],by simp (disch:=decide) only [fd]<;>rfl,by simp (disch:=decide) only [fd,g8],s,d,ya,by rw [<- hT,show 4-i=(3-i)+1 by omega];rfl⟩
 rintro m r2 h3 ⟨n,a,L,rfl,hn1,hn2,q0,q1,q2,q4,q5,q8,s,d,ya,hT⟩ X2 HX2
 have hgh:=s.at 1 rfl hg
 have hph:=s.at 1 rfl hpb
 have cg:∀j,af G h3 ⟨gb,j,none⟩=_:=fun j=>aj (ai hgh)
 have cp:∀j,af G h3 ⟨pb,j,none⟩=_:=fun j=>aj (ai hph)
 unfold Jw
 simp only [fd,q1,q2,q4,q5,cg,cp]
 have next:∀(r3:Rg) h5 (a:Hp) (L:List Move),r3 0=r2 0->r3 1=r2 1->r3 2=r2 2->r3 8=r2 8->Sep [a,q] h5->Dis G h5->Y L a->L++lx (runD w k f p) (i+1) (3-i)=T->
     B5 G (ci X (bo 0 (qg (retK P_ G [] fun x h'=>yd G q Y T h')))) r3 h5:=by
   intro r3 h5 a L w0 w1 w2 w8 s5 d5 ya5 hT5
   unfold B5
   have w8':=w8.trans q8
   simp (disch:=first|decide|omega) only [fd,w8']
   refine HX (4-(i+1)) _ _ (by omega) ⟨i+1,a,L,rfl,hlt',by simp (disch:=decide) only [fd,w0,q0],by simp (disch:=decide) only [fd,w1,q1],by simp (disch:=decide) only [fd,w2,q2],by simp only [fd]<;>rfl,s5,d5,ya5,by rw [<- hT5,show 4-(i+1)=3-i by omega]⟩
 refine (Hq (p:=p) (dir:=(i:Int)) (n:=(n:Int)) st).mono ?_
 rintro _ h4 ⟨rfl,rfl⟩
 simp (disch:=first|decide|exact aq|exact ao|omega|rfl) only [fd]
 intro x hx gx
 generalize e5:Hp.set h4 x _=h5
 obtain ⟨l5,d5,b5⟩:=boxed e5 hx d gx
 have s5:=s.le l5
 by_cases hn:n=17
 . subst hn
   have ok:okS (i:Int) ((17:Nat):Int)=false:=by
     unfold okS
     rw [show ax ((17:Nat):Int) 0 16=false from rfl]
     rfl
   try simp only [fd,ok,if_neg (show ¬(1:Nat)=2 by decide)]
   exact next _ _ a L (by simp (disch:=decide) only [fd]) (by simp (disch:=decide) only [fd]) (by simp (disch:=decide) only [fd]) (by simp (disch:=decide) only [fd]) s5 d5 ya hT
 have ok:okS (i:Int) (n:Int)=true:=by
   unfold okS
   rw [Bool.and_eq_true,dv,dv]
   omega
 have esh:lm p i n=gj p i n:=by unfold lm;rw [if_pos ok]
 rw [esh]at b5
 have cx5:∀j,af G h5 ⟨x,j,none⟩=_:=fun j=>aj (ai b5)
 have cg5:∀j,af G h5 ⟨gb,j,none⟩=_:=fun j=>aj (ai (l5 _ _ hgh))
 have cp5:∀j,af G h5 ⟨pb,j,none⟩=_:=fun j=>aj (ai (l5 _ _ hph))
 try simp only [fd,ok,cg5,cx5]
 refine (nw (p:=gj p i n) (gs.up (s5.in 1 rfl) d5) st Ee).mono ?_
 rintro _ h5 ⟨rfl,rfl⟩
 have erun:kz (C1 w k f p i) (uy p i) n (17-n)=if dg w k f (gj p i n)=true then uy p i n::kz (C1 w k f p i) (uy p i) (n+1) (17-(n+1))else []:=by
   rw [show 17-n=(17-(n+1))+1 by omega]
   rfl
 rw [erun]at hT
 cases hf:dg w k f (gj p i n)with
 |false=>
   try simp only [fd,if_neg (show ¬(1:Nat)=2 by decide)]
   rw [hf]at hT
   exact next _ _ a L (by simp (disch:=decide) only [fd]) (by simp (disch:=decide) only [fd]) (by simp (disch:=decide) only [fd]) (by simp (disch:=decide) only [fd]) s5 d5 ya hT
 |true=>
 rw [hf,if_pos rfl,List.cons_append]at hT
 try simp only [fd]
 unfold Bj
 try simp (disch:=decide) only [fd,q0,q1,q2,q4,q5,cp5,cx5]
 refine jv (fun v h6 H=>?_) (yl L (uy p i n) a q h5 (by rw [<- hT]at hN;simp only [List.length_append,List.length_cons]at hN;omega) (hQ _ (by rw [<- hT];simp)) ya s5 d5)
 obtain ⟨a6,rfl,s6,d6,z6⟩:=H
 try simp only [fd]
 unfold Bk
 simp (disch:=first|decide|omega) only [fd,q5]
 refine HX2 (17-(n+1)) _ _ (by omega) ⟨n+1,a6,L++[uy p i n],rfl,by omega,by omega,by simp (disch:=decide) only [fd,q0],by simp (disch:=decide) only [fd,q1],by simp (disch:=decide) only [fd,q2],by simp (disch:=decide) only [fd,q4],by simp only [fd]<;>rfl,by simp (disch:=decide) only [fd,q8],s6,d6,z6,by rw [<- hT];simp⟩
theorem Pg {G:Hp} {y y':Value} {Y:List Move->Hp->Prop} {Q0:Move->Prop} {N:Nat} {bx l:Nat} {o:Option Exit->Obj} {r:Rg} (yl:YlN P_ Fo Q0 N G y Y) (gl:G l=none) (ho:∀e,gu (o e)=false) (g3:r 3 = .pointer (some ⟨bx,0,none⟩))
   (hy:∀(args:Array Value) (h1:Hp) (K1:Value->Hp->Prop),args.size=1->h1 l=some (o none)->
     Qo G (setR 32 #[13] args r) h1 (fun e r2 h2=>e = .normal/\h2 l=some (o none)/\∀ob,gu ob=false->Qn G r2 (h2.set l ob) (fun e _ h3=>h3 l=some ob/\match e with
       | .normal=>K1 (.bool true) (h3.set l (o none))
       | .panic _=>False
       | .outgrown=>False
       |e=>K1 (.bool false) (h3.set l (o (some e)))))->
     opH P_ G (ij y' args) h1 K1):
   YlN P_ Fo Q0 N G y' (InY Y (noHp.set bx (.cells #[y] 178 (0,0))) l (o none)):=by
 rintro L m b q h hL hQm ⟨a,ya,sb⟩ s d
 have s1:Sep [q,a,noHp.set bx (.cells #[y] 178 (0,0)),noHp.set l (o none)] h:=by
   have:=s.swap.split sb
   simpa using this
 refine hy (Fo m) h _ rfl (s1.at 3 rfl ag) ?_
 rw [Ww (by decide)]
 unfold Qo
 simp (disch:=first|decide|exact aq|exact ao|omega|rfl) only [fd]
 intro x hx gx
 try simp (disch:=first|decide|omega) only [fd,Nat.reduceAdd,Nat.reduceMul]
 have s2:=s1.past (o:=pv m) hx
 have sx:=s1.new (o:=pv m) hx
 have d2:=d.set (o:=pv m) gx
 have nlx:l≠x:=fun e=>by rw [<- e,s1.at 3 rfl ag]at hx;cases hx
 refine ⟨by rw [au nlx];exact s1.at 3 rfl ag,fun ob hob=>?_⟩
 generalize Hp.set h x _=h2 at s2 sx d2 ⊢
 have s3:Sep [noHp.set l ob,noHp.set x (pv m),q,a,noHp.set bx (.cells #[y] 178 (0,0))] (h2.set l ob):=by
   have:=(sx.pick 4 rfl rfl).put (o:=ob) ag
   rw [set_set]at this
   exact this
 have d3:Dis G (h2.set l ob):=d2.set gl
 generalize Hp.set h2 l ob=h3 at s3 d3 ⊢
 have cb:∀j,af G h3 ⟨bx,j,none⟩=_:=fun j=>aj (ai (s3.at 4 rfl ag))
 have cx:∀j,af G h3 ⟨x,j,none⟩=_:=fun j=>aj (ai (s3.at 1 rfl ag))
 unfold Qn
 try simp (disch:=decide) only [fd,g3,cb,cx]
 have s4:Sep [noHp.set bx (.cells #[y] 178 (0,0)),noHp.set l ob,q,a] h3:=by
   exact (s3.pick 1 rfl rfl).drop.pick 3 rfl rfl
 obtain ⟨Q,s5,sQ⟩:=s4.pack3
 refine jv (fun v h6 H=>?_) (yl L m a Q h3 hL hQm ya s5.swap d3)
 obtain ⟨a6,rfl,s6,d6,z6⟩:=H
 have s7:Sep [a6,noHp.set bx (.cells #[y] 178 (0,0)),noHp.set l ob,q] h6:=by
   have:=s6.split sQ
   simpa using this
 have hl6:=s7.at 2 rfl (ag (h:=noHp) (b:=l) (o:=ob))
 have fin:∀oo:Obj,∃b',Sep [b',q] (h6.set l oo)/\Sep [a6,noHp.set bx (.cells #[y] 178 (0,0)),noHp.set l oo] b':=by
   intro oo
   have s8:Sep [noHp.set l oo,a6,noHp.set bx (.cells #[y] 178 (0,0)),q] (h6.set l oo):=by
     have:=(s7.pick 2 rfl rfl).put (o:=oo) ag
     rw [set_set]at this
     exact this
   exact (s8.rot.rot.pack3)
 try simp only [fd]
 obtain ⟨b',t1,t2⟩:=fin (o none)
 exact ⟨hl6,b',t1,d6.set gl,a6,z6,t2⟩
theorem Se {G h a q:Hp} {y g:Value} {Y:List Move->Hp->Prop} {Q0:Move->Prop} {N:Nat} {L:List Move} {gb pb bx w k:Nat} {f:Nat->Nat->Int} {p:Pose} {T:List Move} {KK:EK} {r:Rg}
   (yl:YlN P_ Fo Q0 N G y Y) (ya:Y L a) (s:Sep [a,noHp.set bx (.cells #[y] 178 (0,0)),q] h) (d:Dis G h) (hg:q gb=some (.cells #[g] 68 (0,0))) (hpb:q pb=some (.cells #[p.x,p.y,.bool p.d] 30 (0,0))) (gs:GS G q g w k f) (st:iq G) (hp:PB p)
   (g1:r 1 = .pointer (some ⟨gb,0,none⟩)) (g2:r 2 = .pointer (some ⟨pb,0,none⟩)) (g3:r 3 = .pointer (some ⟨bx,0,none⟩))
   (hN:L.length<=N) (hQ:wayB w k f (m9 p)=true->Q0 (m9 p)) (hT:L++(if wayB w k f (m9 p)=true then [m9 p]else [])=T) (H:∀r h',yd G q Y T h'->KK .normal r h'):Qm G KK r h:=by
 have cp:∀j,af G h ⟨pb,j,none⟩=_:=fun j=>aj (ai (s.at 2 rfl hpb))
 unfold Qm
 simp (disch:=first|decide|exact aq|exact ao|omega|rfl) only [fd,g1,g2,g3,cp]
 intro x hx gx
 have d2:=d.set (o:=pv (m9 p)) gx
 have s2:=s.past (o:=pv (m9 p)) hx
 have hx2:(h.set x (pv (m9 p))) x=some (pv (m9 p)):=ag
 have e:(h.set x (.cells #[(2:Int),(0:Int),(0:Int),p.x,p.y,.bool p.d,p.x,p.y,.bool !p.d,(0:Int),(0:Int)] 48 (0,0)))=h.set x (pv (m9 p)):=rfl
 try simp (disch:=first|decide|omega) only [fd,Nat.reduceAdd,Nat.reduceMul]
 rw [e]
 generalize e1:Hp.set h x _=h1 at s2 d2 hx2 ⊢
 have cg:∀j,af G h1 ⟨gb,j,none⟩=_:=fun j=>aj (ai (s2.at 2 rfl hg))
 have cb:∀j,af G h1 ⟨bx,j,none⟩=_:=fun j=>aj (ai (s2.at 1 rfl ag))
 have cx:∀j,af G h1 ⟨x,j,none⟩=_:=fun j=>aj (ai hx2)
 try simp only [fd,cg]
 refine (Ie (m:=m9 p) (gs.up (s2.in 2 rfl) d2) st (Ok hp)).mono ?_
 rintro _ _ ⟨rfl,rfl⟩
 cases hw:wayB w k f (m9 p)with
 |false=>
   rw [hw,if_neg (by simp),List.append_nil]at hT
   try simp only [fd]
   exact H _ _ (yd.go (s2.pick 1 rfl rfl).drop d2 ya hT)
 |true=>
   rw [hw,if_pos rfl]at hT
   try simp only [fd,cb,cx]
   obtain ⟨Q,s5,sQ⟩:=s2.rot.rot.pack2
   refine jv (fun v h6 R=>?_) (yl L (m9 p) a Q _ hN (hQ hw) ya s5.swap d2)
   obtain ⟨a6,rfl,s6,d6,z6⟩:=R
   refine H _ _ ?_
   have s7:Sep [a6,noHp.set bx (.cells #[y] 178 (0,0)),q] h6:=by
     have:=s6.split sQ
     simpa using this
   refine ⟨a6,(s7.pick 1 rfl rfl).drop,d6,?_⟩
   rw [<- hT]
   exact z6
theorem Sf {G h a q:Hp} {y g:Value} {Y:List Move->Hp->Prop} {Q0:Move->Prop} {N:Nat} {gb pb w k:Nat} {f:Nat->Nat->Int} {p:Pose} (hyf:∃fn a b,y = .func fn a b)
   (yl:YlN P_ Fo Q0 N G y Y) (ya:Y [] a) (s:Sep [a,q] h) (hg:q gb=some (.cells #[g] 68 (0,0))) (hpb:q pb=some (.cells #[p.x,p.y,.bool p.d] 30 (0,0))) (gs:GS G q g w k f) (st:iq G) (hp:PB p) (hN:(lr w k f p).length<=N) (hQ:∀m∈lr w k f p,Q0 m):
   al P_ G 165 #[y,.pointer (some ⟨gb,0,none⟩),.pointer (some ⟨pb,0,none⟩)] h (fun _ h'=>yd G q Y (lr w k f p) h'):=by
 obtain ⟨fn,fa,fb,rfl⟩:=hyf
 obtain ⟨⟨gp,kb,rfl,_⟩,_⟩:=id gs
 refine al.assume fun d=>ap4 (by simp) ?_
 unfold S165
 simp only [fd]
 intro bx hbx gbx
 have s1:Sep [a,noHp.set bx (.cells #[.func fn fa fb] 178 (0,0)),q] (h.set bx (.cells #[.func fn fa fb] 178 (0,0))):=(s.new hbx).swap
 have d1:=d.set (o := .cells #[.func fn fa fb] 178 (0,0)) gbx
 generalize Hp.set h bx _=h1 at s1 d1 ⊢
 have cg:∀j,af G h1 ⟨gb,j,none⟩=_:=fun j=>aj (ai (s1.at 2 rfl hg))
 have cp:∀j,af G h1 ⟨pb,j,none⟩=_:=fun j=>aj (ai (s1.at 2 rfl hpb))
 try simp only [fd,cg,cp]
 refine (nw (p:=p) (gs.up (s1.in 2 rfl) d1) st hp).mono ?_
 rintro _ _ ⟨rfl,rfl⟩
 unfold lr at hN hQ ⊢
 cases hf:dg w k f p with
 |false=>
   try simp only [fd]
   exact ⟨a,(s1.pick 1 rfl rfl).drop,d1,ya⟩
 |true=>
 rw [hf,if_pos rfl,List.length_append]at hN
 rw [hf,if_pos rfl]at hQ
 try simp only [fd]
 unfold Yi
 try simp (disch:=decide) only [fd,cg,cp]
 refine (Zy (gp:=gp) (p:=p)).mono ?_
 rintro _ _ ⟨b1,b2,rfl,hb1,gb1,hb2,gb2,rfl⟩
 have s2:Sep [(q.set b1 (.cells #[.pointer (some ⟨gp,0,none⟩)] 68 (0,0))).set b2 (.cells #[p.x,p.y,.bool p.d] 30 (0,0)),a,noHp.set bx (.cells #[.func fn fa fb] 178 (0,0))] _:=((s1.pick 2 rfl rfl).grow (o := .cells #[.pointer (some ⟨gp,0,none⟩)] 68 (0,0)) hb1).grow (o := .cells #[p.x,p.y,.bool p.d] 30 (0,0)) hb2
 have d2:=(d1.set (o := .cells #[.pointer (some ⟨gp,0,none⟩)] 68 (0,0)) gb1).set (o := .cells #[p.x,p.y,.bool p.d] 30 (0,0)) gb2
 have e12:b1≠b2:=je hb2
 have hq1:q b1=none:=(s1.in 2 rfl).none hb1
 have lq:q.le ((q.set b1 (.cells #[.pointer (some ⟨gp,0,none⟩)] 68 (0,0))).set b2 (.cells #[p.x,p.y,.bool p.d] 30 (0,0))):=(b8 hq1).trans (b8 (by rw [au (Ne.symm e12)];exact (s1.in 2 rfl).none (jf hb2)))
 have hq1':((q.set b1 (.cells #[.pointer (some ⟨gp,0,none⟩)] 68 (0,0))).set b2 (.cells #[p.x,p.y,.bool p.d] 30 (0,0))) b1=some (.cells #[.pointer (some ⟨gp,0,none⟩)] 68 (0,0)):=by rw [au e12,ag]
 have hq2':((q.set b1 (.cells #[.pointer (some ⟨gp,0,none⟩)] 68 (0,0))).set b2 (.cells #[p.x,p.y,.bool p.d] 30 (0,0))) b2=some (.cells #[p.x,p.y,.bool p.d] 30 (0,0)):=ag
 generalize (q.set b1 (.cells #[.pointer (some ⟨gp,0,none⟩)] 68 (0,0))).set b2 (.cells #[p.x,p.y,.bool p.d] 30 (0,0))=q2 at s2 lq hq1' hq2'
 generalize Hp.set (Hp.set _ b1 _) b2 _=h2 at s2 d2 ⊢
 intro y' l o hl gl ho HY
 rw [opE76]
 have s3:Sep [a,noHp.set bx (.cells #[.func fn fa fb] 178 (0,0)),noHp.set l (o none),q2] (h2.set l (o none)):=((s2.new (o:=o none) hl).pick 3 rfl rfl).pick 3 rfl rfl
 have d3:Dis G (h2.set l (o none)):=d2.set gl
 obtain ⟨B,sB,tB⟩:=s3.pack3
 have gs2:GS G q2 (.pointer (some ⟨gp,0,none⟩)) w k f:=gs.up lq (fun b o e=>d3 b o (sB.in 1 rfl _ _ e))
 refine (Us (p:=p) (Pg yl gl ho (by simp (disch:=decide) only [fd]) HY) ⟨a,ya,tB⟩ sB hq1' hq2' gs2 st (by omega) (fun m hm=>hQ m (List.mem_append_left _ hm))).mono ?_
 rintro _ h5 ⟨b5,s5,d5,a5,ya5,t5⟩
 have s6:Sep [q2,a5,noHp.set bx (.cells #[.func fn fa fb] 178 (0,0)),noHp.set l (o none)] h5:=by
   have:=s5.swap.split t5
   simpa using this
 obtain ⟨h6,s7,t7⟩:=s6.pack3
 refine ⟨h6,s7.in 0 rfl,?_,.inl ⟨s7.at 1 rfl ag,?_⟩⟩
 . rcases s7.apart (b:=noHp.set l (o none)) (by simp) l with e|e
   . exact e
   . rw [ag]at e;cases e
 try simp only [fd]
 have d6:Dis G h6:=fun b o e=>d5 b o (s7.in 0 rfl _ _ e)
 refine Se yl ya5 ((t7.cut lq).rot.rot) d6 hg hpb gs st hp (by simp (disch:=decide) only [fd]) (by simp (disch:=decide) only [fd]) (by simp (disch:=decide) only [fd]) (by omega) (fun hw=>hQ _ (List.mem_append_right _ (by rw [if_pos hw];exact .head _))) rfl fun r h' H=>?_
 try simp only [fd]
 exact H
end Go.Proofs.YtfflipnhffknnaaGreatDoor
end
section
namespace Go.Proofs.YtfflipnhffknnaaGreatDoor
open Go Go.HL Go.Proofs.Resv Go.Proofs.Srch
def Jg:=jq bC (jq (jq (jq (jq @al48 @P3) (jq @ad3 (jq @cf108 @cf30))) (jq (jq @cf90 (jq @ao3 @Di)) (jq @ao2 (jq @Tm @Tl)))) (jq (jq (jq @aj8 @aj7) (jq @zi (jq @Xb @ld3p))) (jq (jq @Sj (jq @ld50p @Mn)) (jq @ir (jq @Hn @true_and)))))
def WaP (q:Par) (ip P2:Hp) (v:Value) (L:List Move):Prop:=∃raws:List RawW,Slc tg 232 ip v raws/\raws.length=L.length/\
 ∀(i:Nat) (x:RawW) (m:Move),raws[i]?=some x->L[i]?=some m->x.m=m/\x.d=dp q.C m/\x.n=(li q.T q.r ((jj q.w q.k q.f m).map (numI q.w q.k))).length/\Slc mc 151 P2 (.slice x.a x.n x.c) (li q.T q.r ((jj q.w q.k q.f m).map (numI q.w q.k)))
def MvY (q:Par) (kp sp xl x0 l:Nat) (ob:Obj) (L:List Move) (b:Hp):Prop:=∃ip v P2 ak,WaP q ip P2 v L/\KP ak kp q.C.un q.C.ac q.C.sp/\
 HL.Sep [ip,noHp.set xl (.cells #[v] 229 (0,0)),P2,ak,noHp.set x0 (.cells #[.pointer (some ⟨sp,0,none⟩)] 127 (0,0)),noHp.set l ob] b
theorem Lm {w k:Nat} {f:Nat->Nat->Int} {m:Move} (hw:w<=16) (hk:k<=16):(jj w k f m).length<=300:=by
 unfold jj
 split
 . have hn:(ml w k (wayL m)).Nodup:=(rk (w:=w) (k:=k) (W:=wayL m)).imp fun h e=>by subst e;omega
   have:=Ap hn (fun c hc=>jc.2 (pc.1 hc).1)
   have h2:w*k<=16*16:=Nat.mul_le_mul hw hk
   omega
 . simp
theorem Sd {G:Hp} {q:Par} {y:Value} {kp ms mw mp mt hp sp xl x0 l:Nat} {oo:Option Exit->Obj} {r:Rg} (bg:Bg G q sp kp ms mw mp mt hp) (gl:G l=none) (ho:∀e,gu (oo e)=false) (g2:r 2 = .pointer (some ⟨x0,0,none⟩)) (g6:r 6 = .pointer (some ⟨xl,0,none⟩))
   (hy:∀(args:Array Value) (h1:Hp) (K1:Value->Hp->Prop),args.size=1->h1 l=some (oo none)->
     Q5 G (setR 71 #[29] args r) h1 (fun e r2 h2=>e = .normal/\h2 l=some (oo none)/\∀ob,gu ob=false->Q4 G r2 (h2.set l ob) (fun e _ h3=>h3 l=some ob/\match e with
       | .normal=>K1 (.bool true) (h3.set l (oo none))
       | .panic _=>False
       | .outgrown=>False
       |e=>K1 (.bool false) (h3.set l (oo (some e)))))->
     opH P_ G (ij y args) h1 K1):YlN P_ Fo MB 1000 G y (MvY q kp sp xl x0 l (oo none)):=by
 rintro L m b R h hL hm ⟨ip,v,P2,ak,⟨raws,sl,hlen,hraw⟩,kpk,sb⟩ s d
 obtain ⟨ab,cb,ap,cp,ar,cr,az,cs,gp,tp,hbg⟩:=id bg.ex
 have s1:HL.Sep [ip,noHp.set xl (.cells #[v] 229 (0,0)),P2,ak,noHp.set x0 (.cells #[.pointer (some ⟨sp,0,none⟩)] 127 (0,0)),noHp.set l (oo none),R] h:=s.open sb
 refine hy (Fo m) h _ rfl (s1.at 5 rfl ag) ?_
 rw [Ww (by decide)]
 unfold Q5
 simp (disch:=first|decide|exact aq|exact ao|omega|rfl) only [Jg]
 intro xm hxm gxm
 try simp (disch:=first|decide|omega) only [Jg,Nat.reduceAdd,Nat.reduceMul]
 have s2:=s1.new (o:=pv m) hxm
 have d2:=d.set (o:=pv m) gxm
 have nlx:l≠xm:=fun e=>by rw [<- e,s1.at 5 rfl ag]at hxm;cases hxm
 refine ⟨by rw [au nlx];exact s1.at 5 rfl ag,fun ob hob=>?_⟩
 generalize Hp.set h xm _=h2 at s2 d2 ⊢
 have s3:=(s2.pick 6 rfl rfl).put (o:=ob) ag
 rw [set_set]at s3
 have d3:Dis G (h2.set l ob):=d2.set gl
 generalize Hp.set h2 l ob=h3 at s3 d3 ⊢
 obtain ⟨sv,cv,rfl,hcv⟩:=sl.len (by decide)
 obtain ⟨Q,s4,sQ⟩:=Sep.pack [noHp.set xl (.cells #[.slice sv raws.length cv] 229 (0,0)),noHp.set xm (pv m),noHp.set x0 (.cells #[.pointer (some ⟨sp,0,none⟩)] 127 (0,0))] (R:=[ak,P2,ip,noHp.set l ob,R]) (s3.sel [3,1,6,5,4,2,0,7] (by decide) rfl)
 have dQ:Dis G Q:=fun b o e=>d3 b o (s4.in 0 rfl _ _ e)
 obtain ⟨caQ,cQ,gsQ,tsQ⟩:=hbg Q dQ
 simp only [ou]at cQ
 have cl:af G Q ⟨xl,0,none⟩=some (.slice sv raws.length cv):=by rw [aj (ai (sQ.at 0 rfl ag))];rfl
 have cm:∀j,af G Q ⟨xm,j,none⟩=_:=fun j=>aj (ai (sQ.at 1 rfl ag))
 have c0:af G Q ⟨x0,0,none⟩=some (.pointer (some ⟨sp,0,none⟩)):=by rw [aj (ai (sQ.at 2 rfl ag))];rfl
 unfold Q4
 refine ⟨Q,s4.in 0 rfl,?_⟩
 try simp (disch:=decide) only [Jg,g2,g6,cl,cm,c0,cQ]
 refine (Ij (m:=m) (hbg h3 d3).1.cv kpk (s4.pick 1 rfl rfl) hm.n).mono ?_
 rintro _ h5 ⟨rfl,ak5,kpk5,s5,d5⟩
 refine ⟨s5.in 1 rfl,?_⟩
 obtain ⟨ca5,c5,gs5,ts5⟩:=hbg h5 d5
 refine (He (m:=m) gs5 bg.st hm).mono ?_
 rintro u6 h6 ⟨ip6,sl6,s6,d6⟩
 have s6':=(s6.swap.open s5)
 refine ⟨s6'.in 1 rfl,?_⟩
 obtain ⟨ca6,c6,gs6,ts6⟩:=hbg h6 d6
 refine (Eu (bb:=100) gs6 ts6 bg.gt bg.fw (by omega) (sl6.see (by decide) (s6.in 0 rfl)) (Lm gs6.w2 gs6.k2)).mono ?_
 rintro u7 h7 ⟨ip7,sl7,s7,d7⟩
 have s7':=s7.swap.open s6'
 refine ⟨s7'.in 1 rfl,?_⟩
 obtain ⟨s8v,c8v,rfl,hc8⟩:=sl7.len (by decide)
 try simp only [Jg]
 intro xb hxb gxb
 have s8:=s7'.past (o := .cells (tg.enc ⟨m,dp q.C m,s8v,(li q.T q.r ((jj q.w q.k q.f m).map (numI q.w q.k))).length,c8v⟩).toArray 232 (0,0)) hxb
 have d8:=d7.set (o := .cells (tg.enc ⟨m,dp q.C m,s8v,(li q.T q.r ((jj q.w q.k q.f m).map (numI q.w q.k))).length,c8v⟩).toArray 232 (0,0)) gxb
 have hxs:(h7.set xb (.cells (tg.enc ⟨m,dp q.C m,s8v,(li q.T q.r ((jj q.w q.k q.f m).map (numI q.w q.k))).length,c8v⟩).toArray 232 (0,0))) xb=some (.cells (tg.enc ⟨m,dp q.C m,s8v,(li q.T q.r ((jj q.w q.k q.f m).map (numI q.w q.k))).length,c8v⟩).toArray 232 (0,0)):=ag
 simp only [tg]at s8 d8 hxs
 generalize Hp.set h7 xb _=h8 at s8 d8 hxs ⊢
 refine ez tg (by decide) (L:=raws) (M:=[⟨m,dp q.C m,s8v,(li q.T q.r ((jj q.w q.k q.f m).map (numI q.w q.k))).length,c8v⟩]) un229 eoway (by decide) (by decide) (s8.pick 3 rfl rfl) d8 sl (Sees.row hxs (by simp [tg,Cod.rows]) (by simp)) (by simp;omega) ?_
 intro v9 ip9 h9 sl9 s9 d9
 obtain ⟨sa9,c9,rfl,hc9⟩:=sl9.len (by decide)
 try simp (disch:=first|decide|omega) only [Jg,Nat.reduceAdd,Nat.reduceMul]
 have s10:HL.Sep [noHp.set xl (.cells #[.slice sv raws.length cv] 229 (0,0)),noHp.set xm (pv m),noHp.set x0 (.cells #[.pointer (some ⟨sp,0,none⟩)] 127 (0,0)),ip9,ak5,P2,noHp.set l ob,R,ip6,ip7] h9:=(s9.pick 2 rfl rfl).open sQ
 have hk9:h9 xl=some (.cells [Value.slice sv raws.length cv].toArray 229 (0,0)):=s10.at 0 rfl ag
 rw [dh sz229 rfl hk9 (by simp)]
 try simp only [Jg,List.set_cons_zero]
 generalize hraws9:(raws++[⟨m,dp q.C m,s8v,(li q.T q.r ((jj q.w q.k q.f m).map (numI q.w q.k))).length,c8v⟩])=raws9 at*
 have s11:=s10.put (o := .cells #[.slice sa9 raws9.length c9] 229 (0,0)) ag
 rw [set_set]at s11
 have d11:=d9.set (o := .cells #[.slice sa9 raws9.length c9] 229 (0,0)) (d9 _ _ hk9)
 generalize Hp.set h9 xl _=h11 at s11 d11 ⊢
 try simp (disch:=first|decide|omega) only [Jg,Nat.reduceAdd,Nat.reduceMul]
 refine ⟨s11.at 6 rfl ag,?_⟩
 have s12:=(s11.pick 6 rfl rfl).put (o:=oo none) ag
 rw [set_set]at s12
 obtain ⟨P9,s13,t13⟩:=Sep.pack [P2,ip7] (R:=[ip9,noHp.set xl (.cells #[.slice sa9 raws9.length c9] 229 (0,0)),ak5,noHp.set x0 (.cells #[.pointer (some ⟨sp,0,none⟩)] 127 (0,0)),noHp.set l (oo none),R]) (s12.sel [6,9,4,1,5,3,0,7] (by decide) rfl)
 obtain ⟨b',t1,t2⟩:=Sep.pack [ip9,noHp.set xl (.cells #[.slice sa9 raws9.length c9] 229 (0,0)),P9,ak5,noHp.set x0 (.cells #[.pointer (some ⟨sp,0,none⟩)] 127 (0,0)),noHp.set l (oo none)] (R:=[R]) (s13.sel [1,2,0,3,4,5,6] (by decide) rfl)
 refine ⟨b',t1,d11.set gl,ip9,.slice sa9 raws9.length c9,P9,ak5,⟨raws9,sl9,by rw [<- hraws9];simp [hlen],fun i x u hx hu=>?_⟩,kpk5,t2⟩
 rw [<- hraws9]at hx
 by_cases hi:i<L.length
 . rw [List.getElem?_append_left (by omega)]at hx
   rw [List.getElem?_append_left hi]at hu
   obtain ⟨q1,q2,q3,q4⟩:=hraw i x u hx hu
   exact ⟨q1,q2,q3,q4.le (t13.in 0 rfl)⟩
 . rw [List.getElem?_append_right (by omega)]at hx hu
   rw [hlen]at hx
   obtain hi0:i-L.length=0:=by
     have:=(List.getElem?_eq_some_iff.1 hu).1
     simp at this;omega
   rw [hi0]at hx hu
   cases hx
   cases hu
   exact ⟨rfl,rfl,rfl,sl7.le (t13.in 1 rfl)⟩
end Go.Proofs.YtfflipnhffknnaaGreatDoor
end

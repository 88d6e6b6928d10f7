/- Texts of the proof, one behind the other. -/
import Derived.Test.YtfflipnhffknnaaGreatDoorM6
import Derived.Test.YtfflipnhffknnaaGreatDoorM4
import Derived.Test.YtfflipnhffknnaaGreatDoorH2
import Derived.Test.YtfflipnhffknnaaGreatDoorH3
import Derived.Test.YtfflipnhffknnaaGreatDoorRows
import Derived.Test.YtfflipnhffknnaaGreatDoorTie
import Derived.JoinedOf
import Derived.Handed
import Derived.LaidMore
import Derived.LaidHandle
import Derived.LaidLaws
import Derived.MakeChecks
set_option linter.unusedSimpArgs false
set_option linter.unusedVariables false
set_option maxRecDepth 100000
set_option maxHeartbeats 8000000
set_option linter.defProp false
section
namespace Go.Proofs.YtfflipnhffknnaaGreatDoor
open Go Go.HL Go.Proofs.Resv Go.Proofs.Srch
def bn:=jq bC (jq (jq (jq (jq @bd45_0p (jq @Py @qp)) (jq (jq @Pw @ag7) (jq @cf21 @cf23))) (jq (jq (jq @cf25 @cf27) (jq @cf28 @cf42)) (jq (jq @cf44 @cf50) (jq @cf51 @cf52)))) (jq (jq (jq @ex2 (jq @zj @Lw)) (jq (jq @Cn @Lv) (jq @fa97_1p @fa97_2p))) (jq (jq (jq @fa97_3p @ld26) (jq @Ok @ld3)) (jq (jq @yg @ld3p) (jq @ld99p @ln77)))))
def ownT (n:Nat) (rb:Int) (T:Tb) (x:Hold):Tb:=(gn T rb [⟨x.c % (n:Int),x.f,x.t⟩]).2
theorem Kx {n:Nat} {rb:Int}:∀(l:List Hold) (T:Tb) (b:Nat),ix T→Few T b→ix (l.foldl (ownT n rb) T)∧Few (l.foldl (ownT n rb) T) (b+l.length)∧(l.foldl (ownT n rb) T).length=T.length∧ll rb T (l.foldl (ownT n rb) T)
 |[],T,b,g,f=>⟨g,f,rfl,.refl⟩
 |x::l,T,b,g,f=>by
   obtain ⟨g1,f1,l1⟩:=Jj (r:=rb) (l:=[⟨x.c % (n:Int),x.f,x.t⟩]) g f
   obtain ⟨g2,f2,l2,a2⟩:=Kx l (ownT n rb T x) (b+1) g1 f1
   rw [List.foldl_cons]
   refine ⟨g2,fun L hL=>?_,l2.trans l1,ll.trans (P5 g) a2⟩
   have:=f2 L hL
   rw [List.length_cons]
   omega
theorem tab40 (n:Nat) (l:List Hold):∀L∈tabL n l,L.length≤40:=fun L hL=>by
 obtain ⟨g,f,e⟩:=tl (n:=n) (l.take 40) (List.replicate n []) 0 tk (fun L hL=>by rw [List.eq_of_mem_replicate hL];exact Nat.le_refl _)
 have:=f L hL
 rw [List.length_take]at this
 omega
theorem X9 {n:Nat} {rb:Int} {T:Tb} {l:List Hold} {i:Nat} {x:Hold} (hx:l[i]?=some x):(l.take (i+1)).foldl (ownT n rb) T=ownT n rb ((l.take i).foldl (ownT n rb) T) x:=by
 rw [List.take_add_one,hx,List.foldl_append]
 rfl

theorem Rz {G:Hp} {v:Value} {C:Conf} {p g:Pose} {r0 t:Int} {lv ov:Value} {l own:List Hold} (pp:PB p) (pg:PB g) (br:Bd r0) (hl:ul Fb G lv l) (hlb:∀x∈l,Kl x) (ho:ul Fb G ov own) (hob:∀x∈own,Kl x) (st:je G) (hv:CV G noHp v C) (fit:Fit0 C) (hro:∀p∈C.ro,PB p):
   aj P_ G 16 #[v,lv,ov,.int .i64 r0,kg p,.int .i64 t,kg g] noHp (fun u _=>u = .bool true):=by
 have hv0:=hv
 obtain ⟨ab,cb,ap,cp,ar,cr,az,cs,rfl,ca⟩:=hv
 refine aj.assume fun d=>enter16 (by simp) ?_
 unfold S16
 simp only [bn]
 intro xc hxc gxc x1 hx1 gx1 x2 hx2 gx2
 generalize e1:Hp.set noHp xc _=h1 at*
 obtain ⟨l1,d1,q1⟩:=boxed e1 hxc d gxc
 generalize e2:Hp.set h1 x1 _=h2 at*
 obtain ⟨l2,d2,q2⟩:=boxed e2 hx1 d1 gx1
 generalize e3:Hp.set h2 x2 _=hz at*
 obtain ⟨l3,dz,q3⟩:=boxed e3 hx2 d2 gx2
 have L:=l1.trans (l2.trans (l3))
 have bc:=l3 _ _ (l2 _ _ (q1))
 have b1:=l3 _ _ (q2)
 have b2:=q3
 have cc:∀{h':Hp},hz.le h'→∀k,aa G h' ⟨xc,k,none⟩=_:=fun l k=>ai (ag (l _ _ bc))
 have c1:∀{h':Hp},hz.le h'→∀k,aa G h' ⟨x1,k,none⟩=_:=fun l k=>ai (ag (l _ _ b1))
 have c2:∀{h':Hp},hz.le h'→∀k,aa G h' ⟨x2,k,none⟩=_:=fun l k=>ai (ag (l _ _ b2))
 have ca0:=ca.up L dz
 have lz:=Hp.le.refl hz
 have aw:∀{h:Hp} {K:VK},(∀h',K (.bool true) h')→aj P_ G 23 #[] h K:=fun hK=>(awake12 st).mono fun u h' e=>by rw [e.1];exact hK h'
 try simp only [bn,cc lz]
 refine (small12 ca0.cv).mono ?_
 rintro _ hz ⟨⟨b,rfl,hb⟩,rfl⟩
 cases b with
 |false=>
   try simp only [bn,dx]
   exact aw fun h'=>by simp only [bn]
 |true=>
 have sm:=hb rfl
 have mk:lk C:=Oh.2 sm.may
 obtain ⟨n1,n2,n3,n4⟩:=Np sm
 try simp only [bn]
 unfold ao7
 try simp (disch:=decide) only [bn]
 refine (qh (a:=r0) (n:=5) br (by decide) (by decide)).mono ?_
 rintro _ hz ⟨rfl,rfl⟩
 have rb0:=Int.emod_nonneg r0 (by decide:(5:Int)≠0)
 have rb1:=Int.emod_lt_of_pos r0 (by decide:(0:Int)<5)
 generalize r0 % 5=rb at rb0 rb1 ⊢
 try simp only [bn,cc lz]
 refine (C1 ca0.cv sm hl hlb).mono ?_
 rintro _ h4 ⟨a1,a2,t1,t2,rfl,tab1,tab2,s4,d4⟩
 have l4:=s4.in 2 rfl
 try simp only [bn,cc l4]
 refine (C1 (ca0.up l4 d4).cv sm hl hlb).mono ?_
 rintro _ h5 ⟨b1,b2,u1,u2,rfl,tub1,tub2,s5,d5⟩
 try simp only [bn]
 generalize hn:(C.w*C.h).toNat=n at*
 obtain ⟨gT,fT,lT⟩:=tab_ok n l
 have hF40:∀L∈tabL n l,L.length≤40:=tab40 n l
 generalize hT:tabL n l=T at*
 have s6:=(HL.Sep.open (L:=[a1,a2,hz]) (R:=[b1,b2]) (s5.sel (L':=[h4,b1,b2]) [2,0,1] (by decide) rfl) s4)
 obtain ⟨B,s7,tB⟩:=HL.Sep.pack [a1,a2,b2,hz] (R:=[b1]) (s6.sel [0,1,4,2,3] (by decide) rfl)
 have s8:=s7.swap
 have lB:hz.le B:=tB.in 3 rfl
 clear s4 s5 s6 s7
 unfold ao6
 generalize hKK:retK P_ G _ _=KK
 obtain ⟨oa,oc,rfl⟩:=(ho h5 d5).len
 refine bv (fun m q h'=>∃(i:Nat) (b1:Hp),m=20-i∧i≤20∧i≤own.length∧q 2 = .slice oa own.length oc∧q 3 = .int .i64 rb∧q 5 = .int .i64 t∧q 7 = .pointer (some ⟨xc,0,none⟩)∧q 11 = .pointer (some ⟨x1,0,none⟩)∧q 13 = .pointer (some ⟨x2,0,none⟩)∧q 15 = .pointer (some ⟨t1,0,none⟩)∧q 18 = .pointer (some ⟨u1,0,none⟩)∧q 21 = .int .i64 i∧
   Rv.Tab 124 b1 u1 ((own.take i).foldl (ownT n rb) T)∧HL.Sep [b1,B] h'∧Dis G h') ?_ (m:=20)
   ⟨0,b1,rfl,by omega,by omega,by simp (disch:=decide) only [bn],by simp (disch:=decide) only [bn],by simp (disch:=decide) only [bn],by simp (disch:=decide) only [bn],by simp (disch:=decide) only [bn],by simp (disch:=decide) only [bn],by simp (disch:=decide) only [bn],by simp (disch:=decide) only [bn],by simp only [bn];rfl,tub1,s8,d5⟩
 clear s8 tub1
 rintro m q h6 ⟨i,b1,rfl,hi,hil,q2_,q3_,q5_,q7_,q11_,q13_,q15_,q18_,q21_,tub1,s8,d6⟩ X hX
 obtain ⟨gU,fU,lU,aU⟩:=Kx (n:=n) (rb:=rb) (own.take i) T 100 gT fT
 have lB6:=s8.in 1 rfl
 generalize hU:(own.take i).foldl (ownT n rb) T=U at*
 unfold Ue
 simp only [bn,q21_,q2_]
 have go:∀r':Rg,r' 3 = .int .i64 rb→r' 5 = .int .i64 t→r' 7 = .pointer (some ⟨xc,0,none⟩)→r' 11 = .pointer (some ⟨x1,0,none⟩)→r' 13 = .pointer (some ⟨x2,0,none⟩)→r' 15 = .pointer (some ⟨t1,0,none⟩)→r' 18 = .pointer (some ⟨u1,0,none⟩)→bj 0 (bo (Sd G KK) KK) (.exit 0) r' h6:=fun r' e3 e5 e7 e11 e13 e15 e18=>by
   have lz6:=lB.trans lB6
   have tsU:∀{h':Hp},h6.le h'→Dis G h'→Rv.TSee G h' u1 U:=fun l d=>(tub1.see (s8.in 0 rfl)).up l d
   have tvT:∀{h':Hp},h6.le h'→Dis G h'→TabV G h' (.pointer (some ⟨t1,0,none⟩)) (some T):=fun l d=>⟨t1,rfl,(tab1.see ((tB.in 0 rfl).trans (lB6.trans l))),gT,fT⟩
   have fU100:Few U 100:=fun L hL=>by
     have h0:∀L∈T,L.length≤40:=hF40
     have:=(Kx (n:=n) (rb:=rb) (own.take i) T 40 gT h0).2.1
     rw [hU]at this
     have:=this L hL
     rw [List.length_take]at this
     omega
   have tvU:∀{h':Hp},h6.le h'→Dis G h'→TabV G h' (.pointer (some ⟨u1,0,none⟩)) (some U):=fun l d=>⟨u1,rfl,tsU l d,gU,fU100⟩
   have hlenU:((U.length:Nat):Int)=C.w*C.h:=by rw [lU,lT];exact n4
   have fU2:∀L∈U,L.length≤100000:=fun L hL=>by have:=fU100 L hL;omega
   try simp only [bn]
   unfold Sd
   refine bv (fun m q h'=>∃(c:Nat) (wp pb:Hp) (raws:List Rv.Sv) (v:Value),m=n-c∧c≤n∧q 3 = .int .i64 rb∧q 5 = .int .i64 t∧q 7 = .pointer (some ⟨xc,0,none⟩)∧q 11 = .pointer (some ⟨x1,0,none⟩)∧q 13 = .pointer (some ⟨x2,0,none⟩)∧q 15 = .pointer (some ⟨t1,0,none⟩)∧q 18 = .pointer (some ⟨u1,0,none⟩)∧q 22=v∧q 23 = .int .i64 c∧
     Slc Rv.svC 99 wp v raws∧raws.length=c∧(∀(j:Nat) (x:Rv.Sv),raws[j]?=some x→Slc Rv.bh 203 pb (.slice x.1 x.2.1 x.2.2) (rowT U j))∧HL.Sep [wp,pb,h6] h'∧Dis G h') ?_ (m:=n)
     ⟨0,noHp,noHp,[],_,rfl,by omega,by simp (disch:=decide) only [bn,e3],by simp (disch:=decide) only [bn,e5],by simp (disch:=decide) only [bn,e7],by simp (disch:=decide) only [bn,e11],by simp (disch:=decide) only [bn,e13],by simp (disch:=decide) only [bn,e15],by simp (disch:=decide) only [bn,e18],by simp (disch:=decide) only [bn],by simp only [bn];rfl,Slc.nil,rfl,(fun j x hx=>by simp at hx),HL.Sep.one.none.none,d6⟩
   rintro m q h7 ⟨c,wp,pb,raws,v,rfl,hc,f3,f5,f7,f11,f13,f15,f18,f22,f23,sl,hlen,hrows,s9,d7⟩ Y hY
   have l7:=s9.in 2 rfl
   unfold ao2
   simp (disch:=first|decide|omega) only [bn,f7,f23,cc (lz6.trans l7)]
   rw [← n4]
   refine bf (fun hlt=>?_) (fun hge=>?_)
   rotate_left
   · obtain rfl:c=n:=by omega
     try simp (disch:=first|decide|omega) only [bn,Nat.reduceAdd,Nat.reduceMul]
     unfold ao5
     have lz7:=lz6.trans l7
     try simp (disch:=decide) only [bn,f7,cc lz7]
     refine (yj (ca0.up lz7 d7).cv fit).mono ?_
     rintro u20 k20 ⟨⟨_,_,_,_,_,_,_,_,co20⟩,dk20⟩
     have lk20:h7.le k20:=co20.sep.in 4 rfl
     refine ⟨lk20,?_⟩
     try simp only [bn,f15,f3,f5,f11,f13,c1 lz7,c2 lz7]
     refine (Je (To:=some (T)) (p:=p) (gp:=g) (rb:=rb) (t:=t) (any:=false) mk (co20.cv (Hp.le.refl _)) st hro fit sm.bu (tvT (l7.trans lk20) dk20) pp pg).mono ?_
     rintro _ m20 ⟨ip20,vs20,rfl,sl20,ll20,sm20,dm20⟩
     have lm20:h7.le m20:=lk20.trans (sm20.in 1 rfl)
     have lz8:=lz7.trans lm20
     try simp only [bn,f7,cc lz8]
     refine (yj (ca0.up lz8 dm20).cv fit).mono ?_
     rintro u21 k21 ⟨⟨_,_,_,_,_,_,_,_,co21⟩,dk21⟩
     have lk21:m20.le k21:=co21.sep.in 4 rfl
     refine ⟨lk21,?_⟩
     try simp only [bn,f18,f3,f5,f11,f13,c1 lz8,c2 lz8]
     refine (Je (To:=some (U)) (p:=p) (gp:=g) (rb:=rb) (t:=t) (any:=false) mk (co21.cv (Hp.le.refl _)) st hro fit sm.bu (tvU (l7.trans (lm20.trans lk21)) dk21) pp pg).mono ?_
     rintro _ m21 ⟨ip21,vs21,rfl,sl21,ll21,sm21,dm21⟩
     have lm21:m20.le m21:=lk21.trans (sm21.in 1 rfl)
     rw [← O9 (C:=C) (p:=p) (t:=t) (gp:=g) (any:=false) aU]at sl21 ll21 ⊢
     generalize pi C (some T) rb p t g false=W at sl20 sl21 ll20 ll21 ⊢
     have lz9:=lz8.trans lm21
     have l79:h7.le m21:=lm20.trans lm21
     have seeA:∀{h':Hp},m21.le h'→Dis G h'→Sees jj G h' vs20 (outL W):=fun l d=>(sl20.sees (G:=G) (by decide) ((sm20.in 0 rfl).trans (lm21.trans l)))
     have seeB:∀{h':Hp},m21.le h'→Dis G h'→Sees jj G h' vs21 (outL W):=fun l d=>(sl21.sees (G:=G) (by decide) ((sm21.in 0 rfl).trans l))
     obtain ⟨wa,wcap,rfl,_⟩:=sl.len (by decide)
     have seeW:∀{h':Hp},m21.le h'→Dis G h'→Sees Rv.svC G h' (.slice wa raws.length wcap) raws:=fun l d=>(sl.sees (G:=G) (by decide) ((s9.in 0 rfl).trans (l79.trans l)))
     try simp only [bn]
     refine bv (fun m q h'=>∃c2:Nat,m=c-c2∧c2≤c∧q 7 = .pointer (some ⟨xc,0,none⟩)∧q 18 = .pointer (some ⟨u1,0,none⟩)∧q 22 = .slice wa raws.length wcap∧q 24=vs20∧q 25 = .int .i64 (outE W)∧q 26=vs21∧q 27 = .int .i64 (outE W)∧q 28 = .int .i64 c2∧m21.le h'∧Dis G h') ?_ (m:=c)
       ⟨0,rfl,by omega,by simp (disch:=decide) only [bn,f7],by simp (disch:=decide) only [bn,f18],by simp (disch:=decide) only [bn,f22],by simp (disch:=decide) only [bn],by simp (disch:=decide) only [bn],by simp (disch:=decide) only [bn],by simp (disch:=decide) only [bn],by simp only [bn];rfl,Hp.le.refl _,dm21⟩
     rintro m q h8 ⟨c2,rfl,hc2,e7',e18',e22',e24',e25',e26',e27',e28',l8',d8'⟩ Z hZ
     have lz10:=lz9.trans l8'
     unfold ao3
     simp (disch:=first|decide|omega) only [bn,e7',e28',cc lz10]
     rw [← n4]
     refine bf (fun hlt2=>?_) (fun hge2=>?_)
     rotate_left
     · try simp (disch:=first|decide|omega) only [bn,Nat.reduceAdd,Nat.reduceMul]
       unfold ao4
       rw [← hKK]
       try simp (disch:=decide) only [bn,e24',e25',e26',e27',show (outE W==outE W)=true from beq_self_eq_true _]
       refine (Et (seeA l8' d8') (seeB l8' d8') (by omega)).mono ?_
       rintro _ h8 ⟨rfl,rfl⟩
       try simp only [bn,decide_true]
       exact aw fun h'=>by simp only [bn]
     unfold Kj
     simp (disch:=decide) only [bn,e18',e28',e22']
     refine (Rv.Eo (c:=(c2:Int)) (tsU (l7.trans (l79.trans l8')) d8') fU2).mono ?_
     rintro v9 h9 ⟨io,o9,s10,d9⟩
     rw [Rv.Nx]at o9
     have l9':=s10.in 1 rfl
     refine ⟨l9',?_⟩
     obtain ⟨x,hx⟩:∃x,raws[c2]?=some x:=⟨_,List.getElem?_eq_getElem (by omega)⟩
     have hrow:=hrows c2 x hx
     have hxl:x.2.1=(rowT U c2).length:=by
       obtain ⟨q1,q2,e,_⟩:=hrow.len (by decide)
       simp only [Value.slice.injEq]at e;exact e.2.1
     obtain ⟨wb,wo,wc,ew_,xw⟩:=(seeW l8' d8').get hx
     simp only [Value.slice.injEq]at ew_
     obtain ⟨rfl,-,-⟩:=ew_
     have xw0:=xw 0 (by decide)
     simp only [Rv.svC,Nat.add_zero,Nat.mul_one,List.getElem?_cons_zero]at xw0
     try simp only [bn,Ta (Int.natCast_nonneg c2) (show (c2:Int)<raws.length by omega),Nat.mul_one,xw0]
     have hM:Sees Rv.bh G h9 (.slice x.1 x.2.1 x.2.2) (rowT U c2):=hrow.sees (by decide) ((s9.in 1 rfl).trans (l79.trans (l8'.trans l9')))
     refine (Rv.Es (o9.sees (by decide) (s10.in 0 rfl)) hM (by have:=qd fU100 (c2:Int);omega)).mono ?_
     rintro _ h9 ⟨rfl,rfl⟩
     try simp only [bn,decide_true]
     unfold Ki
     try simp (disch:=first|decide|omega) only [bn,e28']
     exact hZ (c-(c2+1)) _ _ (by omega) ⟨c2+1,rfl,by omega,by simp (disch:=decide) only [bn,e7'],by simp (disch:=decide) only [bn,e18'],by simp (disch:=decide) only [bn,e22'],by simp (disch:=decide) only [bn,e24'],by simp (disch:=decide) only [bn,e25'],by simp (disch:=decide) only [bn,e26'],by simp (disch:=decide) only [bn,e27'],by simp only [bn];rfl,l8'.trans l9',d9⟩
   unfold Gn
   simp (disch:=decide) only [bn,f18,f23]
   refine (Rv.Eo (c:=(c:Int)) (tsU l7 d7) fU2).mono ?_
   rintro v8 h8 ⟨io,o8,s10,d8⟩
   rw [Rv.Nx]at o8
   obtain ⟨sa8,cap8,rfl,_⟩:=o8.len (by decide)
   have s11:HL.Sep [io,wp,pb,h6] h8:=by
     have:=HL.Sep.open (L:=[wp,pb,h6]) (R:=[io]) s10.swap s9
     exact this.sel [3,0,1,2] (by decide) rfl
   try simp only [bn]
   intro z hz9 gz9
   have s12:=s11.new (o := .cells #[.slice sa8 (rowT U c).length cap8] 99 (0,0)) hz9
   have d12:=d8.set (o := .cells #[.slice sa8 (rowT U c).length cap8] 99 (0,0)) gz9
   generalize Hp.set h8 z _=h12 at s12 d12 ⊢
   try simp only [bn,f22]
   obtain ⟨pb',s13,tP⟩:=HL.Sep.pack [io,pb] (R:=[wp,noHp.set z (.cells #[.slice sa8 (rowT U c).length cap8] 99 (0,0)),h6]) (s12.sel [1,3,2,0,4] (by decide) rfl)
   refine du Rv.svC (by decide) un98 Rv.eosv (by decide) (by decide) (M:=[(sa8,(rowT U c).length,cap8)]) (s13.sel (L':=[wp,noHp.set z (.cells #[.slice sa8 (rowT U c).length cap8] 99 (0,0)),pb',h6]) [1,2,0,3] (by decide) rfl) d12 sl (Sees.row (c:=Rv.svC) (L:=[(sa8,(rowT U c).length,cap8)]) ((s12.at 0 rfl) af) rfl (Nat.le_refl _)) (by simp;omega) fun v3 a3 h3 o3 s3 d3=>?_
   try simp (disch:=first|decide|omega) only [bn,Nat.reduceAdd,Nat.reduceMul]
   unfold Gm
   try simp (disch:=first|decide|omega) only [bn,f23]
   refine hY (n-(c+1)) _ _ (by omega) ⟨c+1,a3,pb',raws++[(sa8,(rowT U c).length,cap8)],v3,rfl,by omega,by simp (disch:=decide) only [bn,f3],by simp (disch:=decide) only [bn,f5],by simp (disch:=decide) only [bn,f7],by simp (disch:=decide) only [bn,f11],by simp (disch:=decide) only [bn,f13],by simp (disch:=decide) only [bn,f15],by simp (disch:=decide) only [bn,f18],by simp (disch:=decide) only [bn],by simp only [bn];rfl,o3,by simp [hlen],fun j x hx=>?_,s3.sel [0,2,3] (by decide) rfl,d3⟩
   by_cases hj:j<c
   · rw [List.getElem?_append_left (by omega)]at hx
     exact (hrows j x hx).le (tP.in 1 rfl)
   · obtain rfl:j=c:=by
       have:=(List.getElem?_eq_some_iff.1 hx).1
       simp [hlen]at this
       omega
     rw [List.getElem?_append_right (by omega),hlen,Nat.sub_self]at hx
     cases hx
     exact o8.le (tP.in 0 rfl)
 by_cases c1':(i:Int)<own.length
 rotate_left
 · try simp only [bn,ib c1',dx]
   exact go _ (by simp (disch:=decide) only [bn,q3_]) (by simp (disch:=decide) only [bn,q5_]) (by simp (disch:=decide) only [bn,q7_]) (by simp (disch:=decide) only [bn,q11_]) (by simp (disch:=decide) only [bn,q13_]) (by simp (disch:=decide) only [bn,q15_]) (by simp (disch:=decide) only [bn,q18_])
 by_cases c2':(i:Int)<20
 rotate_left
 · try simp only [bn,i6 c1',ib c2']
   exact go _ (by simp (disch:=decide) only [bn,q3_]) (by simp (disch:=decide) only [bn,q5_]) (by simp (disch:=decide) only [bn,q7_]) (by simp (disch:=decide) only [bn,q11_]) (by simp (disch:=decide) only [bn,q13_]) (by simp (disch:=decide) only [bn,q15_]) (by simp (disch:=decide) only [bn,q18_])
 try simp only [bn,i6 c1',i6 c2']
 obtain ⟨y,hy⟩:∃y,own[i]?=some y:=⟨_,List.getElem?_eq_getElem (by omega)⟩
 have hyb:=hob y (List.mem_of_getElem? hy)
 obtain ⟨b,o,rfl,w0,w1,w2,w3⟩:=Sees.hold (ho h6 d6) hy
 unfold Dy
 have lz6:=lB.trans lB6
 simp (disch:=first|decide|omega) only [bn,q2_,q21_,q7_,ix77p (Int.natCast_nonneg i) c1',w0,w1,w2,w3,cc lz6]
 first|rw [n3]|rw [← n4]|skip
 refine (qh (a:=y.c) (n:=(n:Int)) hyb.2.1 (by omega) (by omega)).mono ?_
 rintro _ h6 ⟨rfl,rfl⟩
 refine ⟨Hp.le.refl _,?_⟩
 try simp only [bn,q2_,q21_,ix77p (Int.natCast_nonneg i) c1',w0,w1,w2,w3]
 intro w hw gw
 have s9:=s8.new (o := .cells #[.int .i64 (y.c % (n:Int)),.int .i64 y.f,.int .i64 y.t] 75 (0,0)) hw
 have d9:=d6.set (o := .cells #[.int .i64 (y.c % (n:Int)),.int .i64 y.f,.int .i64 y.t] 75 (0,0)) gw
 generalize Hp.set h6 w _=h9 at s9 d9 ⊢
 rw [q18_,q3_]
 refine (Rv.Fu (r:=rb) (l:=[⟨y.c % (n:Int),y.f,y.t⟩]) tub1 (s9.sel [1,0,2] (by decide) rfl) (zd (w:=⟨y.c % (n:Int),y.f,y.t⟩)) gU fU (by simp;omega)).mono ?_
 rintro _ h10 ⟨rfl,b1',tub1',s10,d10⟩
 try simp (disch:=first|decide|omega) only [bn,Nat.reduceAdd,Nat.reduceMul]
 unfold Dx
 try simp (disch:=first|decide|omega) only [bn,q21_]
 refine hX (20-(i+1)) _ _ (by omega) ⟨i+1,b1',rfl,by omega,by omega,by simp (disch:=decide) only [bn,q2_],by simp (disch:=decide) only [bn,q3_],by simp (disch:=decide) only [bn,q5_],by simp (disch:=decide) only [bn,q7_],by simp (disch:=decide) only [bn,q11_],by simp (disch:=decide) only [bn,q13_],by simp (disch:=decide) only [bn,q15_],by simp (disch:=decide) only [bn,q18_],by simp only [bn];rfl,?_,s10.sel [0,2] (by decide) rfl,d10⟩
 rw [X9 hy,hU]
 exact tub1'
end Go.Proofs.YtfflipnhffknnaaGreatDoor
end

section
namespace Go.Proofs.YtfflipnhffknnaaGreatDoor
open Go Go.HL Go.ChangeShapes Go.WideShapes Go.RowKit
theorem Ya:ownKnob P_.godebug=none:=by kernel_rfl
theorem Yu:laidOutB P_=true:=by kernel_rfl
theorem Y4:P_.globalNamed "skep/grid.steps" = some 0:=by kernel_rfl
theorem tSteps:(P_.globals[0]?).map (·.type)=some 245:=by kernel_rfl

abbrev I3:List (String × DataW Unit):=[("skep/grid.steps",Rows.laid_skep_grid_steps)]

theorem ag0 (os:Os) (args:Array Value):laidMetH P_ I3 ((World.doorLaid P_ 400 os).forCall (fun _ _=>0) ⟨#[],args,[]⟩).memory:=
 laidMetH_of_parts3 (fuel:=8) (laidMet_of_run' 8 (by kernel_rfl) (by kernel_rfl)) (by kernel_rfl) (by kernel_rfl)

theorem Pl {H:Type} {enc:TypeId × Value→H} {P:Program} {w:World} {base:Nat} {spare:Nat→Bool} {held:Bool} {e:TypeId} {fuel:Nat} {cs:List Value} {y:DataW H × List MemPlace} {tos:List (TypeId × Nat)} (ht:fj P e=some tos)
   (h:DataW.trod enc P w base spare held fuel e cs=some y):cs.length=P.cellsOf e∧∃(xs:List (DataW H × List MemPlace)) (m:Nat),y=(.agg (xs.map (·.1)),xs.flatMap (·.2))∧xs.length=tos.length∧∀(i:Nat) (t o:Nat),tos[i]?=some (t,o)→DataW.trod enc P w base spare held m t ((cs.drop o).take (P.cellsOf t))=xs[i]?:=by
 unfold fj at ht
 split at ht
 · rename_i fs hfs
   obtain ⟨xs,n,_,h0,h1,h2,h3⟩:=DataW.trod_struct hfs h
   simp only [Option.some.injEq]at ht
   subst ht
   refine ⟨h1,xs,n,h0,by simp [h2],fun i t o hi=>?_⟩
   rw [List.getElem?_map,Array.getElem?_toList]at hi
   cases q:fs[i]? with
   |none=>rw [q]at hi;cases hi
   |some f=>
     rw [q]at hi
     simp only [Option.map_some,Option.some.injEq,Prod.mk.injEq]at hi
     obtain ⟨rfl,rfl⟩:=hi
     exact h3 i f q
 · cases ht

theorem un3i:P_.underlying 3=some (.int .i64):=by kernel_rfl
theorem c3:P_.cellsOf 3=1:=by kernel_rfl
theorem c28:P_.cellsOf 28=2:=by kernel_rfl
theorem c81:P_.cellsOf 245=8:=by kernel_rfl
theorem sf28:fj P_ 28=some [(3,0),(3,1)]:=by kernel_rfl

theorem Ag {H:Type} {enc:TypeId × Value→H} {w:World} {base:Nat} {spare:Nat→Bool} {held:Bool} {m:Nat} {cs:List Value} {x:DataW H × List MemPlace} {a b:Int}
   (h:DataW.trod enc P_ w base spare held m 28 cs=some x) (e:x.1 = .agg [.lit (.int .i64 a),.lit (.int .i64 b)]):cs=[.int .i64 a,.int .i64 b]:=by
 obtain ⟨hl,xs,n,rfl,hxl,d⟩:=Pl sf28 h
 rw [c28]at hl
 match cs,hl,xs,hxl with
 |[v0,v1],_,[x0,x1],_=>
 have h0:=d 0 3 0 rfl
 have h1:=d 1 3 1 rfl
 rw [c3]at h0 h1
 obtain ⟨k0,e0,f0,_⟩:=DataW.trod_int un3i (show DataW.trod _ _ _ _ _ _ n 3 _=some x0 from h0)
 obtain ⟨k1,e1,f1,_⟩:=DataW.trod_int un3i (show DataW.trod _ _ _ _ _ _ n 3 _=some x1 from h1)
 simp at e0 e1
 subst e0 e1 f0 f1
 simp at e
 obtain ⟨rfl,rfl⟩:=e
 rfl

theorem len8 {α:Type} {L:List α} (h:L.length=8):∃a b c d e f g i,L=[a,b,c,d,e,f,g,i]:=by
 match L,h with
 |[a,b,c,d,e,f,g,i],_=>exact ⟨a,b,c,d,e,f,g,i,rfl⟩

theorem of_laid {W:World} (h:laidMetH P_ I3 W):je (ground W):=by
 rw [MakeChecks.laidMetH_plain _ _ _ (by kernel_rfl)]at h
 obtain ⟨ps,⟨g0,t0,cs0,f0,p0,q0,hg0,ht0,hv0,hd0,_,_⟩,_,_⟩:=h
 obtain rfl:=Option.some.inj (Y4.symm.trans hg0)
 obtain rfl:=Option.some.inj (tSteps.symm.trans ht0)
 obtain ⟨xs,m,rfl,hx,hl,hxl,hel⟩:=DataW.trod_array un81 hd0
 rw [c81]at hl
 rw [c28]at hel
 simp only [Prod.mk.injEq]at hx
 obtain ⟨hx,_⟩:=hx
 have hobj:∃e f,W.heap[0]?=some (.cells cs0 e f):=by
   unfold World.var? at hv0
   rw [Y4]at hv0
   simp only [Option.bind_some]at hv0
   split at hv0
   · rename_i c e f hc
     cases hv0
     exact ⟨e,f,hc⟩
   · cases hv0
 obtain ⟨e,f,hobj⟩:=hobj
 refine ⟨e,f,?_⟩
 show W.heap[0]?=_
 rw [hobj]
 match xs,hxl with
 |[x0,x1,x2,x3],_=>
 have h0:=hel 0 (by decide)
 have h1:=hel 1 (by decide)
 have h2:=hel 2 (by decide)
 have h3:=hel 3 (by decide)
 unfold Rows.laid_skep_grid_steps at hx
 simp only [List.map_cons,List.map_nil,DataW.agg.injEq,List.cons.injEq]at hx
 have k0:=Ag (show DataW.trod _ _ _ _ _ _ m 28 _=some x0 from h0) hx.1.symm
 have k1:=Ag (show DataW.trod _ _ _ _ _ _ m 28 _=some x1 from h1) hx.2.1.symm
 have k2:=Ag (show DataW.trod _ _ _ _ _ _ m 28 _=some x2 from h2) hx.2.2.1.symm
 have k3:=Ag (show DataW.trod _ _ _ _ _ _ m 28 _=some x3 from h3) hx.2.2.2.1.symm
 obtain ⟨cs⟩:=cs0
 obtain ⟨a0,a1,a2,a3,a4,a5,a6,a7,rfl⟩:=len8 hl
 simp at k0 k1 k2 k3
 obtain ⟨rfl,rfl⟩:=k0
 obtain ⟨rfl,rfl⟩:=k1
 obtain ⟨rfl,rfl⟩:=k2
 obtain ⟨rfl,rfl⟩:=k3
 rfl
section
theorem qk {H:Type} {P:Program} {ts:List TypeId} {ds:List (DataW H)} (h:(DataW.weightsEach P ts ds).all (· ≤ reachBytes)=true) {j:Nat} {t:TypeId} {d:DataW H} (ht:ts[j]?=some t) (hd:ds[j]?=some d):ny P t d:=fun n hn=>by
 simpa using List.all_eq_true.1 h n (DataW.weights_mem_each ht hd n hn)

theorem ux {P:Program} {w:World} {r:Reach} {base:Nat} {t:TypeId} {v:Value} {tos:List (TypeId × Nat)} (ht:fj P t=some tos) (hv:Value.okWide P w r base t v):∃cs:Array Value,v = .agg cs:=by
 unfold fj at ht
 split at ht
 · rename_i fs hfs
   obtain ⟨cs,rfl,_⟩:=okWide_struct hfs hv
   exact ⟨cs,rfl⟩
 · cases ht

theorem sf30:fj P_ 30=some [(28,0),(4,2)]:=by kernel_rfl
theorem sf95:fj P_ 234=some [(28,0),(168,2)]:=by kernel_rfl
theorem sf26:fj P_ 26=some [(3,0),(3,1),(3,2),(22,3),(22,4),(23,5),(24,6),(3,7),(3,8),(3,9),(3,10),(3,11),(3,12),(3,13),(3,14),(4,15)]:=by kernel_rfl
theorem un4b:P_.underlying 4=some .bool:=by kernel_rfl
theorem c4:P_.cellsOf 4=1:=by kernel_rfl
theorem c22:P_.cellsOf 22=1:=by kernel_rfl
theorem c23:P_.cellsOf 23=1:=by kernel_rfl
theorem c24:P_.cellsOf 24=1:=by kernel_rfl
theorem c26:P_.cellsOf 26=16:=by kernel_rfl
theorem c30:P_.cellsOf 30=3:=by kernel_rfl
theorem c57:P_.cellsOf 168=1:=by kernel_rfl
theorem c95:P_.cellsOf 234=3:=by kernel_rfl

section
variable {H:Type} {enc:TypeId × Value→H} {w:World} {base:Nat} {spare:Nat→Bool} {held:Bool}

theorem len2 {α:Type} {L:List α} (h:L.length=2):∃a b,L=[a,b]:=by
 match L,h with
 |[a,b],_=>exact ⟨a,b,rfl⟩
theorem len3 {α:Type} {L:List α} (h:L.length=3):∃a b c,L=[a,b,c]:=by
 match L,h with
 |[a,b,c],_=>exact ⟨a,b,c,rfl⟩

theorem Bf {m:Nat} {cs:List Value} {y:DataW H × List MemPlace} (h:DataW.trod enc P_ w base spare held m 28 cs=some y):∃c:Cell,cs=di.enc c∧Bd c.1∧Bd c.2:=by
 obtain ⟨hl,d⟩:=zl sf28 h
 rw [c28]at hl
 obtain ⟨v0,v1,rfl⟩:=len2 hl
 obtain ⟨m0,z0,e0⟩:=d 0 _ _ rfl
 obtain ⟨m1,z1,e1⟩:=d 1 _ _ rfl
 rw [c3]at e0 e1
 obtain ⟨x0,f0,b0⟩:=jf un3i e0
 obtain ⟨x1,f1,b1⟩:=jf un3i e1
 simp at f0 f1
 subst f0 f1
 exact ⟨(x0,x1),rfl,b0,b1⟩
theorem N6 {m:Nat} {cs:List Value} {y:DataW H × List MemPlace} (h:DataW.trod enc P_ w base spare held m 30 cs=some y):∃p:Pose,cs=uv.enc p∧PB p:=by
 obtain ⟨hl,d⟩:=zl sf30 h
 rw [c30]at hl
 obtain ⟨v0,v1,v2,rfl⟩:=len3 hl
 obtain ⟨m0,z0,e0⟩:=d 0 _ _ rfl
 obtain ⟨m1,z1,e1⟩:=d 1 _ _ rfl
 rw [c28]at e0
 rw [c4]at e1
 obtain ⟨c,f0,b0⟩:=Bf e0
 obtain ⟨b,f1⟩:=Pm un4b e1
 simp [di]at f0 f1
 obtain ⟨rfl,rfl⟩:=f0
 subst f1
 exact ⟨⟨c.1,c.2,b⟩,rfl,b0⟩

def RawOk (G:Hp) (r:Raw):Prop:=∃L:List Int,r.n=L.length∧Room L.length 8∧∀h,Dis G h→Sees icC G h (.slice r.a r.n r.c) L

theorem Aj {n bytes:Nat} (h:n*bytes≤reachBytes) (hb:bytes≤40):Room n bytes:=by
 unfold Room
 rw [show reachBytes=140737488351232 from rfl]at h
 rw [Nat.add_mul,Nat.mul_assoc]
 have:192*bytes≤7680:=by omega
 omega

theorem raw_dec {m:Nat} {cs:List Value} {y:DataW H × List MemPlace} (h:DataW.trod enc P_ w base spare held m 234 cs=some y) (hw:ny P_ 234 y.1):∃r:Raw,cs=rawC.enc r∧RawOk (ground w) r:=by
 obtain ⟨hl,d⟩:=Dh sf95 h hw
 rw [c95]at hl
 obtain ⟨v0,v1,v2,rfl⟩:=len3 hl
 obtain ⟨m0,z0,e0,_⟩:=d 0 _ _ rfl
 obtain ⟨m1,z1,e1,w1⟩:=d 1 _ _ rfl
 rw [c28]at e0
 rw [c57]at e1
 obtain ⟨c,f0,b0⟩:=Bf e0
 obtain ⟨a,n,cap,L,f1,hL,hs,hg,_⟩:=qo icC (fun _=>True) Eh c3 (by decide) (fun _ _ _ h _=>let ⟨x,e,_⟩:=jf un3i h;⟨x,e,trivial⟩) e1 w1
 simp [di]at f0 f1
 obtain ⟨rfl,rfl⟩:=f0
 subst f1
 rw [show P_.bytesOf 3=8 by kernel_rfl]at hs
 subst hL
 exact ⟨⟨c.1,c.2,a,L.length,cap⟩,rfl,L,rfl,Aj hs (by decide),hg⟩

theorem len16 {α:Type} {L:List α} (h:L.length=16):∃a b c d e f g i j k l m n o p q,L=[a,b,c,d,e,f,g,i,j,k,l,m,n,o,p,q]:=by
 match L,h with
 |[a,b,c,d,e,f,g,i,j,k,l,m,n,o,p,q],_=>exact ⟨a,b,c,d,e,f,g,i,j,k,l,m,n,o,p,q,rfl⟩

theorem ag5 {m:Nat} {cs:List Value} {y:DataW H × List MemPlace} (h:DataW.trod enc P_ w base spare held m 26 cs=some y) (hw:ny P_ 26 y.1):
   ∃C:Conf,(∀h,Dis (ground w) h→CV (ground w) h (.agg cs.toArray) C)∧Fit0 C∧∀p∈C.ro,PB p:=by
 obtain ⟨hl,d⟩:=Dh sf26 h hw
 rw [c26]at hl
 obtain ⟨v0,v1,v2,v3,v4,v5,v6,v7,v8,v9,v10,v11,v12,v13,v14,v15,rfl⟩:=len16 hl
 obtain ⟨_,_,e0,_⟩:=d 0 _ _ rfl
 obtain ⟨_,_,e1,_⟩:=d 1 _ _ rfl
 obtain ⟨_,_,e2,_⟩:=d 2 _ _ rfl
 obtain ⟨_,_,e3,w3⟩:=d 3 _ _ rfl
 obtain ⟨_,_,e4,w4⟩:=d 4 _ _ rfl
 obtain ⟨_,_,e5,w5⟩:=d 5 _ _ rfl
 obtain ⟨_,_,e6,w6⟩:=d 6 _ _ rfl
 obtain ⟨_,_,e7,_⟩:=d 7 _ _ rfl
 obtain ⟨_,_,e8,_⟩:=d 8 _ _ rfl
 obtain ⟨_,_,e9,_⟩:=d 9 _ _ rfl
 obtain ⟨_,_,e10,_⟩:=d 10 _ _ rfl
 obtain ⟨_,_,e11,_⟩:=d 11 _ _ rfl
 obtain ⟨_,_,e12,_⟩:=d 12 _ _ rfl
 obtain ⟨_,_,e13,_⟩:=d 13 _ _ rfl
 obtain ⟨_,_,e14,_⟩:=d 14 _ _ rfl
 obtain ⟨_,_,e15,_⟩:=d 15 _ _ rfl
 simp only [c3,c4,c22,c23,c24]at e0 e1 e2 e3 e4 e5 e6 e7 e8 e9 e10 e11 e12 e13 e14 e15
 obtain ⟨x0,f0,_⟩:=jf un3i e0
 obtain ⟨x1,f1,_⟩:=jf un3i e1
 obtain ⟨x2,f2,_⟩:=jf un3i e2
 obtain ⟨ab,nb,cb,B,f3,hB,sB,gB,_⟩:=qo di (fun _=>True) un22 c28 (by decide) (fun _ _ _ h _=>let ⟨x,e,_⟩:=Bf h;⟨x,e,trivial⟩) e3 w3
 obtain ⟨ap,np,cp,PO,f4,hP,sP,gP,_⟩:=qo di (fun _=>True) un22 c28 (by decide) (fun _ _ _ h _=>let ⟨x,e,_⟩:=Bf h;⟨x,e,trivial⟩) e4 w4
 obtain ⟨ar,nr,cr,R,f5,hR,sR,gR,qR⟩:=qo uv PB un23 c30 (by decide) (fun _ _ _ h _=>N6 h) e5 w5
 obtain ⟨az,nz,cz,Z,f6,hZ,sZ,gZ,qZ⟩:=qo rawC (RawOk (ground w)) un24 c95 (by decide) (fun _ _ _ h hw=>raw_dec h hw) e6 w6
 obtain ⟨x7,f7,_⟩:=jf un3i e7
 obtain ⟨x8,f8,_⟩:=jf un3i e8
 obtain ⟨x9,f9,_⟩:=jf un3i e9
 obtain ⟨x10,f10,_⟩:=jf un3i e10
 obtain ⟨x11,f11,_⟩:=jf un3i e11
 obtain ⟨x12,f12,_⟩:=jf un3i e12
 obtain ⟨x13,f13,_⟩:=jf un3i e13
 obtain ⟨x14,f14,_⟩:=jf un3i e14
 obtain ⟨x15,f15⟩:=Pm un4b e15
 simp at f0 f1 f2 f3 f4 f5 f6 f7 f8 f9 f10 f11 f12 f13 f14 f15
 subst f0 f1 f2 f3 f4 f5 f6 f7 f8 f9 f10 f11 f12 f13 f14 f15
 subst hB hP hR hZ
 rw [show P_.bytesOf 28=16 by kernel_rfl]at sB sP
 rw [show P_.bytesOf 30=24 by kernel_rfl]at sR
 rw [show P_.bytesOf 234=40 by kernel_rfl]at sZ
 obtain ⟨S,hS,qS⟩:=D6 (Q:=fun i (s:Cell × List Int)=>∀r,Z[i]?=some r→(r.x,r.y)=s.1∧r.n=s.2.length∧Room s.2.length 8∧∀h,Dis (ground w) h→Sees icC (ground w) h (.slice r.a s.2.length r.c) s.2) Z.length (fun i hi=>by
   obtain ⟨L,e,rm,se⟩:=qZ _ (List.getElem_mem hi)
   refine ⟨((Z[i].x,Z[i].y),L),fun r hr=>?_⟩
   rw [List.getElem?_eq_getElem hi]at hr
   cases hr
   exact ⟨rfl,e,rm,fun h d=>by rw [← e];exact se h d⟩)
 refine ⟨⟨x0,x1,x2,B,PO,R,S,x7,x8,x9,x10,x11,x12,x13,x14,x15⟩,fun h d=>⟨ab,cb,ap,cp,ar,cr,az,cz,by simp only [Po,hS],gB h d,gP h d,gR h d,Z,by show Sees rawC _ h (.slice az S.length cz) Z;rw [hS];exact gZ h d,fun i r s hr hs=>?_⟩,⟨Aj sB (by decide),Aj sP (by decide),Aj sR (by decide),by show Room S.length 40;rw [hS];exact Aj sZ (by decide),fun s hs=>?_⟩,qR⟩
 · obtain ⟨a,b,c,e⟩:=qS i s hs r hr
   exact ⟨a,b,e h d⟩
 · obtain ⟨i,hi⟩:=List.getElem?_of_mem hs
   have hi2:i<Z.length:=by rw [← hS];exact (List.getElem?_eq_some_iff.1 hi).1
   exact (qS i s hi _ (List.getElem?_eq_getElem hi2)).2.2.1

theorem N7 {r:Reach} {b0:Nat} {v:Value} {d:DataW H} {ps:List MemPlace} (k:Value.okWide P_ w r b0 30 v) (h:DataW.Trod enc P_ w base spare held 30 v d ps):∃p:Pose,v=kg p∧PB p:=by
 obtain ⟨cs,rfl⟩:=ux sf30 k
 obtain ⟨m,h⟩:=h
 obtain ⟨c,e,b⟩:=N6 (cs:=cs.toList) h
 exact ⟨c,by rw [← Array.toArray_toList (xs:=cs),e];rfl,b⟩
theorem Td {r:Reach} {b0:Nat} {v:Value} {d:DataW H} {ps:List MemPlace} (k:Value.okWide P_ w r b0 3 v) (h:DataW.Trod enc P_ w base spare held 3 v d ps):∃n:Int,v = .int .i64 n∧Bd n:=by
 obtain ⟨n,rfl,rfl,rfl,wf⟩:=open_int un3i k h
 exact ⟨n,rfl,by simpa [Lit.wf,IntKind.min,IntKind.max,IntKind.signed,IntKind.bits,Bd]using wf⟩
theorem ag6 {r:Reach} {b0:Nat} {v:Value} {d:DataW H} {ps:List MemPlace} (k:Value.okWide P_ w r b0 26 v) (h:DataW.Trod enc P_ w base spare held 26 v d ps) (hl:ny P_ 26 d):
   ∃C:Conf,(∀h,Dis (ground w) h→CV (ground w) h v C)∧Fit0 C∧∀p∈C.ro,PB p:=by
 obtain ⟨cs,rfl⟩:=ux sf26 k
 obtain ⟨m,h⟩:=h
 obtain ⟨C,hC,f,hp⟩:=ag5 (cs:=cs.toList) h hl
 exact ⟨C,fun h d=>by simpa using hC h d,f,hp⟩
end
end
end Go.Proofs.YtfflipnhffknnaaGreatDoor
end

section
namespace Go.Proofs.YtfflipnhffknnaaGreatDoor
open Go Go.HL Go.ChangeShapes Go.WideShapes Go.RowKit Go.Proofs.Resv
section
theorem chold:P_.cellsOf 97=4:=by kernel_rfl
theorem sfhold:fj P_ 97=some [(3,0),(3,1),(3,2),(3,3)]:=by kernel_rfl

section
variable {H:Type} {enc:TypeId × Value→H} {w:World} {base:Nat} {spare:Nat→Bool} {held:Bool}
theorem lenh4 {α:Type} {L:List α} (h:L.length=4):∃a b c d,L=[a,b,c,d]:=by
 match L,h with
 |[a,b,c,d],_=>exact ⟨a,b,c,d,rfl⟩

theorem Yy {m:Nat} {cs:List Value} {y:DataW H × List MemPlace} (h:DataW.trod enc P_ w base spare held m 97 cs=some y):∃x:Hold,cs=Fb.enc x∧Kl x:=by
 obtain ⟨hl,d⟩:=zl sfhold h
 rw [chold]at hl
 obtain ⟨v0,v1,v2,v3,rfl⟩:=lenh4 hl
 obtain ⟨m0,z0,e0⟩:=d 0 _ _ rfl
 obtain ⟨m1,z1,e1⟩:=d 1 _ _ rfl
 obtain ⟨m2,z2,e2⟩:=d 2 _ _ rfl
 obtain ⟨m3,z3,e3⟩:=d 3 _ _ rfl
 rw [c3]at e0 e1 e2 e3
 obtain ⟨x0,f0,b0⟩:=jf un3i e0
 obtain ⟨x1,f1,b1⟩:=jf un3i e1
 obtain ⟨x2,f2,b2⟩:=jf un3i e2
 obtain ⟨x3,f3,b3⟩:=jf un3i e3
 simp at f0 f1 f2 f3
 subst f0 f1 f2 f3
 exact ⟨⟨x0,x1,x2,x3⟩,rfl,b0,b1,b2,b3⟩

theorem I7 {r:Reach} {b0:Nat} {v:Value} {d:DataW H} {ps:List MemPlace} (k:Value.okWide P_ w r b0 77 v) (h:DataW.Trod enc P_ w base spare held 77 v d ps):∃l:List Hold,ul Fb (ground w) v l∧∀x∈l,Kl x:=by
 obtain ⟨a,len,cap,rfl⟩:=okWide_slice un77 k
 obtain ⟨m,h⟩:=h
 obtain ⟨a',len',cap',L,e,hl,_,hg,hq⟩:=W5 Fb Kl un77 chold (by decide) (fun _ _ _ h=>Yy h) h
 simp [Value.cells]at e
 obtain ⟨rfl,rfl,rfl⟩:=e
 exact ⟨L,hg,hq⟩
end
end
end Go.Proofs.YtfflipnhffknnaaGreatDoor
end

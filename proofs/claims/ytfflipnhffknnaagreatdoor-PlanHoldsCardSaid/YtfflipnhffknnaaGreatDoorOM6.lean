/- Texts of the proof, one behind the other. -/
import Derived.Test.YtfflipnhffknnaaGreatDoorOM5
import Derived.Test.YtfflipnhffknnaaGreatDoorOM3
import Derived.Test.YtfflipnhffknnaaGreatDoorOM4
import Derived.Test.YtfflipnhffknnaaGreatDoorOM1
import Derived.Test.YtfflipnhffknnaaGreatDoorOH3
import Derived.Test.YtfflipnhffknnaaGreatDoorOM2
set_option linter.unusedSimpArgs false
set_option linter.unusedVariables false
set_option maxRecDepth 100000
set_option linter.unusedSectionVars false
set_option maxHeartbeats 8000000
set_option linter.defProp false
section
namespace Go.Proofs.YtfflipnhffknnaaGreatDoor
open Go Go.HL Go.Proofs.Resv Go.Proofs.Srch
def bRtS:=jq bC (jq (jq (jq (jq (jq @Bool.and_true @al139) (jq @al30 (jq @cf66 @cf68))) (jq (jq @cf69 (jq @cf70 @eq28)) (jq @eq30 (jq @Jv @Ju)))) (jq (jq (jq @Zn @Uw) (jq @Uv (jq @Zm @ax3))) (jq (jq @Zl (jq @ax2 @ax0)) (jq @Zk (jq @aw9 @Uu))))) (jq (jq (jq (jq @Hq @vw) (jq @av3 (jq @av2 @Fh))) (jq (jq @Wj (jq @Wi @ld132)) (jq @ld137 (jq @Wh @ld28)))) (jq (jq (jq @ld3 (jq @ld30 @th)) (jq @ld3p (jq @ld4 @ld4p))) (jq (jq @kz (jq @jg @ky)) (jq @ui (jq @ap0 @B2))))))
theorem StE.look {w k:Nat} {f:Nat->Nat->Int} {b:Hp} {E:List (Nd × Nat)} {S:SS} (s:StE w k b E S) (hS:∀x∈S,dx w k f x.p=true) {j:Nat} {x:St Pose Move} (hx:S[j]?=some x) (hk:Srch.key S x.p x.i=some j):
 ∃e,E[j]?=some e/\b e.2=some (qz (jk w k S x.b) x.mv x.a x.dn)/\kget (E.map entV) (numP w k x.p,(x.i:Int))=some (.pointer (some ⟨e.2,0,none⟩)):=by
 rcases s.get (f:=f) hS (hS _ (List.mem_of_getElem? hx)) (i:=x.i)with ⟨h0,_⟩|⟨j',e,y,h1,h2,h3,h4,h5⟩
 . rw [hk]at h0;cases h0
 . rw [hk]at h1
   cases h1
   rw [hx]at h3
   cases h3
   exact ⟨e,h2,h5,h4⟩
theorem StE.done {w k:Nat} {b:Hp} {E:List (Nd × Nat)} {S:SS} (s:StE w k b E S) {j:Nat} {x:St Pose Move} {e:Nd × Nat} (hx:S[j]?=some x) (he:E[j]?=some e):
 StE w k (b.set e.2 (qz (jk w k S x.b) x.mv x.a true)) E (take S j x):=by
 have hjS:j<S.length:=(List.getElem?_eq_some_iff.1 hx).1
 have e3:({ x with dn:=true }:St Pose Move).p=x.p:=rfl
 have e4:({ x with dn:=true }:St Pose Move).i=x.i:=rfl
 refine ⟨by unfold take;rw [List.length_set];exact s.len,s.nod,fun i e' y he' hy=>?_⟩
 unfold take at hy ⊢
 by_cases hij:j=i
 . subst hij
   rw [List.getElem?_set_self hjS]at hy
   rw [he]at he'
   cases he'
   cases hy
   refine ⟨(s.cel j e x he hx).1,?_⟩
   rw [bj,Ea (y:={ x with dn:=true }) hx e3 e4]
 . rw [List.getElem?_set_ne hij]at hy
   obtain ⟨h1,h2⟩:=s.cel i e' y he' hy
   have hne:e'.2≠e.2:=fun h=>by
    have hl1:=(List.getElem?_eq_some_iff.1 he).1
    have hl2:=(List.getElem?_eq_some_iff.1 he').1
    have a1:(E.map (·.2))[j]?=some e.2:=by rw [List.getElem?_map,he];rfl
    have a2:(E.map (·.2))[i]?=some e'.2:=by rw [List.getElem?_map,he'];rfl
    rw [h,<- a1]at a2
    exact hij ((List.getElem?_inj (by simpa using hl1) s.nod).1 a2.symm)
   rw [bz hne,Ea (y:={ x with dn:=true }) hx e3 e4]
   exact ⟨h1,h2⟩
def outL:Res Move->List Move
 | .ok l=>l
 | .no _=>[]
def outE:Res Move->Int
 | .ok _=>0
 | .no e=>e
structure Fz (G B:Hp) (q:Par) (sp kp ms mw mp mt hp xc xg:Nat) (gp:Pose) (any:Bool):Prop where
 bg:∀A h,HL.Sep [A,B] h->Dis G h->Bg (HL.under G h A) q sp kp ms mw mp mt hp
 rd:∃g tp,∀h,B.le h->Dis G h->BC G h sp g kp tp q.r ms mw mp mt hp
 gt:jf q.T
 fw:Few q.T 100
 w2:q.w<=16
 k2:q.k<=16
 bud:∀h,B.le h->Dis G h->bf G h ⟨xc,14,none⟩=some (.int .i64 q.C.bu)
 aim:B xg=some (.cells #[gp.x,gp.y,.bool gp.d,.bool any] 45 (0,0))
def nk (gp:Pose) (any:Bool) (p:Pose) (s:Sp):Bool:=((p.x==gp.x&&p.y==gp.y&&p.d==gp.d)||(any&&(p.x==gp.x&&p.y==gp.y)))&&(s.2==FV)
theorem S0 {P M:Type} [DecidableEq P] {E:Env P M} {goal:P->Sp->Bool} {n:Nat} {S:List (St P M)} {k:Nat} {x:St P M} (h:least E S=some (k,x)) (hg:goal x.p x.s=true):run E goal (n+1) S = .ok (path (take S k x) S.length k []):=by
 conv=>lhs;unfold run
 rw [h]
 simp only [hg,if_true]
theorem run_on {P M:Type} [DecidableEq P] {E:Env P M} {goal:P->Sp->Bool} {n:Nat} {S:List (St P M)} {k:Nat} {x:St P M} (h:least E S=some (k,x)) (hg:goal x.p x.s=false):run E goal (n+1) S=run E goal n (Ak E { x with dn:=true } k (take S k x)):=by
 conv=>lhs;unfold run
 rw [h]
 simp [hg]
def OutR (G:Hp) (B:Hp) (W:Res Move) (u:Value) (h':Hp):Prop:=∃ip vs,u = .tuple #[vs,(outE W)]/\Slc j9 48 ip vs (outL W)/\(outL W).length<=110000/\HL.Sep [ip,B] h'/\Dis G h'
theorem S6 {G h A B a ae ah ak:Hp} {q:Par} {sp kp ms mw mp mt hp xc xg:Nat} {gp:Pose} {any:Bool} {c:Cs} {S:SS} {L:List Go.Proofs.Wt.It} {n t0 lo:Int} {p0:Pose} {z:Move} {N:Nat}
 (fz:Fz G B q sp kp ms mw mp mt hp xc xg gp any) (ok:rk q.E) (ht0:0<=t0) (hN:(N:Int)=q.C.bu) (hN1:1<=N) (hN2:N<=4000) (hz:z.k=0)
 (ss:Srs q a ae ah ms mw mp mt hp c S L n) (kpk:KP ak kp q.C.un q.C.ac q.C.sp) (v:Inv q.E p0 t0 z lo S) (hn:n<=1)
 (sA:HL.Sep [a,ae,ah,ak] A) (s:HL.Sep [A,B] h) (d:Dis G h) (r:Rg) (g19:r 19 = .pointer (some ⟨sp,0,none⟩)) (g6:r 6 = .pointer (some ⟨xc,0,none⟩)) (g11:r 11 = .pointer (some ⟨xg,0,none⟩)) (g20:r 20 = .int .i64 0) (g15:r 15 = .int .i64 6) {Q:Value->Hp->Prop} (HQ:∀u h',OutR G B (run q.E (nk gp any) N S) u h'->Q u h'):
 dt (X4 G) r h (df 0 (dj (F4 G (retK P_ G [.tmp 12,.tmp 13] Q)) (ra (retK P_ G [.tmp 12,.tmp 13] Q)))):=by
 obtain ⟨g,tp,hrd⟩:=fz.rd
 generalize hW:run q.E (nk gp any) N S=W at HQ
 generalize hKR:retK P_ G [.tmp 12,.tmp 13] Q=KR
 generalize hKK:df 0 _=KK
 refine dp (fun m r' h'=>∃(i:Nat) (S':SS) (A' a' ae' ah' ak':Hp) (c':Cs) (L':List Go.Proofs.Wt.It) (n' lo':Int),m=(N-i)*40000000000+L'.length/\i<N/\run q.E (nk gp any) (N-i) S'=W/\Srs q a' ae' ah' ms mw mp mt hp c' S' L' n'/\KP ak' kp q.C.un q.C.ac q.C.sp/\Inv q.E p0 t0 z lo' S'/\n'<=1+i*2000000/\
  HL.Sep [a',ae',ah',ak'] A'/\HL.Sep [A',B] h'/\Dis G h'/\r' 19 = .pointer (some ⟨sp,0,none⟩)/\r' 6 = .pointer (some ⟨xc,0,none⟩)/\r' 11 = .pointer (some ⟨xg,0,none⟩)/\r' 20 = .int .i64 i/\r' 15 = .int .i64 6) ?_ (m:=N*40000000000+L.length)
  ⟨0,S,A,a,ae,ah,ak,c,L,n,lo,by simp,by omega,hW,ss,kpk,v,by omega,sA,s,d,g19,g6,g11,g20,g15⟩
 clear ss kpk v sA s d g19 g6 g11 g20 g15 hW
 rintro m r1 h1 ⟨i,S1,A1,a1,ae1,ah1,ak1,c1,L1,n1,lo1,rfl,hi,hW,ss,kpk,v,hn1,sA,s,d,e19,e6,e11,e20,e15⟩ X hX
 have b1:=hrd h1 (s.in 1 rfl) d
 unfold X4
 simp only [bRtS,e19,b1.hp]
 obtain ⟨N',hN'⟩:∃N',N-i=N'+1:=⟨N-i-1,by omega⟩
 have sAh:HL.Sep [ah1,a1,ae1,ak1] A1:=sA.sel [2,0,1,3] (by decide) rfl
 have hLn:=ss.ln
 cases L1 with
 |nil=>
  refine (Hw.at6 ss.hp (HL.Sep.open (R:=[B]) s sAh)).mono ?_
  rintro _ h2 ⟨rfl,rfl⟩
  simp only [Hw.pkV]
  try simp (disch:=first|decide|exact bv|exact bo|omega|rfl) only [bRtS]
  intro xw hxw gxw
  have s2:=s.past (o := .cells #[(0:Int),(0:Int),(0:Int)] 139 (0,0)) hxw
  have d2:=d.set (o := .cells #[(0:Int),(0:Int),(0:Int)] 139 (0,0)) gxw
  generalize Hp.set h2 xw _=h3 at s2 d2 ⊢
  rw [<- hKK]
  show F4 G KR _ _
  unfold F4
  have hr:W = .no 6:=by
   rw [<- hW,hN']
   unfold run
   rw [aq7 ss.qi]
  rw [<- hKR]
  simp (disch:=decide) only [bRtS,e15]
  exact HQ _ _ ⟨noHp,_,by rw [hr];rfl,by rw [hr];exact Slc.nil,by rw [hr];simp [outL],(s2.drop).none,d2⟩
 |cons w L1=>
  obtain ⟨wk,wm,ws,wn⟩:=w
  obtain ⟨hok',hperm,hmin⟩:=Go.Proofs.Wt.pop_ok ss.ok
  obtain ⟨k,x,hxk,em,es,hstale,hfresh⟩:=popQ ok v ss.qi hmin (L':=Go.Proofs.Wt.popL (⟨wk,wm,ws,wn⟩::L1)) (List.Perm.cons_inv hperm).symm
  have em':wm=numP q.w q.k x.p:=em.symm
  have es':ws=(x.i:Int):=es.symm
  subst em' es'
  have hxm:=List.mem_of_getElem? hxk
  have hpl:=Go.Proofs.Wt.zy (⟨wk,numP q.w q.k x.p,(x.i:Int),wn⟩::L1)
  simp only [List.length_cons]at hpl hLn
  refine (Sep.on s (Hw.hpop (G:=HL.under G h1 A1) ss.hp sAh (by omega))).mono ?_
  rintro _ h2 ⟨A2,⟨rfl,ah2,hp2,sA2,dA2⟩,s2,d2⟩
  have sA2:HL.Sep [ah2,a1,ae1,ak1] A2:=sA2
  simp only [Hw.pkV]
  try simp (disch:=first|decide|exact bv|exact bo|omega|rfl) only [bRtS]
  intro xw hxw gxw
  have s3:=s2.new (o := .cells #[wk,(numP q.w q.k x.p),(x.i:Int)] 139 (0,0)) hxw
  have d3:=d2.set (o := .cells #[wk,(numP q.w q.k x.p),(x.i:Int)] 139 (0,0)) gxw
  generalize how:Obj.cells #[wk,(numP q.w q.k x.p),(x.i:Int)] 139 (0,0)=ow at s3 d3 ⊢
  generalize Hp.set h2 xw _=h3 at s3 d3 ⊢
  have s3:HL.Sep [A2,B,noHp.set xw ow] h3:=s3.sel [1,2,0] (by decide) rfl
  have cw3:∀k,bf G h3 ⟨xw,k,none⟩=_:=fun k=>bm (bk ((s3.at 2 rfl bj).trans (by rw [how])))
  have b3:=hrd h3 (s3.in 1 rfl) d3
  obtain ⟨o,E,bb,km,sb,se⟩:=id ss.st
  have sAe:HL.Sep [ae1,a1,ah2,ak1] A2:=sA2.sel [2,1,0,3] (by decide) rfl
  have sAo:HL.Sep [noHp.set mt o,bb,a1,ah2,ak1] A2:=HL.Sep.open (L:=[noHp.set mt o,bb]) (R:=[a1,ah2,ak1]) sAe sb
  have hmt3:h3 mt=some o:=(s3.in 0 rfl) _ _ (sAo.at 0 rfl bj)
  obtain ⟨e,he,hbe,hkg⟩:=se.look (f:=q.f) v.ok hxk (at4 v hxk)
  have hbe3:h3 e.2=some (qz (jk q.w q.k S1 x.b) x.mv x.a x.dn):=(s3.in 0 rfl) _ _ (sAo.at 1 rfl hbe)
  have ce3:∀k,bf G h3 ⟨e.2,k,none⟩=_:=fun k=>bm (bk hbe3)
  simp only [stpL]at ce3
  have lk3:∀K,pw P_ G h3 (Instr.lookup 131 (.map (some mt)) (.agg #[(numP q.w q.k x.p),(x.i:Int)]) false) K=K (.pointer (some ⟨e.2,0,none⟩)):=by
   intro K
   have:=Gg (G:=G) (K:=K) Qc unmt zerot (bk hmt3) km (k:=(numP q.w q.k x.p,(x.i:Int)))
   rw [hkg,Option.getD_some]at this
   exact this
  unfold Pl
  try simp (disch:=decide) only [bRtS,Nat.reduceAdd,e19,b3.mt,cw3,lk3,ce3]
  have stale:(x.dn=true\/x.a≠wk)->∀r':Rg,r' 19 = .pointer (some ⟨sp,0,none⟩)->r' 6 = .pointer (some ⟨xc,0,none⟩)->r' 11 = .pointer (some ⟨xg,0,none⟩)->r' 20 = .int .i64 i->r' 15 = .int .i64 6->X r' h3:=by
   intro hs r' w19 w6 w11 w20 w15
   exact hX ((N-i)*40000000000+(Go.Proofs.Wt.popL (⟨wk,numP q.w q.k x.p,(x.i:Int),wn⟩::L1)).length) _ _ (by rw [hpl];simp only [List.length_cons];omega)
    ⟨i,S1,A2,a1,ae1,ah2,ak1,c1,_,n1,lo1,rfl,hi,hW,⟨ss.ch,ss.st,hp2,hok',hstale hs,ss.kept,ss.n0,by rw [hpl];omega⟩,kpk,v,hn1,sA2.sel [1,2,0,3] (by decide) rfl,s3.sel [0,1] (by decide) rfl,d3,w19,w6,w11,w20,w15⟩
  cases hdn:x.dn with
  |true=>
   try simp only [bRtS,gk]
   exact stale (.inl hdn) _ (by simp (disch:=omega) only [bw,e19]) (by simp (disch:=omega) only [bw,e6]) (by simp (disch:=omega) only [bw,e11]) (by simp (disch:=omega) only [bw,e20]) (by simp (disch:=omega) only [bw,e15])
  |false=>
  try simp only [bRtS,ce3,cw3]
  by_cases hxa:x.a=wk
  rotate_left
  . try simp only [bRtS,show (x.a != wk)=true from by simpa using hxa]
    exact stale (.inr hxa) _ (by simp (disch:=omega) only [bw,e19]) (by simp (disch:=omega) only [bw,e6]) (by simp (disch:=omega) only [bw,e11]) (by simp (disch:=omega) only [bw,e20]) (by simp (disch:=omega) only [bw,e15])
  subst hxa
  try simp only [bRtS,show (x.a != x.a)=false from by simp]
  obtain ⟨hle,hq2⟩:=hfresh hdn rfl
  obtain ⟨v2,hx2⟩:=H6 v hle
  suffices k8:∀r':Rg,r' 19 = .pointer (some ⟨sp,0,none⟩)->r' 6 = .pointer (some ⟨xc,0,none⟩)->r' 11 = .pointer (some ⟨xg,0,none⟩)->r' 20 = .int .i64 i->r' 15 = .int .i64 6->r' 21 = .pointer (some ⟨xw,0,none⟩)->r' 23 = .pointer (some ⟨e.2,0,none⟩)->F3 G (dj X KK) r' h3 from
   k8 _ (by simp (disch:=omega) only [bw,e19]) (by simp (disch:=omega) only [bw,e6]) (by simp (disch:=omega) only [bw,e11]) (by simp (disch:=omega) only [bw,e20]) (by simp (disch:=omega) only [bw,e15]) (by simp (disch:=decide) only [bRtS]) (by simp (disch:=decide) only [bRtS])
  clear stale
  intro r2 f19 f6 f11 f20 f15 f21 f23
  unfold F3
  simp (disch:=decide) only [bRtS,f23]
  rw [dr sz4 rfl hbe3 (by simp [stpL])]
  have hset:(stpL (jk q.w q.k S1 x.b) x.mv x.a x.dn).set 14 (.bool true)=stpL (jk q.w q.k S1 x.b) x.mv x.a true:=rfl
  rw [hset]
  have s4:=s3.put (o:=qz (jk q.w q.k S1 x.b) x.mv x.a true) (sAo.at 1 rfl hbe)
  have d4:=d3.set (o:=qz (jk q.w q.k S1 x.b) x.mv x.a true) (d3 _ _ hbe3)
  have sA4:=(HL.Sep.sel (L':=[bb,noHp.set mt o,a1,ah2,ak1]) sAo [1,0,2,3,4] (by decide) rfl).put (o:=qz (jk q.w q.k S1 x.b) x.mv x.a true) hbe
  have se4:=se.done hxk he
  generalize bb.set e.2 _=bb4 at sA4 se4
  generalize A2.set e.2 _=A4 at s4 sA4
  generalize Hp.set h3 e.2 _=h4 at s4 d4 ⊢
  obtain ⟨ae4,sA5,t5⟩:=HL.Sep.pack [noHp.set mt o,bb4] (R:=[a1,ah2,ak1]) (sA4.sel [1,0,2,3,4] (by decide) rfl)
  have sA5:HL.Sep [a1,ae4,ah2,ak1] A4:=sA5.sel [1,0,2,3] (by decide) rfl
  have ss4:Srs q a1 ae4 ah2 ms mw mp mt hp c1 (take S1 k x) (Go.Proofs.Wt.popL (⟨x.a,numP q.w q.k x.p,(x.i:Int),wn⟩::L1)) n1:=⟨ss.ch,⟨o,E,bb4,km,t5,se4⟩,hp2,hok',hq2,fun y hy=>by
   obtain ⟨j,hj⟩:=List.getElem?_of_mem hy
   unfold take at hj
   by_cases hkj:k=j
   . subst hkj
     rw [List.getElem?_set_self (List.getElem?_eq_some_iff.1 hxk).1]at hj
     cases hj
     exact ss.kept x hxm
   . rw [List.getElem?_set_ne hkj]at hj
     exact ss.kept y (List.mem_of_getElem? hj),ss.n0,by rw [hpl];omega⟩
  obtain ⟨o1,o2,o3,m1,m2,m3,sa⟩:=id ss.ch.sep
  have sA6:HL.Sep [noHp.set ms o1,noHp.set mw o2,noHp.set mp o3,c1.P,ae4,ah2,ak1] A4:=HL.Sep.open (L:=[noHp.set ms o1,noHp.set mw o2,noHp.set mp o3,c1.P]) (R:=[ae4,ah2,ak1]) sA5 sa
  have hmp:h4 mp=some o3:=(s4.in 0 rfl) _ _ (sA6.at 2 rfl bj)
  have b4:=hrd h4 (s4.in 1 rfl) d4
  obtain ⟨hk1,hk3⟩:=ss.kept x hxm
  have cw4:∀k,bf G h4 ⟨xw,k,none⟩=_:=fun k=>bm (bk ((s4.at 2 rfl bj).trans (by rw [how])))
  try simp -implicitDefEqProofs (maxSteps:=2000000) (disch:=first|decide|with_reducible exact Nat.ne_of_beq_eq_false rfl|exact bv|exact bo|omega|rfl|(simp;done)|fail) only [bRtS,Nat.reduceAdd,f20,f19,b4.mp,f21,cw4]
  rw [Gh unmp un3r zerop (bk hmp) m3,hk3,Option.getD_some]
  intro xp hxp gxp
  try simp (disch:=first|decide|exact bv|exact bo|omega|rfl) only [bRtS]
  have s5:=s4.new (o := .cells #[x.p.x,x.p.y,.bool x.p.d] 30 (0,0)) hxp
  have d5:=d4.set (o := .cells #[x.p.x,x.p.y,.bool x.p.d] 30 (0,0)) gxp
  generalize hop:Obj.cells #[x.p.x,x.p.y,.bool x.p.d] 30 (0,0)=op at s5 d5 ⊢
  generalize Hp.set h4 xp _=h5 at s5 d5 ⊢
  have s5:HL.Sep [A4,B,noHp.set xw ow,noHp.set xp op] h5:=s5.sel [1,2,3,0] (by decide) rfl
  have cp5:∀k,bf G h5 ⟨xp,k,none⟩=_:=fun k=>bm (bk ((s5.at 3 rfl bj).trans (by rw [hop])))
  have cw5:∀k,bf G h5 ⟨xw,k,none⟩=_:=fun k=>bm (bk ((s5.at 2 rfl bj).trans (by rw [how])))
  have cg5:∀k,bf G h5 ⟨xg,k,none⟩=_:=fun k=>bm (bk (s5.at 1 rfl fz.aim))
  have hA0:0<=x.a:=by
   obtain ⟨z1,z2,_⟩:=v.at_ x hxm
   have:=(ok.pos _ _ (List.mem_of_getElem? z1)).1
   omega
  have k9:nk gp any x.p x.s=false->∀(r':Rg) (h' A' a':Hp) (c':Cs),Srs q a' ae4 ah2 ms mw mp mt hp c' (take S1 k x) (Go.Proofs.Wt.popL (⟨x.a,numP q.w q.k x.p,(x.i:Int),wn⟩::L1)) n1->HL.Sep [a',ae4,ah2,ak1] A'->HL.Sep [A',B,noHp.set xw ow] h'->Dis G h'->r' 19 = .pointer (some ⟨sp,0,none⟩)->r' 6 = .pointer (some ⟨xc,0,none⟩)->r' 11 = .pointer (some ⟨xg,0,none⟩)->r' 20 = .int .i64 ((i:Int)+1)->r' 15 = .int .i64 6->r' 21 = .pointer (some ⟨xw,0,none⟩)->F2 G (dj X KK) r' h':=by
   intro hg r' h' A' a' c' ss' sA' s' d' w19 w6 w11 w20 w15 w21
   have hrun:W=run q.E (nk gp any) N' (Ak q.E { x with dn:=true } k (take S1 k x)):=by
    rw [<- hW,hN',run_on hle hg]
   have cb:=fz.bud h' (s'.in 1 rfl) d'
   unfold F2
   try simp only [bRtS,w6,w20,cb]
   by_cases hb:(i:Int)+1=q.C.bu
   . try simp only [bRtS,show ((i:Int)+1==q.C.bu)=true from by simpa using hb]
     rw [<- hKK]
     show F4 G KR _ _
     unfold F4
     have hN0:N'=0:=by omega
     subst hN0
     rw [<- hKR]
     simp (disch:=decide) only [bRtS]
     exact HQ _ _ ⟨noHp,_,by rw [hrun];rfl,by rw [hrun];exact Slc.nil,by rw [hrun];simp [run,outL],(s'.sel [1] (by decide) rfl).none,d'⟩
   . try simp only [bRtS,show ((i:Int)+1==q.C.bu)=false from by simpa using hb]
     unfold Kk
     have cw':∀k,bf G h' ⟨xw,k,none⟩=_:=fun k=>bm (bk ((s'.at 2 rfl bj).trans (by rw [how])))
     try simp (disch:=decide) only [bRtS,Nat.reduceAdd,w19,w21,cw']
     have bg:=fz.bg A' h' (s'.sel [0,1] (by decide) rfl) d'
     refine (Sep.on s' (al2 (G:=HL.under G h' A') (R:=[]) (x:={ x with dn:=true }) ss' kpk bg ok v2 hx2 rfl hA0 (by omega) sA')).mono ?_
     rintro _ h7 ⟨A7,⟨a7,ae7,ah7,ak7,c7,L7,n7,ss7,kp7,_,m1,m2,sA7,_⟩,s7,d7⟩
     try simp (disch:=first|decide|omega) only [bRtS,Nat.reduceAdd,Nat.reduceMul]
     have v7:=(Hz ok (k:=k) (x:={ x with dn:=true }) rfl hA0 (v.ok x hxm) (q.E.ways x.p) (fun _ h=>h) v2 hx2).1
     have ln7:=ss7.ln
     refine hX ((N-(i+1))*40000000000+L7.length) _ _ (by omega) ⟨i+1,_,A7,a7,ae7,ah7,ak7,c7,L7,n7,x.a,rfl,by omega,?_,ss7,kp7,v7,by omega,sA7,s7.sel [0,1] (by decide) rfl,d7,by simp (disch:=omega) only [bw,w19],by simp (disch:=omega) only [bw,w6],by simp (disch:=omega) only [bw,w11],by simp (disch:=omega) only [bw,w20];rfl,by simp (disch:=omega) only [bw,w15]⟩
     rw [show N-(i+1)=N' by omega]
     exact hrun.symm
  try simp only [bRtS,cp5,f11,cg5]
  have sJ:HL.Sep [noHp.set xp op,noHp.set xw ow,c1.P] h5:=HL.Sep.sel (HL.Sep.open (R:=[B,noHp.set xw ow,noHp.set xp op]) s5 sA6) [9,8,3] (by decide) rfl
  cases hD:(x.p.x==gp.x&&x.p.y==gp.y&&x.p.d==gp.d)with
  |true=>
   try simp only [bRtS,Nat.reduceAdd,gk]
   obtain ⟨q9,l1,l2,l3,l4⟩:=join3 (R:=[]) sJ
   have lq2:q9.le h5:=l4 h5 (s5.in 3 rfl) (s5.in 2 rfl) ((sA6.in 3 rfl).trans (s5.in 0 rfl))
   have cq:∀k,bf G q9 ⟨xp,k,none⟩=_:=fun k=>bm (bk ((l1 _ _ bj).trans (by rw [hop])))
   have cqn:∀k,bf G q9 ⟨xw,k,none⟩=_:=fun k=>bm (bk ((l2 _ _ bj).trans (by rw [how])))
   refine ⟨q9,lq2,?_⟩
   try simp only [bRtS,cq,f19,gk]
   refine (Sep.on s5 (ng (G:=HL.under G h5 A4) (R:=[ae4,ah2,ak1]) ss4.ch (fz.bg A4 h5 (s5.sel [0,1] (by decide) rfl) d5) sA5 (v.ok x hxm))).mono ?_
   rintro u h6 ⟨A6,⟨a6,c6,ch6,cl6,e2,hu,hu3,sA7,_⟩,s6,d6⟩
   refine ⟨l4 h6 (s6.in 3 rfl) (s6.in 2 rfl) (cl6.p.trans (ch6.pool.trans ((sA7.in 0 rfl).trans (s6.in 0 rfl)))),?_⟩
   obtain ⟨u0,hu0⟩:=Option.isSome_iff_exists.1 hk1
   have huu:=cl6.l1 _ _ hu0
   rw [hu]at huu
   cases huu
   have slu:=ss.ch.look1 (v.ok x hxm) hu0
   obtain ⟨sv,cv,rfl,_⟩:=slu.len (by decide)
   have hsi':(mn q.w q.k q.T q.r x.p)[x.i]?=some x.s:=(v.at_ x hxm).1
   obtain ⟨b,o,rfl,z1,z2⟩:=Sees.span (slu.see (G:=G) (by decide) l3) hsi'
   have hlti:(x.i:Int)<((mn q.w q.k q.T q.r x.p).length:Int):=Int.ofNat_lt.2 (List.getElem?_eq_some_iff.1 hsi').1
   try simp (disch:=first|decide|omega) only [bRtS,cqn,T5 (Int.natCast_nonneg x.i) hlti,z1,z2,gk]
   have ss6:Srs q a6 ae4 ah2 ms mw mp mt hp c6 (take S1 k x) (Go.Proofs.Wt.popL (⟨x.a,numP q.w q.k x.p,(x.i:Int),wn⟩::L1)) n1:=⟨ch6,ss4.st,ss4.hp,ss4.ok,ss4.qi,ss4.kept.le cl6,ss4.n0,ss4.ln⟩
   by_cases hfv:x.s.2=4611686018427387904
   . have hg:nk gp any x.p x.s=true:=by unfold nk FV;rw [hfv];rw [hD];rfl
     try simp only [bRtS,show (x.s.2==4611686018427387904)=true from by simpa using hfv]
     have cw6:∀k,bf G h6 ⟨xw,k,none⟩=_:=fun k=>bm (bk ((s6.at 2 rfl bj).trans (by rw [how])))
     try simp only [bRtS,f21,f19,cw6]
     refine (Sep.on s6 (M5 (G:=HL.under G h6 A6) (R:=[ak1]) ss6 (fz.bg A6 h6 (s6.sel [0,1] (by decide) rfl) d6) v2 hz hx2 sA7)).mono ?_
     rintro u h8 ⟨A8,⟨ip,sl8,hl8,sA8,_⟩,s8,d8⟩
     have hrun:W = .ok (path (take S1 k x) S1.length k []):=by
      rw [<- hW,hN',S0 hle hg]
     have hlen:(take S1 k x).length=S1.length:=by unfold take;rw [List.length_set]
     rw [hlen]at sl8 hl8
     rw [<- hKK,<- hKR]
     try simp (disch:=decide) only [bRtS]
     exact HQ _ _ ⟨ip,_,by rw [hrun];rfl,by rw [hrun];exact sl8,by rw [hrun];exact hl8,(s8.cut (sA8.in 0 rfl)).sel [0,1] (by decide) rfl,d8⟩
   . try simp only [bRtS,show (x.s.2==4611686018427387904)=false from by simpa using hfv]
     exact k9 (by unfold nk FV;rw [show (x.s.2==4611686018427387904)=false from by simpa using hfv,Bool.and_false]) _ h6 A6 a6 c6 ss6 sA7 (s6.sel [0,1,2] (by decide) rfl) d6 (by simp (disch:=omega) only [bw,f19]) (by simp (disch:=omega) only [bw,f6]) (by simp (disch:=omega) only [bw,f11]) (by simp (disch:=decide) only [bRtS]) (by simp (disch:=omega) only [bw,f15]) (by simp (disch:=omega) only [bw,f21])
  |false=>
   try simp only [bRtS,cg5]
   cases hany:any with
   |false=>
    try simp only [bRtS,gk]
    refine ⟨h5,Hp.le.refl _,?_⟩
    try simp (disch:=first|decide|omega) only [bRtS,Nat.reduceAdd,Nat.reduceMul,gk]
    exact k9 (by unfold nk;rw [hD,hany];rfl) _ h5 A4 a1 c1 ss4 sA5 (s5.sel [0,1,2] (by decide) rfl) d5 (by simp (disch:=omega) only [bw,f19]) (by simp (disch:=omega) only [bw,f6]) (by simp (disch:=omega) only [bw,f11]) (by simp (disch:=decide) only [bRtS]) (by simp (disch:=omega) only [bw,f15]) (by simp (disch:=omega) only [bw,f21])
   |true=>
    try simp only [bRtS,cp5,cg5,f11]
    cases hC:(x.p.x==gp.x&&x.p.y==gp.y)with
    |true=>
     try simp only [bRtS,Nat.reduceAdd]
     obtain ⟨q9,l1,l2,l3,l4⟩:=join3 (R:=[]) sJ
     have lq2:q9.le h5:=l4 h5 (s5.in 3 rfl) (s5.in 2 rfl) ((sA6.in 3 rfl).trans (s5.in 0 rfl))
     have cq:∀k,bf G q9 ⟨xp,k,none⟩=_:=fun k=>bm (bk ((l1 _ _ bj).trans (by rw [hop])))
     have cqn:∀k,bf G q9 ⟨xw,k,none⟩=_:=fun k=>bm (bk ((l2 _ _ bj).trans (by rw [how])))
     refine ⟨q9,lq2,?_⟩
     try simp only [bRtS,cq,f19,gk]
     refine (Sep.on s5 (ng (G:=HL.under G h5 A4) (R:=[ae4,ah2,ak1]) ss4.ch (fz.bg A4 h5 (s5.sel [0,1] (by decide) rfl) d5) sA5 (v.ok x hxm))).mono ?_
     rintro u h6 ⟨A6,⟨a6,c6,ch6,cl6,e2,hu,hu3,sA7,_⟩,s6,d6⟩
     refine ⟨l4 h6 (s6.in 3 rfl) (s6.in 2 rfl) (cl6.p.trans (ch6.pool.trans ((sA7.in 0 rfl).trans (s6.in 0 rfl)))),?_⟩
     obtain ⟨u0,hu0⟩:=Option.isSome_iff_exists.1 hk1
     have huu:=cl6.l1 _ _ hu0
     rw [hu]at huu
     cases huu
     have slu:=ss.ch.look1 (v.ok x hxm) hu0
     obtain ⟨sv,cv,rfl,_⟩:=slu.len (by decide)
     have hsi':(mn q.w q.k q.T q.r x.p)[x.i]?=some x.s:=(v.at_ x hxm).1
     obtain ⟨b,o,rfl,z1,z2⟩:=Sees.span (slu.see (G:=G) (by decide) l3) hsi'
     have hlti:(x.i:Int)<((mn q.w q.k q.T q.r x.p).length:Int):=Int.ofNat_lt.2 (List.getElem?_eq_some_iff.1 hsi').1
     try simp (disch:=first|decide|omega) only [bRtS,cqn,T5 (Int.natCast_nonneg x.i) hlti,z1,z2,gk]
     have ss6:Srs q a6 ae4 ah2 ms mw mp mt hp c6 (take S1 k x) (Go.Proofs.Wt.popL (⟨x.a,numP q.w q.k x.p,(x.i:Int),wn⟩::L1)) n1:=⟨ch6,ss4.st,ss4.hp,ss4.ok,ss4.qi,ss4.kept.le cl6,ss4.n0,ss4.ln⟩
     by_cases hfv:x.s.2=4611686018427387904
     . have hg:nk gp any x.p x.s=true:=by unfold nk FV;rw [hfv];rw [hD,hany,hC];rfl
       try simp only [bRtS,show (x.s.2==4611686018427387904)=true from by simpa using hfv]
       have cw6:∀k,bf G h6 ⟨xw,k,none⟩=_:=fun k=>bm (bk ((s6.at 2 rfl bj).trans (by rw [how])))
       try simp only [bRtS,f21,f19,cw6]
       refine (Sep.on s6 (M5 (G:=HL.under G h6 A6) (R:=[ak1]) ss6 (fz.bg A6 h6 (s6.sel [0,1] (by decide) rfl) d6) v2 hz hx2 sA7)).mono ?_
       rintro u h8 ⟨A8,⟨ip,sl8,hl8,sA8,_⟩,s8,d8⟩
       have hrun:W = .ok (path (take S1 k x) S1.length k []):=by
        rw [<- hW,hN',S0 hle hg]
       have hlen:(take S1 k x).length=S1.length:=by unfold take;rw [List.length_set]
       rw [hlen]at sl8 hl8
       rw [<- hKK,<- hKR]
       try simp (disch:=decide) only [bRtS]
       exact HQ _ _ ⟨ip,_,by rw [hrun];rfl,by rw [hrun];exact sl8,by rw [hrun];exact hl8,(s8.cut (sA8.in 0 rfl)).sel [0,1] (by decide) rfl,d8⟩
     . try simp only [bRtS,show (x.s.2==4611686018427387904)=false from by simpa using hfv]
       exact k9 (by unfold nk FV;rw [show (x.s.2==4611686018427387904)=false from by simpa using hfv,Bool.and_false]) _ h6 A6 a6 c6 ss6 sA7 (s6.sel [0,1,2] (by decide) rfl) d6 (by simp (disch:=omega) only [bw,f19]) (by simp (disch:=omega) only [bw,f6]) (by simp (disch:=omega) only [bw,f11]) (by simp (disch:=decide) only [bRtS]) (by simp (disch:=omega) only [bw,f15]) (by simp (disch:=omega) only [bw,f21])
    |false=>
     try simp only [bRtS]
     refine ⟨h5,Hp.le.refl _,?_⟩
     try simp (disch:=first|decide|omega) only [bRtS,Nat.reduceAdd,Nat.reduceMul,gk]
     exact k9 (by unfold nk;rw [hD,hany,hC];rfl) _ h5 A4 a1 c1 ss4 sA5 (s5.sel [0,1,2] (by decide) rfl) d5 (by simp (disch:=omega) only [bw,f19]) (by simp (disch:=omega) only [bw,f6]) (by simp (disch:=omega) only [bw,f11]) (by simp (disch:=decide) only [bRtS]) (by simp (disch:=omega) only [bw,f15]) (by simp (disch:=omega) only [bw,f21])
theorem V3 {C:Conf} (mk:dv C):(1<=C.un/\C.un<=1000)/\(1<=C.ac/\C.ac<=1000)/\(1<=C.sp/\C.sp<=1000)/\(1<=C.tu/\C.tu<=1000)/\(1<=C.ho/\C.ho<=1000):=by
 have h:=mk.six
 simp only [List.mem_cons,List.not_mem_nil,or_false,forall_eq_or_imp,forall_eq,b8,Bool.and_eq_true,decide_eq_true_eq]at h
 omega
theorem Tz {C:Conf} (mk:dv C) {w k:Nat} {f:Nat->Nat->Int} {p:Pose} {m:Move} (h:m∈my w k f p):1<=jc C m/\jc C m<=16000:=by
 obtain ⟨⟨a1,a2⟩,_,_,⟨b1,b2⟩,_⟩:=V3 mk
 obtain ⟨_,⟨d,n,_,n1,n2,_,rfl⟩|⟨_,rfl⟩⟩:=Bh h
 . obtain ⟨_,t2,t3⟩:=time_bd (A:=C.ac) (V:=C.sp) (n:=(n:Int)) a1 a2
   have e:jc C (wu p d n)=H5 C.un C.ac C.sp n:=by unfold jc;exact if_pos rfl
   rw [e]
   exact ⟨t3 (by omega) (by omega),t2⟩
 . have e:jc C (og p)=C.tu:=by
    unfold jc
    rw [if_neg (by show ¬((2:Int)=1);decide)]
    exact if_pos rfl
   rw [e]
   omega
theorem af9 {w k:Nat} {f:Nat->Nat->Int} {p:Pose} (h:wayB w k f (og p)=true):dx w k f (zj p)=true:=by
 unfold wayB at h
 simp only [Bool.and_eq_true]at h
 obtain ⟨_,h⟩:=h
 rw [if_neg (by show ¬((2:Int)=1);decide),show (og p).k=2 from rfl,if_pos (rfl:(2:Int)=2)]at h
 simp only [Bool.and_eq_true,List.all_eq_true]at h
 obtain ⟨_,h,_⟩:=h
 have h1:∀c∈fj (p.x,p.y),py w k f c=true:=h
 unfold dx
 rw [Bool.and_eq_true]
 refine ⟨h1 _ (by simp [fj,zj]),h1 _ ?_⟩
 unfold east zj
 cases p.d<;>simp [fj]
theorem ay5 {q:Par} (mk:dv q.C) (gt:jf q.T):rk q.E:=by
 refine ⟨fun p y hy=>?_,fun p s hs=>?_,fun p hp y hy=>?_,fun p p' hp hp' e=>wp (f:=q.f) hp hp' e⟩
 . obtain ⟨i,hi⟩:=List.getElem?_of_mem hy
   obtain ⟨m,hm,rfl⟩:=Hi hi
   have:=Tz mk hm
   exact ⟨this.1,Int.le_trans this.2 (by decide)⟩
 . have hr:Ris (q.E.spans p):=zq gt q.r _
   exact hr.bd s hs
 . obtain ⟨i,hi⟩:=List.getElem?_of_mem hy
   obtain ⟨m,hm,rfl⟩:=Hi hi
   show dx q.w q.k q.f m.t=true
   obtain ⟨_,⟨d,n,_,_,_,ho,rfl⟩|⟨hb,rfl⟩⟩:=Bh hm
   . exact ho
   . exact af9 hb
end Go.Proofs.YtfflipnhffknnaaGreatDoor
end
section
namespace Go.Proofs.YtfflipnhffknnaaGreatDoor
open Go Go.HL
theorem ca_nil {G h:Hp} {C:Conf} (h1:C.bl=[]) (h2:C.po=[]) (h3:C.ro=[]) (h4:C.st=[]):CA G h C none 0 none 0 none 0 none 0:=by
 obtain ⟨w,hh,ht,bl,po,ro,st,un,ac,sp,tu,ho,qu,re,bu,back⟩:=C
 subst h1 h2 h3 h4
 exact ⟨Slc.nil.sees (e:=28) (a:=noHp) (by decide) (fun _ _ e=>by cases e),Slc.nil.sees (e:=28) (a:=noHp) (by decide) (fun _ _ e=>by cases e),Slc.nil.sees (e:=30) (a:=noHp) (by decide) (fun _ _ e=>by cases e),[],Slc.nil.sees (e:=95) (a:=noHp) (by decide) (fun _ _ e=>by cases e),by simp⟩
theorem may_nil {C:Conf} (h1:C.bl=[]) (h2:C.po=[]) (h3:C.ro=[]) (h4:C.st=[]):af6 C↔qe C=true:=by
 refine ⟨fun m=>m.nums,fun n=>⟨n,by simp [h2],by simp [h3],by simp [h1],by simp [h1],by simp [h2],by simp [h3],by simp [h3],?_⟩⟩
 exact ⟨by simp [h4],by simp [h4],by simp [h4],by simp [h4],by simp [h4],by simp [h4]⟩
end Go.Proofs.YtfflipnhffknnaaGreatDoor
end
section
namespace Go.Proofs.YtfflipnhffknnaaGreatDoor
open Go Go.HL Go.Proofs.Resv Go.Proofs.Srch
def bRtT:=jq bC (jq (jq (jq (jq @ux @bd146_) (jq @cf29 @cf63)) (jq (jq @cf65 @cf66) (jq @cf67 @Zn))) (jq (jq (jq @Qw @W4) (jq @W3 @ld26)) (jq (jq @ld3 @ld30) (jq @kz @ky))))
def zM:Move:=⟨0,0,0,⟨0,0,false⟩,⟨0,0,false⟩,0,0⟩
theorem kb_of {C:Conf} (mk:dv C):KB C.un C.ac C.sp:=by
 obtain ⟨⟨a1,a2⟩,⟨b1,b2⟩,⟨c1,c2⟩,_,_⟩:=V3 mk
 exact ⟨a1,a2,b1,b2,c1,c2⟩
theorem mkmapR {T:TypeId} {G h:Hp} {K:VK}:wpH P_ G (Instr.makeMap T none) h K=∀x,h x=none->G x=none->K (.map (some x)) (h.set x (.map #[] 0)):=by
 simp [Instr.makeMap,bind,Sem.bind,pure,wpH,newObj]
theorem find_k3 {G h ga B0:Hp} {C:Conf} {T:Tb} {ab:Option Addr} {cb:Nat} {ap:Option Addr} {cp:Nat} {ar:Option Addr} {cr:Nat} {az:Option Addr} {cs:Nat} {xc xp xg tp gb kb w k:Nat} {f:Nat->Nat->Int} {p gp:Pose} {rb t:Int} {any:Bool}
 (st:jy G) (mk:dv C) (hbu:C.bu<=4000) (gt:jf T) (fw:Few T 100) (go:GO ga gb kb w k f) (ca:CA G B0 C ab cb ap cp ar cr az cs) (ts:Rv.TSee G B0 tp T) (hpf:dx w k f p=true) (ht0:0<=t) (ht1:t<FV)
 (bc:B0 xc=some (.cells #[C.w,C.h,C.ht,.slice ab C.bl.length cb,.slice ap C.po.length cp,.slice ar C.ro.length cr,.slice az C.st.length cs,C.un,C.ac,C.sp,C.tu,C.ho,C.qu,C.re,C.bu,.bool C.back] 26 (0,0)))
 (bp:B0 xp=some (.cells #[p.x,p.y,.bool p.d] 30 (0,0))) (bgl:B0 xg=some (.cells #[gp.x,gp.y,.bool gp.d,.bool any] 45 (0,0)))
 (s:HL.Sep [ga,B0] h) (d:Dis G h) (r:Rg) (g1:r 1 = .pointer (some ⟨tp,0,none⟩)) (g2:r 2 = .int .i64 rb) (g4:r 4 = .int .i64 t) (g6:r 6 = .pointer (some ⟨xc,0,none⟩)) (g9:r 9 = .pointer (some ⟨xp,0,none⟩)) (g11:r 11 = .pointer (some ⟨xg,0,none⟩)) (g14:r 14 = .pointer (some ⟨gb,0,none⟩)) {Q:Value->Hp->Prop} (HQ:∀u h',OutR G B0 (find (envE C w k f T rb) (nk gp any) p t zM C.bu.toNat) u h'->Q u h'):
 X5 G (retK P_ G [.tmp 12,.tmp 13] Q) r h:=by
 generalize hq:(⟨C,w,k,f,T,rb⟩:Par)=q
 have hE:envE C w k f T rb=q.E:=by rw [<- hq];rfl
 rw [hE]at HQ
 generalize hW:find q.E (nk gp any) p t zM C.bu.toNat=W at HQ
 generalize hKR:retK P_ G [.tmp 12,.tmp 13] Q=KR
 unfold X5
 have cc:∀k,bf G h ⟨xc,k,none⟩=_:=fun k=>bm (bk (s.at 1 rfl bc))
 simp only [bRtT,g6,cc]
 refine (at3 (U:=C.un) (A:=C.ac) (V:=C.sp)).mono ?_
 rintro _ h1 (⟨_,ak,kp,rfl,kpk,s1,d1⟩|⟨hno,_⟩)
 rotate_left
 . exact absurd (kb_of mk) hno
 have s1:HL.Sep [ak,ga,B0] h1:=HL.Sep.open (L:=[ga,B0]) (R:=[ak]) (s1.swap) s |>.sel [2,0,1] (by decide) rfl
 have cc1:∀k,bf G h1 ⟨xc,k,none⟩=_:=fun k=>bm (bk (s1.at 2 rfl bc))
 try simp only [bRtT,g6,cc1]
 simp only [mkmapR]
 intro ms hms gms mw hmw gmw mp hmp gmp mt hmt gmt
 have s2:=((((s1.new (o := .map #[] 0) hms).new (o := .map #[] 0) hmw).new (o := .map #[] 0) hmp).new (o := .map #[] 0) hmt)
 have d2:=((((d1.set (o := .map #[] 0) gms).set (o := .map #[] 0) gmw).set (o := .map #[] 0) gmp).set (o := .map #[] 0) gmt)
 generalize Hp.set (Hp.set (Hp.set (Hp.set h1 ms _) mw _) mp _) mt _=h2 at s2 d2 ⊢
 try simp only [bRtT,g14,g1,g2]
 intro sp hsp gsp
 have s3:=s2.new (o := .cells ((qj C (.slice ab C.bl.length cb) (.slice ap C.po.length cp) (.slice ar C.ro.length cr) (.slice az C.st.length cs) (.pointer (some ⟨gb,0,none⟩)) kp tp rb ms mw mp mt 0).set 24 (.pointer none)).toArray 134 (0,0)) hsp
 have d3:=d2.set (o := .cells ((qj C (.slice ab C.bl.length cb) (.slice ap C.po.length cp) (.slice ar C.ro.length cr) (.slice az C.st.length cs) (.pointer (some ⟨gb,0,none⟩)) kp tp rb ms mw mp mt 0).set 24 (.pointer none)).toArray 134 (0,0)) gsp
 simp only [qj,List.set_cons_succ,List.set_cons_zero]at s3 d3
 generalize hos:Obj.cells (List.toArray [.int .i64 C.w,_,_,_,_,_,_,_,_,_,_,_,_,_,_,_,_,_,_,_,_,_,_,_,_]) 134 (0,0)=os at s3 d3 ⊢
 generalize Hp.set h2 sp _=h3 at s3 d3 ⊢
 refine (Hw.ul (G:=G) (h:=h3)).mono ?_
 rintro _ _ ⟨hp,rfl,hhp,ghp,rfl⟩
 have s4:=s3.new (o := .cells #[.func (.func 64) #[] #[],.slice none 0 0,(0:Int)] 218 (0,0)) hhp
 have d4:=d3.set (o := .cells #[.func (.func 64) #[] #[],.slice none 0 0,(0:Int)] 218 (0,0)) ghp
 generalize hoh:Obj.cells #[.func (.func 64) #[] #[],.slice none 0 0,(0:Int)] 218 (0,0)=oh at s4 d4 ⊢
 generalize Hp.set h3 hp oh=h4 at s4 d4 ⊢
 try simp (disch:=first|decide|omega) only [bRtT,Nat.reduceAdd,Nat.reduceMul]
 have hs4:h4 sp=some os:=s4.at 1 rfl bj
 subst hos
 rw [dr sz132 rfl hs4 (by simp)]
 have s5:=(s4.pick 1 rfl rfl).put (o := .cells (qj C (.slice ab C.bl.length cb) (.slice ap C.po.length cp) (.slice ar C.ro.length cr) (.slice az C.st.length cs) (.pointer (some ⟨gb,0,none⟩)) kp tp rb ms mw mp mt hp).toArray 134 (0,0)) bj
 rw [set_set]at s5
 have d5:=d4.set (o := .cells (qj C (.slice ab C.bl.length cb) (.slice ap C.po.length cp) (.slice ar C.ro.length cr) (.slice az C.st.length cs) (.pointer (some ⟨gb,0,none⟩)) kp tp rb ms mw mp mt hp).toArray 134 (0,0)) (d4 _ _ hs4)
 simp only [List.set_cons_succ,List.set_cons_zero]
 generalize hos:Obj.cells (qj C (.slice ab C.bl.length cb) (.slice ap C.po.length cp) (.slice ar C.ro.length cr) (.slice az C.st.length cs) (.pointer (some ⟨gb,0,none⟩)) kp tp rb ms mw mp mt hp).toArray 134 (0,0)=os at s5 d5
 have hos':=hos
 simp only [qj]at hos'
 rw [hos']
 generalize Hp.set h4 sp _=h5 at s5 d5 ⊢
 have s6:=s5.none.none.sel [7,6,5,0,4,1,3,8,2,9,10] (by decide) rfl
 clear s1 s2 s3 s4 s5 d1 d2 d3 d4 hs4 cc cc1
 obtain ⟨a,s7,ta⟩:=HL.Sep.pack [noHp.set ms (.map #[] 0),noHp.set mw (.map #[] 0),noHp.set mp (.map #[] 0),noHp] s6
 obtain ⟨ae,s8,tae⟩:=HL.Sep.pack [noHp.set mt (.map #[] 0),noHp] (R:=[a,noHp.set hp oh,ak,noHp.set sp os,ga,B0]) (s7.sel [1,2,0,3,4,5,6,7] (by decide) rfl)
 obtain ⟨A,s9,tA⟩:=HL.Sep.pack [a,ae,noHp.set hp oh,ak] (R:=[noHp.set sp os,ga,B0]) (s8.sel [1,0,2,3,4,5,6] (by decide) rfl)
 obtain ⟨B,s10,tB⟩:=HL.Sep.pack [noHp.set sp os,ga,B0] (R:=[A]) (s9.sel [1,2,3,0] (by decide) rfl)
 have s11:HL.Sep [A,B] h5:=s10.swap
 have lB0:B0.le B:=tB.in 2 rfl
 have dB:Dis G B:=fun x o hx=>d5 x o (s10.in 0 rfl x o hx)
 have hsB:B sp=some os:=tB.at 0 rfl bj
 have bgA:∀A' h',HL.Sep [A',B] h'->Dis G h'->Bg (HL.under G h' A') q sp kp ms mw mp mt hp:=by
  intro A' h' s' d'
  subst hq
  refine Bg.of (tp:=tp) (gp:=gb) s' d' (ca.up lB0 dB) (fun j hj=>?_) ((go.le (tB.in 1 rfl)).gs) (ts.up lB0 dB) st gt fw
  rw [bm (bk (hsB.trans (by rw [<- hos])))]
 have cB:∀h',B.le h'->Dis G h'->BC G h' sp (.pointer (some ⟨gb,0,none⟩)) kp tp q.r ms mw mp mt hp:=by
  intro h' l' d'
  subst hq
  exact xx (C:=C) (vb := .slice ab C.bl.length cb) (vp := .slice ap C.po.length cp) (vr := .slice ar C.ro.length cr) (vz := .slice az C.st.length cs) fun j hj=>by
   rw [bm (bk ((l' _ _ hsB).trans (by rw [<- hos])))]
 have hC:q.C=C:=by rw [<- hq]
 have fz:Fz G B q sp kp ms mw mp mt hp xc xg gp any:=⟨bgA,⟨_,_,cB⟩,by rw [<- hq];exact gt,by rw [<- hq];exact fw,by rw [<- hq];exact go.w2,by rw [<- hq];exact go.k2,fun h' l' d'=>by rw [bm (bk (l' _ _ (lB0 _ _ bc))),hC];rfl,lB0 _ _ bgl⟩
 have c0:Ch q a ms mw mp ⟨[],[],[],noHp⟩:=⟨⟨_,_,_,⟨#[],0,rfl,rfl⟩,⟨#[],0,rfl,rfl⟩,⟨#[],0,rfl,rfl⟩,ta⟩,fun n v h=>by simp [mget]at h,fun n v h=>by simp [mget]at h,fun n v h=>by simp [mget]at h⟩
 have hpq:dx q.w q.k q.f p=true:=by rw [<- hq];exact hpf
 have cp5:∀k,bf G h5 ⟨xp,k,none⟩=_:=fun k=>bm (bk ((s11.in 1 rfl) _ _ (lB0 _ _ bp)))
 try simp only [bRtT,g9,cp5]
 refine (Sep.on s11 (ng (G:=HL.under G h5 A) (R:=[ae,noHp.set hp oh,ak]) c0 (bgA A h5 s11 d5) tA hpq)).mono ?_
 rintro u h6 ⟨A6,⟨a6,c6,ch6,cl6,e2,hu,hu3,sA6,_⟩,s12,d6⟩
 have slu:=ch6.look1 hpq hu
 rw [g4]
 refine (Gl (t:=t) (slu.see (G:=G) (by decide) (ch6.pool.trans ((sA6.in 0 rfl).trans (s12.in 0 rfl)))) (by have:=Ms (q:=q) fz.gt fz.fw p;omega)).mono ?_
 rintro _ h6 ⟨rfl,rfl⟩
 try simp only [bRtT,g4]
 have hsp:q.E.spans p=mn q.w q.k q.T q.r p:=rfl
 cases hi:inside (mn q.w q.k q.T q.r p) t with
 |none=>
  have hw:W = .no 18:=by
   rw [<- hW]
   unfold find
   rw [hsp,hi]
  rw [show insI (mn q.w q.k q.T q.r p) t = -1 from by unfold insI;rw [hi]]
  rw [<- hKR]
  try simp (disch:=decide) only [bRtT]
  exact HQ _ _ ⟨noHp,_,by rw [hw];rfl,by rw [hw];exact Slc.nil,by rw [hw];simp [outL],((s12.drop).cut lB0).none,d6⟩
 |some i0=>
  rw [show insI (mn q.w q.k q.T q.r p) t=(i0:Int)from by unfold insI;rw [hi]]
  try simp only [bRtT,show decide ((i0:Int)<0)=false from decide_eq_false (by omega)]
  unfold aM9
  have cp6:∀k,bf G h6 ⟨xp,k,none⟩=_:=fun k=>bm (bk ((s12.in 1 rfl) _ _ (lB0 _ _ bp)))
  try simp (disch:=decide) only [bRtT,g9,cp6,g4]
  have ss0:Srs q a6 ae (noHp.set hp oh) ms mw mp mt hp c6 [] [] 0:=
   { ch:=ch6,st:=⟨.map #[] 0,[],noHp,KMap.empty,tae,⟨rfl,List.nodup_nil,fun i e x h=>by simp at h⟩⟩,hp:=⟨none,_,bj.trans (by rw [<- hoh]),⟨rfl,rfl⟩⟩,
     ok:=fun j h1 h2=>absurd h2 (by simp),qi:=⟨(fun w hw=>nomatch hw),(fun x hx=>nomatch hx)⟩,kept:=(fun x hx=>nomatch hx),n0:=Int.le_refl _,ln:=Int.le_refl _ }
  have v0:Inv q.E p t zM t []:=⟨List.Pairwise.nil,(fun x hx=>nomatch hx),(fun x hx=>nomatch hx),(fun x hx=>nomatch hx),(fun x hx=>nomatch hx),(fun x hx=>nomatch hx)⟩
  have ok:rk q.E:=ay5 (by rw [hC];exact mk) fz.gt
  have sA7:HL.Sep [a6,ae,noHp.set hp oh,ak] A6:=sA6
  have hr:=Ix (G:=HL.under G h6 A6) (R:=[ak]) (p:=p) (t:=t) (m:=zM) (b := -1) (lo:=t) (t0:=t) (p0:=p) (z:=zM) ss0 (bgA A6 h6 s12 d6) v0 (Int.le_refl _) hpq (by omega) (.inl (by decide)) sA7
  have hf:jk q.w q.k [] (-1)=(0,0):=by unfold jk;rw [if_pos (by decide)]
  rw [hf]at hr
  simp only [zM]at hr
  refine (Sep.on s12 hr).mono ?_
  rintro _ h7 ⟨A7,⟨a7,ae7,ah7,c7,L7,n7,ss7,_,_,m1,m2,sA8,_⟩,s13,d7⟩
  have v7:Inv q.E p t zM t (note q.E [] p t zM (-1)):=I5 v0 (Int.le_refl _) hpq (.inl ⟨rfl,rfl,rfl,rfl⟩)
  have hb:=mk.bu
  unfold b8 at hb
  simp only [Bool.and_eq_true,decide_eq_true_eq]at hb
  try simp (disch:=first|decide|omega) only [bRtT,Nat.reduceAdd,Nat.reduceMul]
  subst hKR
  have hkq:KP ak kp q.C.un q.C.ac q.C.sp:=by rw [hC];exact kpk
  have ss7':Srs q a7 ae7 ah7 ms mw mp mt hp _ (note q.E [] p t zM (-1)) L7 n7:=ss7
  refine S6 (N:=C.bu.toNat) (t0:=t) fz ok ht0 (by rw [hC];omega) (by omega) (by omega) rfl ss7' hkq v7 (by omega) sA8 s13 d7 _ (by simp (disch:=decide) only [bRtT]) (by simp (disch:=omega) only [bw,g6]) (by simp (disch:=omega) only [bw,g11]) (by simp (disch:=decide) only [bRtT]) (by simp only [bRtT]) ?_
  intro u h' ho
  have hw:W=run q.E (nk gp any) C.bu.toNat (note q.E [] p t zM (-1)):=by
   rw [<- hW]
   unfold find
   rw [hsp,hi]
  have ho':OutR G B W u h':=by rw [hw];exact ho
  obtain ⟨ip,vs,e1,e2,e3,e4,e5⟩:=ho'
  exact HQ _ _ ⟨ip,vs,e1,e2,e3,(e4.swap.cut lB0).swap,e5⟩
def ja:=jq bC (jq (jq (jq (jq @El @xv) (jq @bne_self_eq_false.{0} (jq @cf26 @cf37))) (jq (jq @cf61 @cf62) (jq @eq34np (jq @eq34sp @Zh)))) (jq (jq (jq @Ze @vw) (jq @av3 (jq @av2 @ld26))) (jq (jq @ld28 (jq @ld30 @th)) (jq @ld3p (jq @ld4 @ky)))))
def aimB (C:Conf) (gp:Pose) (any:Bool):Bool:=if any=true then py (wC C) (kC C) (f3C C) (gp.x,gp.y)else dx (wC C) (kC C) (f3C C) gp
def lg (C:Conf) (To:Option Tb) (rb:Int) (p:Pose) (t:Int) (gp:Pose) (any:Bool):Res Move:=match To with
 |none => .no 1
 |some T=>if (T.length:Int)≠C.w*C.h\/rb<0\/t<0\/t>=FV\/dx (wC C) (kC C) (f3C C) p=false\/aimB C gp any=false then .no 1
  else find (envE C (wC C) (kC C) (f3C C) T rb) (nk gp any) p t zM C.bu.toNat
def FindR (G h:Hp) (C:Conf) (To:Option Tb) (rb:Int) (p:Pose) (t:Int) (gp:Pose) (any:Bool) (u:Value) (h':Hp):Prop:=
 ∃W,OutR G h W u h'/\((¬dv C/\W = .no 5)\/(dv C/\W=lg C To rb p t gp any))
def TabV (G h:Hp) (vt:Value):Option Tb->Prop
 |none=>vt = .pointer none
 |some T=>∃tp,vt = .pointer (some ⟨tp,0,none⟩)/\Rv.TSee G h tp T/\jf T/\Few T 100
theorem al6 {G h:Hp} {C:Conf} {v vt:Value} {To:Option Tb} {p gp:Pose} {rb t:Int} {any:Bool} (hv:CV G h v C) (st:jy G) (hro:∀p∈C.ro,PB p) (hsl:C.st.length<=100000000000000) (hbu:dv C->C.bu<=4000)
 (tv:TabV G h vt To) (hp:PB p) (hgp:PB gp):
 bn P_ G 27 #[v,vt,rb,ld p,t,.agg #[gp.x,gp.y,.bool gp.d,.bool any]] h (FindR G h C To rb p t gp any):=by
 obtain ⟨ab,cb,ap,cp,ar,cr,az,cs,rfl,ca⟩:=hv
 refine bn.assume fun d=>enter27 (by simp) ?_
 unfold S27
 simp (disch:=decide) only [ja]
 intro xc hxc gxc xp hxp gxp xg hxg gxg
 have s1:=((HL.Sep.one (h:=h)).past (o := .cells #[C.w,C.h,C.ht,.slice ab C.bl.length cb,.slice ap C.po.length cp,.slice ar C.ro.length cr,.slice az C.st.length cs,C.un,C.ac,C.sp,C.tu,C.ho,C.qu,C.re,C.bu,.bool C.back] 26 (0,0)) hxc)
 generalize e1:Hp.set h xc _=h1 at*
 obtain ⟨l1,d1,bc1⟩:=boxed e1 hxc d gxc
 generalize e2:Hp.set h1 xp _=h2 at*
 obtain ⟨l2,d2,bp2⟩:=boxed e2 hxp d1 gxp
 generalize e3:Hp.set h2 xg _=h3 at*
 obtain ⟨l3,d3,bg3⟩:=boxed e3 hxg d2 gxg
 have bc3:=l3 _ _ (l2 _ _ bc1)
 have bp3:=l3 _ _ bp2
 have L:=l1.trans (l2.trans l3)
 have cc:∀j,bf G h3 ⟨xc,j,none⟩=_:=fun j=>bm (bk bc3)
 have cg:∀j,bf G h3 ⟨xg,j,none⟩=_:=fun j=>bm (bk bg3)
 clear s1
 try simp only [ja,cc]
 refine (ul (ca.up L d3).cv st hro hsl).mono ?_
 rintro _ h4 ⟨l4,d4,⟨mk,ga,gb,kb,rfl,go,s4⟩|⟨hno,rfl⟩⟩
 rotate_left
 . try simp only [ja]
   exact ⟨.no 5,⟨noHp,_,rfl,Slc.nil,by simp [outL],(HL.Sep.one.none.swap.cut (L.trans l4)).swap,d4⟩,.inl ⟨hno,rfl⟩⟩
 try simp only [ja]
 have gs:=go.gs (G:=G)
 have gs4:=gs.up (s4.in 0 rfl) d4
 have cg4:∀j,bf G h4 ⟨xg,j,none⟩=_:=fun j=>bm (bk (s4.at 1 rfl bg3))
 unfold aN0
 try simp (disch:=decide) only [ja,cg4]
 have out1:lg C To rb p t gp any = .no 1->FindR G h C To rb p t gp any (.tuple #[.slice none 0 0,(1:Int)]) h4:=fun e=>
  ⟨.no 1,⟨noHp,_,rfl,Slc.nil,by simp [outL],(HL.Sep.one.none.swap.cut (L.trans l4)).swap,d4⟩,.inr ⟨mk,e.symm⟩⟩
 have cc4:∀j,bf G h4 ⟨xc,j,none⟩=_:=fun j=>bm (bk (s4.at 1 rfl bc3))
 have cp4:∀j,bf G h4 ⟨xp,j,none⟩=_:=fun j=>bm (bk (s4.at 1 rfl bp3))
 generalize hKR:retK P_ G [.tmp 12,.tmp 13] (FindR G h C To rb p t gp any)=KR
 suffices k2:∀r':Rg,r' 1=vt->r' 2 = .int .i64 rb->r' 4 = .int .i64 t->r' 6 = .pointer (some ⟨xc,0,none⟩)->r' 9 = .pointer (some ⟨xp,0,none⟩)->r' 11 = .pointer (some ⟨xg,0,none⟩)->r' 14 = .pointer (some ⟨gb,0,none⟩)->r' 16 = .bool (aimB C gp any)->Rs G KR r' h4 by
  refine (pq gs4 st hgp).mono ?_
  rintro _ h5 ⟨rfl,rfl⟩
  try simp only [ja,cg4]
  cases hany:any with
  |true=>
   try simp only [ja,cg4]
   refine (Bf (c:=(gp.x,gp.y)) gs4).mono ?_
   rintro _ h6 ⟨rfl,rfl⟩
   exact k2 _ (by simp (disch:=decide) only [ja]) (by simp (disch:=decide) only [ja]) (by simp (disch:=decide) only [ja]) (by simp (disch:=decide) only [ja]) (by simp (disch:=decide) only [ja]) (by simp (disch:=decide) only [ja]) (by simp (disch:=decide) only [ja]) (by simp only [ja];simp [aimB,hany])
  |false=>
   try simp only [ja]
   exact k2 _ (by simp (disch:=decide) only [ja]) (by simp (disch:=decide) only [ja]) (by simp (disch:=decide) only [ja]) (by simp (disch:=decide) only [ja]) (by simp (disch:=decide) only [ja]) (by simp (disch:=decide) only [ja]) (by simp (disch:=decide) only [ja]) (by simp (disch:=decide) only [ja];simp [aimB,hany])
 intro r1 f1 f2 f4 f6 f9 f11 f14 f16
 unfold Rs
 refine ⟨h4,Hp.le.refl _,?_⟩
 try simp only [ja,f1]
 cases To with
 |none=>
  rw [show vt = .pointer none from tv]
  try simp only [ja,gk]
  rw [<- hKR]
  try simp (disch:=decide) only [ja]
  exact out1 rfl
 |some T=>
  obtain ⟨tp,rfl,ts,gt,fw⟩:=tv
  try simp only [ja]
  refine (Rv.nx (ts.up (L.trans l4) d4)).mono ?_
  rintro _ h5 ⟨rfl,rfl⟩
  refine ⟨Hp.le.refl _,?_⟩
  try simp only [ja,f6,cc4]
  have hw:IntKind.i64.wrap (C.w*C.h)=C.w*C.h:=by
   have a1:=gs.w1
   have a2:=gs.w2
   have a3:=gs.k1
   have a4:=gs.k2
   unfold wC at a1 a2
   unfold kC at a3 a4
   have b1:0<=C.w*C.h:=Int.mul_nonneg (by omega) (by omega)
   have b2:C.w*C.h<=16*16:=Int.mul_le_mul (by omega) (by omega) (by omega) (by omega)
   exact nu (by omega) (by omega)
  rw [hw]
  by_cases q1:(T.length:Int)=C.w*C.h
  rotate_left
  . try simp only [ja,show ((T.length:Int) != C.w*C.h)=true from by simpa using q1,gk]
    rw [<- hKR]
    try simp (disch:=decide) only [ja]
    exact out1 (by unfold lg;exact if_pos (.inl q1))
  try simp only [ja,show ((T.length:Int) != C.w*C.h)=false from by simpa using q1,f2]
  by_cases q2:rb<0
  . try simp only [ja,li q2,gk]
    rw [<- hKR]
    try simp (disch:=decide) only [ja]
    exact out1 (by unfold lg;exact if_pos (.inr (.inl q2)))
  try simp only [ja,lj q2,f4]
  by_cases q3:t<0
  . try simp only [ja,li q3,gk]
    rw [<- hKR]
    try simp (disch:=decide) only [ja]
    exact out1 (by unfold lg;exact if_pos (.inr (.inr (.inl q3))))
  try simp only [ja,lj q3,f4]
  by_cases q4:t>=4611686018427387904
  . try simp only [ja,li q4,gk]
    rw [<- hKR]
    try simp (disch:=decide) only [ja]
    exact out1 (by unfold lg;exact if_pos (.inr (.inr (.inr (.inl q4)))))
  try simp only [ja,lj q4,f14,f9,cp4]
  refine (pq gs4 st hp).mono ?_
  rintro _ h6 ⟨rfl,rfl⟩
  cases q5:dx (wC C) (kC C) (f3C C) p with
  |false=>
   try simp only [ja,gk]
   rw [<- hKR]
   try simp (disch:=decide) only [ja]
   exact out1 (by unfold lg;exact if_pos (.inr (.inr (.inr (.inr (.inl q5))))))
  |true=>
  try simp only [ja,f16]
  cases q6:aimB C gp any with
  |false=>
   try simp only [ja,q6]
   rw [<- hKR]
   try simp (disch:=decide) only [ja]
   exact out1 (by unfold lg;exact if_pos (.inr (.inr (.inr (.inr (.inr q6))))))
  |true=>
  try simp only [ja,q6]
  rw [<- hKR]
  have hfw:lg C (some T) rb p t gp any=find (envE C (wC C) (kC C) (f3C C) T rb) (nk gp any) p t zM C.bu.toNat:=by
   unfold lg
   refine if_neg ?_
   rintro (h|h|h|h|h|h)
   . exact h q1
   . exact q2 h
   . exact q3 h
   . exact q4 h
   . rw [q5]at h;cases h
   . rw [q6]at h;cases h
  refine find_k3 (T:=T) (rb:=rb) (p:=p) (gp:=gp) (any:=any) (t:=t) st mk (hbu mk) gt fw go (ca.up L d3) (ts.up L d3) q5 (by omega) (by unfold FV;omega) bc3 bp3 bg3 s4 d4 _ (by simp (disch:=omega) only [bw,f1]) (by simp (disch:=omega) only [bw,f2]) (by simp (disch:=omega) only [bw,f4]) (by simp (disch:=omega) only [bw,f6]) (by simp (disch:=omega) only [bw,f9]) (by simp (disch:=omega) only [bw,f11]) (by simp (disch:=omega) only [bw,f14]) ?_
  rintro u h' ⟨ip,vs,e1,e2,e3,e4,e5⟩
  exact ⟨_,⟨ip,vs,e1,e2,e3,(e4.swap.cut L).swap,e5⟩,.inr ⟨mk,hfw.symm⟩⟩
end Go.Proofs.YtfflipnhffknnaaGreatDoor
end
section
namespace Go.Proofs.YtfflipnhffknnaaGreatDoor
open Go Go.HL
section
variable (G:Hp) (K:EK) (r:Rg) (h:Hp)
def S4_k4:Prop:=
 c_ G 23 #[] h fun g h=>
 K .ret (u2 r 106 g 12 g) h
def aK2:Prop:=
 o_ G (z1_ (r 19) (1:Int)) h fun g h=>
 K .normal (u3 r 84 (r 19) 85 g 19 g) h
def aK3:Prop:=
 o_ G (i_ 40 (r 15) (r 19)) h fun g h=>o_ G (l_ 48 g) h fun j h=>o_ G (Instr.alloc 48 true (.tuple #[])) h fun s h=>
 opH P_ G (su (Instr.storeAt 48 s j)) h fun u h=>o_ G (f_ 48 s 5) h fun u h=>o_ G (l_ 3 u) h fun w h=>o_ G (z1_ w (r 3)) h fun z h=>o_ G (f_ 48 s 5) h fun C h=>
 opH P_ G (su (Instr.storeAt 3 C z)) h fun D h=>o_ G (f_ 48 s 6) h fun D h=>o_ G (l_ 3 D) h fun E h=>o_ G (z1_ E (r 3)) h fun F h=>o_ G (f_ 48 s 6) h fun I h=>
 opH P_ G (su (Instr.storeAt 3 I F)) h fun J h=>
 w_ G h (l_ 48 s) h fun J h'=>
 p_ (i_ 40 (r 17) (r 19)) h' fun L h'=>
 w_ G h (l_ 48 L) h' fun M h'=>
 dg P_ G h (xEq .neq 48 (.tmp 0) (.tmp 0) J M) h' fun N h=>
 (fun q=>cond N
 (K .ret (upd q 12 (.bool false)) h)
 (aK2 G K q h))
 (upd (u10 (u10 r 86 (r 15) 87 (r 19) 88 g 89 j 20 s 90 u 91 w 92 (r 3) 93 z 94 C) 95 D 96 E 97 (r 3) 98 F 99 I 100 J 101 (r 17) 102 (r 19) 103 L 104 M) 105 N)
def S4_l5 (r:Rg) (h:Hp) (K:EK):Prop:=
 o_ G (k_ 40 (r 15)) h fun g h=>o_ G (z2_ (r 19) g) h fun j h=>
 cond j
 (aK3 G K (u4 r 80 (r 19) 81 (r 15) 82 g 83 j) h)
 (K (.exit 0) (u4 r 80 (r 19) 81 (r 15) 82 g 83 j) h)
def S4_k3:Prop:=
 dt (S4_l5 G) (upd r 19 (.int .i64 0)) h (df 0 (dj (S4_k4 G K) K))
def S4_k2:Prop:=
 w_ G h (l_ 26 (r 6)) h fun g h'=>
 c_ G 28 #[g] h' fun j h'=>h.le h'/\
 w_ G h (l_ 30 (r 7)) h' fun s h'=>
 w_ G h (l_ 30 (r 10)) h' fun u h=>
 p_ (Instr.build 45 #[(0,u),(1,(r 5))]) h fun w h=>
 c_ G 27 #[j,(r 13),(.int .i64 1),s,(r 2),w] h fun z h=>
 p_ (Instr.extract z 0) h fun C h=>
 p_ (Instr.extract z 1) h fun D h=>
 w_ G h (l_ 26 (r 6)) h fun E h'=>
 c_ G 28 #[E] h' fun F h'=>h.le h'/\
 w_ G h (l_ 30 (r 7)) h' fun I h'=>
 p_ (z1_ (r 2) (r 3)) h' fun J h'=>
 w_ G h (l_ 30 (r 10)) h' fun L h=>
 p_ (Instr.build 45 #[(0,L),(1,(r 5))]) h fun M h=>
 c_ G 27 #[F,(r 13),(.int .i64 1),I,J,M] h fun N h=>
 p_ (Instr.extract N 0) h fun O h=>
 p_ (Instr.extract N 1) h fun P h=>
 opH P_ G (xEq .neq 35 (.tmp 0) (.tmp 0) D P) h fun Q h=>g_ Q false (fun K1=>K1 C h) h fun U h=>g_ Q false (o_ G (k_ 40 U) h) h fun V h=>g_ Q false (fun K1=>K1 O h) h fun W h=>g_ Q false (o_ G (k_ 40 W) h) h fun Y h=>g_ Q false (opH P_ G (xEq .neq 3 (.tmp 0) (.tmp 0) V Y) h) h fun Z h=>
 opH P_ G (dc Q (.bool true) Z) h fun aa h=>
 (fun q=>cond aa
 (K .ret (upd q 12 (.bool false)) h)
 (S4_k3 G K q h))
 (u10 (u10 (u10 (u10 r 45 g 46 j 47 (r 13) 48 s 49 (r 2) 50 u 51 (r 5) 52 w 53 z 44 z) 54 C 55 D 15 C 16 D 57 E 58 F 59 (r 13) 60 I 61 (r 2) 62 (r 3)) 63 J 64 L 65 (r 5) 66 M 67 N 56 N 68 O 69 P 17 O 18 P) 70 D 71 P 72 Q 73 Q 74 U 75 V 76 W 77 Y 78 Z 79 aa)
def S4_k1:Prop:=
 c_ G 25 #[(r 2),(.int .i64 1073741824)] h fun g h=>
 c_ G 25 #[(r 3),(.int .i64 1073741824)] h fun j h=>o_ G (f_ 26 (r 6) 0) h fun s h=>o_ G (l_ 3 s) h fun u h=>o_ G (f_ 26 (r 6) 1) h fun w h=>o_ G (l_ 3 w) h fun z h=>o_ G (z4_ u z) h fun C h=>
 c_ G 24 #[C] h fun D h=>o_ G (Instr.extract D 0) h fun E h=>o_ G (Instr.extract D 1) h fun F h=>
 opH P_ G (xEq .neq 35 (.tmp 0) (.const .nilFunc) F (.int .i64 0)) h fun I h=>g_ I false (fun K1=>K1 E h) h fun J h=>g_ I false (opH P_ G (xEq .eql 34 (.tmp 0) (.const .nilFunc) J (.pointer none)) h) h fun L h=>
 opH P_ G (dc I (.bool true) L) h fun M h=>
 (fun q=>cond M
 (K .ret (upd q 12 (.bool false)) h)
 (S4_k2 G K q h))
 (u3 (u10 (u10 r 25 (r 2) 26 g 2 g 27 (r 3) 28 j 3 j 30 s 31 u 32 w 33 z) 34 C 35 D 29 D 36 E 37 F 13 E 14 F 38 F 39 I 40 I) 41 J 42 L 43 M)
def S4:Prop:=
 o_ G (Instr.box 26 (r 0)) h fun g h=>o_ G (Instr.box 30 (r 1)) h fun j h=>o_ G (Instr.box 30 (r 4)) h fun s h=>o_ G (l_ 26 g) h fun u h=>
 c_ G 21 #[u] h fun w h=>o_ G (Op.unary .not w) h fun z h=>
 cond z
 (c_ G 23 #[] h fun C h'=>
 K .ret (u9 r 6 g 7 j 10 s 12 (.bool false) 21 u 22 w 23 z 24 C 12 C) h')
 (S4_k1 G K (u7 r 6 g 7 j 10 s 12 (.bool false) 21 u 22 w 23 z) h)
end
end Go.Proofs.YtfflipnhffknnaaGreatDoor
end
section
namespace Go.Proofs.YtfflipnhffknnaaGreatDoor
open Go Go.HL Go.Proofs.Resv Go.Proofs.Srch
theorem Jh {n:Nat}:jf (List.replicate n []):=fun L hL=>by rw [(List.mem_replicate.1 hL).2];exact Resv.Good.nil
theorem au9 {n b:Nat}:Few (List.replicate n []) b:=fun L hL=>by rw [(List.mem_replicate.1 hL).2];exact Nat.zero_le _
end Go.Proofs.YtfflipnhffknnaaGreatDoor
end
section
namespace Go.Proofs.YtfflipnhffknnaaGreatDoor
open Go Go.HL
def bRpY:=jq bC (jq (jq (jq (jq @al26 @Xh) (jq @aE8 (jq @cf122 @cf71))) (jq (jq @Jq @Ur) (jq @Jp (jq @Qz @Jo)))) (jq (jq (jq @W5 @Qi) (jq @ld22 (jq @ld23 @ld24))) (jq (jq @ld26 @vg) (jq @ln24 (jq @Dt @Bb)))))
theorem eoraw:gi P_ 234 rawC.n 40:=⟨by kernel_rfl,by kernel_rfl,by kernel_rfl⟩
theorem eopose:gi P_ 30 zx.n 24:=⟨by kernel_rfl,by kernel_rfl,by kernel_rfl⟩
def Room (n bytes:Nat):Prop:=(2*n+192)*bytes<=281474976710656
theorem Mi {G h:Hp} {v:Value} {L:List Int} (sv:Sees icC G h v L) (hl:Room L.length 8):bn P_ G 122 #[v] h (fun u h'=>∃ip,Slc icC 3 ip u L/\Sep [ip,h] h'/\Dis G h'):=by
 refine bn.assume fun d=>aC1 (by simp) ?_
 unfold S122
 simp only [bRpY]
 refine pi icC (by decide) H4 eoint (by decide) (Sep.one (h:=h)).none d Slc.nil sv (by simpa [Room]using hl) fun v' a' h' o' s' d'=>?_
 try simp (disch:=first|decide|omega) only [bRpY,Nat.reduceAdd,Nat.reduceMul]
 exact ⟨a',o',s',d'⟩
def Rel (pb:Hp) (raws:List Raw) (st:List (Cell × List Int)):Prop:=∀(i:Nat) (r:Raw) (s:Cell × List Int),raws[i]?=some r->st[i]?=some s->(r.x,r.y)=s.1/\r.n=s.2.length/\Slc icC 3 pb (.slice r.a s.2.length r.c) s.2
def StkO (pz:Hp) (v:Value) (st:List (Cell × List Int)):Prop:=∃raws pr pb,Slc rawC 234 pr v raws/\Sep [pr,pb] pz/\raws.length=st.length/\Rel pb raws st
theorem Rel.le {pb pb':Hp} {raws:List Raw} {st:List (Cell × List Int)} (r:Rel pb raws st) (l:pb.le pb'):Rel pb' raws st:=fun i x s h1 h2=>let ⟨a,b,c⟩:=r i x s h1 h2;⟨a,b,c.le l⟩
theorem Hg {G h:Hp} {C:Conf} {ab:Option Addr} {cb:Nat} {ap:Option Addr} {cp:Nat} {ar:Option Addr} {cr:Nat} {az:Option Addr} {cs:Nat} (ca:CA G h C ab cb ap cp ar cr az cs)
 (hst:Room C.st.length 40) (hb:∀s∈C.st,Room s.2.length 8):bn P_ G 71 #[.slice az C.st.length cs] h (fun u h'=>∃pz,StkO pz u C.st/\Sep [pz,h] h'/\Dis G h'):=by
 refine bn.assume fun d=>enter71 (by simp) ?_
 unfold S71
 have hlb:C.st.length<=7036874417664:=by unfold Room at hst;omega
 refine dp (fun m r h3=>∃(i:Nat) (raws:List Raw) (pr pb:Hp) (v:Value),m=C.st.length-i/\i<=C.st.length/\r 0 = .slice az C.st.length cs/\r 3=v/\r 4 = .int .i64 i/\Slc rawC 234 pr v raws/\raws.length=i/\Rel pb raws C.st/\Sep [pr,pb,h] h3/\Dis G h3) ?_
  (m:=C.st.length) ⟨0,[],noHp,noHp,_,rfl,Nat.zero_le _,by simp (disch:=decide) only [bRpY],by simp (disch:=decide) only [bRpY],by simp only [bRpY]<;>rfl,Slc.nil,rfl,fun i r s h1=>by simp at h1,(Sep.one.none).none,d⟩
 rintro m r h3 ⟨i,raws,pr,pb,v,rfl,hi,g0,g3,g4,o,hlen,rel,s3,d3⟩ X HX
 unfold aI2
 simp only [bRpY,g0,g4]
 refine ci (fun hlt=>?_) (fun hge=>?_)
 rotate_left
 . obtain rfl:i=C.st.length:=by omega
   try simp (disch:=first|decide|omega) only [bRpY,Nat.reduceAdd,Nat.reduceMul]
   unfold aI3
   try simp (disch:=decide) only [bRpY,g3]
   obtain ⟨pz,s4,t4⟩:=s3.pack2
   exact ⟨pz,⟨raws,pr,pb,o,t4,hlen,rel⟩,s4,d3⟩
 have hlt':i<C.st.length:=by omega
 obtain ⟨s,hs⟩:∃s,C.st[i]?=some s:=⟨_,List.getElem?_eq_getElem hlt'⟩
 have ca3:=ca.up (s3.in 2 rfl) d3
 obtain ⟨b,ofs,a,c,rfl,z0,z1,z2,sv⟩:=ca3.stk hs
 unfold Or
 refine ⟨h3,Hp.le.refl _,?_⟩
 try simp (disch:=decide) only [bRpY,g0,g4,T3 (Int.natCast_nonneg i) hlt,z0,z1,z2]
 refine (Mi sv (hb s (List.mem_of_getElem? hs))).mono ?_
 rintro u h4 ⟨ip,o4,s4,d4⟩
 refine ⟨s4.in 1 rfl,?_⟩
 obtain ⟨sa,cap,rfl,hcap⟩:=o4.len (by decide)
 try simp only [bRpY]
 intro x hx gx
 have s5:Sep [ip,pr,pb,h] h4:=by
  have:=s4.split s3
  simpa using this
 let rw0:Raw:=⟨s.1.1,s.1.2,sa,s.2.length,cap⟩
 have s6:Sep [pr,ip,pb,h] (h4.set x (.cells #[s.1.1,s.1.2,.slice sa s.2.length cap] 234 (0,0))):=(s5.past hx).pick 1 rfl rfl
 have d6:Dis G (h4.set x (.cells #[s.1.1,s.1.2,.slice sa s.2.length cap] 234 (0,0))):=d4.set gx
 have b6:(h4.set x (.cells #[s.1.1,s.1.2,.slice sa s.2.length cap] 234 (0,0))) x=some (.cells #[s.1.1,s.1.2,.slice sa s.2.length cap] 234 (0,0)):=bj
 generalize Hp.set h4 x _=h6 at s6 d6 b6 ⊢
 rw [g3]
 refine pi rawC (by decide) un24 eoraw (by decide) (M:=[rw0]) s6 d6 o (Sees.row (c:=rawC) (L:=[rw0]) b6 rfl (Nat.le_refl _)) (by
  unfold Room at hst
  refine Nat.le_trans (Nat.mul_le_mul_right _ ?_) hst
  rw [hlen,List.length_singleton]
  omega) fun v7 pr7 h7 o7 s7 d7=>?_
 have s7':Sep [ip,pb,pr7,h] h7:=(s7.pick 2 rfl rfl).pick 2 rfl rfl
 obtain ⟨pb7,s8,t8⟩:=s7'.pack2
 unfold Oq
 try simp (disch:=first|decide|omega) only [bRpY,g4]
 refine HX (C.st.length-(i+1)) _ _ (by omega) ⟨i+1,raws++[rw0],pr7,pb7,v7,rfl,hlt',by simp (disch:=decide) only [bRpY,g0],by simp (disch:=decide) only [bRpY],by simp only [bRpY]<;>rfl,o7,by simp [hlen],?_,s8.pick 1 rfl rfl,d7⟩
 intro j r' s' hr' hs'
 by_cases hj:j<i
 . rw [List.getElem?_append_left (by omega)]at hr'
   exact (rel.le (t8.in 1 rfl)) j r' s' hr' hs'
 . have hj2:j<(raws++[rw0]).length:=(List.getElem?_eq_some_iff.1 hr').1
   obtain rfl:j=i:=by simp at hj2;omega
   rw [List.getElem?_append_right (by omega),hlen,Nat.sub_self]at hr'
   cases hr'
   rw [hs]at hs'
   cases hs'
   exact ⟨rfl,rfl,o4.le (t8.in 0 rfl)⟩
abbrev me (C:Conf) (vb vp vr vz:Value):Obj := .cells #[C.w,C.h,C.ht,vb,vp,vr,vz,C.un,C.ac,C.sp,C.tu,C.ho,C.qu,C.re,C.bu,.bool C.back] 26 (0,0)
abbrev confA (C:Conf) (vb vp vr vz:Value):Value := .agg #[C.w,C.h,C.ht,vb,vp,vr,vz,C.un,C.ac,C.sp,C.tu,C.ho,C.qu,C.re,C.bu,.bool C.back]
theorem store26 {G h:Hp} {y:Nat} {C:Conf} {D:Conf} {v1 v2 v3 v4:Value} {a1 a2 a3 a4:Option Addr} {n1 n2 n3 n4 c1 c2 c3 c4:Nat} {K:Unit->Hp->Prop} (hb:h y=some (me D v1 v2 v3 v4)):
 wpH P_ G (Instr.storeAt 26 (.pointer (some ⟨y,0,none⟩)) (confA C (.slice a1 n1 c1) (.slice a2 n2 c2) (.slice a3 n3 c3) (.slice a4 n4 c4))) h K=K () (h.set y (me C (.slice a1 n1 c1) (.slice a2 n2 c2) (.slice a3 n3 c3) (.slice a4 n4 c4))):=by
 conv=>lhs;rw [<- zn hb]
 exact st26w
structure Fit0 (C:Conf):Prop where
 bl:Room C.bl.length 16
 po:Room C.po.length 16
 ro:Room C.ro.length 24
 st:Room C.st.length 40
 bins:∀s∈C.st,Room s.2.length 8
def Cz:Conf:=⟨0,0,0,[],[],[],[],0,0,0,0,0,0,0,0,false⟩
abbrev nilV:Value := .slice none 0 0
structure CO (h:Hp) (C:Conf) (u:Value) (h' pb pp pr pz:Hp) (vb vp vr vz:Value):Prop where
 v:u=confA C vb vp vr vz
 bl:Slc du 28 pb vb C.bl
 po:Slc du 28 pp vp C.po
 ro:Slc zx 30 pr vr C.ro
 st:StkO pz vz C.st
 sep:Sep [pb,pp,pr,pz,h] h'
def CopyR (G h:Hp) (C:Conf) (u:Value) (h':Hp):Prop:=(∃pb pp pr pz vb vp vr vz,CO h C u h' pb pp pr pz vb vp vr vz)/\Dis G h'
theorem B7 {G h:Hp} {v:Value} {C:Conf} (hv:CV G h v C) (fit:Fit0 C):bn P_ G 28 #[v] h (CopyR G h C):=by
 obtain ⟨ab,cb,ap,cp,ar,cr,az,cs,rfl,ca⟩:=hv
 refine bn.assume fun d=>enter28 (by simp) ?_
 unfold S28
 simp (disch:=decide) only [bRpY]
 intro x hx gx y hy gy
 have exy:=js hy
 have s2:Sep [noHp,noHp.set x (me C (.slice ab C.bl.length cb) (.slice ap C.po.length cp) (.slice ar C.ro.length cr) (.slice az C.st.length cs)),noHp.set y (me Cz nilV nilV nilV nilV),h] _:=(((Sep.one (h:=h)).new (o:=me C (.slice ab C.bl.length cb) (.slice ap C.po.length cp) (.slice ar C.ro.length cr) (.slice az C.st.length cs)) hx).new (o:=me Cz nilV nilV nilV nilV) hy).swap.none
 have d2:=(d.set (o:=me C (.slice ab C.bl.length cb) (.slice ap C.po.length cp) (.slice ar C.ro.length cr) (.slice az C.st.length cs)) gx).set (o:=me Cz nilV nilV nilV nilV) gy
 unfold Cz at s2 d2
 generalize Hp.set (Hp.set h x _) y _=h2 at s2 d2 ⊢
 have cx:∀j,bf G h2 ⟨x,j,none⟩=_:=fun j=>bm (bk (s2.at 1 rfl bj))
 have ca2:=ca.up (s2.in 3 rfl) d2
 try simp only [bRpY,cx]
 refine pi du (by decide) un22 eocell (by decide) s2 d2 Slc.nil ca2.bl (by simpa [Room]using fit.bl) fun vb pb h3 ob s3 d3=>?_
 obtain ⟨sb,cpb,rfl,_⟩:=ob.len (by decide)
 rw [List.nil_append]at ob
 have hx3:=s3.at 1 rfl bj
 try simp (disch:=first|decide|omega) only [bRpY,Nat.reduceAdd,Nat.reduceMul]
 rw [dr sz22 rfl hx3 (by simp)]
 have s4:Sep [noHp,noHp.set x (me C (.slice sb C.bl.length cpb) (.slice ap C.po.length cp) (.slice ar C.ro.length cr) (.slice az C.st.length cs)),pb,noHp.set y (me ⟨0,0,0,[],[],[],[],0,0,0,0,0,0,0,0,false⟩ nilV nilV nilV nilV),h] (h3.set x (me C (.slice sb C.bl.length cpb) (.slice ap C.po.length cp) (.slice ar C.ro.length cr) (.slice az C.st.length cs))):=by
  have:=(s3.pick 1 rfl rfl).put (o:=me C (.slice sb C.bl.length cpb) (.slice ap C.po.length cp) (.slice ar C.ro.length cr) (.slice az C.st.length cs)) bj
  rw [set_set]at this
  exact this.none
 have d4:Dis G (h3.set x (me C (.slice sb C.bl.length cpb) (.slice ap C.po.length cp) (.slice ar C.ro.length cr) (.slice az C.st.length cs))):=d3.set gx
 try simp only [bRpY,List.nil_append]
 generalize Hp.set h3 x _=h4 at s4 d4 ⊢
 refine pi du (by decide) un22 eocell (by decide) s4 d4 Slc.nil (ca.up (s4.in 4 rfl) d4).po (by simpa [Room]using fit.po) fun vp pp h5 op s5 d5=>?_
 obtain ⟨sp,cpp,rfl,_⟩:=op.len (by decide)
 rw [List.nil_append]at op
 have hx5:=s5.at 1 rfl bj
 try simp (disch:=first|decide|omega) only [bRpY,Nat.reduceAdd,Nat.reduceMul]
 rw [dr sz22 rfl hx5 (by simp)]
 have s6:Sep [noHp,noHp.set x (me C (.slice sb C.bl.length cpb) (.slice sp C.po.length cpp) (.slice ar C.ro.length cr) (.slice az C.st.length cs)),pp,pb,noHp.set y (me ⟨0,0,0,[],[],[],[],0,0,0,0,0,0,0,0,false⟩ nilV nilV nilV nilV),h] (h5.set x (me C (.slice sb C.bl.length cpb) (.slice sp C.po.length cpp) (.slice ar C.ro.length cr) (.slice az C.st.length cs))):=by
  have:=(s5.pick 1 rfl rfl).put (o:=me C (.slice sb C.bl.length cpb) (.slice sp C.po.length cpp) (.slice ar C.ro.length cr) (.slice az C.st.length cs)) bj
  rw [set_set]at this
  exact this.none
 have d6:Dis G (h5.set x (me C (.slice sb C.bl.length cpb) (.slice sp C.po.length cpp) (.slice ar C.ro.length cr) (.slice az C.st.length cs))):=d5.set gx
 try simp only [bRpY,List.nil_append]
 generalize Hp.set h5 x _=h6 at s6 d6 ⊢
 refine pi zx (by decide) un23 eopose (by decide) s6 d6 Slc.nil (ca.up (s6.in 5 rfl) d6).ro (by simpa [Room]using fit.ro) fun vr pr h7 or s7 d7=>?_
 obtain ⟨sr,cpr,rfl,_⟩:=or.len (by decide)
 rw [List.nil_append]at or
 have hx7:=s7.at 1 rfl bj
 try simp (disch:=first|decide|omega) only [bRpY,Nat.reduceAdd,Nat.reduceMul]
 rw [dr sz23 rfl hx7 (by simp)]
 have s8:Sep [noHp.set x (me C (.slice sb C.bl.length cpb) (.slice sp C.po.length cpp) (.slice sr C.ro.length cpr) (.slice az C.st.length cs)),pr,pp,pb,noHp.set y (me ⟨0,0,0,[],[],[],[],0,0,0,0,0,0,0,0,false⟩ nilV nilV nilV nilV),h] (h7.set x (me C (.slice sb C.bl.length cpb) (.slice sp C.po.length cpp) (.slice sr C.ro.length cpr) (.slice az C.st.length cs))):=by
  have:=(s7.pick 1 rfl rfl).put (o:=me C (.slice sb C.bl.length cpb) (.slice sp C.po.length cpp) (.slice sr C.ro.length cpr) (.slice az C.st.length cs)) bj
  rw [set_set]at this
  exact this
 have d8:Dis G (h7.set x (me C (.slice sb C.bl.length cpb) (.slice sp C.po.length cpp) (.slice sr C.ro.length cpr) (.slice az C.st.length cs))):=d7.set gx
 try simp only [bRpY,List.nil_append]
 generalize Hp.set h7 x _=h8 at s8 d8 ⊢
 refine (Hg (ca.up (s8.in 5 rfl) d8) fit.st fit.bins).mono ?_
 rintro vz h9 ⟨pz,oz,s9,d9⟩
 have s9':Sep [pz,noHp.set x (me C (.slice sb C.bl.length cpb) (.slice sp C.po.length cpp) (.slice sr C.ro.length cpr) (.slice az C.st.length cs)),pr,pp,pb,noHp.set y (me ⟨0,0,0,[],[],[],[],0,0,0,0,0,0,0,0,false⟩ nilV nilV nilV nilV),h] h9:=by
  have:=s9.split s8
  simpa using this
 obtain ⟨sz,cpz,rfl⟩:∃sz cpz,vz = .slice sz C.st.length cpz:=by
  obtain ⟨raws,_,_,o,_,e,_⟩:=oz
  obtain ⟨a,b,e2,_⟩:=o.len (by decide)
  exact ⟨a,b,by rw [e2,e]⟩
 have hx9:=s9'.at 1 rfl bj
 try simp (disch:=first|decide|omega) only [bRpY,Nat.reduceAdd,Nat.reduceMul]
 rw [dr sz24 rfl hx9 (by simp)]
 have s10:Sep [noHp.set x (me C (.slice sb C.bl.length cpb) (.slice sp C.po.length cpp) (.slice sr C.ro.length cpr) (.slice sz C.st.length cpz)),pz,pr,pp,pb,noHp.set y (me ⟨0,0,0,[],[],[],[],0,0,0,0,0,0,0,0,false⟩ nilV nilV nilV nilV),h] (h9.set x (me C (.slice sb C.bl.length cpb) (.slice sp C.po.length cpp) (.slice sr C.ro.length cpr) (.slice sz C.st.length cpz))):=by
  have:=(s9'.pick 1 rfl rfl).put (o:=me C (.slice sb C.bl.length cpb) (.slice sp C.po.length cpp) (.slice sr C.ro.length cpr) (.slice sz C.st.length cpz)) bj
  rw [set_set]at this
  exact this
 have d10:Dis G (h9.set x (me C (.slice sb C.bl.length cpb) (.slice sp C.po.length cpp) (.slice sr C.ro.length cpr) (.slice sz C.st.length cpz))):=d9.set gx
 try simp only [bRpY]
 generalize Hp.set h9 x _=h10 at s10 d10 ⊢
 have hy10:=s10.at 5 rfl bj
 rw [store26 hy10]
 try simp only [bRpY]
 refine ⟨⟨pb,pp,pr,pz,_,_,_,_,rfl,ob,op,or,oz,?_⟩,d10.set gy⟩
 have s11:=((s10.pick 5 rfl rfl).put (o:=me C (.slice sb C.bl.length cpb) (.slice sp C.po.length cpp) (.slice sr C.ro.length cpr) (.slice sz C.st.length cpz)) bj).drop.drop
 have s12:Sep [pz,pr,pp,pb,h] _:=s11
 exact ((s12.pick 1 rfl rfl).pick 2 rfl rfl).pick 3 rfl rfl
theorem StkO.len {pz:Hp} {v:Value} {st:List (Cell × List Int)} (o:StkO pz v st):∃sz cpz,v = .slice sz st.length cpz:=by
 obtain ⟨raws,_,_,o,_,e,_⟩:=o
 obtain ⟨a,b,e2,_⟩:=o.len (by decide)
 exact ⟨a,b,by rw [e2,e]⟩
theorem CO.cv {G h h' h2 pb pp pr pz:Hp} {C:Conf} {u vb vp vr vz:Value} (c:CO h C u h' pb pp pr pz vb vp vr vz) (l:h'.le h2):CV G h2 u C:=by
 obtain ⟨rfl,ob,op,or,oz,s⟩:=c
 obtain ⟨sb,cb,rfl,_⟩:=ob.len (by decide)
 obtain ⟨sp,cp,rfl,_⟩:=op.len (by decide)
 obtain ⟨sr,cr,rfl,_⟩:=or.len (by decide)
 obtain ⟨sz,cz,rfl⟩:=oz.len
 refine ⟨sb,cb,sp,cp,sr,cr,sz,cz,rfl,ob.sees (by decide) ((s.in 0 rfl).trans l),op.sees (by decide) ((s.in 1 rfl).trans l),or.sees (by decide) ((s.in 2 rfl).trans l),?_⟩
 obtain ⟨raws,pr',pb',o,t,e,rel⟩:=oz
 refine ⟨raws,o.sees (by decide) (((t.in 0 rfl).trans (s.in 3 rfl)).trans l),fun i r x h1 h2=>?_⟩
 obtain ⟨a,b,c⟩:=rel i r x h1 h2
 exact ⟨a,b,c.sees (by decide) (((t.in 1 rfl).trans (s.in 3 rfl)).trans l)⟩
end Go.Proofs.YtfflipnhffknnaaGreatDoor
end
section
namespace Go.Proofs.YtfflipnhffknnaaGreatDoor
open Go Go.HL Go.Proofs.Resv Go.Proofs.Srch
def B9:=jq bC (jq (jq (jq @rz (jq @cf38 @Ap)) (jq @C0 (jq @Hs @Hr))) (jq (jq @Hq (jq @Jo @Qw)) (jq (jq @ld23 @ld26) (jq @ld3 @ln23))))
structure SmO (C:Conf):Prop where
 w:C.w<=6
 h:C.h<=6
 bu:C.bu<=4000
 un:C.un<=100
 tu:C.tu<=200
 ho:C.ho<=200
 ro:C.ro.length<=4
 may:af6 C
theorem Yh {G h:Hp} {v:Value} {C:Conf} (hv:CV G h v C):bn P_ G 21 #[v] h (fun u h'=>(∃b,u = .bool b/\(b=true->SmO C))/\h'=h):=by
 have hv0:=hv
 obtain ⟨ab,cb,ap,cp,ar,cr,az,cs,rfl,ca⟩:=hv
 refine bn.assume fun d=>quietly (enter21 (by simp) ?_)
 unfold S21
 simp only [B9]
 intro x hx gx
 generalize e1:Hp.set h x _=h1
 obtain ⟨l1,d1,b1⟩:=boxed e1 hx d gx
 have cx:∀j,bf G h1 ⟨x,j,none⟩=_:=fun j=>bm (bk b1)
 by_cases g1:C.w<=6
 rotate_left
 . try simp only [B9,cx,decide_eq_false g1,gk]
   exact ⟨⟨false,rfl,by simp⟩,l1⟩
 by_cases g2:C.h<=6
 rotate_left
 . try simp only [B9,cx,decide_eq_true g1,decide_eq_false g2,gk]
   exact ⟨⟨false,rfl,by simp⟩,l1⟩
 by_cases g3:C.bu<=4000
 rotate_left
 . try simp only [B9,cx,decide_eq_true g1,decide_eq_true g2,decide_eq_false g3,gk]
   exact ⟨⟨false,rfl,by simp⟩,l1⟩
 by_cases g4:C.un<=100
 rotate_left
 . try simp only [B9,cx,decide_eq_true g1,decide_eq_true g2,decide_eq_true g3,decide_eq_false g4,gk]
   exact ⟨⟨false,rfl,by simp⟩,l1⟩
 by_cases g5:C.tu<=200
 rotate_left
 . try simp only [B9,cx,decide_eq_true g1,decide_eq_true g2,decide_eq_true g3,decide_eq_true g4,decide_eq_false g5,gk]
   exact ⟨⟨false,rfl,by simp⟩,l1⟩
 by_cases g6:C.ho<=200
 rotate_left
 . try simp only [B9,cx,decide_eq_true g1,decide_eq_true g2,decide_eq_true g3,decide_eq_true g4,decide_eq_true g5,decide_eq_false g6,gk]
   exact ⟨⟨false,rfl,by simp⟩,l1⟩
 by_cases g7:((C.ro.length:Nat):Int)<=4
 rotate_left
 . try simp only [B9,cx,decide_eq_true g1,decide_eq_true g2,decide_eq_true g3,decide_eq_true g4,decide_eq_true g5,decide_eq_true g6,decide_eq_false g7,gk]
   exact ⟨⟨false,rfl,by simp⟩,l1⟩
 try simp only [B9,cx,decide_eq_true g1,decide_eq_true g2,decide_eq_true g3,decide_eq_true g4,decide_eq_true g5,decide_eq_true g6,decide_eq_true g7]
 refine (Fe (hv0.up l1 d1)).mono ?_
 rintro _ h1 ⟨⟨b,rfl,hb⟩,rfl⟩
 try simp (disch:=first|decide|omega) only [B9,Nat.reduceAdd,Nat.reduceMul]
 exact ⟨⟨b,rfl,fun e=>⟨g1,g2,g3,g4,g5,g6,by omega,hb.1 e⟩⟩,l1⟩
end Go.Proofs.YtfflipnhffknnaaGreatDoor
end
section
namespace Go.Proofs.Srch
open Go.Proofs.Resv
section
variable {P M:Type} [DecidableEq P] {E:Env P M}
structure Flat (E:Env P M) (D:Int):Prop where
 sp:∀p,E.ok p->E.spans p=[(0,FV)]
 wy:∀p,E.ok p->∀w∈E.ways p,w.2.2.2=[(0,FV)]/\1<=w.2.2.1/\w.2.2.1<=D/\E.ok w.2.1
theorem Yd {a d:Int} (h0:0<=a) (hd:0<=d) (h:sumI a d<FV):sumI a d=a+d:=by
 unfold sumI cutI FV at*
 split at h
 . omega
 . rw [if_neg (by assumption)];omega
section
variable {by_:Int} {shM:M->M}
def Low (E:Env P M) (B:Int) (S:List (St P M)):Prop:=∀x∈S,x.s=(0,FV)/\E.ok x.p/\0<=x.a/\x.a<=B
theorem Low.up {B B':Int} {S:List (St P M)} (l:Low E B S) (h:B<=B'):Low E B' S:=fun x hx=>let ⟨a,b,c,d⟩:=l x hx;⟨a,b,c,Int.le_trans d h⟩
end
inductive Rch (E:Env P M) (p0:P):P->Int->Prop where
 |start:Rch E p0 p0 0
 |step {p:P} {n:Int} {w:M × P × Int × List Sp} (h:Rch E p0 p n) (hw:w∈E.ways p):Rch E p0 w.2.1 (n+w.2.2.1)
theorem Rch.ok {D:Int} (fl:Flat E D) {p0 p:P} {n:Int} (h:Rch E p0 p n) (ho:E.ok p0):E.ok p/\0<=n:=by
 induction h with
 |start=>exact ⟨ho,Int.le_refl _⟩
 |step h hw ih=>obtain ⟨_,e2,_,e4⟩:=fl.wy _ ih.1 _ hw;exact ⟨e4,by omega⟩
theorem Rch.pre {p0 p1:P} {w:M × P × Int × List Sp} (hw:w∈E.ways p0) (e:w.2.1=p1):∀{p:P} {n:Int},Rch E p1 p n->Rch E p0 p (w.2.2.1+n)
 |_,_,.start=>by subst e;have:=Rch.step (.start (E:=E) (p0:=p0)) hw;rw [Int.zero_add]at this;rw [Int.add_zero];exact this
 |_,_,.step h hv=>by have:=Rch.step (Rch.pre hw e h) hv;rw [<- Int.add_assoc];exact this
inductive Wk (E:Env P M) (p0:P) (t0:Int):List M->P->Nat->Int->Prop where
 |nil {i:Nat} (h:inside (E.spans p0) t0=some i):Wk E p0 t0 [] p0 i t0
 |snoc {l:List M} {p:P} {i j:Nat} {a:Int} {s0 s:Sp} {w:M × P × Int × List Sp} (h:Wk E p0 t0 l p i a) (h0:(E.spans p)[i]?=some s0) (ha1:s0.1<=a) (ha2:a<s0.2) (hw:w∈E.ways p) (hs:s∈w.2.2.2) (h1:s0.1<=s.1) (h2:s.2<=s0.2)
  (he:sumI (max a s.1) w.2.2.1<=s.2) (he2:sumI (max a s.1) w.2.2.1<FV) (hj:inside (E.spans w.2.1) (sumI (max a s.1) w.2.2.1)=some j):Wk E p0 t0 (l++[E.stamp w.1 (max a s.1) (sumI (max a s.1) w.2.2.1)]) w.2.1 j (sumI (max a s.1) w.2.2.1)
theorem Xb {S:List (St P M)} {k:Nat} {l:List (Nat × St P M)} (c:E5 S k l):∃x l',S[k]?=some x/\l=(k,x)::l':=by
 cases c with
 |start h hb=>exact ⟨_,_,h,rfl⟩
 |step h hb c=>exact ⟨_,_,h,rfl⟩
theorem aE6 (r:Dj E) {p0:P} {t0 lo:Int} {z:M} {S:List (St P M)} (v:Inv E p0 t0 z lo S) {k:Nat} {l:List (Nat × St P M)} (c:E5 S k l):∀{x:St P M},S[k]?=some x->Wk E p0 t0 (ou l).reverse x.p x.i x.a:=by
 induction c with
 |@start k x h hb=>
  intro x' h'
  rw [h]at h';cases h'
  have hxm:=List.mem_of_getElem? h
  obtain ⟨a1,a2,a3⟩:=v.at_ x hxm
  rcases v.by_ x hxm with ⟨_,e1,e2,_⟩|⟨y,h0,_⟩
  . have hin:=Fj (r.ris x.p) a1 a2 a3
    rw [e1,e2]at hin ⊢
    exact .nil hin
  . omega
 |@step k j x l h hb c ih=>
  intro x' h'
  rw [h]at h';cases h'
  have hxm:=List.mem_of_getElem? h
  obtain ⟨a1,a2,a3⟩:=v.at_ x hxm
  rcases v.by_ x hxm with ⟨e,_⟩|⟨y,h0,hy,hd,hlt,w,hw,s,hs,l1,l2,l3,l4,l5,l6,l7⟩
  . omega
  . rw [show x.b.toNat=j by omega]at hy
    obtain ⟨b1,b2,b3⟩:=v.at_ y (List.mem_of_getElem? hy)
    have ih:=ih hy
    have hin:=Fj (r.ris x.p) a1 a2 a3
    have:=Wk.snoc ih b1 b2 b3 hw hs l1 l2 (by rw [<- l4];exact l5) (by rw [<- l4];exact l6) (j:=x.i) (by rw [<- l4,<- l3];exact hin)
    rw [<- l4,<- l3,<- l7]at this
    have e:(ou ((k,x)::l)).reverse=(ou l).reverse++[x.mv]:=by
     obtain ⟨x1,l',_,rfl⟩:=Xb c
     show (x.mv::ou ((j,x1)::l')).reverse=_
     rw [List.reverse_cons]
    rw [e]
    exact this
theorem path_wk (r:Dj E) {p0:P} {t0 lo:Int} {z:M} {S:List (St P M)} (v:Inv E p0 t0 z lo S) {k:Nat} {x:St P M} (hk:S[k]?=some x):Wk E p0 t0 (path S S.length k []) x.p x.i x.a:=by
 obtain ⟨l,c,hl⟩:=N3 v hk
 rw [I3 c _ _ hl,List.append_nil]
 exact aE6 r v c hk
end
theorem al1 {T:Tb} (g:jf T) {r n a b:Int} {u:Sp} (hu:u∈p8 T r n) (h1:u.1<=a) (h2:b<=u.2):inT T.length n=true/\nl (rowT T n) r a b=true:=by
 unfold p8 at hu
 split at hu
 . rename_i hn
   refine ⟨hn,Ec.2 fun s hs hr=>?_⟩
   have gr:=ud g n
   obtain ⟨_,h3⟩:=Nt (r:=r) gr (Int.le_refl 0) (by decide) (fun s hs => .inl (gr.ok s hs).1)
   rcases (h3 u hu).2.2.2.2.2 s hs hr with h4|h4<;>omega
 . cases hu
theorem Ui {T:Tb} {r:Int}:∀(N:List Int) (l:List Sp) (s:Sp),s∈N.foldl (fun l n=>sj l (p8 T r n)) l->(∃u∈l,u.1<=s.1/\s.2<=u.2)/\∀n∈N,∃u∈p8 T r n,u.1<=s.1/\s.2<=u.2
 |[],l,s,h=>⟨⟨s,h,Int.le_refl _,Int.le_refl _⟩,fun _ h=>by cases h⟩
 |n::N,l,s,h=>by
  rw [List.foldl_cons]at h
  obtain ⟨⟨u,hu,h1,h2⟩,h3⟩:=Ui N _ s h
  obtain ⟨x,hx,y,hy,rfl,_⟩:=D1.1 hu
  simp only at h1 h2
  refine ⟨⟨x,hx,by omega,by omega⟩,fun m hm=>?_⟩
  rcases List.mem_cons.1 hm with rfl|hm
  . exact ⟨y,hy,by omega,by omega⟩
  . exact h3 m hm
theorem Ul {T:Tb} {r a b:Int} (hab:a<b):∀(N:List Int) (l:List Sp),(∃u∈l,u.1<=a/\b<=u.2)->(∀n∈N,∃u∈p8 T r n,u.1<=a/\b<=u.2)->∃s∈N.foldl (fun l n=>sj l (p8 T r n)) l,s.1<=a/\b<=s.2
 |[],l,h,_=>h
 |n::N,l,⟨u,hu,h1,h2⟩,h=>by
  obtain ⟨v,hv,h3,h4⟩:=h n (.head _)
  rw [List.foldl_cons]
  exact Ul hab N _ ⟨(max u.1 v.1,min u.2 v.2),D1.2 ⟨u,hu,v,hv,rfl,by omega⟩,by simp only;omega,by simp only;omega⟩ fun m hm=>h m (.tail _ hm)
theorem Uf {T:Tb} {r:Int} {N:List Int} {s:Sp} (h:s∈m8 T r N):∀n∈N,∃u∈p8 T r n,u.1<=s.1/\s.2<=u.2:=(Ui N _ s h).2
theorem au5 {T:Tb} {r a b:Int} {N:List Int} (h0:0<=a) (h1:a<b) (h2:b<=FV) (h:∀n∈N,∃u∈p8 T r n,u.1<=a/\b<=u.2):∃s∈m8 T r N,s.1<=a/\b<=s.2:=
 Ul h1 N _ ⟨_,.head _,h0,h2⟩ h
theorem al4 {T:Tb} (g:jf T) {r:Int} {N N':List Int} (hN:∀n∈N',n∈N) {s:Sp} (h:s∈m8 T r N):∃s'∈m8 T r N',s'.1<=s.1/\s.2<=s'.2:=by
 obtain ⟨b1,b2,b3⟩:=(zq g r N).bd s h
 exact au5 b1 b2 b3 fun n hn=>Uf h n (hN n hn)
theorem Cv {T:Tb} (g:jf T) {r a b:Int} {N:List Int} {s:Sp} (h:s∈m8 T r N) (h1:s.1<=a) (h2:b<=s.2):∀n∈N,inT T.length n=true/\nl (rowT T n) r a b=true:=fun n hn=>by
 obtain ⟨u,hu,e1,e2⟩:=Uf h n hn
 exact al1 g hu (by omega) (by omega)
def Si (r:Int) (T U:Tb):Prop:=T.length=U.length/\∀n,others (rowT T n) r=others (rowT U n) r
theorem Si.trans {r:Int} {T U V:Tb} (a:Si r T U) (b:Si r U V):Si r T V:=⟨a.1.trans b.1,fun n=>(a.2 n).trans (b.2 n)⟩
end Go.Proofs.Srch
end
section
namespace Go.Proofs.YtfflipnhffknnaaGreatDoor
open Go Go.HL
theorem Ft {α:Type} {D:Nat->List α} {b:Nat} (h:∀i,(D i).length<=b):∀{k i:Nat},(mc D i k).length<=k*b
 |0,i=>by simp [mc]
 |k+1,i=>by
  unfold mc
  have:=Ft h (k:=k) (i:=i+1)
  have:=h i
  rw [List.length_append,Nat.succ_mul]
  omega
theorem yd {α:Type} {p:Nat->Bool} {mk:Nat->α}:∀{k n:Nat},(i9 p mk n k).length<=k
 |0,n=>Nat.le_refl _
 |k+1,n=>by
  rw [Bc]
  have:=yd (p:=p) (mk:=mk) (k:=k) (n:=n+1)
  split<;>(try simp only [List.length_cons])<;>omega
def fh:=jq bC (jq (jq (jq (jq @At @lr) (jq @rz (jq @gu @aE9))) (jq (jq @cf100 @cf40) (jq @cf45 (jq @cf83 @cf99)))) (jq (jq (jq @Ap @C0) (jq @Cw (jq @W2 @Qu))) (jq (jq @W1 @ld26) (jq @ld3 (jq @ld30 @ld48)))))
def qa (m:Move):List Cell:=if m.k=1 then (List.range (m.n.toNat+1)).flatMap (fun (i:Nat)=>cj (dm m.f m.d i))else if m.k=2 then fj (m.f.x,m.f.y)else cj m.f
def gm (C:Conf) (m:Move):List Cell:=if fe C m=true then lm (wC C) (kC C) (qa m)else []
theorem Cm {w k:Nat} {W:List Cell} (hw:w<=16) (hk:k<=16):(lm w k W).length<=256:=by
 have:=Ft (D:=fun y=>i9 (fun x=>decide ((((x:Nat):Int),((y:Nat):Int))∈W)) (fun x=>(((x:Nat):Int),((y:Nat):Int))) 0 w) (b:=16) (fun i=>Nat.le_trans yd hw) (k:=k) (i:=0)
 have h2:k*16<=16*16:=Nat.mul_le_mul_right _ hk
 unfold lm
 omega
theorem V7 {G h hb:Hp} {C:Conf} {x:Nat} {av:Value} {A:List Cell} {r:Rg} {KK:EK} (d:Dis G h)
 (hx:∀hh,h.le hh->Dis G hh->bf G hh ⟨x,0,none⟩=some (.int .i64 C.w)/\bf G hh ⟨x,1,none⟩=some (.int .i64 C.h)) (ha:Sees du G h av A) (hA:A.length<=100000) (ew:C.w=(wC C:Int)) (ek:C.h=(kC C:Int)) (w16:wC C<=16) (k16:kC C<=16)
 (g2:r 2 = .pointer (some ⟨x,0,none⟩)) (g5:r 5=av)
 (H:∀(r':Rg) (hh ip:Hp) (u:Value),Slc du 28 ip u (lm (wC C) (kC C) A)->HL.Sep [ip,h] hh->Dis G hh->r' 7=u->Xw G KK r' hh):F1 G KK r h:=by
 generalize hT:lm (wC C) (kC C) A=T at H
 have hlenT:T.length<=256:=by rw [<- hT];exact Cm w16 k16
 unfold lm at hT
 unfold F1
 refine dp (fun m r h3=>∃(i:Nat) (ip:Hp) (u:Value) (M:List Cell),m=kC C-i/\i<=kC C/\r 2 = .pointer (some ⟨x,0,none⟩)/\r 5=av/\r 7=u/\r 8 = .int .i64 i/\Slc du 28 ip u M/\M++mc (fun y=>i9 (fun x=>decide ((((x:Nat):Int),((y:Nat):Int))∈A)) (fun x=>(((x:Nat):Int),((y:Nat):Int))) 0 (wC C)) i (kC C-i)=T/\HL.Sep [ip,h] h3/\Dis G h3) ?_
  (m:=kC C) ⟨0,noHp,.slice none 0 0,[],rfl,Nat.zero_le _,by simp (disch:=decide) only [fh,g2],by simp (disch:=decide) only [fh,g5],by simp (disch:=decide) only [fh],by simp only [fh]<;>rfl,Slc.nil,hT,Sep.one.none,d⟩
 rintro m r h3 ⟨i,ip,u,M,rfl,hi,q2,q5,q7,q8,o,hM,s3,d3⟩ X HX
 have cx0:=(hx h3 (s3.in 1 rfl) d3).1
 have cx1:=(hx h3 (s3.in 1 rfl) d3).2
 unfold aK4
 simp only [fh,q2,q8,cx1,ek]
 refine ci (fun hlt=>?_) (fun hge=>?_)
 rotate_left
 . obtain rfl:i=kC C:=by omega
   rw [Nat.sub_self]at hM
   unfold mc at hM
   rw [List.append_nil]at hM
   subst hM
   try simp (disch:=first|decide|omega) only [fh,Nat.reduceAdd,Nat.reduceMul]
   exact H _ _ ip u o s3 d3 (by simp (disch:=decide) only [fh,q7])
 have hlt':i<kC C:=by omega
 unfold O7
 refine dp (fun m r2 h3=>∃(n:Nat) (ip:Hp) (u:Value) (M:List Cell),m=wC C-n/\n<=wC C/\r2 2 = .pointer (some ⟨x,0,none⟩)/\r2 5=av/\r2 7=u/\r2 8 = .int .i64 i/\r2 9 = .int .i64 n/\Slc du 28 ip u M/\M++(i9 (fun x=>decide ((((x:Nat):Int),((i:Nat):Int))∈A)) (fun x=>(((x:Nat):Int),((i:Nat):Int))) n (wC C-n)++mc (fun y=>i9 (fun x=>decide ((((x:Nat):Int),((y:Nat):Int))∈A)) (fun x=>(((x:Nat):Int),((y:Nat):Int))) 0 (wC C)) (i+1) (kC C-(i+1)))=T/\HL.Sep [ip,h] h3/\Dis G h3) ?_
  (m:=wC C) ⟨0,ip,u,M,rfl,Nat.zero_le _,by simp (disch:=decide) only [fh,q2],by simp (disch:=decide) only [fh,q5],by simp (disch:=decide) only [fh,q7],by simp (disch:=decide) only [fh,q8],by simp only [fh]<;>rfl,o,by rw [<- hM,show kC C-i=(kC C-(i+1))+1 by omega];rfl,s3,d3⟩
 clear q2 q5 q7 q8 o hM s3 d3 cx0 cx1
 rintro m r2 h3 ⟨n,ip,u,M,rfl,hn,q2,q5,q7,q8,q9,o,hM,s3,d3⟩ X2 HX2
 have cx0:=(hx h3 (s3.in 1 rfl) d3).1
 have hlenM:M.length<=256:=by
  have:M.length<=T.length:=by rw [<- hM,List.length_append];omega
  omega
 unfold O5
 simp only [fh,q2,q9,cx0,ew]
 refine ci (fun hlt=>?_) (fun hge=>?_)
 rotate_left
 . obtain rfl:n=wC C:=by omega
   rw [Nat.sub_self,show ∀(p:Nat->Bool) (mk:Nat->Cell),i9 p mk (wC C) 0=[]from fun _ _=>rfl,List.nil_append]at hM
   try simp (disch:=first|decide|omega) only [fh,Nat.reduceAdd,Nat.reduceMul]
   unfold O6
   try simp (disch:=first|decide|omega) only [fh,q8]
   exact HX (kC C-(i+1)) _ _ (by omega) ⟨i+1,ip,u,M,rfl,hlt',by simp (disch:=decide) only [fh,q2],by simp (disch:=decide) only [fh,q5],by simp (disch:=decide) only [fh,q7],by simp only [fh]<;>rfl,o,hM,s3,d3⟩
 have hnw:n<wC C:=by omega
 rw [show wC C-n=(wC C-(n+1))+1 by omega,Bc]at hM
 unfold Ex
 try simp (disch:=decide) only [fh,q5,q8,q9]
 refine (qp (c:=((n:Int),(i:Int))) (ha.up (s3.in 1 rfl) d3) (by omega)).mono ?_
 rintro _ h3 ⟨rfl,rfl⟩
 have next:∀(r3:Rg) (h5 ip:Hp) (u:Value) (M:List Cell),r3 2=r2 2->r3 5=r2 5->r3 7=u->r3 8=r2 8->r3 9=r2 9->Slc du 28 ip u M->M++(i9 (fun x=>decide ((((x:Nat):Int),((i:Nat):Int))∈A)) (fun x=>(((x:Nat):Int),((i:Nat):Int))) (n+1) (wC C-(n+1))++mc (fun y=>i9 (fun x=>decide ((((x:Nat):Int),((y:Nat):Int))∈A)) (fun x=>(((x:Nat):Int),((y:Nat):Int))) 0 (wC C)) (i+1) (kC C-(i+1)))=T->HL.Sep [ip,h] h5->Dis G h5->
  ∀KK,tt G (dj X2 KK) r3 h5:=by
  intro r3 h5 ip u M v2 v5 v7 v8 v9 o5 hM5 s5 d5 KK
  unfold tt
  have v9':=v9.trans q9
  simp (disch:=first|decide|omega) only [fh,v9']
  exact HX2 (wC C-(n+1)) _ _ (by omega) ⟨n+1,ip,u,M,rfl,hnw,by simp (disch:=decide) only [fh,v2,q2],by simp (disch:=decide) only [fh,v5,q5],by simp (disch:=decide) only [fh,v7],by simp (disch:=decide) only [fh,v8,q8],by simp only [fh]<;>rfl,o5,hM5,s5,d5⟩
 by_cases hb:((n:Int),(i:Int))∈A
 . have hc:((A.count ((n:Int),(i:Int)):Nat):Int)>0:=by have:=List.count_pos_iff.2 hb;omega
   rw [if_pos (decide_eq_true hb),List.cons_append]at hM
   try simp only [fh,decide_eq_true hc,q7,q8,q9]
   intro b hbb gb
   have s5:=s3.past (o:=N5 ((n:Int),(i:Int))) hbb
   have d5:=d3.set (o:=N5 ((n:Int),(i:Int))) gb
   have hb5:(h3.set b (N5 ((n:Int),(i:Int)))) b=some (N5 ((n:Int),(i:Int))):=bj
   generalize Hp.set h3 b _=h5 at s5 d5 hb5 ⊢
   refine dw du (by decide) un22 eocell (by decide) (by decide) (M:=[((n:Int),(i:Int))]) s5 d5 o (Sees.row (c:=du) (L:=[((n:Int),(i:Int))]) hb5 rfl (Nat.le_refl _)) (by simp;omega) fun v6 a6 h6 o6 s6 d6=>?_
   exact next _ _ a6 v6 (M++[((n:Int),(i:Int))]) (by simp (disch:=decide) only [fh]) (by simp (disch:=decide) only [fh]) (by simp only [fh]) (by simp (disch:=decide) only [fh]) (by simp (disch:=decide) only [fh]) o6 (by rw [List.append_assoc];exact hM) s6 d6 _
 . have hc:¬(((A.count ((n:Int),(i:Int)):Nat):Int)>0):=by have:=List.count_eq_zero.2 hb;omega
   rw [if_neg (by simpa using hb)]at hM
   try simp only [fh,decide_eq_false hc]
   exact next _ _ ip u M (by simp (disch:=decide) only [fh]) (by simp (disch:=decide) only [fh]) (by simp (disch:=decide) only [fh,q7]) (by simp (disch:=decide) only [fh]) (by simp (disch:=decide) only [fh]) o hM s3 d3 _
theorem S2 {G h:Hp} {v:Value} {C:Conf} {m:Move} (hv:CV G h v C) (hL:C.bl.length<=100000000000000) (ew:C.w=(wC C:Int)) (ek:C.h=(kC C:Int)) (w16:wC C<=16) (k16:kC C<=16):bn P_ G 48 #[v,Gc m] h (fun u h'=>∃ip,Slc du 28 ip u (gm C m)/\HL.Sep [ip,h] h'/\Dis G h'):=by
 have hv0:=hv
 obtain ⟨ab,cb,ap,cp,ar,cr,az,cs,rfl,ca⟩:=hv
 refine bn.assume fun d=>enter48 (by simp) ?_
 unfold S48
 simp only [fh]
 intro x hx gx
 generalize e1:Hp.set h x _=h1
 obtain ⟨l1,d1,b1⟩:=boxed e1 hx d gx
 intro y hy gy
 generalize e2:Hp.set h1 y _=h2
 obtain ⟨l2,d2,b2⟩:=boxed e2 hy d1 gy
 have cx:∀j,bf G h2 ⟨x,j,none⟩=_:=fun j=>bm (bk (l2 _ _ b1))
 have cy:∀j,bf G h2 ⟨y,j,none⟩=_:=fun j=>bm (bk b2)
 have l02:=l1.trans l2
 try simp only [fh,cx,cy]
 refine (S9 (m:=m) (hv0.up l02 d2) hL).mono ?_
 rintro _ h2 ⟨rfl,rfl⟩
 cases hl:fe C m with
 |false=>
  try simp only [fh]
  refine ⟨noHp,?_,((Sep.one (h:=h2)).cut l02).none,d2⟩
  unfold gm
  rw [hl]
  exact Slc.nil
 |true=>
 try simp only [fh]
 unfold aK5
 generalize hKK:retK P_ G _ _=KK
 have fin:∀(hh:Hp) (av:Value) (A:List Cell) (r:Rg),h2.le hh->Dis G hh->Sees du G hh av A->A.length<=100000->A=qa m->r 2 = .pointer (some ⟨x,0,none⟩)->r 5=av->F1 G KK r hh:=by
  intro hh av A r l dd ha hA eA g2 g5
  refine V7 (hb:=h) dd (fun h3 l3 d3=>?_) ha hA ew ek w16 k16 g2 g5 fun r' h3 ip u o s3 d3 g7=>?_
  . have b3:=l3 _ _ (l _ _ (l2 _ _ b1))
    exact ⟨bm (bk b3),bm (bk b3)⟩
  . unfold Xw
    rw [<- hKK]
    try simp only [fh,g7]
    refine ⟨ip,?_,((s3.pick 1 rfl rfl).cut (l02.trans l)).pick 1 rfl rfl,d3⟩
    unfold gm
    rw [hl,if_pos rfl,<- eA]
    exact o
 have hlg:=hl
 unfold fe at hlg
 rw [Bool.and_eq_true]at hlg
 by_cases hk1:(m.k==1)=true
 . have ek1:m.k=1:=eq_of_beq hk1
   rw [if_pos ek1,Bool.and_eq_true]at hlg
   have hn:=ff.1 hlg.2.1
   have eA:qa m=(List.range (m.n.toNat+1)).flatMap (fun (i:Nat)=>cj (dm m.f m.d i)):=by unfold qa;rw [if_pos ek1]
   try simp (disch:=decide) only [fh,Nat.reduceAdd,cy,hk1]
   refine dp (fun mm r h3=>∃(i:Nat) (ip:Hp) (u:Value),mm=m.n.toNat+1-i/\i<=m.n.toNat+1/\r 2 = .pointer (some ⟨x,0,none⟩)/\r 3 = .pointer (some ⟨y,0,none⟩)/\r 5=u/\r 6 = .int .i64 i/\Slc du 28 ip u ((List.range i).flatMap (fun (i:Nat)=>cj (dm m.f m.d i)))/\HL.Sep [ip,h2] h3/\Dis G h3) ?_
    (m:=m.n.toNat+1) ⟨0,noHp,.slice none 0 0,rfl,Nat.zero_le _,by simp (disch:=decide) only [fh],by simp (disch:=decide) only [fh],by simp (disch:=decide) only [fh],by simp only [fh]<;>rfl,Slc.nil,Sep.one.none,d2⟩
   rintro mm r h3 ⟨i,ip,u,rfl,hi,q2,q3,q5,q6,o,s3,d3⟩ X HX
   have l3:=s3.in 1 rfl
   have cy3:∀j,bf G h3 ⟨y,j,none⟩=_:=fun j=>bm (bk (l3 _ _ b2))
   have hlen:=Jj (D:=fun (i:Nat)=>cj (dm m.f m.d i)) (fun i=>rfl) i
   unfold Z7
   simp only [fh,q3,q6,cy3]
   refine ci (fun hlt=>?_) (fun hge=>?_)
   . unfold G8
     try simp (disch:=decide) only [fh,Nat.reduceAdd,q3,q6,cy3]
     refine (zo (p:=m.f) (dir:=m.d) (n:=(i:Int))).mono ?_
     rintro _ h3 ⟨rfl,rfl⟩
     try simp (disch:=first|decide|omega) only [fh,Nat.reduceAdd,Nat.reduceMul]
     refine (o8 (p:=dm m.f m.d i)).mono ?_
     rintro _ _ ⟨b,rfl,hb,gb,rfl⟩
     have s4:=s3.past (o := .cells #[(dm m.f m.d i).x,(dm m.f m.d i).y,(east (dm m.f m.d i)).1,(east (dm m.f m.d i)).2] 28 (0,0)) hb
     have d4:=d3.set (o := .cells #[(dm m.f m.d i).x,(dm m.f m.d i).y,(east (dm m.f m.d i)).1,(east (dm m.f m.d i)).2] 28 (0,0)) gb
     have b4:(h3.set b (.cells #[(dm m.f m.d i).x,(dm m.f m.d i).y,(east (dm m.f m.d i)).1,(east (dm m.f m.d i)).2] 28 (0,0))) b=_:=bj
     generalize Hp.set h3 b _=h4 at s4 d4 b4 ⊢
     try simp only [fh,q5]
     refine dw du (by decide) un22 eocell (by decide) (by decide) (M:=cj (dm m.f m.d i)) s4 d4 o (Sees.row (c:=du) (L:=cj (dm m.f m.d i)) b4 rfl (Nat.le_refl _)) (by rw [hlen,show (cj (dm m.f m.d i)).length=2 from rfl];omega) fun v5 a5 h5 o5 s5 d5=>?_
     unfold G7
     try simp (disch:=first|decide|omega) only [fh,q6]
     exact HX (m.n.toNat+1-(i+1)) _ _ (by omega) ⟨i+1,a5,v5,rfl,by omega,by simp (disch:=decide) only [fh,q2],by simp (disch:=decide) only [fh,q3],by simp (disch:=decide) only [fh],by simp only [fh]<;>rfl,by rw [List.range_succ,List.flatMap_append];simpa using o5,s5,d5⟩
   . obtain rfl:i=m.n.toNat+1:=by omega
     try simp (disch:=first|decide|omega) only [fh,Nat.reduceAdd,Nat.reduceMul]
     exact fin _ u _ _ l3 d3 (o.sees (by decide) (s3.in 0 rfl)) (by rw [hlen];omega) eA.symm (by simp (disch:=decide) only [fh,q2]) (by simp (disch:=decide) only [fh,q5])
 have hk1':(m.k==1)=false:=by simpa using hk1
 have nk1:¬m.k=1:=fun e=>hk1 (by rw [e];rfl)
 by_cases hk2:(m.k==2)=true
 . have ek2:m.k=2:=eq_of_beq hk2
   try simp (disch:=decide) only [fh,Nat.reduceAdd,cy,hk1',hk2]
   refine (Dn (p:=m.f)).mono ?_
   rintro _ h3 ⟨ip,sl,rfl,o,s3,d3⟩
   try simp (disch:=first|decide|omega) only [fh,Nat.reduceAdd,Nat.reduceMul]
   exact fin _ _ (fj (m.f.x,m.f.y)) _ (s3.in 1 rfl) d3 (o.sees (by decide) (s3.in 0 rfl)) (by simp [fj]) (by unfold qa;rw [if_neg nk1,if_pos ek2]) (by simp (disch:=decide) only [fh]) (by simp only [fh])
 have hk2':(m.k==2)=false:=by simpa using hk2
 have nk2:¬m.k=2:=fun e=>hk2 (by rw [e];rfl)
 try simp (disch:=decide) only [fh,Nat.reduceAdd,cy,hk1',hk2']
 refine (o8 (p:=m.f)).mono ?_
 rintro _ _ ⟨b,rfl,hb,gb,rfl⟩
 try simp (disch:=first|decide|omega) only [fh,Nat.reduceAdd,Nat.reduceMul]
 exact fin _ _ (cj m.f) _ (dl hb) (d2.set gb) (Sees.row (c:=du) (L:=cj m.f) bj rfl (Nat.le_refl _)) (by simp [cj]) (by unfold qa;rw [if_neg nk1,if_neg nk2]) (by simp (disch:=decide) only [fh]) (by simp only [fh]<;>rfl)
theorem rway_eq {C:Conf} {m:Move} (hp:PB m.f) (hl:fe C m=true):qa m=wayL m:=by
 unfold qa wayL
 by_cases h1:m.k=1
 . rw [if_pos h1,if_pos h1]
   unfold fe at hl
   rw [Bool.and_eq_true,if_pos h1]at hl
   simp only [Bool.and_eq_true]at hl
   have hd:=ff.1 hl.2.2.1
   congr 1
   funext i
   rw [wd hp hd]
 . rw [if_neg h1,if_neg h1]
theorem Ia {C:Conf} (mk:dv C) {m:Move} (hp:PB m.f):i7 (wC C) (kC C) (f3C C) m=gm C m:=by
 unfold i7 gm
 rw [Tw mk hp]
 cases hl:fe C m with
 |false=>rfl
 |true=>rw [if_pos rfl,if_pos rfl,rway_eq hp hl]
section
variable {C:Conf}
theorem Ge {α:Type} {ok:Nat->Bool} {mk:Nat->α} {x:α}:∀{k n:Nat},x∈mi ok mk n k↔∃j,n<=j/\j<n+k/\x=mk j/\∀i,n<=i->i<=j->ok i=true
 |0,n=>by
  unfold mi
  simp only [List.not_mem_nil,false_iff]
  rintro ⟨j,h1,h2,_⟩
  omega
 |k+1,n=>by
  unfold mi
  cases hb:ok n with
  |false=>
   simp only [Bool.false_eq_true,if_false,List.not_mem_nil,false_iff]
   rintro ⟨j,h1,h2,_,h⟩
   have:=h n (Nat.le_refl _) h1
   rw [hb]at this;cases this
  |true=>
   simp only [if_true,List.mem_cons]
   rw [Ge]
   constructor
   . rintro (rfl|⟨j,h1,h2,rfl,h⟩)
     . exact ⟨n,Nat.le_refl _,by omega,rfl,fun i a b=>by obtain rfl:i=n:=by omega
                                                         exact hb⟩
     . exact ⟨j,by omega,by omega,rfl,fun i a b=>by
        by_cases hi:i=n
        . subst hi;exact hb
        . exact h i (by omega) b⟩
   . rintro ⟨j,h1,h2,rfl,h⟩
     by_cases hj:j=n
     . subst hj;exact .inl rfl
     . exact .inr ⟨j,by omega,by omega,rfl,fun i a b=>h i (by omega) b⟩
theorem Nf {α:Type} {D:Nat->List α} {x:α}:∀{k i:Nat},x∈mc D i k↔∃j,i<=j/\j<i+k/\x∈D j
 |0,i=>by
  unfold mc
  simp only [List.not_mem_nil,false_iff]
  rintro ⟨j,h1,h2,_⟩
  omega
 |k+1,i=>by
  unfold mc
  rw [List.mem_append,Nf]
  constructor
  . rintro (h|⟨j,h1,h2,h⟩)
    . exact ⟨i,Nat.le_refl _,by omega,h⟩
    . exact ⟨j,by omega,by omega,h⟩
  . rintro ⟨j,h1,h2,h⟩
    by_cases hj:j=i
    . subst hj;exact .inl h
    . exact .inr ⟨j,by omega,by omega,h⟩
theorem as3 {p:Pose} {d:Nat} {x:Move} (h:x∈rrunD C p d):∃n,1<=n/\n<17/\x=mkR p d n/\fe C x=true:=by
 obtain ⟨n,h1,h2,rfl,h3⟩:=Ge.1 h
 exact ⟨n,h1,by omega,rfl,h3 n h1 (Nat.le_refl _)⟩
theorem yi {m:Move} (h:fe C m=true):ie C m.f=true:=by
 unfold fe at h
 exact (Bool.and_eq_true _ _▸h).1
end
section
variable {C:Conf}
def ov (m:Move):Move:=⟨m.k,if m.k=1 then (m.d+2).tmod 4 else m.d,m.n,m.t,m.f,m.a,m.e⟩
theorem zw {p q:Pose} (h1:p.x=q.x) (h2:p.y=q.y) (h3:p.d=q.d):p=q:=by cases p;cases q;simp_all
theorem Hj (mk:dv C) {c:Cell} (h:ot C c=true):(0<=c.1/\c.1<wC C/\0<=c.2/\c.2<kC C)/\c.1<16/\c.2<16:=by
 obtain ⟨e1,e2,_,w2,_,k2⟩:=ub mk.laid.w mk.laid.h
 unfold ot inB at h
 simp only [Bool.and_eq_true,decide_eq_true_eq,ge_iff_le]at h
 omega
theorem wr_s {x:Int} (h : -100<=x/\x<=100):wr x=x:=Ml (by unfold Bd;omega)
theorem uh {p:Pose} {d n:Int} (hx:0<=p.x/\p.x<16) (hy:0<=p.y/\p.y<16) (hn:0<=n/\n<=16):
 (dm p d n).x=(if d=1 then p.x+n else if d=3 then p.x-n else p.x)/\(dm p d n).y=(if d=0 then p.y-n else if d=2 then p.y+n else p.y)/\(dm p d n).d=p.d:=by
 unfold dm
 rw [wr_s (x:=p.x+n) (by omega),wr_s (x:=p.x-n) (by omega),wr_s (x:=p.y-n) (by omega),wr_s (x:=p.y+n) (by omega)]
 exact ⟨rfl,rfl,rfl⟩
theorem Xm {p:Pose} {d n i:Int} (hx:0<=p.x/\p.x<16) (hy:0<=p.y/\p.y<16) (hd:0<=d/\d<=3) (hn:0<=n/\n<=16) (hi:0<=i/\i<=n) (tx:0<=(dm p d n).x/\(dm p d n).x<16) (ty:0<=(dm p d n).y/\(dm p d n).y<16):
 dm (dm p d n) ((d+2).tmod 4) i=dm p d (n-i):=by
 obtain ⟨a1,a2,a3⟩:=uh (d:=(d+2).tmod 4) (n:=i) tx ty (by omega)
 obtain ⟨b1,b2,b3⟩:=uh (d:=d) (n:=n) hx hy hn
 obtain ⟨c1,c2,c3⟩:=uh (d:=d) (n:=n-i) hx hy (by omega)
 have hd4:d=0\/d=1\/d=2\/d=3:=by omega
 refine zw ?_ ?_ (by rw [a3,b3,c3])
 . rw [a1,b1,c1]
   rcases hd4 with rfl|rfl|rfl|rfl<;>simp [show ((0:Int)+2).tmod 4=2 from rfl,show ((1:Int)+2).tmod 4=3 from rfl,show ((2:Int)+2).tmod 4=0 from rfl,show ((3:Int)+2).tmod 4=1 from rfl]<;>omega
 . rw [a2,b2,c2]
   rcases hd4 with rfl|rfl|rfl|rfl<;>simp [show ((0:Int)+2).tmod 4=2 from rfl,show ((1:Int)+2).tmod 4=3 from rfl,show ((2:Int)+2).tmod 4=0 from rfl,show ((3:Int)+2).tmod 4=1 from rfl]<;>omega
theorem Ps {w k:Nat} {W V:List Cell} (h:∀x,x∈W↔x∈V):lm w k W=lm w k V:=
 Ir (n:=numW w) tl tl fun x=>by rw [pl,pl,h]
theorem pk {L:List Cell} {a b c:Cell} (ha:a∈L) (hb:b∈L) (hc:c∈L) (ab:a≠b) (ac:a≠c) (bc:b≠c):3<=L.length:=by
 match L,ha,hb,hc with
 |[],ha,_,_=>cases ha
 |[x],ha,hb,_=>simp at ha hb;exact absurd (ha.trans hb.symm) ab
 |[x,y],ha,hb,hc=>
  simp at ha hb hc
  rcases ha with rfl|rfl<;>rcases hb with rfl|rfl<;>rcases hc with rfl|rfl<;>first|exact absurd rfl ab|exact absurd rfl ac|exact absurd rfl bc
 |x::y::z::L,_,_,_=>simp
theorem vi (mk:dv C) {p:Pose} (h:ie C p=true):(0<=p.x/\p.x<16)/\(0<=p.y/\p.y<16):=by
 unfold ie at h
 rw [Bool.and_eq_true]at h
 have:=Hj mk h.1
 simp only at this
 omega
theorem Io (mk:dv C) {m:Move} (hl:fe C m=true) (h1:m.k=1):1<=m.n/\m.n<=16/\(0<=m.d/\m.d<=3)/\m.t=dm m.f m.d m.n/\∀i:Int,0<=i->i<=m.n->ie C (dm m.f m.d i)=true:=by
 have hf:=yi hl
 unfold fe at hl
 rw [hf,Bool.true_and,if_pos h1]at hl
 simp only [Bool.and_eq_true,decide_eq_true_eq,List.all_eq_true,List.mem_range]at hl
 obtain ⟨hn,hd,ht,hs⟩:=hl
 obtain ⟨n1,n2⟩:=ff.1 hn
 refine ⟨n1,n2,ff.1 hd,ht,fun i h0 hi=>?_⟩
 by_cases hz:i=0
 . subst hz
   obtain ⟨fx,fy⟩:=vi mk hf
   obtain ⟨a1,a2,a3⟩:=uh (d:=m.d) (n:=0) fx fy (by omega)
   rw [show dm m.f m.d 0=m.f from zw (by rw [a1];simp) (by rw [a2];simp) a3]
   exact hf
 . have:=hs (i-1).toNat (by omega)
   unfold uj at this
   rw [show (((i-1).toNat:Nat):Int)+1=i by omega]at this
   exact this
theorem Vn (mk:dv C) {m:Move} (hl:fe C m=true) (h1:m.k=1):fe C (ov m)=true/\gm C m=gm C (ov m)/\ie C m.t=true/\3<=(gm C m).length:=by
 obtain ⟨n1,n2,hd,ht,hs⟩:=Io mk hl h1
 have hf:=yi hl
 obtain ⟨fx,fy⟩:=vi mk hf
 have hft:ie C m.t=true:=by rw [ht];exact hs m.n (by omega) (Int.le_refl _)
 obtain ⟨tx,ty⟩:=vi mk hft
 have hbs:∀i:Int,0<=i->i<=m.n->dm m.t ((m.d+2).tmod 4) i=dm m.f m.d (m.n-i):=fun i h0 hi=>by
  have tx':=tx
  have ty':=ty
  rw [ht]at tx' ty'
  rw [ht]
  exact Xm fx fy hd (by omega) ⟨h0,hi⟩ tx' ty'
 have ed:(ov m).d=(m.d+2).tmod 4:=by unfold ov;simp only [if_pos h1]
 have hd':0<=(m.d+2).tmod 4/\(m.d+2).tmod 4<=3:=by
  have hd4:m.d=0\/m.d=1\/m.d=2\/m.d=3:=by omega
  rcases hd4 with e|e|e|e<;>rw [e]<;>decide
 have e0:dm m.f m.d (m.n-m.n)=m.f:=by
  rw [Int.sub_self]
  obtain ⟨a1,a2,a3⟩:=uh (d:=m.d) (n:=0) fx fy (by omega)
  exact zw (by rw [a1];simp) (by rw [a2];simp) a3
 have hlb:fe C (ov m)=true:=by
  unfold fe
  rw [if_pos (show (ov m).k=1 from h1),ed]
  simp only [Bool.and_eq_true,decide_eq_true_eq,List.all_eq_true,List.mem_range]
  refine ⟨hft,ff.2 ⟨n1,n2⟩,ff.2 hd',?_,fun i hi=>?_⟩
  . show m.f=dm m.t ((m.d+2).tmod 4) m.n
    rw [hbs m.n (by omega) (Int.le_refl _),e0]
  . have hi':i<m.n.toNat:=hi
    unfold uj
    rw [ed]
    show ie C (dm m.t _ ((i:Int)+1))=true
    rw [hbs _ (by omega) (by omega)]
    exact hs _ (by omega) (by omega)
 have mem1:∀x,x∈qa m↔∃i:Nat,i<=m.n.toNat/\x∈cj (dm m.f m.d i):=fun x=>by
  unfold qa
  rw [if_pos h1,List.mem_flatMap]
  constructor
  . rintro ⟨i,hi,hx⟩;exact ⟨i,by have:=List.mem_range.1 hi;omega,hx⟩
  . rintro ⟨i,hi,hx⟩;exact ⟨i,List.mem_range.2 (by omega),hx⟩
 have mem2:∀x,x∈qa (ov m)↔∃i:Nat,i<=m.n.toNat/\x∈cj (dm m.t ((m.d+2).tmod 4) i):=fun x=>by
  unfold qa
  rw [if_pos (show (ov m).k=1 from h1),ed,List.mem_flatMap]
  constructor
  . rintro ⟨i,hi,hx⟩;exact ⟨i,by have:i<m.n.toNat+1:=List.mem_range.1 hi;omega,hx⟩
  . rintro ⟨i,hi,hx⟩;exact ⟨i,List.mem_range.2 (show i<m.n.toNat+1 by omega),hx⟩
 refine ⟨hlb,?_,hft,?_⟩
 . unfold gm
   rw [if_pos hl,if_pos hlb]
   refine Ps fun x=>?_
   rw [mem1,mem2]
   constructor
   . rintro ⟨i,hi,hx⟩
     refine ⟨m.n.toNat-i,by omega,?_⟩
     rw [hbs _ (by omega) (by omega),show m.n-((m.n.toNat-i:Nat):Int)=(i:Int)by omega]
     exact hx
   . rintro ⟨i,hi,hx⟩
     refine ⟨m.n.toNat-i,by omega,?_⟩
     rw [hbs _ (by omega) (by omega)]at hx
     rw [show ((m.n.toNat-i:Nat):Int)=m.n-(i:Int)by omega]
     exact hx
 . unfold gm
   rw [if_pos hl]
   have hin:∀(i:Nat) (x:Cell),i<=m.n.toNat->x∈cj (dm m.f m.d i)->x∈lm (wC C) (kC C) (qa m):=fun i x hi hx=>by
    rw [pl]
    have hfi:=hs i (by omega) (by omega)
    unfold ie at hfi
    rw [Bool.and_eq_true]at hfi
    refine ⟨?_,(mem1 x).2 ⟨i,hi,hx⟩⟩
    simp only [cj,List.mem_cons,List.not_mem_nil,or_false]at hx
    rcases hx with rfl|rfl
    . exact (Hj mk hfi.1).1
    . exact (Hj mk hfi.2).1
   have z0:dm m.f m.d ((0:Nat):Int)=m.f:=by
    obtain ⟨a1,a2,a3⟩:=uh (d:=m.d) (n:=((0:Nat):Int)) fx fy (by omega)
    exact zw (by rw [a1];simp) (by rw [a2];simp) a3
   obtain ⟨a1,a2,a3⟩:=uh (d:=m.d) (n:=1) fx fy (by omega)
   have eA:east m.f=if m.f.d=true then (m.f.x,m.f.y+1)else (m.f.x+1,m.f.y):=by
    unfold east
    rw [wr_s (by omega),wr_s (by omega)]
   have h1f:=hs 1 (by omega) (by omega)
   obtain ⟨sx,sy⟩:=vi mk h1f
   have eB:east (dm m.f m.d 1)=if m.f.d=true then ((dm m.f m.d 1).x,(dm m.f m.d 1).y+1)else ((dm m.f m.d 1).x+1,(dm m.f m.d 1).y):=by
    unfold east
    rw [wr_s (by omega),wr_s (by omega),a3]
   have c0:(m.f.x,m.f.y)∈lm (wC C) (kC C) (qa m):=hin 0 _ (by omega) (by rw [z0];exact .head _)
   have c1:east m.f∈lm (wC C) (kC C) (qa m):=hin 0 _ (by omega) (by rw [z0];exact .tail _ (.head _))
   have c2:((dm m.f m.d 1).x,(dm m.f m.d 1).y)∈lm (wC C) (kC C) (qa m):=hin 1 _ (by omega) (.head _)
   have c3:east (dm m.f m.d 1)∈lm (wC C) (kC C) (qa m):=hin 1 _ (by omega) (.tail _ (.head _))
   rw [eA]at c1
   rw [eB]at c3
   rw [a1,a2]at c2 c3
   have hd4:m.d=0\/m.d=1\/m.d=2\/m.d=3:=by omega
   cases hdn:m.f.d with
   |false=>
    rw [hdn]at c1 c3
    simp only [Bool.false_eq_true,if_false]at c1 c3
    rcases hd4 with e|e|e|e<;>simp only [e]at c2 c3
    . exact pk c0 c1 c2 (by simp<;>omega) (by simp<;>omega) (by simp<;>omega)
    . exact pk c0 c1 c3 (by simp<;>omega) (by simp<;>omega) (by simp<;>omega)
    . exact pk c0 c1 c2 (by simp<;>omega) (by simp<;>omega) (by simp<;>omega)
    . exact pk c0 c1 c2 (by simp<;>omega) (by simp<;>omega) (by simp<;>omega)
   |true=>
    rw [hdn]at c1 c3
    simp only [if_true]at c1 c3
    rcases hd4 with e|e|e|e<;>simp only [e]at c2 c3
    . exact pk c0 c1 c2 (by simp<;>omega) (by simp<;>omega) (by simp<;>omega)
    . exact pk c0 c1 c2 (by simp<;>omega) (by simp<;>omega) (by simp<;>omega)
    . exact pk c0 c1 c3 (by simp<;>omega) (by simp<;>omega) (by simp<;>omega)
    . exact pk c0 c1 c2 (by simp<;>omega) (by simp<;>omega) (by simp<;>omega)
theorem N8 (mk:dv C) {m:Move} (hl:fe C m=true) (h2:m.k=2):fe C (ov m)=true/\gm C m=gm C (ov m)/\ie C m.t=true/\3<=(gm C m).length:=by
 have h1:¬m.k=1:=by omega
 have hf:=yi hl
 obtain ⟨fx,fy⟩:=vi mk hf
 have hl0:=hl
 unfold fe at hl0
 rw [hf,Bool.true_and,if_neg h1,if_pos h2]at hl0
 simp only [Bool.and_eq_true,decide_eq_true_eq,List.all_eq_true]at hl0
 obtain ⟨hs,hn,hd,ht⟩:=hl0
 have e1:fj (m.f.x,m.f.y)=[(m.f.x,m.f.y),(m.f.x+1,m.f.y),(m.f.x,m.f.y+1),(m.f.x+1,m.f.y+1)]:=by
  unfold fj
  simp only
  rw [wr_s (by omega),wr_s (by omega)]
 have hft:ie C m.t=true:=by
  rw [ht]
  unfold ie east zj
  simp only [Bool.and_eq_true]
  rw [e1]at hs
  refine ⟨hs _ (.head _),?_⟩
  cases hdn:m.f.d with
  |false=>simp only [Bool.not_false,if_true];rw [wr_s (by omega)];exact hs _ (.tail _ (.tail _ (.head _)))
  |true=>simp only [Bool.not_true,Bool.false_eq_true,if_false];rw [wr_s (by omega)];exact hs _ (.tail _ (.head _))
 have etx:m.t.x=m.f.x/\m.t.y=m.f.y:=by rw [ht];exact ⟨rfl,rfl⟩
 have hlb:fe C (ov m)=true:=by
  unfold fe
  rw [if_neg (show ¬(ov m).k=1 from h1),if_pos (show (ov m).k=2 from h2)]
  simp only [Bool.and_eq_true,decide_eq_true_eq,List.all_eq_true]
  refine ⟨hft,?_,hn,?_,?_⟩
  . show ∀x∈fj (m.t.x,m.t.y),_
    rw [etx.1,etx.2]
    exact hs
  . show (if m.k=1 then _ else m.d)=0
    rw [if_neg h1];exact hd
  . show m.f=zj m.t
    rw [ht]
    unfold zj
    simp
 refine ⟨hlb,?_,hft,?_⟩
 . unfold gm
   rw [if_pos hl,if_pos hlb]
   unfold qa
   rw [if_neg h1,if_pos h2,if_neg (show ¬(ov m).k=1 from h1),if_pos (show (ov m).k=2 from h2)]
   show _=lm _ _ (fj (m.t.x,m.t.y))
   rw [etx.1,etx.2]
 . unfold gm qa
   rw [if_pos hl,if_neg h1,if_pos h2]
   have hin:∀x∈fj (m.f.x,m.f.y),x∈lm (wC C) (kC C) (fj (m.f.x,m.f.y)):=fun x hx=>by
    rw [pl]
    exact ⟨(Hj mk (hs x hx)).1,hx⟩
   rw [e1]at hin ⊢
   exact pk (hin _ (.head _)) (hin _ (.tail _ (.head _))) (hin _ (.tail _ (.tail _ (.head _)))) (by simp;omega) (by simp;omega) (by simp;omega)
theorem aF9 (mk:dv C) {p:Pose} (hp:PB p) {m:Move} (h:m∈Dr C p):m.f=p/\MB m/\MB (ov m)/\(m.k=1\/m.k=2)/\(m.k=1->0<=m.d/\m.d<=3)/\fe C m=true/\fe C (ov m)=true/\gm C m=gm C (ov m)/\ie C m.t=true/\3<=(gm C m).length:=by
 have key:m.f=p/\fe C m=true/\(m.k=1\/m.k=2):=by
  unfold Dr at h
  split at h
  . rcases List.mem_append.1 h with h|h
    . obtain ⟨j,_,_,hj⟩:=Nf.1 h
      obtain ⟨n,_,_,e1,e2⟩:=as3 hj
      exact ⟨by rw [e1];rfl,e2,.inl (by rw [e1];rfl)⟩
    . split at h
      . rename_i hl
        simp at h
        exact ⟨by rw [h];rfl,by rw [h];exact hl,.inr (by rw [h];rfl)⟩
      . cases h
  . cases h
 obtain ⟨ef,hl,hk⟩:=key
 have hall:fe C (ov m)=true/\gm C m=gm C (ov m)/\ie C m.t=true/\3<=(gm C m).length:=by
  rcases hk with hk|hk
  . exact Vn mk hl hk
  . exact N8 mk hl hk
 have hn:Bd m.n:=by
  rcases hk with hk|hk
  . obtain ⟨n1,n2,_⟩:=Io mk hl hk
    unfold Bd;omega
  . have hl0:=hl
    unfold fe at hl0
    rw [if_neg (by omega),if_pos hk]at hl0
    simp only [Bool.and_eq_true,decide_eq_true_eq]at hl0
    rw [hl0.2.2.1]
    unfold Bd;omega
 obtain ⟨tx,ty⟩:=vi mk hall.2.2.1
 refine ⟨ef,⟨hn,by rw [ef];exact hp⟩,⟨hn,⟨by show Bd m.t.x;unfold Bd;omega,by show Bd m.t.y;unfold Bd;omega⟩⟩,hk,fun hk1=>(Io mk hl hk1).2.2.1,hl,hall.1,hall.2.1,hall.2.2.1,hall.2.2.2⟩
end
end Go.Proofs.YtfflipnhffknnaaGreatDoor
end
section
namespace Go.Proofs.YtfflipnhffknnaaGreatDoor
open Go Go.HL Go.Proofs.Resv Go.Proofs.Srch
section
abbrev envC (C:Conf) (T:Tb) (r:Int):Env Pose Move:=envE C (wC C) (kC C) (f3C C) T r
variable {C:Conf}
theorem Zu (mk:dv C) {T:Tb} (gt:jf T) {r:Int}:rk (envC C T r):=ay5 (q:=⟨C,wC C,kC C,f3C C,T,r⟩) mk gt
theorem Hy {T:Tb} {r:Int} {p:Pose} {w:Move × Pose × Int × List Sp} (h:w∈(envC C T r).ways p):∃m∈my (wC C) (kC C) (f3C C) p,w=wayE C (wC C) (kC C) (f3C C) T r m:=by
 obtain ⟨m,hm,rfl⟩:=List.mem_map.1 h
 exact ⟨m,hm,rfl⟩
theorem Hn (mk:dv C) {p:Pose} (h:ie C p=true):PB p:=by
 obtain ⟨a,b⟩:=vi mk h
 exact ⟨by unfold Bd;omega,by unfold Bd;omega⟩
theorem ar8 (mk:dv C) {p:Pose} {m:Move} (h:m∈my (wC C) (kC C) (f3C C) p):ie C p=true/\m∈Dr C p/\m.f=p/\MB m/\MB (ov m)/\(m.k=1\/m.k=2)/\(m.k=1->0<=m.d/\m.d<=3)/\fe C m=true/\fe C (ov m)=true/\gm C m=gm C (ov m)/\ie C m.t=true/\i7 (wC C) (kC C) (f3C C) m=gm C m:=by
 have hf:ie C p=true:=by
  unfold my at h
  split at h
  . rename_i h1;rw [xj mk]at h1;exact h1
  . cases h
 have hp:=Hn mk hf
 rw [as0 mk hp]at h
 obtain ⟨e1,e2,e3,e4,e5,e6,e7,e8,e9,_⟩:=aF9 mk hp h
 exact ⟨hf,h,e1,e2,e3,e4,e5,e6,e7,e8,e9,Ia mk (by rw [e1];exact hp)⟩
theorem Um (mk:dv C) {p:Pose} (h:ie C p=true):∀c∈cj p,inW (wC C) (kC C) c=true:=fun c hc=>(qo (by rw [xj mk];exact h) c hc).1
theorem wk_of (mk:dv C):C.w=(wC C:Int)/\C.h=(kC C:Int)/\1<=wC C/\wC C<=16/\1<=kC C/\kC C<=16:=by
 have hb:=(Ag.1 mk).nums
 unfold qe at hb
 simp only [Bool.and_eq_true]at hb
 exact ub (by simp_all) (by simp_all)
theorem wr16 {x:Int} (h:0<=x/\x<16):wr x=x:=Ml (by unfold Bd;omega)
theorem H9 (mk:dv C) {m:Move} (hl:fe C m=true) (hk:m.k=1\/m.k=2):∀c∈cj m.f,c∈gm C m:=by
 have hf:=yi hl
 have hin:=Um mk hf
 intro c hc
 have h0:=jr.1 (hin c hc)
 unfold gm
 rw [if_pos hl,pl]
 refine ⟨by omega,?_⟩
 unfold qa
 by_cases h1:m.k=1
 . rw [if_pos h1,List.mem_flatMap]
   refine ⟨0,by simp,?_⟩
   have e:dm m.f m.d ((0:Nat):Int)=m.f:=by
    obtain ⟨ha,hb⟩:=vi mk hf
    unfold dm
    simp [wr16 ha,wr16 hb]
   rw [e];exact hc
 . have h2:m.k=2:=by omega
   rw [if_neg h1,if_pos h2]
   rcases List.mem_cons.1 hc with rfl|hc
   . simp [fj]
   . rw [List.mem_singleton]at hc;subst hc
     unfold east fj
     split<;>simp
theorem Vv (mk:dv C) {p:Pose} {m:Move} (h:m∈my (wC C) (kC C) (f3C C) p):(∀c∈cj p,c∈i7 (wC C) (kC C) (f3C C) m)/\(∀c∈cj m.t,c∈i7 (wC C) (kC C) (f3C C) m)/\∀c∈i7 (wC C) (kC C) (f3C C) m,inW (wC C) (kC C) c=true:=by
 obtain ⟨hf,hr,e1,e2,e3,e4,e5,e6,e7,e8,e9,e10⟩:=ar8 mk h
 rw [e10]
 refine ⟨fun c hc=>H9 mk e6 e4 c (by rw [e1];exact hc),fun c hc=>?_,fun c hc=>?_⟩
 . rw [e8]
   exact H9 mk e7 (by unfold ov;exact e4) c hc
 . unfold gm at hc
   rw [if_pos e6,pl]at hc
   exact jr.2 (by omega)
theorem env_ris (mk:dv C) {T:Tb} (gt:jf T) {r:Int}:Dj (envC C T r):=by
 refine ⟨fun p=>zq gt r _,fun p w hw=>?_,fun p w hw s hs=>?_⟩
 . obtain ⟨m,hm,rfl⟩:=Hy hw
   exact zq gt r _
 . obtain ⟨m,hm,rfl⟩:=Hy hw
   obtain ⟨_,h2,_⟩:=Vv mk hm
   refine al4 gt (fun n hn=>?_) hs
   obtain ⟨c,hc,rfl⟩:=List.mem_map.1 hn
   exact List.mem_map.2 ⟨c,h2 c hc,rfl⟩
end
section
variable {C:Conf}
inductive Out (C:Conf) (T:Tb) (r:Int) (p:Pose) (t:Int) (gp:Pose) (any:Bool):Res Move->Prop where
 |ok {l:List Move} {q:Pose} {i:Nat} {a:Int} {s:Sp} (w:Wk (envC C T r) p t l q i a) (hs:((envC C T r).spans q)[i]?=some s) (h1:s.1<=a) (h2:a<s.2) (g:nk gp any q s=true)
  (best:∀p' i' t' s',Rc (envC C T r) p t p' i' t'->((envC C T r).spans p')[i']?=some s'->nk gp any p' s'=true->a<=t'):Out C T r p t gp any (.ok l)
 |route (h:(inside ((envC C T r).spans p) t).isSome=true) (none:∀p' i' t' s',Rc (envC C T r) p t p' i' t'->((envC C T r).spans p')[i']?=some s'->nk gp any p' s'=false):Out C T r p t gp any (.no 6)
 |budget:Out C T r p t gp any (.no 7)
 |taken (h:inside ((envC C T r).spans p) t=none):Out C T r p t gp any (.no 18)
theorem Uo (mk:dv C) {T:Tb} (gt:jf T) {r:Int} {p gp:Pose} {t:Int} {any:Bool} {n:Nat} (hp:dx (wC C) (kC C) (f3C C) p=true):Out C T r p t gp any (find (envC C T r) (nk gp any) p t zM n):=by
 have ris:=env_ris mk gt (r:=r)
 rcases au8 (Zu mk gt (r:=r)) ris (goal:=nk gp any) (t0:=t) (z:=zM) (p0:=p) hp n with ⟨h,h2⟩|⟨h0,⟨lo',S',k,x,h1,v,hk,hg,hb⟩|⟨h1,h2⟩|h1⟩
 . rw [h];exact .taken h2
 . rw [h1]
   obtain ⟨a1,a2,a3⟩:=v.at_ x (List.mem_of_getElem? hk)
   exact .ok (path_wk ris v hk) a1 a2 a3 hg hb
 . rw [h1];exact .route h0 h2
 . rw [h1];exact .budget
abbrev N9 (C:Conf) (T:Tb) (rb:Int) (p:Pose) (t:Int) (gp:Pose) (any:Bool):Prop:=(T.length:Int)≠C.w*C.h\/rb<0\/t<0\/t>=FV\/dx (wC C) (kC C) (f3C C) p=false\/aimB C gp any=false
theorem Jm {T:Tb} {rb t:Int} {p gp:Pose} {any:Bool} (h:N9 C T rb p t gp any):lg C (some T) rb p t gp any = .no 1:=by
 unfold lg
 exact if_pos h
theorem Uq {T:Tb} {rb t:Int} {p gp:Pose} {any:Bool} (h:¬N9 C T rb p t gp any):lg C (some T) rb p t gp any=find (envC C T rb) (nk gp any) p t zM C.bu.toNat:=by
 unfold lg
 exact if_neg h
def shM (by_:Int) (m:Move):Move:={ m with a:=m.a+by_,e:=m.e+by_ }
theorem Z3 {T:Tb} {rb t:Int} {p gp:Pose} {any:Bool} (h:¬N9 C T rb p t gp any):(T.length:Int)=C.w*C.h/\0<=rb/\0<=t/\t<FV/\dx (wC C) (kC C) (f3C C) p=true/\aimB C gp any=true:=by
 unfold N9 at h
 simp only [not_or,Decidable.not_not,Bool.not_eq_false]at h
 obtain ⟨a,b,c,d,e,f⟩:=h
 exact ⟨a,by omega,by omega,by omega,e,f⟩
end
section
variable {C:Conf}
def A9 (C:Conf) (T:Tb) (r:Int) (L:List Cell) (a b:Int):Prop:=∀c∈L,inT T.length (numI (wC C) (kC C) c)=true/\nl (rowT T (numI (wC C) (kC C) c)) r a b=true
def yy (p:Pose) (l:List Move):Nat->Pose
 |0=>p
 |j+1=>(l.getD j zM).t
def nh (t:Int) (l:List Move):Nat->Int
 |0=>t
 |j+1=>(l.getD j zM).e
structure MvOk (C:Conf) (T:Tb) (r:Int) (P:Pose) (N:Int) (m:Move):Prop where
 k:m.k=1\/m.k=2
 nb:Bd m.n
 leg:fe C m=true
 f:m.f=P
 n0:0<=N
 at_:N<=m.a
 e:m.e=m.a+jc C m
 e2:m.a<m.e/\m.e<FV
 stand:A9 C T r (cj P) N m.a
 go:A9 C T r (gm C m) m.a m.e
 to:ie C m.t=true
theorem M0 {p:Pose} {l:List Move} {m:Move} {j:Nat} (h:j<=l.length):yy p (l++[m]) j=yy p l j:=by
 cases j with
 |zero=>rfl
 |succ j=>
  show ((l++[m]).getD j zM).t=(l.getD j zM).t
  rw [List.getD_eq_getElem?_getD,List.getD_eq_getElem?_getD,List.getElem?_append_left (by omega)]
theorem M8 {t:Int} {l:List Move} {m:Move} {j:Nat} (h:j<=l.length):nh t (l++[m]) j=nh t l j:=by
 cases j with
 |zero=>rfl
 |succ j=>
  show ((l++[m]).getD j zM).e=(l.getD j zM).e
  rw [List.getD_eq_getElem?_getD,List.getD_eq_getElem?_getD,List.getElem?_append_left (by omega)]
theorem wk_all (mk:dv C) {T:Tb} (gt:jf T) {r:Int} {p q:Pose} {t a:Int} {l:List Move} {i:Nat} (hp:ie C p=true) (ht:0<=t) (w:Wk (envC C T r) p t l q i a):
 (∀j m,l[j]?=some m->MvOk C T r (yy p l j) (nh t l j) m)/\q=yy p l l.length/\a=nh t l l.length/\ie C q=true/\0<=a:=by
 induction w with
 |nil h=>exact ⟨fun j m hm=>by simp at hm,rfl,rfl,hp,ht⟩
 |@snoc l q i j a s0 s w h h0 ha1 ha2 hw hs h1 h2 he he2 hj ih=>
  obtain ⟨ih1,rfl,rfl,ih4,ih5⟩:=ih
  obtain ⟨m,hm,rfl⟩:=Hy hw
  obtain ⟨hf,hr,e1,e2,e3,e4,e5,e6,e7,e8,e9,e10⟩:=ar8 mk hm
  obtain ⟨l1,l2⟩:=Tz mk hm
  have es:=Yd (show 0<=max (nh t l l.length) s.1 by omega) (show 0<=jc C m by omega) he2
  have e11:(l++[zl m (max (nh t l l.length) s.1) (sumI (max (nh t l l.length) s.1) (jc C m))]).getD l.length zM=zl m (max (nh t l l.length) s.1) (sumI (max (nh t l l.length) s.1) (jc C m)):=by
   rw [List.getD_eq_getElem?_getD,List.getElem?_append_right (Nat.le_refl _)];simp
  have hb:=(Zu mk gt (r:=r)).pos _ s0 (List.mem_of_getElem? h0)
  have hsum:sumI (max (nh t l l.length) s.1) (jc C m)<=s.2:=he
  have hsum2:sumI (max (nh t l l.length) s.1) (jc C m)<FV:=he2
  refine ⟨fun j m' hm'=>?_,?_,?_,e9,?_⟩
  . by_cases hjl:j<l.length
    . rw [List.getElem?_append_left hjl]at hm'
      rw [M0 (by omega),M8 (by omega)]
      exact ih1 j m' hm'
    . have hjl':j=l.length:=by
       have:=(List.getElem?_eq_some_iff.1 hm').1
       simp at this
       omega
      subst hjl'
      rw [M0 (Nat.le_refl _),M8 (Nat.le_refl _)]
      rw [List.getElem?_append_right (Nat.le_refl _)]at hm'
      simp at hm'
      subst hm'
      refine ⟨e4,e2.1,e6,e1,ih5,by show nh t l l.length<=max (nh t l l.length) s.1;omega,es,⟨?_,hsum2⟩,fun c hc=>?_,fun c hc=>?_,e9⟩
      . show max (nh t l l.length) s.1<sumI (max (nh t l l.length) s.1) (jc C m)
        omega
      . refine Cv gt (List.mem_of_getElem? h0) ha1 (show max (nh t l l.length) s.1<=s0.2 by omega) _ (List.mem_map.2 ⟨c,hc,rfl⟩)
      . refine Cv gt hs (show s.1<=max (nh t l l.length) s.1 by omega) hsum _ (List.mem_map.2 ⟨c,?_,rfl⟩)
        rw [e10]
        exact hc
  . rw [List.length_append]
    exact (congrArg Move.t e11).symm
  . rw [List.length_append]
    exact (congrArg Move.e e11).symm
  . show 0<=sumI (max (nh t l l.length) s.1) (jc C m)
    omega
theorem Fq (mk:dv C) {T:Tb} (gt:jf T) {rb t:Int} {p gp:Pose} {any:Bool} {l:List Move} (h:lg C (some T) rb p t gp any = .ok l):
 ((T.length:Int)=C.w*C.h/\0<=rb/\0<=t/\t<FV/\ie C p=true)/\(∀j m,l[j]?=some m->MvOk C T rb (yy p l j) (nh t l j) m)/\∃s:Sp,s∈(envC C T rb).spans (yy p l l.length)/\s.1<=nh t l l.length/\nh t l l.length<s.2/\nk gp any (yy p l l.length) s=true/\ie C (yy p l l.length)=true/\0<=nh t l l.length:=by
 have ha:¬N9 C T rb p t gp any:=fun ha=>by rw [Jm ha]at h;cases h
 obtain ⟨c1,c2,c3,c4,c5,c6⟩:=Z3 ha
 have hf:ie C p=true:=by rw [<- xj mk];exact c5
 rw [Uq ha]at h
 have o1:=Uo mk gt (r:=rb) (gp:=gp) (t:=t) (any:=any) (n:=C.bu.toNat) c5
 rw [h]at o1
 cases o1 with
 |ok w hs h1 h2 g best=>
  obtain ⟨w1,rfl,rfl,w4,w5⟩:=wk_all mk gt hf c3 w
  exact ⟨⟨c1,c2,c3,c4,hf⟩,w1,_,List.mem_of_getElem? hs,h1,h2,g,w4,w5⟩
end
theorem ap2 {C:Conf} (sm:SmO C):1<=C.w*C.h/\C.w*C.h<=36/\IntKind.i64.wrap (C.w*C.h)=(((C.w*C.h).toNat:Nat):Int)/\(((C.w*C.h).toNat:Nat):Int)=C.w*C.h:=by
 have hnb:1<=C.w/\1<=C.h:=by
  have hb:=sm.may.nums
  unfold qe b8 at hb
  simp only [Bool.and_eq_true,decide_eq_true_eq]at hb
  omega
 obtain ⟨hw1,hh1⟩:=hnb
 have b2:C.w*C.h<=6*6:=Int.mul_le_mul sm.w sm.h (by omega) (by omega)
 have b1:1*1<=C.w*C.h:=Int.mul_le_mul hw1 hh1 (by omega) (by omega)
 refine ⟨by omega,by omega,?_,by omega⟩
 rw [nu (by omega) (by omega)];omega
abbrev rj (C:Conf) (ab:Option Addr) (cb:Nat) (ap:Option Addr) (cp:Nat) (ar:Option Addr) (cr:Nat) (az:Option Addr) (cs:Nat):Obj := .cells #[C.w,C.h,C.ht,.slice ab C.bl.length cb,.slice ap C.po.length cp,.slice ar C.ro.length cr,.slice az C.st.length cs,C.un,C.ac,C.sp,C.tu,C.ho,C.qu,C.re,C.bu,.bool C.back] 26 (0,0)
abbrev ij (p:Pose):Obj := .cells #[p.x,p.y,.bool p.d] 30 (0,0)
theorem TabV.up {G h h':Hp} {vt:Value} {To:Option Tb} (t:TabV G h vt To) (l:h.le h') (d:Dis G h'):TabV G h' vt To:=by
 cases To with
 |none=>exact t
 |some T=>obtain ⟨tp,e,ts,x⟩:=t;exact ⟨tp,e,ts.up l d,x⟩
structure FindO (G:Hp) (h:Hp) (W:Res Move) (u:Value) (h':Hp):Prop where
 ex:∃ip vs,u = .tuple #[vs,(outE W)]/\Slc j9 48 ip vs (outL W)/\(outL W).length<=110000/\HL.Sep [ip,h] h'/\Dis G h'
theorem al7 {G h:Hp} {C:Conf} {v vt:Value} {To:Option Tb} {p gp:Pose} {rb t:Int} {any:Bool} (mk:dv C) (hv:CV G h v C) (st:jy G) (hro:∀p∈C.ro,PB p) (fit:Fit0 C) (hbu:C.bu<=4000)
 (tv:TabV G h vt To) (hp:PB p) (hgp:PB gp):
 bn P_ G 27 #[v,vt,rb,ld p,t,.agg #[gp.x,gp.y,.bool gp.d,.bool any]] h (FindO G h (lg C To rb p t gp any)):=by
 refine (al6 hv st hro (by have:=fit.st;unfold Room at this;omega) (fun _=>hbu) tv hp hgp).mono ?_
 rintro u h' ⟨W,⟨ip,vs,e1,e2,e3,e4,e5⟩,⟨hno,_⟩|⟨_,rfl⟩⟩
 . exact absurd mk hno
 . exact ⟨ip,vs,e1,e2,e3,e4,e5⟩
theorem sn {C:Conf} (mk:dv C) {T:Tb} (gt:jf T) {rb t e:Int} {p gp:Pose} {any:Bool} (h:lg C (some T) rb p t gp any = .no e):e=1\/e=6\/e=7\/e=18:=by
 by_cases ha:N9 C T rb p t gp any
 . rw [Jm ha]at h;cases h;exact .inl rfl
 . have c5:=(Z3 ha).2.2.2.2.1
   rw [Uq ha]at h
   have o1:=Uo mk gt (r:=rb) (gp:=gp) (t:=t) (any:=any) (n:=C.bu.toNat) c5
   rw [h]at o1
   cases o1<;>simp
end Go.Proofs.YtfflipnhffknnaaGreatDoor
end
section
namespace Go.Proofs.YtfflipnhffknnaaGreatDoor
open Go Go.HL
section
variable (G:Hp) (K:EK) (r:Rg) (h:Hp)
def md34:Nat->Hint
 |18=>mh false [0,1,0,0,0,0,0,64,224,511,0,2047] [n_,m_,m_,m_,m_,m_,n_,m_,e_,n_,.alloc,.store] (fs 8++[true]++fs 3) false
 |22=>mh false [0,0,3] [m_,n_,n_] (fs 3) false
 |_=>mh false [] [] [] false
def aM3:Prop:=
 o_ G (l_ 40 (r 18)) h fun g h=>
 K .ret (u3 r 88 g 14 g 15 (.int .i64 0)) h
def Rq:Prop:=
 o_ G (l_ 35 (r 19)) h fun g h=>
 opH P_ G (xEq .neq 35 (.tmp 0) (.const .nilFunc) g (.int .i64 0)) h fun j h=>
 cond j
 (w_ G h (l_ 35 (r 19)) h fun s h'=>
 K .ret (u6 r 81 g 82 j 80 j 83 s 14 (.slice none 0 0) 15 s) h')
 (o_ G (l_ 40 (r 18)) h fun s h=>o_ G (k_ 40 s) h fun u h=>o_ G (z6_ u (4096:Int)) h fun w h=>
 cond w
 (K .ret (u9 r 81 g 82 j 80 j 85 s 86 u 87 w 84 w 14 (.slice none 0 0) 15 (.int .i64 2)) h)
 (aM3 G K (u7 r 81 g 82 j 80 j 85 s 86 u 87 w 84 w) h))
def Pg:Prop:=
 o_ G (z1_ (r 21) (1:Int)) h fun g h=>
 K .normal (u3 r 43 (r 21) 44 g 21 g) h
def Pe:Prop:=
 p_ (f_ 119 (r 22) 1) h fun g h'=>
 w_ G h (l_ 3 g) h' fun j h'=>
 w_ G h (l_ 30 (r 10)) h' fun s h'=>
 w_ G h (l_ 30 (r 10)) h' fun u h'=>
 w_ G h (l_ 3 (r 11)) h' fun w h'=>
 w_ G h (l_ 3 (r 11)) h' fun z h'=>
 p_ (f_ 26 (r 7) 11) h' fun C h'=>
 w_ G h (l_ 3 C) h' fun D h'=>
 c_ G 77 #[z,D] h' fun E h'=>h.le h'/\
 p_ (Instr.build 48 #[(0,j),(3,s),(4,u),(5,w),(6,E)]) h' fun F h=>o_ G (Instr.alloc 48 true (.tuple #[])) h fun I h=>
 opH P_ G (su (Instr.storeAt 48 I F)) h fun J h=>o_ G (l_ 40 (r 18)) h fun J h=>o_ G (l_ 48 I) h fun L h=>o_ G (Instr.buildSlice 40 1 #[(0,L)]) h fun M h=>
 c_ G 76 #[J,M] h fun N h=>
 opH P_ G (su (Instr.storeAt 40 (r 18) N)) h fun O h=>o_ G (f_ 48 I 6) h fun O h=>o_ G (l_ 3 O) h fun P h=>
 opH P_ G (su (Instr.storeAt 3 (r 11) P)) h fun Q h=>
 Pg G K (u7 (u10 r 64 g 65 j 66 s 67 u 68 w 69 z 70 C 71 D 72 E 73 F) 23 I 74 J 75 L 76 M 77 N 78 O 79 P) h
def Pf:Prop:=
 o_ G (i_ 59 (r 5) (r 21)) h fun g h=>o_ G (l_ 119 g) h fun j h=>o_ G (Instr.alloc 119 true (.tuple #[])) h fun s h=>
 opH P_ G (su (Instr.storeAt 119 s j)) h fun u h=>o_ G (f_ 119 s 0) h fun u h=>o_ G (l_ 28 u) h fun w h=>o_ G (Instr.build 30 #[(0,w)]) h fun z h=>o_ G (Instr.build 45 #[(0,z),(1,(.bool true))]) h fun C h=>
 opH P_ G (iz (r 20) #[C]) h fun D h=>o_ G (Op.unary .not D) h fun E h=>
 (fun q=>cond E
 (K (.exit 2) q h)
 (Pe G K q h))
 (u2 (u10 r 53 (r 5) 54 (r 21) 55 g 56 j 22 s 57 (r 20) 58 u 59 w 60 z 61 C) 62 D 63 E)
def Xz (r:Rg) (h:Hp) (K:EK):Prop:=
 o_ G (k_ 59 (r 5)) h fun g h=>
 opH P_ G (xEq .eql 3 (.tmp 0) (.tmp 0) (r 21) g) h fun j h=>
 cond j
 (o_ G (l_ 30 (r 13)) h fun s h'=>o_ G (Instr.build 45 #[(0,s)]) h' fun u h'=>
 opH P_ G (iz (r 20) #[u]) h' fun w h'=>
 K (.exit 2) (u8 r 45 (r 21) 46 (r 5) 47 g 48 j 49 (r 20) 50 s 51 u 52 w) h')
 (Pf G K (u4 r 45 (r 21) 46 (r 5) 47 g 48 j) h)
def X0:Prop:=
 o_ G (Instr.alloc 40 true (.tuple #[])) h fun g h=>o_ G (Instr.alloc 35 true (.tuple #[])) h fun j h=>
 opH P_ G (su (Instr.storeAt 35 j (.int .i64 0))) h fun s h=>
 dt (Xz G) (u5 r 18 g 19 j 42 (.func (.func 75) #[] #[(r 7),(r 8),(r 9),(r 10),(r 11),j,g]) 20 (.func (.func 75) #[] #[(r 7),(r 8),(r 9),(r 10),(r 11),j,g]) 21 (.int .i64 0)) h (df 2 (dj (Rq G K) (ra K)))
def C4:Prop:=
 o_ G (z1_ (r 29) (1:Int)) h fun g h=>
 K .normal (u2 r 41 g 29 g) h
def Kj:Prop:=
 o_ G (i_ 59 (r 27) (r 29)) h fun g h=>o_ G (l_ 119 g) h fun j h=>o_ G (Instr.alloc 119 true (.tuple #[])) h fun s h=>
 opH P_ G (su (Instr.storeAt 119 s j)) h fun u h=>o_ G (f_ 119 s 1) h fun u h=>o_ G (l_ 3 u) h fun w h=>
 opH P_ G (xEq .neq 3 (.tmp 0) (.const .nilFunc) w (.int .i64 3)) h fun z h=>g_ z true (o_ G (f_ 119 s 1) h) h fun C h=>g_ z true (o_ G (l_ 3 C) h) h fun D h=>g_ z true (opH P_ G (xEq .neq 3 (.tmp 0) (.const .nilFunc) D (.int .i64 4)) h) h fun E h=>
 opH P_ G (dc z E (.bool false)) h fun F h=>
 (fun q=>cond F
 (K .ret (u2 q 14 (.slice none 0 0) 15 (.int .i64 1)) h)
 (C4 G K q h))
 (upd (u10 r 31 g 32 j 17 s 33 u 34 w 35 z 36 z 37 C 38 D 39 E) 40 F)
def aM2 (r:Rg) (h:Hp) (K:EK):Prop:=
 o_ G (z2_ (r 29) (r 28)) h fun g h=>
 cond g
 (Kj G K (upd r 30 g) h)
 (K (.exit 0) (upd r 30 g) h)
def X1:Prop:=
 o_ G (k_ 59 (r 5)) h fun g h=>
 dt (aM2 G) (u3 r 27 (r 5) 28 g 29 (.int .i64 0)) h (df 0 (dj (X0 G K) (ra K)))
def S34:Prop:=
 o_ G (Instr.box 26 (r 0)) h fun g h=>o_ G (Instr.box 34 (r 1)) h fun j h=>o_ G (Instr.box 3 (r 2)) h fun s h=>o_ G (Instr.box 30 (r 3)) h fun u h=>o_ G (Instr.box 3 (r 4)) h fun w h=>o_ G (Instr.box 30 (r 6)) h fun z h=>o_ G (l_ 26 g) h fun C h=>
 c_ G 74 #[C] h fun D h=>o_ G (Op.unary .not D) h fun E h=>
 (fun q=>cond E
 (K .ret (u2 q 14 (.slice none 0 0) 15 (.int .i64 5)) h)
 (X1 G K q h))
 (upd (u10 r 7 g 8 j 9 s 10 u 11 w 13 z 14 (.slice none 0 0) 15 (.int .i64 0) 24 C 25 D) 26 E)
theorem enter34:Ent 89 34 [.tmp 14,.tmp 15] S34:=ent_ (m:=md34) (c:=(Tryz.f34.body.getD .skip)) (fun _ _ _ _=>by kernel_rfl) Tryz.func34 rfl rfl rfl
def md75:Nat->Hint
 |7=>mh false [0,0,2,6,15,31,63,0,0,256,768,1920,3968,8064,127,32767] [n_,n_,m_,n_,n_,n_,m_,n_,n_,m_,n_,n_,n_,m_,.store,.store] (fs 14++[true]++[false]) true
 |_=>mh false [] [] [] false
def Rl (G:Hp) (K:EK) (r:Rg) (h:Hp):Prop:=
 K .ret (upd r 9 (.bool true)) h
def aI1:Prop:=
 o_ G (l_ 40 (r 7)) h fun g h=>
 c_ G 76 #[g,(r 10)] h fun j h=>
 opH P_ G (su (Instr.storeAt 40 (r 7) j)) h fun s h=>o_ G (k_ 40 (r 10)) h fun s h=>o_ G (z6_ s (0:Int)) h fun u h=>
 cond u
 (∃h':Hp,h'.le h/\
 w_ G h' (k_ 40 (r 10)) h fun w ha=>
 p_ (z3_ w (1:Int)) ha fun z ha=>
 p_ (i_ 40 (r 10) z) ha fun C ha=>
 p_ (f_ 48 C 4) ha fun D ha=>
 w_ G h' (l_ 30 D) ha fun E ha=>
 w_ G h' (k_ 40 (r 10)) ha fun F ha=>
 p_ (z3_ F (1:Int)) ha fun I ha=>
 p_ (i_ 40 (r 10) I) ha fun J ha=>
 p_ (f_ 48 J 6) ha fun L ha=>
 w_ G h' (l_ 3 L) ha fun M ha=>
 opH P_ G (su (Instr.storeAt 30 (r 4) E)) ha fun N ha=>h'.le ha/\
 opH P_ G (su (Instr.storeAt 3 (r 5) M)) ha fun N h'=>
 Rl G K (u10 (u10 r 23 g 24 (r 10) 25 j 26 (r 10) 27 s 28 u 29 (r 10) 30 (r 10) 31 w 32 z) 33 C 34 D 35 E 36 (r 10) 37 (r 10) 38 F 39 I 40 J 41 L 42 M) h')
 (Rl G K (u6 r 23 g 24 (r 10) 25 j 26 (r 10) 27 s 28 u) h)
def S75:Prop:=
 o_ G (Instr.box 45 (r 0)) h fun g h=>o_ G (l_ 26 (r 1)) h fun j h=>o_ G (l_ 34 (r 2)) h fun s h=>o_ G (l_ 3 (r 3)) h fun u h=>o_ G (l_ 30 (r 4)) h fun w h=>o_ G (l_ 3 (r 5)) h fun z h=>o_ G (l_ 45 g) h fun C h=>
 c_ G 27 #[j,s,u,w,z,C] h fun D h=>o_ G (Instr.extract D 0) h fun E h=>o_ G (Instr.extract D 1) h fun F h=>
 opH P_ G (su (Instr.storeAt 35 (r 6) F)) h fun I h=>o_ G (l_ 35 (r 6)) h fun I h=>
 opH P_ G (xEq .neq 35 (.tmp 0) (.const .nilFunc) I (.int .i64 0)) h fun J h=>
 (fun q=>cond J
 (K .ret (upd q 9 (.bool false)) h)
 (aI1 G K q h))
 (u6 (u10 r 8 g 9 (.bool false) 10 (.slice none 0 0) 12 j 13 s 14 u 15 w 16 z 17 C 18 D) 11 D 19 E 20 F 10 E 21 I 22 J)
theorem enter75:Ent 43 75 [.tmp 9] S75:=ent_ (m:=md75) (c:=(Tryz.f75.body.getD .skip)) (fun _ _ _ _=>by kernel_rfl) Tryz.func75 rfl rfl rfl
def md76:Nat->Hint
 |_=>mh false [] [] [] false
def S76:Prop:=
 o_ G (Builtin.append_ #[40,40] 40 #[(r 0),(r 1)]) h fun g h=>
 K .ret (u5 r 4 (.slice none 0 0) 5 (r 0) 6 (r 1) 7 g 4 g) h
theorem enter76:Ent 8 76 [.tmp 4] S76:=ent_ (m:=md76) (c:=(Tryz.f76.body.getD .skip)) (fun _ _ _ _=>by kernel_rfl) Tryz.func76 rfl rfl rfl
def md39:Nat->Hint
 |7=>mh false [0,0,0,6,0,0,32,127] [n_,m_,m_,e_,n_,n_,m_,e_] (fs 3++[true]++fs 4) true
 |8=>mh false [0,0,0,6,0,16,0,64,255] [n_,m_,m_,e_,n_,m_,n_,m_,e_] (fs 3++[true]++fs 5) true
 |9=>mh false [0,1,0,4,3,31] [n_,m_,n_,m_,.store,n_] (fs 4++[true]++[false]) true
 |_=>mh false [] [] [] false
def aL5:Prop:=
 o_ G (l_ 68 (r 3)) h fun g h=>o_ G (l_ 30 (r 4)) h fun j h=>
 c_ G 89 #[g,j] h fun s h=>
 opH P_ G (iz (r 8) #[s,(r 9),(.int .i64 4611686018427387904)]) h fun u h=>o_ G (l_ 71 (r 7)) h fun w h=>
 K .ret (u8 r 41 (r 8) 42 g 43 j 44 s 45 (r 9) 46 u 47 w 6 w) h
def Pa:Prop:=
 o_ G (z1_ (r 15) (1:Int)) h fun g h=>
 K .normal (u2 r 40 g 15 g) h
def Pb:Prop:=
 o_ G (i_ 40 (r 13) (r 15)) h fun g h=>o_ G (l_ 48 g) h fun j h=>o_ G (Instr.alloc 48 true (.tuple #[])) h fun s h=>
 opH P_ G (su (Instr.storeAt 48 s j)) h fun u h=>
 ∃h':Hp,h'.le h/\
 w_ G h' (l_ 68 (r 3)) h fun u h=>
 w_ G h' (l_ 30 (r 4)) h fun w h=>
 c_ G 89 #[u,w] h fun z h=>h'.le h/\
 p_ (f_ 48 s 5) h fun C h=>
 w_ G h' (l_ 3 C) h fun D h=>
 opH P_ G (iz (r 8) #[z,(r 9),D]) h fun E h=>
 ∃h':Hp,h'.le h/\
 w_ G h' (l_ 68 (r 3)) h fun F h=>
 w_ G h' (l_ 48 s) h fun I h=>
 c_ G 90 #[F,I] h fun J h=>h'.le h/\
 p_ (f_ 48 s 5) h fun L h=>
 w_ G h' (l_ 3 L) h fun M h=>
 p_ (f_ 48 s 6) h fun N h=>
 w_ G h' (l_ 3 N) h fun O h=>
 opH P_ G (iz (r 8) #[J,M,O]) h fun P h=>
 ∃h':Hp,h'.le h/\
 p_ (f_ 48 s 4) h fun Q h=>
 w_ G h' (l_ 30 Q) h fun U h=>
 p_ (f_ 48 s 6) h fun V h=>
 w_ G h' (l_ 3 V) h fun W h=>
 opH P_ G (su (Instr.storeAt 30 (r 4) U)) h fun Y h=>h'.le h/\
 Pa G K (u5 (u10 (u10 r 17 g 18 j 11 s 19 (r 8) 20 u 21 w 22 z 23 (r 9) 24 C 25 D) 26 E 27 (r 8) 28 F 29 I 30 J 31 L 32 M 33 N 34 O 35 P) 36 Q 37 U 38 V 39 W 9 W) h
def aL4 (r:Rg) (h:Hp) (K:EK):Prop:=
 o_ G (z2_ (r 15) (r 14)) h fun g h=>
 cond g
 (Pb G K (upd r 16 g) h)
 (K (.exit 0) (upd r 16 g) h)
def S39:Prop:=
 o_ G (Instr.box 68 (r 0)) h fun g h=>o_ G (Instr.box 30 (r 1)) h fun j h=>o_ G (Instr.alloc 71 true (.tuple #[])) h fun s h=>o_ G (k_ 40 (r 2)) h fun u h=>
 dt (aL4 G) (u10 r 3 g 4 j 6 (.slice none 0 0) 7 s 12 (.func (.func 87) #[] #[s,g]) 8 (.func (.func 87) #[] #[s,g]) 9 (.int .i64 0) 13 (r 2) 14 u 15 (.int .i64 0)) h (df 0 (dj (aL5 G K) K))
theorem enter39:Ent 48 39 [.tmp 6] S39:=ent_ (m:=md39) (c:=(Tryz.f39.body.getD .skip)) (fun _ _ _ _=>by kernel_rfl) Tryz.func39 rfl rfl rfl
def md87:Nat->Hint
 |4=>mh false [0,0,0,6,0,0,62,126,255,511] [m_,m_,m_,e_,n_,n_,n_,.alloc,e_,.store] (fs 3++[true]++fs 6) false
 |_=>mh false [] [] [] false
def Oe:Prop:=
 o_ G (z1_ (r 15) (1:Int)) h fun g h=>
 K .normal (u2 r 28 g 15 g) h
def Of:Prop:=
 o_ G (i_ 22 (r 13) (r 15)) h fun g h=>o_ G (l_ 28 g) h fun j h=>o_ G (Instr.alloc 28 true (.tuple #[])) h fun s h=>
 opH P_ G (su (Instr.storeAt 28 s j)) h fun u h=>
 w_ G h (l_ 71 (r 3)) h fun u h'=>
 w_ G h (l_ 68 (r 4)) h' fun w h'=>
 w_ G h (l_ 28 s) h' fun z h'=>
 c_ G 88 #[w,z] h' fun C h'=>h.le h'/\
 p_ (Instr.build 75 #[(0,C),(1,(r 1)),(2,(r 2))]) h' fun D h=>o_ G (Instr.buildSlice 71 1 #[(0,D)]) h fun E h=>o_ G (Builtin.append_ #[71,71] 71 #[u,E]) h fun F h=>
 opH P_ G (su (Instr.storeAt 71 (r 3) F)) h fun I h=>
 Oe G K (u2 (u10 r 17 g 18 j 9 s 19 u 20 w 21 z 22 C 23 (r 1) 24 (r 2) 25 D) 26 E 27 F) h
def aG9 (r:Rg) (h:Hp) (K:EK):Prop:=
 o_ G (z2_ (r 15) (r 14)) h fun g h=>
 cond g
 (Of G K (upd r 16 g) h)
 (K (.exit 0) (upd r 16 g) h)
def aH0:Prop:=
 o_ G (k_ 22 (r 0)) h fun g h=>
 dt (aG9 G) (u3 r 13 (r 0) 14 g 15 (.int .i64 0)) h (df 0 K)
def S87:Prop:=
 o_ G (z5_ (r 1) (r 2)) h fun g h=>
 cond g
 (K .ret (u3 r 10 (r 1) 11 (r 2) 12 g) h)
 (aH0 G K (u3 r 10 (r 1) 11 (r 2) 12 g) h)
theorem enter87:Ent 29 87 [] S87:=ent_ (m:=md87) (c:=(Tryz.f87.body.getD .skip)) (fun _ _ _ _=>by kernel_rfl) Tryz.func87 rfl rfl rfl
def md112:Nat->Hint
 |6=>mh false [0,0,0,0,12,28,62,0,0,510,1022,2047,4095] [n_,m_,n_,n_,n_,m_,e_,n_,n_,n_,.alloc,e_,n_] (fs 13) false
 |_=>mh false [] [] [] false
def ae5 (G:Hp) (K:EK) (r:Rg) (h:Hp):Prop:=
 K .ret (u2 r 34 (r 1) 10 (r 1)) h
def Lr:Prop:=
 o_ G (z1_ (r 11) (1:Int)) h fun g h=>
 K .normal (u3 r 20 (r 11) 21 g 11 g) h
def Ls:Prop:=
 w_ G h (l_ 26 (r 5)) h fun g h'=>
 p_ (i_ 22 (r 2) (r 11)) h' fun j h'=>
 w_ G h (l_ 28 j) h' fun s h=>
 c_ G 41 #[g,s] h fun u h=>
 p_ (Instr.build 186 #[(0,u),(1,(r 3)),(2,(r 4))]) h fun w h=>o_ G (Instr.buildSlice 114 1 #[(0,w)]) h fun z h=>o_ G (Builtin.append_ #[114,114] 114 #[(r 1),z]) h fun C h=>
 Lr G K (u3 (u10 r 22 (r 1) 23 g 24 (r 2) 25 (r 11) 26 j 27 s 28 u 29 (r 3) 30 (r 4) 31 w) 32 z 33 C 1 C) h
def ae2 (r:Rg) (h:Hp) (K:EK):Prop:=
 o_ G (k_ 22 (r 2)) h fun g h=>o_ G (z2_ (r 11) g) h fun j h=>
 cond j
 (Ls G K (u4 r 16 (r 11) 17 (r 2) 18 g 19 j) h)
 (K (.exit 0) (u4 r 16 (r 11) 17 (r 2) 18 g 19 j) h)
def ae6:Prop:=
 dt (ae2 G) (upd r 11 (.int .i64 0)) h (df 0 (dj (ae5 G K) K))
def S112:Prop:=
 o_ G (Instr.box 26 (r 0)) h fun g h=>o_ G (z5_ (r 3) (r 4)) h fun j h=>
 (fun q=>cond j
 (K .ret (u2 q 15 (r 1) 10 (r 1)) h)
 (ae6 G K q h))
 (u5 r 5 g 10 (.slice none 0 0) 12 (r 3) 13 (r 4) 14 j)
theorem aD1:Ent 35 112 [.tmp 10] S112:=ent_ (m:=md112) (c:=(Tryz.f112.body.getD .skip)) (fun _ _ _ _=>by kernel_rfl) Tryz.func112 rfl rfl rfl
def md59:Nat->Hint
 |7=>mh false [0,0,0,4,0,0,32,127,255] [m_,n_,m_,e_,n_,n_,m_,e_,n_] (fs 3++[true]++fs 5) false
 |8=>mh false [0,0,0,0,12,0,32,0,128,511,1023] [m_,n_,m_,m_,e_,n_,m_,n_,m_,e_,n_] (fs 4++[true]++fs 6) false
 |11=>mh false [0,0,0,4,0,31,63] [m_,n_,m_,e_,n_,e_,n_] (fs 3++[true]++fs 3) false
 |_=>mh false [] [] [] false
def aI9:Prop:=
 w_ G h (l_ 26 (r 3)) h fun g h'=>
 w_ G h (l_ 30 (r 4)) h' fun j h'=>
 c_ G 40 #[j] h' fun s h'=>h.le h'/\
 c_ G 112 #[g,(r 7),s,(r 8),(.int .i64 4611686018427387904)] h' fun u h=>
 K .ret (u7 r 43 g 44 (r 7) 45 j 46 s 47 (r 8) 48 u 6 u) h
def Ow:Prop:=
 o_ G (z1_ (r 9) (1:Int)) h fun g h=>
 K .normal (u3 r 15 (r 9) 16 g 9 g) h
def Ox:Prop:=
 o_ G (i_ 40 (r 2) (r 9)) h fun g h=>o_ G (l_ 48 g) h fun j h=>o_ G (Instr.alloc 48 true (.tuple #[])) h fun s h=>
 opH P_ G (su (Instr.storeAt 48 s j)) h fun u h=>
 w_ G h (l_ 26 (r 3)) h fun u h'=>
 w_ G h (l_ 30 (r 4)) h' fun w h'=>
 c_ G 40 #[w] h' fun z h'=>h.le h'/\
 p_ (f_ 48 s 5) h' fun C h'=>
 w_ G h (l_ 3 C) h' fun D h=>
 c_ G 112 #[u,(r 7),z,(r 8),D] h fun E h=>
 w_ G h (l_ 26 (r 3)) h fun F h'=>
 w_ G h (l_ 26 (r 3)) h' fun I h'=>
 w_ G h (l_ 48 s) h' fun J h'=>
 c_ G 48 #[I,J] h' fun L h'=>h.le h'/\
 p_ (f_ 48 s 5) h' fun M h'=>
 w_ G h (l_ 3 M) h' fun N h'=>
 p_ (f_ 48 s 6) h' fun O h'=>
 w_ G h (l_ 3 O) h' fun P h=>
 c_ G 112 #[F,E,L,N,P] h fun Q h=>o_ G (f_ 48 s 4) h fun U h=>o_ G (l_ 30 U) h fun V h=>
 opH P_ G (su (Instr.storeAt 30 (r 4) V)) h fun W h=>o_ G (f_ 48 s 6) h fun W h=>o_ G (l_ 3 W) h fun Y h=>
 Ow G K (u10 (u10 (u10 r 17 (r 2) 18 (r 9) 19 g 20 j 10 s 21 u 22 (r 7) 23 w 24 z 25 (r 8)) 26 C 27 D 28 E 7 E 29 F 30 E 31 I 32 J 33 L 34 M) 35 N 36 O 37 P 38 Q 7 Q 39 U 40 V 41 W 42 Y 8 Y) h
def aI8 (r:Rg) (h:Hp) (K:EK):Prop:=
 o_ G (k_ 40 (r 2)) h fun g h=>o_ G (z2_ (r 9) g) h fun j h=>
 cond j
 (Ox G K (u4 r 11 (r 9) 12 (r 2) 13 g 14 j) h)
 (K (.exit 0) (u4 r 11 (r 9) 12 (r 2) 13 g 14 j) h)
def S59:Prop:=
 o_ G (Instr.box 26 (r 0)) h fun g h=>o_ G (Instr.box 30 (r 1)) h fun j h=>
 dt (aI8 G) (u6 r 3 g 4 j 6 (.slice none 0 0) 7 (.slice none 0 0) 8 (.int .i64 0) 9 (.int .i64 0)) h (df 0 (dj (aI9 G K) K))
theorem enter59:Ent 49 59 [.tmp 6] S59:=ent_ (m:=md59) (c:=(Tryz.f59.body.getD .skip)) (fun _ _ _ _=>by kernel_rfl) Tryz.func59 rfl rfl rfl
end
end Go.Proofs.YtfflipnhffknnaaGreatDoor
end
section
namespace Go.Proofs.YtfflipnhffknnaaGreatDoor
open Go Go.HL Go.Proofs.Resv Go.Proofs.Srch
def bRtW:=jq bC (jq (jq (jq (jq @List.length_nil.{0} @lr) (jq @cf27 @cf76)) (jq (jq @Ho @Qs) (jq @ix40p (jq @ld26 @ld3)))) (jq (jq (jq @ld30 @th) (jq @ld34 (jq @ld35 @ld3p))) (jq (jq @ld40 @ld45) (jq @ln40 (jq @ln40p @true_and)))))
structure Stp where
 x:Int
 y:Int
 k:Int
def stpC:Cod Stp:=⟨3,fun s=>[.int .i64 s.x,.int .i64 s.y,.int .i64 s.k],fun _=>rfl,fun _ v hv=>by simp at hv;rcases hv with rfl|rfl|rfl<;>rfl⟩
def StpB (s:Stp):Prop:=Bd s.x/\Bd s.y
abbrev pcB (p:Pose):Obj := .cells #[p.x,p.y,(east p).1,(east p).2] 28 (0,0)
abbrev Ae (m:Move):Obj := .cells #[m.k,m.d,m.n,m.f.x,m.f.y,.bool m.f.d,m.t.x,m.t.y,.bool m.t.d,m.a,m.e] 48 (0,0)
abbrev endP (p:Pose) (w:List Move):Pose:=yy p w w.length
abbrev endT (t:Int) (w:List Move):Int:=nh t w w.length
def wb (C:Conf) (k:Int) (p:Pose) (t:Int):Move:=⟨k,0,0,p,p,t,sumI t C.ho⟩
def goR (C:Conf) (T:Tb) (rb:Int) (hm:Pose):List Stp->Pose->Int->List Move->Res Move
 |[],p,t,l=>match lg C (some T) rb p t hm false with
  | .ok w => .ok (l++w)
  | .no e => .no e
 |s::S,p,t,l=>match lg C (some T) rb p t ⟨s.x,s.y,false⟩ true with
  | .ok w=>goR C T rb hm S (endP p w) (sumI (endT t w) C.ho) (l++w++[wb C s.k (endP p w) (endT t w)])
  | .no e => .no e
theorem Qo {C:Conf} {T:Tb} {rb t:Int} {hm p:Pose} {l:List Move}:goR C T rb hm [] p t l=match lg C (some T) rb p t hm false with
 | .ok w => .ok (l++w)
 | .no e => .no e:=rfl
theorem Ji {C:Conf} {T:Tb} {rb t:Int} {hm p:Pose} {l:List Move} {s:Stp} {S:List Stp}:goR C T rb hm (s::S) p t l=match lg C (some T) rb p t ⟨s.x,s.y,false⟩ true with
 | .ok w=>goR C T rb hm S (endP p w) (sumI (endT t w) C.ho) (l++w++[wb C s.k (endP p w) (endT t w)])
 | .no e => .no e:=rfl
def Ab (s:Stp):Bool:=s.k==3||s.k==4
def vq (C:Conf) (T:Tb) (rb:Int) (p:Pose) (t:Int) (S:List Stp) (hm:Pose):Res Move:=
 if S.all Ab=true then
  match goR C T rb hm S p t []with
  | .ok l=>if 4096<l.length then .no 2 else .ok l
  | .no e => .no e
 else .no 1
theorem Cn {G h:Hp} {b:Nat} {e:TypeId} {p o:Pose} {K:Unit->Hp->Prop} (hb:h b=some (.cells #[o.x,o.y,.bool o.d] e (0,0))):
 wpH P_ G (Instr.storeAt 30 (.pointer (some ⟨b,0,none⟩)) (.agg #[p.x,p.y,.bool p.d])) h K=K () (h.set b (.cells #[p.x,p.y,.bool p.d] e (0,0))):=by
 rw [uf (l:=[_,_,_]) sz30 hb rfl (by simp) (by intro x hx;simp [nn]at hx;rcases hx with rfl|rfl|rfl<;>rfl)]
 rfl
theorem Nm {G h a:Hp} {R:List Hp} {v x:Value} {L M:List Move} (s:HL.Sep (a::R) h) (o:Slc j9 48 a v L) (src:Dis G h->Sees j9 G h x M) (hl:L.length+M.length<=1000000):
 bn P_ G 76 #[v,x] h (fun u h'=>∃a',Slc j9 48 a' u (L++M)/\HL.Sep (a'::R) h'/\Dis G h'):=by
 refine bn.assume fun d=>enter76 (by simp) ?_
 unfold S76
 simp only [bRtW]
 refine dw j9 (by decide) un40 eomove (by decide) (by decide) s d o (src d) hl fun v' a' h' o' s' d'=>?_
 try simp (disch:=first|decide|omega) only [bRtW,Nat.reduceAdd,Nat.reduceMul]
 exact ⟨a',o',s',d'⟩
theorem regs7 {a b c d e f g i:Value}:regs #[a,b,c,d,e,f,g,i] 7=i:=rfl
structure RdQ where
 C:Conf
 T:Tb
 rb:Int
 vt:Value
 xc:Nat
 xt:Nat
 xr:Nat
 xf:Nat
 xa:Nat
 xe:Nat
 xl:Nat
structure RdW (G:Hp) (q:RdQ) (B:Hp):Prop where
 bc:∃ab cb ap cp ar cr az cs,CA G B q.C ab cb ap cp ar cr az cs/\B q.xc=some (rj q.C ab cb ap cp ar cr az cs)
 bt:B q.xt=some (.cells #[q.vt] 34 (0,0))
 br:B q.xr=some (.cells #[q.rb] 3 (0,0))
 tv:TabV G B q.vt (some q.T)
 mk_:dv q.C
 hro:∀p∈q.C.ro,PB p
 fit:Fit0 q.C
 hbu:q.C.bu<=4000
def RdSt (G:Hp) (q:RdQ) (B:Hp) (p:Pose) (t e:Int) (l:List Move) (h:Hp):Prop:=∃vl ip,Slc j9 48 ip vl l/\
 HL.Sep [noHp.set q.xf (ij p),noHp.set q.xa (.cells #[t] 3 (0,0)),noHp.set q.xe (.cells #[e] 35 (0,0)),noHp.set q.xl (.cells #[vl] 40 (0,0)),ip,B] h/\Dis G h
theorem ai7 {p:Pose} {w:List Move} {m:Move} (hm:w[w.length-1]?=some m) (hw:w≠[]):endP p w=m.t:=by
 have:=List.length_pos_iff.2 hw
 unfold endP
 obtain ⟨n,hn⟩:∃n,w.length=n+1:=⟨w.length-1,by omega⟩
 rw [hn]at hm ⊢
 show (w.getD n zM).t=m.t
 rw [List.getD_eq_getElem?_getD,show n=n+1-1 from rfl,hm];rfl
theorem M7 {t:Int} {w:List Move} {m:Move} (hm:w[w.length-1]?=some m) (hw:w≠[]):endT t w=m.e:=by
 have:=List.length_pos_iff.2 hw
 unfold endT
 obtain ⟨n,hn⟩:∃n,w.length=n+1:=⟨w.length-1,by omega⟩
 rw [hn]at hm ⊢
 show (w.getD n zM).e=m.e
 rw [List.getD_eq_getElem?_getD,show n=n+1-1 from rfl,hm];rfl
theorem sub1r {n:Nat} (h:0<n):((n:Int)-1)=((n-1:Nat):Int):=by omega
theorem Yb {G h B:Hp} {q:RdQ} (st:jy G) (w:RdW G q B) {p gp:Pose} {t e:Int} {l:List Move} {any:Bool} (pp:PB p) (pg:PB gp) (hl:l.length<=890000) (s:RdSt G q B p t e l h):
 bn P_ G 75 #[.agg #[gp.x,gp.y,.bool gp.d,.bool any],.pointer (some ⟨q.xc,0,none⟩),.pointer (some ⟨q.xt,0,none⟩),.pointer (some ⟨q.xr,0,none⟩),.pointer (some ⟨q.xf,0,none⟩),.pointer (some ⟨q.xa,0,none⟩),.pointer (some ⟨q.xe,0,none⟩),.pointer (some ⟨q.xl,0,none⟩)] h
  (fun u h'=>(∃w,lg q.C (some q.T) q.rb p t gp any = .ok w/\w.length<=110000/\u = .bool true/\RdSt G q B (endP p w) (endT t w) 0 (l++w) h')\/
   ∃e',lg q.C (some q.T) q.rb p t gp any = .no e'/\u = .bool false/\RdSt G q B p t e' l h'):=by
 obtain ⟨C,T,rb,vt,xc,xt,xr,xf,xa,xe,xl⟩:=q
 obtain ⟨⟨ab,cb,ap,cp',ar,cr,az,cs,ca,bc⟩,bt,br,tv,mk,hro,fit,hbu⟩:=w
 obtain ⟨vl,ip,sl,s,d⟩:=s
 obtain ⟨la,lc,rfl,_⟩:=id (sl.len (by decide))
 simp only at*
 refine enter75 (by simp) ?_
 unfold S75
 simp only [bRtW]
 intro y hy gy
 have s1:=s.past (o := .cells #[gp.x,gp.y,.bool gp.d,.bool any] 45 (0,0)) hy
 generalize e1:Hp.set h y _=h1 at*
 obtain ⟨l1,d1,by1⟩:=boxed e1 hy d gy
 have lB:=s1.in 5 rfl
 have cc:∀k,bf G h1 ⟨xc,k,none⟩=_:=fun k=>bm (bk (lB _ _ bc))
 have ct:∀k,bf G h1 ⟨xt,k,none⟩=_:=fun k=>bm (bk (lB _ _ bt))
 have cr':∀k,bf G h1 ⟨xr,k,none⟩=_:=fun k=>bm (bk (lB _ _ br))
 have cf:∀k,bf G h1 ⟨xf,k,none⟩=_:=fun k=>bm (bk (s1.at 0 rfl bj))
 have ca':∀k,bf G h1 ⟨xa,k,none⟩=_:=fun k=>bm (bk (s1.at 1 rfl bj))
 have cy:∀k,bf G h1 ⟨y,k,none⟩=_:=fun k=>bm (bk by1)
 try simp only [bRtW,cc,ct,cr',cf,ca',cy]
 refine (al7 (To:=some T) (p:=p) (gp:=gp) (rb:=rb) (t:=t) (any:=any) mk (ca.up lB d1).cv st hro fit hbu (tv.up lB d1) pp pg).mono ?_
 rintro _ h2 ⟨ip2,vs2,rfl,sl2,ll2,sm2,d2⟩
 have s2:=sm2.swap.open s1
 generalize hW:lg C (some T) rb p t gp any=W at*
 try simp only [bRtW]
 have be2:=s2.at 2 rfl bj
 rw [dr sz35 rfl be2 (by simp)]
 have s3:=(s2.sel (L':=[noHp.set xe (.cells #[e] 35 (0,0)),noHp.set xf (ij p),noHp.set xa (.cells #[t] 3 (0,0)),noHp.set xl (.cells #[.slice la l.length lc] 40 (0,0)),ip,B,ip2]) [2,0,1,3,4,5,6] (by decide) rfl).put (o := .cells #[(outE W)] 35 (0,0)) bj
 rw [set_set]at s3
 have d3:=d2.set (o := .cells #[(outE W)] 35 (0,0)) (d2 _ _ be2)
 simp only [List.set_cons_zero]
 generalize Hp.set h2 xe _=h3 at*
 have s3':=s3
 have ce:∀k,bf G h3 ⟨xe,k,none⟩=_:=fun k=>bm (bk (s3'.at 0 rfl bj))
 try simp only [bRtW,ce]
 cases W with
 |no e'=>
  have hne:e'≠0:=by
   obtain ⟨_,_,_,gT,_⟩:=tv
   have:=sn mk gT hW
   omega
  try simp only [bRtW,show outE (Res.no (M:=Move) e')=e' from rfl,show (e' != 0)=true by simp [hne]]
  exact .inr ⟨e',rfl,_,ip,sl,s3'.sel [1,2,0,3,4,5] (by decide) rfl,d3⟩
 |ok w=>
  replace sl2:Slc j9 48 ip2 vs2 w:=sl2
  replace ll2:w.length<=110000:=ll2
  try simp only [bRtW,show outE (Res.ok w)=0 from rfl,show ((0:Int) != 0)=false from rfl]
  unfold aI1
  have cl:∀k,bf G h3 ⟨xl,k,none⟩=_:=fun k=>bm (bk (s3'.at 3 rfl bj))
  obtain ⟨wa,wc,rfl,_⟩:=id (sl2.len (by decide))
  try simp (disch:=first|decide|omega) only [bRtW,regs7,cl]
  refine (Nm (s3'.sel (L':=[ip,noHp.set xe (.cells #[(0:Int)] 35 (0,0)),noHp.set xf (ij p),noHp.set xa (.cells #[t] 3 (0,0)),noHp.set xl (.cells #[.slice la l.length lc] 40 (0,0)),B,ip2]) [4,0,1,2,3,5,6] (by decide) rfl) sl (fun _=>sl2.see (by decide) (s3'.in 6 rfl)) (by show l.length+w.length<=_;omega)).mono ?_
  rintro v4 h4 ⟨ip4,sl4,s4,d4⟩
  obtain ⟨xa4,xc4,rfl,_⟩:=id (sl4.len (by decide))
  try simp (disch:=first|decide|omega) only [bRtW,Nat.reduceAdd,Nat.reduceMul]
  have bl4:=s4.at 4 rfl bj
  rw [dr sz40 rfl bl4 (by simp)]
  simp only [List.set_cons_zero]
  have s5:=(s4.sel (L':=[noHp.set xl (.cells #[.slice la l.length lc] 40 (0,0)),noHp.set xe (.cells #[(0:Int)] 35 (0,0)),noHp.set xf (ij p),noHp.set xa (.cells #[t] 3 (0,0)),ip4,B,ip2]) [4,1,2,3,0,5,6] (by decide) rfl).put (o := .cells #[.slice xa4 (l++w).length xc4] 40 (0,0)) bj
  rw [set_set]at s5
  have d5:=d4.set (o := .cells #[.slice xa4 (l++w).length xc4] 40 (0,0)) (d4 _ _ bl4)
  generalize e5:Hp.set h4 xl _=h5 at*
  try simp (disch:=first|decide|omega) only [bRtW,Nat.reduceAdd,Nat.reduceMul]
  by_cases hw:w=[]
  . subst hw
    try simp only [bRtW]
    unfold Rl
    try simp only [bRtW]
    exact .inl ⟨[],rfl,by simp,_,ip4,by simpa using sl4,s5.sel [2,3,1,0,4,5] (by decide) rfl,d5⟩
  have hwl:=List.length_pos_iff.2 hw
  obtain ⟨m,hm⟩:∃m,w[w.length-1]?=some m:=⟨_,List.getElem?_eq_getElem (by omega)⟩
  have see2:Sees j9 G ip2 (.slice wa w.length wc) w:=sl2.see (by decide) (Hp.le.refl _)
  obtain ⟨b,o,rfl,y0,y1,y2,y3,y4,y5,y6,y7,y8,y9,y10⟩:=Sees.mvx see2 hm
  try simp (disch:=first|decide|omega) only [bRtW,li (show (w.length:Int)>0 by omega)]
  refine ⟨ip2,s5.in 6 rfl,?_⟩
  try simp only [bRtW,sub1r hwl,ix40p (Int.natCast_nonneg (w.length-1)) (show ((w.length-1:Nat):Int)<w.length by omega),y6,y7,y8,y10]
  have bf5:=s5.at 2 rfl bj
  rw [Cn (p:=m.t) bf5]
  have s6:=(s5.sel (L':=[noHp.set xf (ij p),noHp.set xl (.cells #[.slice xa4 (l++w).length xc4] 40 (0,0)),noHp.set xe (.cells #[(0:Int)] 35 (0,0)),noHp.set xa (.cells #[t] 3 (0,0)),ip4,B,ip2]) [2,0,1,3,4,5,6] (by decide) rfl).put (o:=ij m.t) bj
  rw [set_set]at s6
  have d6:=d5.set (o:=ij m.t) (d5 _ _ bf5)
  generalize e6:Hp.set h5 xf _=h6 at*
  refine ⟨s6.in 6 rfl,?_⟩
  try simp (disch:=first|decide|omega) only [bRtW,Nat.reduceAdd,Nat.reduceMul]
  have ba6:=s6.at 3 rfl bj
  rw [dr sz3 rfl ba6 (by simp)]
  simp only [List.set_cons_zero]
  have s7:=(s6.sel (L':=[noHp.set xa (.cells #[t] 3 (0,0)),noHp.set xf (ij m.t),noHp.set xl (.cells #[.slice xa4 (l++w).length xc4] 40 (0,0)),noHp.set xe (.cells #[(0:Int)] 35 (0,0)),ip4,B,ip2]) [3,0,1,2,4,5,6] (by decide) rfl).put (o := .cells #[m.e] 3 (0,0)) bj
  rw [set_set]at s7
  have d7:=d6.set (o := .cells #[m.e] 3 (0,0)) (d6 _ _ ba6)
  try simp (disch:=first|decide|omega) only [bRtW,Nat.reduceAdd,Nat.reduceMul]
  unfold Rl
  try simp only [bRtW]
  refine .inl ⟨w,rfl,ll2,_,ip4,sl4,?_,d7⟩
  rw [ai7 hm hw,M7 hm hw]
  exact s7.sel [1,0,3,2,4,5] (by decide) rfl
def gg:=jq bC (jq (jq (jq (jq (jq @al28 @al48) (jq @al71 @Gv)) (jq (jq @tr @J3) (jq @xu @pu))) (jq (jq (jq @cf87 @cf88) (jq @cf89 @cf90)) (jq (jq @Ho @Y7) (jq @Qs @ld28)))) (jq (jq (jq (jq @vg @ld30) (jq @th @ld3p)) (jq (jq @ld48 @Tx) (jq @ld68 @Nj))) (jq (jq (jq @ld71 @ld71p) (jq @ln22 @ln40)) (jq (jq @mo @jt) (jq @Mr @Ih)))))
theorem Zt:gi P_ 75 Rv.j5.n 24:=eo75
def qd (w k:Nat) (cells:List Cell) (a b:Int):List Want:=if a>=b then []else cells.map fun c=>⟨numI w k c,a,b⟩
def HdSt (G B:Hp) (xl:Nat) (l:List Want) (h:Hp):Prop:=∃vl ip,Slc Rv.j5 75 ip vl l/\HL.Sep [noHp.set xl (.cells #[vl] 71 (0,0)),ip,B] h/\Dis G h
theorem Fl {G h B:Hp} {g cv:Value} {w k xl xg:Nat} {f:Nat->Nat->Int} {cells:List Cell} {a b:Int} {l:List Want} (gs:GS G B g w k f) (bg:B xg=some (.cells #[g] 68 (0,0))) (sc:Sees du G B cv cells) (s:HdSt G B xl l h) (hl:l.length+cells.length<=1000000000):
 bn P_ G 87 #[cv,a,b,.pointer (some ⟨xl,0,none⟩),.pointer (some ⟨xg,0,none⟩)] h (fun u h'=>HdSt G B xl (l++qd w k cells a b) h'):=by
 obtain ⟨sa,scap,rfl,_⟩:=id sc
 refine enter87 (by simp) ?_
 unfold S87
 simp only [gg]
 refine ci (fun hge=>?_) (fun hlt=>?_)
 . try simp (disch:=first|decide|omega) only [gg,Nat.reduceAdd,Nat.reduceMul]
   unfold qd
   rw [if_pos hge,List.append_nil]
   exact s
 unfold aH0
 try simp (disch:=decide) only [gg]
 generalize hKK:retK P_ G _ _=KK
 have hpw:qd w k cells a b=cells.map fun c=>⟨numI w k c,a,b⟩:=by unfold qd;exact if_neg hlt
 refine dp (fun m r h'=>∃i:Nat,m=cells.length-i/\i<=cells.length/\r 1 = .int .i64 a/\r 2 = .int .i64 b/\r 3 = .pointer (some ⟨xl,0,none⟩)/\r 4 = .pointer (some ⟨xg,0,none⟩)/\r 13 = .slice sa cells.length scap/\r 14 = .int .i64 cells.length/\r 15 = .int .i64 i/\HdSt G B xl (l++(cells.take i).map fun c=>⟨numI w k c,a,b⟩) h') ?_ (m:=cells.length)
  ⟨0,rfl,Nat.zero_le _,by simp (disch:=decide) only [gg],by simp (disch:=decide) only [gg],by simp (disch:=decide) only [gg],by simp (disch:=decide) only [gg],by simp (disch:=decide) only [gg],by simp (disch:=decide) only [gg]<;>rfl,by simp only [gg]<;>rfl,by simpa using s⟩
 clear s
 rintro m r h1 ⟨i,rfl,hi,r1,r2,r3,r4,r13,r14,r15,vl,ip,sl,s,d⟩ X hX
 unfold aG9
 simp only [gg,r14,r15]
 refine ci (fun hlt=>?_) (fun hge=>?_)
 rotate_left
 . obtain rfl:i=cells.length:=by omega
   rw [List.take_length]at sl
   try simp (disch:=first|decide|omega) only [gg,Nat.reduceAdd,Nat.reduceMul]
   rw [<- hKK]
   try simp only [gg]
   rw [hpw]
   exact ⟨vl,ip,sl,s,d⟩
 obtain ⟨c,hc⟩:∃c,cells[i]?=some c:=⟨_,List.getElem?_eq_getElem (by omega)⟩
 obtain ⟨b1,o1,rfl,e1,e2⟩:=Sees.cell (sc.up (s.in 2 rfl) d) hc
 obtain ⟨la,lc,rfl,_⟩:=id (sl.len (by decide))
 unfold Of
 try simp (disch:=first|decide|exact bv|exact bo|omega|rfl) only [gg,r13,r15,ix22 (Int.natCast_nonneg i) hlt,e1,e2]
 intro x hx gx
 have s1:=s.new (o:=N5 c) hx
 have d1:=d.set (o:=N5 c) gx
 try simp (disch:=first|decide|omega) only [gg,Nat.reduceAdd,Nat.reduceMul]
 generalize Hp.set h1 x _=h2 at*
 have cx:∀j,bf G h2 ⟨x,j,none⟩=_:=fun j=>bm (bk (s1.at 0 rfl bj))
 have cl:∀j,bf G h2 ⟨xl,j,none⟩=_:=fun j=>bm (bk (s1.at 1 rfl bj))
 have cg:∀j,bf G h2 ⟨xg,j,none⟩=_:=fun j=>bm (bk (s1.at 3 rfl bg))
 try simp only [gg,r1,r2,r3,r4,cx,cl,cg]
 refine (pa (c:=c) (gs.up (s1.in 3 rfl) d1)).mono ?_
 rintro _ h2 ⟨rfl,rfl⟩
 refine ⟨Hp.le.refl _,?_⟩
 try simp only [gg,r1,r2]
 intro y hy gy
 have s2:=s1.new (o := .cells #[(numI w k c),a,b] 75 (0,0)) hy
 have d2:=d1.set (o := .cells #[(numI w k c),a,b] 75 (0,0)) gy
 try simp (disch:=first|decide|omega) only [gg,Nat.reduceAdd,Nat.reduceMul]
 generalize Hp.set h2 y _=h3 at*
 have hlen:(l++(cells.take i).map fun c=>(⟨numI w k c,a,b⟩:Want)).length=l.length+i:=by
  rw [List.length_append,List.length_map,List.length_take,Nat.min_eq_left hi]
 refine pi Rv.j5 (by decide) (M:=[(⟨numI w k c,a,b⟩:Want)]) un71 Zt (by decide) (s2.sel (L':=[ip,noHp.set y _,noHp.set x _,noHp.set xl _,B]) [3,0,1,2,4] (by decide) rfl) d2 sl (Sees.row (c:=Rv.j5) (L:=[(⟨numI w k c,a,b⟩:Want)]) (s2.at 0 rfl bj) rfl (Nat.le_refl _)) (by rw [hlen,List.length_singleton];omega) fun v4 i4 h4 o4 s4 d4=>?_
 obtain ⟨la4,lc4,rfl,_⟩:=id (o4.len (by decide))
 have bl4:=s4.at 3 rfl bj
 try simp (disch:=first|decide|omega) only [gg,Nat.reduceAdd,Nat.reduceMul,r3]
 rw [dr sz71 rfl bl4 (by simp)]
 simp only [List.set_cons_zero]
 have s5:=(s4.sel [3,0,4] (by decide) rfl).put (o := .cells #[.slice la4 (l++(cells.take i).map (fun c=>(⟨numI w k c,a,b⟩:Want))++[(⟨numI w k c,a,b⟩:Want)]).length lc4] 71 (0,0)) bj
 rw [set_set]at s5
 have d5:=d4.set (o := .cells #[.slice la4 (l++(cells.take i).map (fun c=>(⟨numI w k c,a,b⟩:Want))++[(⟨numI w k c,a,b⟩:Want)]).length lc4] 71 (0,0)) (d4 _ _ bl4)
 try simp (disch:=first|decide|omega) only [gg,Nat.reduceAdd,Nat.reduceMul]
 unfold Oe
 try simp (disch:=first|decide|omega) only [gg,r15]
 have et:l++(cells.take (i+1)).map (fun c=>(⟨numI w k c,a,b⟩:Want))=l++(cells.take i).map (fun c=>(⟨numI w k c,a,b⟩:Want))++[⟨numI w k c,a,b⟩]:=by
  rw [List.take_add_one,hc,List.map_append,List.append_assoc];rfl
 exact hX (cells.length-(i+1)) _ _ (by omega) ⟨i+1,rfl,by omega,by simp (disch:=decide) only [gg,r1],by simp (disch:=decide) only [gg,r2],by simp (disch:=decide) only [gg,r3],by simp (disch:=decide) only [gg,r4],by simp (disch:=decide) only [gg,r13],by simp (disch:=decide) only [gg,r14],by simp only [gg]<;>rfl,by rw [et];exact ⟨_,i4,o4,s5,d5⟩⟩
def m7 (w k:Nat) (f:Nat->Nat->Int):Pose->Int->List Move->List Want
 |p,t,[]=>qd w k (cj p) t FV
 |p,t,m::M=>qd w k (cj p) t m.a++qd w k (i7 w k f m) m.a m.e++m7 w k f m.t m.e M
theorem si {w k:Nat} {L:List Cell} {a b:Int}:(qd w k L a b).length<=L.length:=by
 unfold qd
 split
 . simp
 . rw [List.length_map];exact Nat.le_refl _
theorem uz {G h:Hp} {b:Nat} {p:Pose} (hb:h b=some (pcB p)):Sees du G h (.slice (some ⟨b,0,none⟩) 2 2) (cj p):=
 Sees.row (c:=du) (L:=cj p) hb rfl (Nat.le_refl _)
theorem Wp {G h:Hp} {g mv:Value} {w k:Nat} {f:Nat->Nat->Int} {p:Pose} {M:List Move} (gs:GS G h g w k f) (st:jy G) (pp:PB p) (sm:Sees j9 G h mv M) (hM:∀m∈M,MB m/\PB m.t) (hml:M.length<=1000000):
 bn P_ G 39 #[g,ld p,mv] h (fun u h'=>∃ip,Slc Rv.j5 75 ip u (m7 w k f p 0 M)/\(m7 w k f p 0 M).length<=M.length*258+2/\HL.Sep [ip,h] h'/\Dis G h'):=by
 obtain ⟨sa,sc,rfl,_⟩:=id sm
 obtain ⟨gp,gkb,rfl,_⟩:=id gs.ex
 refine bn.assume fun d=>enter39 (by simp) ?_
 unfold S39
 simp only [gg]
 intro xg hxg gxg
 have s1:=(HL.Sep.one (h:=h)).grow (o := .cells #[.pointer (some ⟨gp,0,none⟩)] 68 (0,0)) hxg
 have lB:h.le (h.set xg (.cells #[.pointer (some ⟨gp,0,none⟩)] 68 (0,0))):=dl hxg
 have bg:(h.set xg (.cells #[.pointer (some ⟨gp,0,none⟩)] 68 (0,0))) xg=some (.cells #[.pointer (some ⟨gp,0,none⟩)] 68 (0,0)):=bj
 have dB:Dis G (h.set xg (.cells #[.pointer (some ⟨gp,0,none⟩)] 68 (0,0))):=d.set gxg
 generalize h.set xg (.cells #[.pointer (some ⟨gp,0,none⟩)] 68 (0,0))=B at*
 intro xp hxp gxp
 have s2:=s1.new (o:=ij p) hxp
 have d2:=dB.set (o:=ij p) gxp
 generalize Hp.set B xp _=h2 at*
 intro xl hxl gxl
 have s3:=s2.new (o := .cells #[.slice none 0 0] 71 (0,0)) hxl
 have d3:=d2.set (o := .cells #[.slice none 0 0] 71 (0,0)) gxl
 try simp (disch:=first|decide|omega) only [gg,Nat.reduceAdd,Nat.reduceMul]
 generalize Hp.set h2 xl _=h3 at*
 have gsB:=gs.up lB dB
 have w16:=gs.w2
 have k16:=gs.k2
 generalize hKK:retK P_ G _ _=KK
 refine dp (fun m r h'=>∃(i:Nat) (pz:Pose) (tz:Int) (l:List Want) (vl:Value) (ip:Hp),m=M.length-i/\i<=M.length/\r 3 = .pointer (some ⟨xg,0,none⟩)/\r 4 = .pointer (some ⟨xp,0,none⟩)/\r 7 = .pointer (some ⟨xl,0,none⟩)/\r 8 = .func (.func 87) #[] #[.pointer (some ⟨xl,0,none⟩),.pointer (some ⟨xg,0,none⟩)]/\r 9 = .int .i64 tz/\r 13 = .slice sa M.length sc/\r 14 = .int .i64 M.length/\r 15 = .int .i64 i/\PB pz/\
  Slc Rv.j5 75 ip vl l/\l.length<=i*258/\HL.Sep [noHp.set xl (.cells #[vl] 71 (0,0)),ip,noHp.set xp (ij pz),B] h'/\Dis G h'/\l++m7 w k f pz tz (M.drop i)=m7 w k f p 0 M) ?_ (m:=M.length)
  ⟨0,p,0,[],_,noHp,rfl,Nat.zero_le _,by simp (disch:=decide) only [gg],by simp (disch:=decide) only [gg],by simp (disch:=decide) only [gg],by simp (disch:=decide) only [gg],by simp (disch:=decide) only [gg]<;>rfl,by simp (disch:=decide) only [gg]<;>rfl,by simp (disch:=decide) only [gg]<;>rfl,by simp only [gg]<;>rfl,pp,Slc.nil,by simp,s3.none.sel [1,0,2,3] (by decide) rfl,d3,by simp⟩
 clear s3 s2 s1
 rintro m r h4 ⟨i,pz,tz,l,vl,ip,rfl,hi,r3,r4,r7,r8,r9,r13,r14,r15,ppz,sl,hll,s,d4,hgo⟩ X hX
 have hi2:i*258<=1000000*258:=Nat.mul_le_mul_right _ (by omega)
 unfold aL4
 simp only [gg,r14,r15]
 refine ci (fun hlt=>?_) (fun hge=>?_)
 rotate_left
 . obtain rfl:i=M.length:=by omega
   rw [List.drop_length]at hgo
   try simp (disch:=first|decide|omega) only [gg,Nat.reduceAdd,Nat.reduceMul]
   unfold aL5
   have cg:∀j,bf G h4 ⟨xg,j,none⟩=_:=fun j=>bm (bk (s.at 3 rfl bg))
   have cp:∀j,bf G h4 ⟨xp,j,none⟩=_:=fun j=>bm (bk (s.at 2 rfl bj))
   try simp (disch:=decide) only [gg,r3,r4,r8,r9,cg,cp]
   refine (nx (p:=pz) st ppz (g := .pointer (some ⟨gp,0,none⟩))).mono ?_
   rintro _ h5 ⟨b,rfl,hb,gb,rfl⟩
   have s5:=(s.sel [3,0,1,2] (by decide) rfl).grow (o := .cells #[pz.x,pz.y,(east pz).1,(east pz).2] 28 (0,0)) hb
   have d5:=d4.set (o := .cells #[pz.x,pz.y,(east pz).1,(east pz).2] 28 (0,0)) gb
   have lQ:B.le (B.set b (pcB pz)):=dl ((s.in 3 rfl).none hb)
   have bQ:(B.set b (pcB pz)) b=some (pcB pz):=bj
   generalize Hp.set h4 b _=h5 at*
   generalize B.set b (pcB pz)=Q at*
   have dQ:Dis G Q:=fun y o hy=>d5 y o (s5.hd _ _ hy)
   try simp (disch:=first|decide|omega) only [gg,Nat.reduceAdd,Nat.reduceMul]
   refine (Fl (xl:=xl) (xg:=xg) (l:=l) (a:=tz) (b:=4611686018427387904) (cells:=cj pz) (gsB.up lQ dQ) (lQ _ _ bg) (uz bQ) ⟨vl,ip,sl,s5.sel [1,2,0] (by decide) rfl,d5⟩ (by show l.length+2<=_;omega)).mono ?_
   rintro u6 h6 ⟨vl6,ip6,sl6,s6,d6⟩
   have cl:∀j,bf G h6 ⟨xl,j,none⟩=_:=fun j=>bm (bk (s6.at 0 rfl bj))
   try simp only [gg,r7,cl]
   rw [<- hKK]
   obtain ⟨la,lc,rfl,_⟩:=id (sl6.len (by decide))
   try simp only [gg]
   have hgo':l++qd w k (cj pz) tz 4611686018427387904=m7 w k f p 0 M:=hgo
   rw [hgo']at sl6
   refine ⟨ip6,by rw [hgo'];exact sl6,?_,((s6.sel (L':=[Q,ip6]) [2,1] (by decide) rfl).cut (lB.trans lQ)).swap,d6⟩
   rw [<- hgo',List.length_append]
   have:=si (w:=w) (k:=k) (L:=cj pz) (a:=tz) (b:=4611686018427387904)
   have e2:(cj pz).length=2:=rfl
   omega
 obtain ⟨z,hz⟩:∃z,M[i]?=some z:=⟨_,List.getElem?_eq_getElem (by omega)⟩
 obtain ⟨zb,zt⟩:=hM z (List.mem_of_getElem? hz)
 have hdrop:M.drop i=z::M.drop (i+1):=by
  rw [List.drop_eq_getElem_cons (by omega)]
  congr 1
  exact Option.some.inj ((List.getElem?_eq_getElem (by omega)).symm.trans hz)
 rw [hdrop]at hgo
 obtain ⟨b,o,rfl,y0,y1,y2,y3,y4,y5,y6,y7,y8,y9,y10⟩:=Sees.mvx (sm.up (lB.trans (s.in 3 rfl)) d4) hz
 unfold Pb
 try simp (disch:=first|decide|exact bv|exact bo|omega|rfl) only [gg,Nat.reduceAdd,r13,r15,ix40 (Int.natCast_nonneg i) hlt,y0,y1,y2,y3,y4,y5,y6,y7,y8,y9,y10]
 intro x hx gx
 have s5:=(s.sel [3,0,1,2] (by decide) rfl).grow (o := .cells #[z.k,z.d,z.n,z.f.x,z.f.y,.bool z.f.d,z.t.x,z.t.y,.bool z.t.d,z.a,z.e] 48 (0,0)) hx
 have d5:=d4.set (o := .cells #[z.k,z.d,z.n,z.f.x,z.f.y,.bool z.f.d,z.t.x,z.t.y,.bool z.t.d,z.a,z.e] 48 (0,0)) gx
 have lQ:B.le (B.set x (Ae z)):=dl ((s.in 3 rfl).none hx)
 have bQ:(B.set x (Ae z)) x=some (Ae z):=bj
 try simp (disch:=first|decide|omega) only [gg,Nat.reduceAdd,Nat.reduceMul]
 generalize Hp.set h4 x _=h5 at*
 generalize B.set x (Ae z)=Q at*
 have cxQ:∀{h':Hp},Q.le h'->∀j,bf G h' ⟨x,j,none⟩=_:=fun l j=>bm (bk (l _ _ bQ))
 have cgQ:∀{h':Hp},Q.le h'->∀j,bf G h' ⟨xg,j,none⟩=_:=fun l j=>bm (bk (l _ _ (lQ _ _ bg)))
 have cp5:∀j,bf G h5 ⟨xp,j,none⟩=_:=fun j=>bm (bk (s5.at 3 rfl bj))
 refine ⟨h5,Hp.le.refl _,?_⟩
 try simp only [gg,r3,r4,cgQ (s5.in 0 rfl),cp5]
 refine (nx (p:=pz) st ppz (g := .pointer (some ⟨gp,0,none⟩))).mono ?_
 rintro _ h6 ⟨b6,rfl,hb6,gb6,rfl⟩
 refine ⟨dl hb6,?_⟩
 have s6:=s5.grow (o := .cells #[pz.x,pz.y,(east pz).1,(east pz).2] 28 (0,0)) hb6
 have d6:=d5.set (o := .cells #[pz.x,pz.y,(east pz).1,(east pz).2] 28 (0,0)) gb6
 have lU:Q.le (Q.set b6 (pcB pz)):=dl ((s5.in 0 rfl).none hb6)
 have bU:(Q.set b6 (pcB pz)) b6=some (pcB pz):=bj
 try simp only [gg,r8,r9,cxQ (s5.in 0 rfl)]
 generalize Hp.set h5 b6 _=h6 at*
 generalize Q.set b6 (pcB pz)=U at*
 obtain ⟨V,sV,tV⟩:=HL.Sep.pack [U,noHp.set xp (ij pz)] (R:=[noHp.set xl (.cells #[vl] 71 (0,0)),ip]) (s6.sel [0,3,1,2] (by decide) rfl)
 have dV:Dis G V:=fun y o hy=>d6 y o (sV.hd _ _ hy)
 refine (Fl (xl:=xl) (xg:=xg) (l:=l) (a:=tz) (b:=z.a) (cells:=cj pz) (gsB.up (lQ.trans (lU.trans (tV.in 0 rfl))) dV) (tV.at 0 rfl (lU _ _ (lQ _ _ bg))) (uz (tV.at 0 rfl bU)) ⟨vl,ip,sl,sV.sel [1,2,0] (by decide) rfl,d6⟩ (by show l.length+2<=_;omega)).mono ?_
 rintro u7 h7 ⟨vl7,ip7,sl7,s7,d7⟩
 have p1:=si (w:=w) (k:=k) (L:=cj pz) (a:=tz) (b:=z.a)
 have e2:(cj pz).length=2:=rfl
 refine ⟨h7,Hp.le.refl _,?_⟩
 have lQV:Q.le V:=lU.trans (tV.in 0 rfl)
 try simp only [gg,r3,cgQ (lQV.trans (s7.in 2 rfl)),cxQ (lQV.trans (s7.in 2 rfl))]
 refine (H8 (m:=z) (gsB.up (lQ.trans (lQV.trans (s7.in 2 rfl))) d7) st zb).mono ?_
 rintro v8 h8 ⟨ip8,sl8,s8,d8⟩
 refine ⟨s8.in 1 rfl,?_⟩
 obtain ⟨a8,c8,rfl,_⟩:=id (sl8.len (by decide))
 have s9:=s8.swap.open s7
 try simp (disch:=first|decide|omega) only [gg,Nat.reduceAdd,Nat.reduceMul,r8,cxQ (lQV.trans (s7.in 2 rfl))]
 obtain ⟨Y,sY,tY⟩:=HL.Sep.pack [V,ip8] (R:=[noHp.set xl (.cells #[vl7] 71 (0,0)),ip7]) (s9.sel [2,3,0,1] (by decide) rfl)
 have dY:Dis G Y:=fun y o hy=>d8 y o (sY.hd _ _ hy)
 have hsw:(i7 w k f z).length<=256:=by
  unfold i7
  split
  . exact Cm w16 k16
  . simp
 refine (Fl (xl:=xl) (xg:=xg) (l:=l++qd w k (cj pz) tz z.a) (a:=z.a) (b:=z.e) (cells:=i7 w k f z) (gsB.up (lQ.trans (lQV.trans (tY.in 0 rfl))) dY) (tY.at 0 rfl (lQV _ _ (lQ _ _ bg))) (sl8.see (by decide) (tY.in 1 rfl)) ⟨vl7,ip7,sl7,sY.sel [1,2,0] (by decide) rfl,d8⟩ (by rw [List.length_append];omega)).mono ?_
 rintro u10 h10 ⟨vl10,ip10,sl10,s10,d10⟩
 have p2:=si (w:=w) (k:=k) (L:=i7 w k f z) (a:=z.a) (b:=z.e)
 have s11:=(s10.sel (L':=[Y,noHp.set xl (.cells #[vl10] 71 (0,0)),ip10]) [2,0,1] (by decide) rfl)
 have s12:=(s11.cut (tY.in 0 rfl))
 have s13:=HL.Sep.open (L:=[U,noHp.set xp (ij pz)]) s12 tV
 refine ⟨U,s13.in 0 rfl,?_⟩
 try simp only [gg,r4,cxQ lU]
 have bp:=s13.at 1 rfl bj
 rw [Cn (p:=z.t) bp]
 have s14:=(s13.sel (L':=[noHp.set xp (ij pz),U,noHp.set xl (.cells #[vl10] 71 (0,0)),ip10]) [1,0,2,3] (by decide) rfl).put (o:=ij z.t) bj
 rw [set_set]at s14
 have d14:=d10.set (o:=ij z.t) (d10 _ _ bp)
 refine ⟨s14.in 1 rfl,?_⟩
 try simp (disch:=first|decide|omega) only [gg,Nat.reduceAdd,Nat.reduceMul]
 unfold Pa
 try simp (disch:=first|decide|omega) only [gg,r15]
 refine hX (M.length-(i+1)) _ _ (by omega) ⟨i+1,z.t,z.e,_,vl10,ip10,rfl,by omega,by simp (disch:=decide) only [gg,r3],by simp (disch:=decide) only [gg,r4],by simp (disch:=decide) only [gg,r7],by simp (disch:=decide) only [gg,r8],by simp (disch:=decide) only [gg],by simp (disch:=decide) only [gg,r13],by simp (disch:=decide) only [gg,r14],by simp only [gg]<;>rfl,zt,sl10,?_,((s14.sel (L':=[U,noHp.set xl (.cells #[vl10] 71 (0,0)),ip10,noHp.set xp (ij z.t)]) [1,2,3,0] (by decide) rfl).cut (lQ.trans lU)).sel [1,2,3,0] (by decide) rfl,d14,?_⟩
 . rw [List.length_append,List.length_append,Nat.add_mul];omega
 . rw [<- hgo]
   show l++_++_++_=l++(_++_++_)
   rw [List.append_assoc,List.append_assoc,List.append_assoc]
section
variable {C:Conf}
def oneR (C:Conf) (p:Pose) (t:Int) (m:Move):Bool:=decide (m.f=p)&&(decide (t<=m.a)&&(decide (m.a<m.e)&&(decide (m.e<FV)&&(fe C m&&decide (m.e=m.a+jc C m)))))
def rc (C:Conf):Pose->Int->List Move->Bool
 |_,_,[]=>true
 |p,t,m::M=>oneR C p t m&&rc C m.t m.e M
theorem vd {p:Pose} {t:Int} {m:Move} {M:List Move}:rc C p t (m::M)=(oneR C p t m&&rc C m.t m.e M):=rfl
theorem xk {p:Pose} {m:Move} {w:List Move}:endP p (m::w)=endP m.t w:=by
 cases w with
 |nil=>rfl
 |cons x w=>rfl
theorem Ny {t:Int} {m:Move} {w:List Move}:endT t (m::w)=endT m.e w:=by
 cases w with
 |nil=>rfl
 |cons x w=>rfl
theorem Is:∀{w M:List Move} {p:Pose} {t:Int},rc C p t (w++M)=(rc C p t w&&rc C (endP p w) (endT t w) M)
 |[],M,p,t=>by rw [List.nil_append];rfl
 |m::w,M,p,t=>by
  rw [List.cons_append,vd,vd,Is,xk,Ny,Bool.and_assoc]
theorem U2:∀{w M:List Move} {p:Pose},endP p (w++M)=endP (endP p w) M
 |[],M,p=>rfl
 |m::w,M,p=>by rw [List.cons_append,xk,xk,U2]
theorem Dy {p:Pose} {t:Int} {m:Move}:oneR C p t m=true↔m.f=p/\t<=m.a/\m.a<m.e/\m.e<FV/\fe C m=true/\m.e=m.a+jc C m:=by
 unfold oneR
 simp only [Bool.and_eq_true,decide_eq_true_eq]
theorem Mx:∀{w:List Move} {p:Pose} {t:Int},(∀j m,w[j]?=some m->oneR C (yy p w j) (nh t w j) m=true)->rc C p t w=true
 |[],_,_,_=>rfl
 |m::w,p,t,h=>by
  unfold rc
  rw [Bool.and_eq_true]
  refine ⟨h 0 m rfl,Mx fun j x hx=>?_⟩
  have:=h (j+1) x hx
  cases j with
  |zero=>exact this
  |succ j=>exact this
theorem E6 (mk:dv C) {T:Tb} (gt:jf T) {rb t:Int} {p gp:Pose} {any:Bool} {w:List Move} (h:lg C (some T) rb p t gp any = .ok w):
 rc C p t w=true/\0<=t/\t<FV/\0<=endT t w/\t<=endT t w/\endT t w<FV/\ie C p=true/\ie C (endP p w)=true/\(∀m∈w,m.k=1\/m.k=2)/\((endP p w).x,(endP p w).y)=(gp.x,gp.y)/\(any=false->endP p w=gp):=by
 obtain ⟨⟨a1,a2,a3,a4,a5⟩,h2,s,h3,h4,h5,h6,h7,h8⟩:=Fq mk gt h
 have hr:rc C p t w=true:=Mx fun j m hm=>by
  have o:=h2 j m hm
  exact Dy.2 ⟨o.f,o.at_,o.e2.1,o.e2.2,o.leg,o.e⟩
 have hle:t<=endT t w:=by
  have key:∀j,j<=w.length->t<=nh t w j:=by
   intro j
   induction j with
   |zero=>intro _;exact Int.le_refl _
   |succ j ih=>
    intro hj
    obtain ⟨m,hm⟩:∃m,w[j]?=some m:=⟨_,List.getElem?_eq_getElem (by omega)⟩
    have o:=h2 j m hm
    have:=ih (by omega)
    have a:=o.at_
    have b:=o.e2.1
    show t<=(w.getD j zM).e
    rw [List.getD_eq_getElem?_getD,hm]
    show t<=m.e
    omega
  exact key _ (Nat.le_refl _)
 have hlt:endT t w<FV:=by
  by_cases hw:w=[]
  . subst hw;exact a4
  . have hl:=List.length_pos_iff.2 hw
    obtain ⟨m,hm⟩:∃m,w[w.length-1]?=some m:=⟨_,List.getElem?_eq_getElem (by omega)⟩
    rw [M7 hm hw]
    exact (h2 _ _ hm).e2.2
 have hg:((endP p w).x,(endP p w).y)=(gp.x,gp.y)/\(any=false->endP p w=gp):=by
  unfold nk at h6
  simp only [Bool.and_eq_true,Bool.or_eq_true,beq_iff_eq]at h6
  rcases h6.1 with ⟨⟨e1,e2⟩,e3⟩|⟨e1,e2,e3⟩
  . refine ⟨by rw [e1,e2],fun _=>?_⟩
    exact zw e1 e2 e3
  . refine ⟨by rw [e2,e3],fun e=>?_⟩
    rw [e]at e1;cases e1
 refine ⟨hr,a3,a4,h8,hle,hlt,a5,h7,fun m hm=>?_,hg⟩
 obtain ⟨j,hj⟩:=List.getElem?_of_mem hm
 exact (h2 j m hj).k
theorem Vy {k:Int} {p:Pose} {t:Int} (hk:k=3\/k=4):jc C (wb C k p t)=C.ho:=by
 unfold jc wb
 rw [if_neg (by show ¬k=1;omega),if_neg (by show ¬k=2;omega),if_pos (by exact hk)]
theorem Vx {k:Int} {p:Pose} {t:Int} (hk:k=3\/k=4) (hf:ie C p=true):fe C (wb C k p t)=true:=by
 unfold fe wb
 simp only
 rw [hf,if_neg (by omega),if_neg (by omega)]
 simp [hk]
theorem ho_bd (mk:dv C):1<=C.ho/\C.ho<=16000:=by
 obtain ⟨_,_,_,_,h1,h2⟩:=V3 mk
 omega
theorem D9 (mk:dv C) {T:Tb} (gt:jf T) {rb:Int} {hm:Pose}:∀{S:List Stp} {p:Pose} {t:Int} {l L:List Move},(∀s∈S,Ab s=true)->goR C T rb hm S p t l = .ok L->
 ∃M,L=l++M/\rc C p t M=true/\endP p M=hm/\0<=t/\t<FV/\ie C p=true
 |[],p,t,l,L,_,h=>by
  unfold goR at h
  cases hw:lg C (some T) rb p t hm false with
  |no e=>rw [hw]at h;cases h
  |ok w=>
   rw [hw]at h
   cases h
   obtain ⟨h1,h2,h3,h4,h5,h6,h7,h8,h9,h10,h11⟩:=E6 mk gt hw
   exact ⟨w,rfl,h1,h11 rfl,h2,h3,h7⟩
 |s::S,p,t,l,L,hS,h=>by
  unfold goR at h
  cases hw:lg C (some T) rb p t ⟨s.x,s.y,false⟩ true with
  |no e=>rw [hw]at h;cases h
  |ok w=>
   rw [hw]at h
   simp only at h
   obtain ⟨h1,h2,h3,h4,h5,h6,h7,h8,h9,h10,h11⟩:=E6 mk gt hw
   obtain ⟨M,rfl,r1,r2,r3,r4,r5⟩:=D9 mk gt (fun x hx=>hS x (.tail _ hx)) h
   have hk:s.k=3\/s.k=4:=by
    have:=hS s (.head _)
    unfold Ab at this
    simpa using this
   obtain ⟨o1,o2⟩:=ho_bd mk
   have es:=Yd h4 (show 0<=C.ho by omega) r4
   refine ⟨w++([wb C s.k (endP p w) (endT t w)]++M),by simp,?_,?_,h2,h3,h7⟩
   . rw [Is,h1,Bool.true_and,List.singleton_append]
     show (oneR C _ _ _&&rc C _ _ M)=true
     rw [Bool.and_eq_true]
     refine ⟨Dy.2 ⟨rfl,Int.le_refl _,?_,?_,Vx hk h8,?_⟩,r1⟩
     . show endT t w<sumI (endT t w) C.ho;omega
     . exact r4
     . rw [Vy hk];exact es
   . rw [U2,List.singleton_append,xk]
     exact r2
theorem I7 (mk:dv C) {m:Move} (hl:fe C m=true):MB m/\ie C m.t=true:=by
 have hl0:=hl
 unfold fe at hl
 rw [Bool.and_eq_true]at hl
 obtain ⟨hf,hl⟩:=hl
 have pf:=Hn mk hf
 by_cases h1:m.k=1
 . rw [if_pos h1,Bool.and_eq_true]at hl
   obtain ⟨n1,n2⟩:=ff.1 hl.1
   exact ⟨⟨by unfold Bd;omega,pf⟩,(Vn mk hl0 h1).2.2.1⟩
 . rw [if_neg h1]at hl
   by_cases h2:m.k=2
   . rw [if_pos h2]at hl
     simp only [Bool.and_eq_true,decide_eq_true_eq]at hl
     exact ⟨⟨by rw [hl.2.1];unfold Bd;omega,pf⟩,(N8 mk hl0 h2).2.2.1⟩
   . rw [if_neg h2]at hl
     simp only [Bool.and_eq_true,decide_eq_true_eq]at hl
     exact ⟨⟨by rw [hl.2.1];unfold Bd;omega,pf⟩,by rw [hl.2.2.2];exact hf⟩
theorem Iu:∀{w:List Move} {p:Pose} {t:Int},rc C p t w=true->∀m∈w,t<=m.a/\m.a<m.e/\m.e<FV/\fe C m=true
 |[],_,_,_,_,h=>by cases h
 |x::w,p,t,h,m,hm=>by
  rw [vd,Bool.and_eq_true,Dy]at h
  obtain ⟨⟨h1,h2,h3,h4,h5,h6⟩,h7⟩:=h
  rcases List.mem_cons.1 hm with rfl|hm
  . exact ⟨h2,h3,h4,h5⟩
  . obtain ⟨a,b,c,d⟩:=Iu h7 m hm
    exact ⟨by omega,b,c,d⟩
theorem Mw {T:Tb} {rb t:Int} {p hm:Pose} {S:List Stp} {L:List Move} (h:vq C T rb p t S hm = .ok L):(∀s∈S,Ab s=true)/\goR C T rb hm S p t [] = .ok L/\L.length<=4096:=by
 unfold vq at h
 split at h
 . rename_i ha
   refine ⟨List.all_eq_true.1 ha,?_⟩
   cases hg:goR C T rb hm S p t []with
   |no e=>rw [hg]at h;cases h
   |ok l=>
    rw [hg]at h
    simp only at h
    split at h
    . cases h
    . cases h;exact ⟨rfl,by omega⟩
 . cases h
theorem Ns (mk:dv C) {T:Tb} (gt:jf T) {rb:Int} {hm:Pose}:∀{S:List Stp} {p:Pose} {t e:Int} {l:List Move},goR C T rb hm S p t l = .no e->e=1\/e=6\/e=7\/e=18
 |[],p,t,e,l,h=>by
  rw [Qo]at h
  cases hw:lg C (some T) rb p t hm false with
  |no e'=>rw [hw]at h;cases h;exact sn mk gt hw
  |ok w=>rw [hw]at h;cases h
 |s::S,p,t,e,l,h=>by
  rw [Ji]at h
  cases hw:lg C (some T) rb p t ⟨s.x,s.y,false⟩ true with
  |no e'=>rw [hw]at h;cases h;exact sn mk gt hw
  |ok w=>rw [hw]at h;exact Ns mk gt h
theorem S7 (mk:dv C) {T:Tb} (gt:jf T) {rb t e:Int} {p hm:Pose} {S:List Stp} (h:vq C T rb p t S hm = .no e):e≠0:=by
 unfold vq at h
 split at h
 . cases hg:goR C T rb hm S p t []with
   |no e'=>
    rw [hg]at h
    cases h
    have:=Ns mk gt hg
    omega
   |ok l=>
    rw [hg]at h
    simp only at h
    split at h<;>cases h
    decide
 . cases h
   decide
end
end Go.Proofs.YtfflipnhffknnaaGreatDoor
end

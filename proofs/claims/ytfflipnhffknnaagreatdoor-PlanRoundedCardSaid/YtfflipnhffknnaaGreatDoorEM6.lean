/- Texts of the proof, one behind the other. -/
import Derived.Test.YtfflipnhffknnaaGreatDoorEM5
import Derived.Test.YtfflipnhffknnaaGreatDoorEM3
import Derived.Test.YtfflipnhffknnaaGreatDoorEM4
import Derived.Test.YtfflipnhffknnaaGreatDoorEM1
import Derived.Test.YtfflipnhffknnaaGreatDoorEH3
import Derived.Test.YtfflipnhffknnaaGreatDoorEM2
set_option linter.unusedSimpArgs false
set_option linter.unusedVariables false
set_option maxRecDepth 100000
set_option linter.unusedSectionVars false
set_option maxHeartbeats 8000000
set_option linter.defProp false
section
namespace Go.Proofs.YtfflipnhffknnaaGreatDoor
open Go Go.HL Go.Proofs.Resv Go.Proofs.Srch
def Ff:=jq bC (jq (jq @al232 (jq @fa232_2 @ld142)) (jq @ld232 (jq @ln142 @st232w)))
theorem Sees.way {G h:Hp} {sa:Option Addr} {cap n:Nat} {L:List RawW} (s:Sees sf G h (.slice sa n cap) L) {i:Nat} {x:RawW} (hx:L[i]?=some x):
 ∃b o,sa=some ⟨b,o,none⟩/\∀j,j<13->af G h ⟨b,o+i*13+j,none⟩=(sf.enc x)[j]?:=by
 obtain ⟨s',cap',e,_,hc⟩:=s
 cases e
 rcases hc with rfl|⟨b,o,rfl,hc⟩
 . simp at hx
 . exact ⟨b,o,rfl,fun j hj=>hc i x hx j hj⟩
theorem F0 {q:Par} {p:Pose} {j:Nat} {y:WayT} (h:(qv q.C q.w q.k q.f q.T q.r p)[j]?=some y):∃m,m∈lk q.w q.k q.f p/\y=wayE q.C q.w q.k q.f q.T q.r m:=by
 unfold qv at h
 rw [List.getElem?_map]at h
 cases hm:(lk q.w q.k q.f p)[j]? with
 |none=>rw [hm]at h;cases h
 |some m=>rw [hm]at h;cases h;exact ⟨m,List.mem_of_getElem? hm,rfl⟩
theorem Zm {q:Par} (gt:iu q.T) (fw:Few q.T 100) (hw:q.w<=16) (hk:q.k<=16) (m:Move):(wayE q.C q.w q.k q.f q.T q.r m).2.2.2.length<=30301:=by
 show (lr q.T q.r ((ka q.w q.k q.f m).map (numI q.w q.k))).length<=30301
 have h1:=C7 gt fw q.r ((ka q.w q.k q.f m).map (numI q.w q.k))
 rw [List.length_map]at h1
 have h2:=Ku (w:=q.w) (k:=q.k) (f:=q.f) (m:=m) hw hk
 have h3:(ka q.w q.k q.f m).length*(100+1)<=300*101:=Nat.mul_le_mul h2 (by omega)
 omega
theorem U0 {α β:Type} {f:β->α->β} {S:β} {L:List α} {i:Nat} {s:α} (h:L[i]?=some s):(L.take (i+1)).foldl f S=f ((L.take i).foldl f S) s:=Lx h
theorem am4 {G h a ae ah Bx:Hp} {R:List Hp} {q:Par} {sp kp ms mw mp mt hp xn xo:Nat} {c:Cs} {S:SS} {L:List Go.Proofs.Wt.It} {n t0:Int} {p0:Pose} {z:Move} {x:St Pose Move} {k:Nat} {raws:List RawW} {sa:Option Addr} {cap:Nat} {KK:EK}
 (ss:Srs q a ae ah ms mw mp mt hp c S L n) (bg:Bg G q sp kp ms mw mp mt hp) (ok:qf q.E) (v:Inv q.E p0 t0 z x.a S) (hx:S[k]?=some x) (hd:x.dn=true) (ha:0<=x.a) (hox:cj q.w q.k q.f x.p=true) (hw16:q.w<=16) (hk16:q.k<=16)
 (fb:Fbx q Bx xn xo x) (wsl:Slc sf 232 c.P (.slice sa raws.length cap) raws) (hrl:raws.length=(qv q.C q.w q.k q.f q.T q.r x.p).length)
 (hraw:∀(i:Nat) (x':RawW) (y:WayT),raws[i]?=some x'->(qv q.C q.w q.k q.f q.T q.r x.p)[i]?=some y->x'.m=y.1/\x'.d=y.2.2.1/\x'.n=y.2.2.2.length/\Slc mj 151 c.P (.slice x'.a x'.n x'.c) y.2.2.2) (hn:n<=34000000000)
 (s:HL.Sep (a::ae::ah::Bx::R) h) (d:Dis G h) (r:Rg) (g0:r 0 = .pointer (some ⟨sp,0,none⟩)) (g2:r 2 = .int .i64 x.a) (g4:r 4 = .pointer (some ⟨xn,0,none⟩)) (g7:r 7 = .pointer (some ⟨xo,0,none⟩)) (g31:r 31 = .slice sa raws.length cap) (g32:r 32 = .int .i64 raws.length) (g33:r 33 = .int .i64 0)
 (H:∀(r':Rg) h' a' ae' ah' c' L' n',Srs q a' ae' ah' ms mw mp mt hp c' (zc q.E x k S) L' n'->c.le c'->n<=n'->n'<=n+2000000->HL.Sep (a'::ae'::ah'::Bx::R) h'->Dis G h'->KK (.exit 0) r' h'):
 ci (Vt G) r h KK:=by
 have hn0:=ss.n0
 have hml:(qv q.C q.w q.k q.f q.T q.r x.p).length<=65:=by unfold qv;rw [List.length_map];exact Lf
 refine b8 (fun m r' h'=>∃(j:Nat) (a' ae' ah':Hp) (c':Cs) (L':List Go.Proofs.Wt.It) (n':Int),m=raws.length-j/\j<=raws.length/\Srs q a' ae' ah' ms mw mp mt hp c' (((qv q.C q.w q.k q.f q.T q.r x.p).take j).foldl (tc q.E x k) S) L' n'/\Inv q.E p0 t0 z x.a (((qv q.C q.w q.k q.f q.T q.r x.p).take j).foldl (tc q.E x k) S)/\(((qv q.C q.w q.k q.f q.T q.r x.p).take j).foldl (tc q.E x k) S)[k]?=some x/\
  c.le c'/\n<=n'/\n'<=n+j*30301/\HL.Sep (a'::ae'::ah'::Bx::R) h'/\Dis G h'/\r' 0=r 0/\r' 2=r 2/\r' 4=r 4/\r' 7=r 7/\r' 31=r 31/\r' 32=r 32/\r' 33 = .int .i64 j) ?_ (m:=raws.length)
  ⟨0,a,ae,ah,c,L,n,rfl,by omega,ss,v,hx,.refl _,by omega,by omega,s,d,rfl,rfl,rfl,rfl,rfl,rfl,g33⟩
 rintro m r1 h1 ⟨j,a1,ae1,ah1,c1,L1,n1,rfl,hj,ss1,v1,hx1,cl1,hn1,hn2,s1,d1,e0,e2,e4,e7,e31,e32,e33⟩ X hX
 unfold Vt
 simp only [Ff,e32,g32,e33]
 refine bm (fun hlt=>?_) (fun hge=>?_)
 rotate_left
 . obtain rfl:j=raws.length:=by omega
   rw [hrl,List.take_length]at ss1
   exact H _ _ a1 ae1 ah1 c1 L1 n1 ss1 cl1 hn1 (by omega) s1 d1
 obtain ⟨y,hy⟩:∃u,(qv q.C q.w q.k q.f q.T q.r x.p)[j]?=some u:=⟨_,List.getElem?_eq_getElem (by omega)⟩
 obtain ⟨xr,hxr⟩:∃u,raws[j]?=some u:=⟨_,List.getElem?_eq_getElem (by omega)⟩
 obtain ⟨q1,q2,q3,q4⟩:=hraw j xr y hxr hy
 obtain ⟨mv,hmv,hye⟩:=F0 hy
 have hym:y∈q.E.ways x.p:=List.mem_of_getElem? hy
 have hyl:y.2.2.2.length<=30301:=by rw [hye];exact Zm bg.gt bg.fw hw16 hk16 mv
 have hstep:((qv q.C q.w q.k q.f q.T q.r x.p).take (j+1)).foldl (tc q.E x k) S=tc q.E x k (((qv q.C q.w q.k q.f q.T q.r x.p).take j).foldl (tc q.E x k) S) y:=U0 hy
 obtain ⟨b,o,rfl,hc⟩:=Sees.way ((wsl.le cl1.p).see (G:=G) (by decide) (ss1.ch.pool.trans (s1.in 0 rfl))) hxr
 have cr:∀(i:Nat),i<13->af G h1 ⟨b,o+j*13+i,none⟩=(sf.enc xr)[i]?:=hc
 have cr0:=cr 0 (by decide)
 have cr1:=cr 1 (by decide)
 have cr2:=cr 2 (by decide)
 have cr3:=cr 3 (by decide)
 have cr4:=cr 4 (by decide)
 have cr5:=cr 5 (by decide)
 have cr6:=cr 6 (by decide)
 have cr7:=cr 7 (by decide)
 have cr8:=cr 8 (by decide)
 have cr9:=cr 9 (by decide)
 have cr10:=cr 10 (by decide)
 have cr11:=cr 11 (by decide)
 have cr12:=cr 12 (by decide)
 simp only [sf,Nat.add_zero,List.getElem?_cons_zero,List.getElem?_cons_succ]at cr0 cr1 cr2 cr3 cr4 cr5 cr6 cr7 cr8 cr9 cr10 cr11 cr12
 unfold Mx
 simp (disch:=first|decide|exact ao|exact am|omega|rfl) only [Ff,e31,g31,e33,ix229 (Int.natCast_nonneg j) hlt,cr0,cr1,cr2,cr3,cr4,cr5,cr6,cr7,cr8,cr9,cr10,cr11,cr12]
 intro xw hxw gxw
 have s2:=s1.new (o:=wayO xr.m xr.d xr.a xr.n xr.c) hxw
 have d2:=d1.set (o:=wayO xr.m xr.d xr.a xr.n xr.c) gxw
 have hws:(h1.set xw (wayO xr.m xr.d xr.a xr.n xr.c)) xw=some (wayO xr.m xr.d xr.a xr.n xr.c):=ag
 simp only [wayO]at s2 d2 hws
 generalize Hp.set h1 xw _=h2 at s2 d2 hws ⊢
 have hws':=hws
 generalize hob:Obj.cells #[xr.m.k,xr.m.d,xr.m.n,xr.m.f.x,xr.m.f.y,.bool xr.m.f.d,xr.m.t.x,xr.m.t.y,.bool xr.m.t.d,xr.m.a,xr.m.e,xr.d,.slice xr.a xr.n xr.c] 232 (0,0)=ob at s2 d2 hws
 have s3:=HL.Sep.fr [noHp.set xw ob,a1,ae1,ah1,Bx] (R:=R) s2 [4,0,1,2,3] (by decide) rfl
 obtain ⟨Bx',s4,t4⟩:=HL.Sep.pack [Bx,noHp.set xw ob] (R:=a1::ae1::ah1::R) s3
 have s5:=HL.Sep.fr [Bx',a1,ae1,ah1] (R:=R) s4 [1,2,3,0] (by decide) rfl
 have hbw:Bx' xw=some (wayO y.1 y.2.2.1 xr.a y.2.2.2.length xr.c):=by
  have:=t4.at 1 rfl (x:=xw) (o:=ob) ag
  rw [this,<- hob,q1,q2,q3]
 have fb':Fbx q Bx' xn xo x:=⟨t4.at 0 rfl fb.n,t4.at 0 rfl fb.o⟩
 rw [q3]at q4
 have hyp:y.2.1=y.1.t:=by rw [hye];rfl
 refine from_in ss1 bg ok v1 hx1 hd ha hox hym hyp fb' hbw (q4.le cl1.p) (by omega) s5 d2 _ (by simp (disch:=omega) only [au,e0,g0]) (by simp (disch:=omega) only [au,e2,g2]) (by simp (disch:=omega) only [au,e4,g4]) (by simp (disch:=omega) only [au,e7,g7]) (by simp (disch:=decide) only [Ff]) (by simp (disch:=decide) only [Ff,q3]) (by simp (disch:=decide) only [Ff,q3]) (by simp only [Ff]) ?_
 intro r3 h3 a3 ae3 ah3 c3 L3 n3 ss3 v3 hx3 cl3 m1 m2 s6 d6 f0 f2 f4 f7 f31 f32 f33
 have s7:HL.Sep (Bx'::a3::ae3::ah3::R) h3:=HL.Sep.fr [a3,ae3,ah3,Bx'] (R:=R) s6 [3,0,1,2] (by decide) rfl
 have s8:HL.Sep (a3::ae3::ah3::Bx::R) h3:=HL.Sep.fr [Bx,noHp.set xw ob,a3,ae3,ah3] (R:=R) (HL.Sep.open (L:=[Bx,noHp.set xw ob]) (R:=a3::ae3::ah3::R) s7 t4) [2,3,4,0] (by decide) rfl
 simp (disch:=omega) only [au]at f0 f2 f4 f7 f31 f32 f33
 show En G (bv X KK) r3 h3
 unfold En
 simp (disch:=first|decide|omega) only [Ff,f33,e33]
 refine hX (raws.length-(j+1)) _ _ (by omega) ⟨j+1,a3,ae3,ah3,c3,L3,n3,rfl,by omega,by rw [hstep];exact ss3,by rw [hstep];exact v3,by rw [hstep];exact hx3,cl1.trans cl3,by omega,by omega,s8,d6,by simp (disch:=omega) only [au,f0,e0],by simp (disch:=omega) only [au,f2,e2],by simp (disch:=omega) only [au,f4,e4],by simp (disch:=omega) only [au,f7,e7],by simp (disch:=omega) only [au,f31,e31],by simp (disch:=omega) only [au,f32,e32],by simp only [Ff];rfl⟩
def xk:=jq bC (jq (jq (jq (jq @al151 @al30) (jq @cf121 @cf66)) (jq (jq @Ia @Sz) (jq @Sy @D8))) (jq (jq (jq @Ut @ld151p) (jq @ld30 @tw)) (jq (jq @ld3p @ln229) (jq @ik (jq @Ua @yd)))))
theorem join3 {a b c h:Hp} {R:List Hp} (s:HL.Sep (a::b::c::R) h):∃q:Hp,a.le q/\b.le q/\c.le q/\∀h':Hp,a.le h'->b.le h'->c.le h'->q.le h':=by
 have a1:ql a b:=s.apart (by simp)
 have a2:ql a c:=s.apart (by simp)
 have a3:ql b c:=s.drop.apart (by simp)
 have a4:ql a (b.join c):=fun x=>by
  rcases a1 x with e|e
  . exact .inl e
  . rcases a2 x with e'|e'
    . exact .inl e'
    . right;unfold Hp.join;rw [e];exact e'
 refine ⟨a.join (b.join c),Hp.le_join,Hp.le_join.trans (Hp.le_join2 a4),(Hp.le_join2 a3).trans (Hp.le_join2 a4),fun h' l1 l2 l3 x o e=>?_⟩
 unfold Hp.join at e
 cases hx:a x with
 |some u=>rw [hx]at e;cases e;exact l1 _ _ hx
 |none=>
  rw [hx]at e
  simp only at e
  cases hy:b x with
  |some u=>rw [hy]at e;cases e;exact l2 _ _ hy
  |none=>rw [hy]at e;exact l3 _ _ e
theorem ac3 {G h a ae ah ak:Hp} {R:List Hp} {q:Par} {sp kp ms mw mp mt hp:Nat} {c:Cs} {S:SS} {L:List Go.Proofs.Wt.It} {n t0:Int} {p0:Pose} {z:Move} {x:St Pose Move} {k:Nat}
 (ss:Srs q a ae ah ms mw mp mt hp c S L n) (kpk:KP ak kp q.C.un q.C.ac q.C.sp) (bg:Bg G q sp kp ms mw mp mt hp) (ok:qf q.E) (v:Inv q.E p0 t0 z x.a S) (hx:S[k]?=some x) (hd:x.dn=true) (ha:0<=x.a) (hn:n<=34000000000)
 (s:HL.Sep (a::ae::ah::ak::R) h):
 al P_ G 70 #[.pointer (some ⟨sp,0,none⟩),ndV (uu q.w q.k x),x.a] h (fun _ h'=>∃a' ae' ah' ak' c' L' n',Srs q a' ae' ah' ms mw mp mt hp c' (zc q.E x k S) L' n'/\KP ak' kp q.C.un q.C.ac q.C.sp/\c.le c'/\n<=n'/\n'<=n+2000000/\HL.Sep (a'::ae'::ah'::ak'::R) h'/\Dis G h'):=by
 obtain ⟨ab,cb,ap,cp,ar,cr,az,cs,gp,tp,hbg⟩:=id bg.ex
 have hxm:=List.mem_of_getElem? hx
 have hox:cj q.w q.k q.f x.p=true:=v.ok x hxm
 obtain ⟨hsi,hs1,hs2⟩:=v.at_ x hxm
 obtain ⟨hk1,hk3⟩:=ss.kept x hxm
 refine al.assume fun d=>enter70 (by simp) ?_
 obtain ⟨_,_,gs,_⟩:=hbg h d
 have hw16:=gs.w2
 have hk16:=gs.k2
 unfold S70
 simp only [uu]
 simp only [xk]
 intro xn hxn gxn
 have s1:=s.new (o := .cells #[(numP q.w q.k x.p),(x.i:Int)] 137 (0,0)) hxn
 have d1:=d.set (o := .cells #[(numP q.w q.k x.p),(x.i:Int)] 137 (0,0)) gxn
 generalize hon:Obj.cells #[(numP q.w q.k x.p),(x.i:Int)] 137 (0,0)=on at s1 d1 ⊢
 generalize Hp.set h xn _=h1 at s1 d1 ⊢
 have cn1:∀k,af G h1 ⟨xn,k,none⟩=_:=fun k=>aj (ai ((s1.at 0 rfl ag).trans (by rw [hon])))
 obtain ⟨o1,o2,o3,m1,m2,m3,sa⟩:=id ss.ch.sep
 have hmp:h1 mp=some o3:=(HL.Sep.open (s1.pick 1 rfl rfl) sa).at 2 rfl ag
 have b1:=vi (hbg h1 d1).2.1
 try simp only [xk,b1.mp,cn1]
 rw [E3 unmp un3r zerop (ai hmp) m3,hk3,Option.getD_some]
 intro xp hxp gxp
 try simp (disch:=first|decide|exact ao|exact am|omega|rfl) only [xk]
 have s2:=s1.new (o := .cells #[x.p.x,x.p.y,.bool x.p.d] 30 (0,0)) hxp
 have d2:=d1.set (o := .cells #[x.p.x,x.p.y,.bool x.p.d] 30 (0,0)) gxp
 generalize hop:Obj.cells #[x.p.x,x.p.y,.bool x.p.d] 30 (0,0)=op at s2 d2 ⊢
 generalize Hp.set h1 xp _=h2 at s2 d2 ⊢
 have s2o:HL.Sep ([noHp.set ms o1,noHp.set mw o2,noHp.set mp o3,c.P]++([noHp.set xp op,noHp.set xn on,ae,ah,ak]++R)) h2:=HL.Sep.open (R:=[noHp.set xp op,noHp.set xn on,ae,ah,ak]++R) (s2.pick 2 rfl rfl) sa
 obtain ⟨q9,l1,l2,l3,l4⟩:=join3 (R:=[]) (HL.Sep.sel (L':=[noHp.set xn on,noHp.set xp op,c.P]) (HL.Sep.take s2o 6 rfl) [5,4,3] (by decide) rfl)
 have lq2:q9.le h2:=l4 h2 (s2.in 1 rfl) (s2.in 0 rfl) (ss.ch.pool.trans (s2.in 2 rfl))
 have cq:∀k,af G q9 ⟨xp,k,none⟩=_:=fun k=>aj (ai ((l2 _ _ ag).trans (by rw [hop])))
 have cqn:∀k,af G q9 ⟨xn,k,none⟩=_:=fun k=>aj (ai ((l1 _ _ ag).trans (by rw [hon])))
 refine ⟨q9,lq2,?_⟩
 try simp only [xk,cq]
 refine (ly ss.ch bg (HL.Sep.fr (R:=R) [noHp.set xp op,noHp.set xn on,a,ae,ah,ak] s2 [2,3,4,5,1,0] (by decide) rfl) hox).mono ?_
 rintro u h3 ⟨a3,c3,ch3,cl3,e2,hu,hu3,s3,d3⟩
 have s3:HL.Sep (a3::ae::ah::ak::noHp.set xn on::noHp.set xp op::R) h3:=s3
 refine ⟨l4 h3 (s3.in 4 rfl) (s3.in 5 rfl) (cl3.p.trans (ch3.pool.trans (s3.in 0 rfl))),?_⟩
 obtain ⟨u0,hu0⟩:=Option.isSome_iff_exists.1 hk1
 have huu:=cl3.l1 _ _ hu0
 rw [hu]at huu
 cases huu
 have slu:=ss.ch.look1 hox hu0
 obtain ⟨sv,cv,rfl,_⟩:=slu.len (by decide)
 have hsi':(kw q.w q.k q.T q.r x.p)[x.i]?=some x.s:=hsi
 obtain ⟨b,o,rfl,z1,z2⟩:=Sees.span (slu.see (G:=G) (by decide) l3) hsi'
 have hlt:=(List.getElem?_eq_some_iff.1 hsi').1
 have hlti:(x.i:Int)<((kw q.w q.k q.T q.r x.p).length:Int):=Int.ofNat_lt.2 hlt
 simp (disch:=first|decide|exact ao|exact am|omega|rfl) only [xk,cqn,R2 (Int.natCast_nonneg x.i) hlti,z1,z2]
 intro xo hxo gxo
 have s4:=s3.new (o := .cells #[x.s.1,x.s.2] 151 (0,0)) hxo
 have d4:=d3.set (o := .cells #[x.s.1,x.s.2] 151 (0,0)) gxo
 generalize hoo:Obj.cells #[x.s.1,x.s.2] 151 (0,0)=oo at s4 d4 ⊢
 generalize Hp.set h3 xo _=h4 at s4 d4 ⊢
 have s4:HL.Sep (noHp.set xo oo::a3::ae::ah::ak::noHp.set xn on::noHp.set xp op::R) h4:=s4
 have cx4:∀k,af G h4 ⟨xp,k,none⟩=_:=fun k=>aj (ai ((s4.at 6 rfl ag).trans (by rw [hop])))
 try simp only [xk,cx4]
 refine (Qo ch3 kpk bg (HL.Sep.fr (R:=R) [noHp.set xo oo,a3,ae,ah,ak,noHp.set xn on,noHp.set xp op] s4 [1,4,2,3,0,5,6] (by decide) rfl) hox).mono ?_
 rintro u h5 ⟨a5,ak5,c5,ch5,kp5,cl5,e5,hu5,s5,d5⟩
 have s5:HL.Sep (a5::ak5::ae::ah::noHp.set xo oo::noHp.set xn on::noHp.set xp op::R) h5:=s5
 obtain ⟨raws,wsl,hrl,hraw⟩:=ch5.look2 hox hu5
 obtain ⟨sw,cw,rfl,_⟩:=wsl.len (by decide)
 try simp only [xk]
 have cl:=cl3.trans cl5
 have ss5:Srs q a5 ae ah ms mw mp mt hp c5 S L n:=⟨ch5,ss.st,ss.hp,ss.ok,ss.qi,ss.kept.le cl,ss.n0,ss.ln⟩
 have s6:HL.Sep ([noHp.set xn on,noHp.set xo oo]++(a5::ae::ah::ak5::R)) h5:=HL.Sep.fr (R:=R) [a5,ak5,ae,ah,noHp.set xo oo,noHp.set xn on,noHp.set xp op] s5 [5,4,0,2,3,1] (by decide) rfl
 obtain ⟨Bx,s7,t7⟩:=HL.Sep.pack [noHp.set xn on,noHp.set xo oo] (R:=a5::ae::ah::ak5::R) s6
 have fb:Fbx q Bx xn xo x:=⟨(t7.at 0 rfl ag).trans (by rw [hon]),(t7.at 1 rfl ag).trans (by rw [hoo])⟩
 refine am4 ss5 bg ok v hx hd ha hox hw16 hk16 fb wsl hrl hraw hn (R:=ak5::R) (HL.Sep.fr (R:=R) [Bx,a5,ae,ah,ak5] s7 [1,2,3,0,4] (by decide) rfl) d5 _ (by simp (disch:=omega) only [au];rfl) (by simp (disch:=omega) only [au];rfl) (by simp (disch:=decide) only [xk]) (by simp (disch:=decide) only [xk]) (by simp (disch:=decide) only [xk]) (by simp (disch:=decide) only [xk]) (by simp only [xk]) ?_
 intro r' h8 a8 ae8 ah8 c8 L8 n8 ss8 cl8 m1 m2 s8 d8
 exact ⟨a8,ae8,ah8,ak5,c8,L8,n8,ss8,kp5,cl.trans cl8,m1,m2,HL.Sep.fr (R:=R) [a8,ae8,ah8,Bx,ak5] s8 [0,1,2,4] (by decide) rfl,d8⟩
end Go.Proofs.YtfflipnhffknnaaGreatDoor
end
section
namespace Go.Proofs.YtfflipnhffknnaaGreatDoor
open Go Go.HL
def vj:=jq bC (jq (jq @Rz @Wy) (jq @ln40 (jq @l8 @jj)))
def rn {α:Type} (L M:List α) (i:Nat):Prop:=M.length=L.length/\∀p:Nat,p<L.length->M[p]?=if p<i\/L.length-i<=p then L[L.length-1-p]? else L[p]?
theorem rn.zero {α:Type} {L:List α}:rn L L 0:=⟨rfl,fun p hp=>by rw [if_neg (by omega)]⟩
theorem rn.all {α:Type} {L M:List α} {i:Nat} (f:rn L M i) (h:L.length<=2*i+1):M=L.reverse:=by
 refine List.ext_getElem? fun p=>?_
 by_cases hp:p<L.length
 . rw [f.2 p hp,List.getElem?_reverse hp]
   split
   . rfl
   . congr 1
     omega
 . rw [List.getElem?_eq_none (by rw [f.1];omega),List.getElem?_eq_none (by simp;omega)]
theorem rn.next {α:Type} {L M:List α} {i:Nat} {x y:α} (f:rn L M i) (h:2*i+1<L.length) (hx:M[i]?=some x) (hy:M[L.length-1-i]?=some y):rn L ((M.set i y).set (L.length-1-i) x) (i+1):=by
 refine ⟨by rw [List.length_set,List.length_set,f.1],fun p hp=>?_⟩
 have e1:L[i]?=some x:=by rw [<- hx,f.2 i (by omega),if_neg (by omega)]
 have e2:L[L.length-1-i]?=some y:=by rw [<- hy,f.2 _ (by omega),if_neg (by omega)]
 by_cases h1:p=L.length-1-i
 . subst h1
   rw [List.getElem?_set_self (by rw [List.length_set,f.1];omega),if_pos (by omega),show L.length-1-(L.length-1-i)=i by omega,e1]
 . rw [List.getElem?_set_ne (by omega)]
   by_cases h2:p=i
   . subst h2
     rw [List.getElem?_set_self (by rw [f.1];omega),if_pos (by omega),e2]
   . rw [List.getElem?_set_ne (by omega),f.2 p hp]
     by_cases h3:p<i\/L.length-i<=p
     . rw [if_pos h3,if_pos (by omega)]
     . rw [if_neg h3,if_neg (by omega)]
theorem Sees.mvx {G h:Hp} {sa:Option Addr} {cap n:Nat} {L:List Move} (s:Sees jw G h (.slice sa n cap) L) {i:Nat} {m:Move} (hx:L[i]?=some m):
 ∃b o,sa=some ⟨b,o,none⟩/\af G h ⟨b,o+i*11,none⟩=some (.int .i64 m.k)/\af G h ⟨b,o+i*11+1,none⟩=some (.int .i64 m.d)/\af G h ⟨b,o+i*11+2,none⟩=some (.int .i64 m.n)/\af G h ⟨b,o+i*11+3,none⟩=some (.int .i64 m.f.x)/\af G h ⟨b,o+i*11+4,none⟩=some (.int .i64 m.f.y)/\af G h ⟨b,o+i*11+5,none⟩=some (.bool m.f.d)/\af G h ⟨b,o+i*11+6,none⟩=some (.int .i64 m.t.x)/\af G h ⟨b,o+i*11+7,none⟩=some (.int .i64 m.t.y)/\af G h ⟨b,o+i*11+8,none⟩=some (.bool m.t.d)/\af G h ⟨b,o+i*11+9,none⟩=some (.int .i64 m.a)/\af G h ⟨b,o+i*11+10,none⟩=some (.int .i64 m.e):=by
 obtain ⟨s',cap',e,_,hc⟩:=s
 cases e
 rcases hc with rfl|⟨b,o,rfl,hc⟩
 . simp at hx
 . have e2:=fun j hj=>hc i m hx j hj
   exact ⟨b,o,rfl,e2 0 (by decide),e2 1 (by decide),e2 2 (by decide),e2 3 (by decide),e2 4 (by decide),e2 5 (by decide),e2 6 (by decide),e2 7 (by decide),e2 8 (by decide),e2 9 (by decide),e2 10 (by decide)⟩
theorem We {G h:Hp} {b i:Nat} {M:List Move} {t:List Value} {j:Move} {K:Unit->Hp->Prop} (hb:h b=some (.cells (jw.rows M++t).toArray 48 (0,0))) (hi:i<M.length):
 wpH P_ G (Instr.storeAt 48 (.pointer (some ⟨b,i*11,none⟩)) (Lg j)) h K=K () (h.set b (.cells (jw.rows (M.set i j)++t).toArray 48 (0,0))):=by
 rw [rt (n:=11) sz48 hb rfl (by rw [List.length_append,jw.rows_length,show jw.n=11 from rfl];omega) (by intro v hv;simp [Value.cells]at hv;rcases hv with rfl|rfl|rfl|rfl|rfl|rfl|rfl|rfl|rfl|rfl|rfl<;>rfl)]
 have:=jw.rows_put (t:=t) (x:=j) hi
 rw [<- this]
 rfl
theorem Z5 {G h a:Hp} {R:List Hp} {v:Value} {L:List Move} (s:HL.Sep (a::R) h) (o:Slc jw 48 a v L) (hL:L.length<=1000000):al P_ G 120 #[v] h (fun u h'=>∃a',Slc jw 48 a' v L.reverse/\HL.Sep (a'::R) h'/\Dis G h'):=by
 refine al.assume fun d=>au4 (by simp) ?_
 unfold S120
 obtain ⟨sa,cap,rfl,_⟩:=o.len (by decide)
 simp (disch:=first|decide|omega) only [vj]
 generalize hKK:retK P_ G _ _=KK
 refine b8 (fun m q h3=>∃(i:Nat) (a:Hp) (M:List Move),m=L.length-i/\2*i<=L.length+1/\q 0 = .slice sa L.length cap/\q 2 = .int .i64 i/\q 3 = .int .i64 ((L.length:Int)-1-i)/\Slc jw 48 a (.slice sa L.length cap) M/\rn L M i/\HL.Sep (a::R) h3/\Dis G h3) ?_
  (m:=L.length) ⟨0,a,L,rfl,by omega,by simp (disch:=decide) only [vj],by simp (disch:=decide) only [vj]<;>rfl,by simp only [vj];simp,o,rn.zero,s,d⟩
 clear s o d
 rintro m q h3 ⟨i,a,M,rfl,hi,q0,q2,q3,o,fl,s3,d3⟩ X HX
 unfold Y8
 simp only [vj,q2,q3]
 refine bm (fun hlt=>?_) (fun hge=>?_)
 rotate_left
 . try simp (disch:=first|decide|omega) only [vj,Nat.reduceAdd,Nat.reduceMul]
   rw [<- hKK]
   try simp only [vj]
   rw [fl.all (by omega)]at o
   exact ⟨a,o,s3,d3⟩
 have hij:2*i+1<L.length:=by omega
 obtain ⟨j,ej⟩:∃j:Nat,j=L.length-1-i:=⟨_,rfl⟩
 have ejn:(L.length:Int)-1-(i:Int)=(j:Int):=by omega
 rw [ejn]at q3
 have hil:(i:Int)<L.length:=by omega
 have hjl:(j:Int)<L.length:=by omega
 obtain ⟨x,hx⟩:∃x,M[i]?=some x:=⟨_,List.getElem?_eq_getElem (by rw [fl.1];omega)⟩
 obtain ⟨y,hy⟩:∃y,M[j]?=some y:=⟨_,List.getElem?_eq_getElem (by rw [fl.1];omega)⟩
 have sv:=o.sees (G:=G) (by decide) (s3.in 0 rfl)
 obtain ⟨b,of,rfl,x0,x1,x2,x3,x4,x5,x6,x7,x8,x9,x10⟩:=Sees.mvx sv hx
 obtain ⟨b',of',e',y0,y1,y2,y3,y4,y5,y6,y7,y8,y9,y10⟩:=Sees.mvx sv hy
 cases e'
 obtain ⟨ob,o'⟩:=o
 cases ob with
 |none=>exact absurd o'.2 (fun e=>by rw [e]at hx;simp at hx)
 |some ob=>
 obtain ⟨cap',t,e9,hb,hbl⟩:=o'
 rw [fl.1]at e9
 simp only [Value.slice.injEq,Option.some.injEq,Addr.mk.injEq,and_true,true_and]at e9
 obtain ⟨⟨rfl,rfl⟩,rfl⟩:=e9
 rw [Nat.zero_add]at x0 x1 x2 x3 x4 x5 x6 x7 x8 x9 x10 y0 y1 y2 y3 y4 y5 y6 y7 y8 y9 y10
 have hb3:=s3.at 0 rfl hb
 unfold Jy
 simp (disch:=first|decide|omega) only [vj,q0,q2,q3,ix40 (Int.natCast_nonneg i) hil,ix40 (Int.natCast_nonneg j) hjl,Int.toNat_natCast,x0,x1,x2,x3,x4,x5,x6,x7,x8,x9,x10,y0,y1,y2,y3,y4,y5,y6,y7,y8,y9,y10]
 rw [We (j:=y) hb3 (by rw [fl.1];omega)]
 have s4:=s3.put (o := .cells (jw.rows (M.set i y)++t).toArray 48 (0,0)) hb
 have d4:=d3.set (o := .cells (jw.rows (M.set i y)++t).toArray 48 (0,0)) (d3 _ _ hb3)
 generalize Hp.set h3 b _=h4 at s4 d4 ⊢
 try simp (disch:=first|decide|omega) only [vj,Nat.reduceAdd,Nat.reduceMul,q0,q3,ix40 (Int.natCast_nonneg j) hjl,Int.toNat_natCast]
 rw [We (j:=x) (s4.at 0 rfl ag) (by rw [List.length_set,fl.1];omega)]
 have s5:=s4.put (o := .cells (jw.rows ((M.set i y).set j x)++t).toArray 48 (0,0)) ag
 rw [set_set]at s5
 have d5:=d4.set (o := .cells (jw.rows ((M.set i y).set j x)++t).toArray 48 (0,0)) (d4 _ _ (s4.at 0 rfl ag))
 generalize Hp.set h4 b _=h5 at s5 d5 ⊢
 have fn:=fl.next hij hx (by rw [<- ej];exact hy)
 rw [<- ej]at fn
 unfold Jx
 simp (disch:=first|decide|omega) only [vj,q2,q3]
 refine HX (L.length-(i+1)) _ _ (by omega) ⟨i+1,_,_,rfl,by omega,by simp (disch:=decide) only [vj,q0],by simp (disch:=decide) only [vj]<;>rfl,by simp only [vj]<;>(congr 1;omega),⟨some b,cap,t,by rw [fn.1],ag,?_⟩,fn,s5,d5⟩
 rw [<- hbl,List.length_append,List.length_append,jw.rows_length,jw.rows_length,List.length_set,List.length_set]
end Go.Proofs.YtfflipnhffknnaaGreatDoor
end
section
namespace Go.Proofs.YtfflipnhffknnaaGreatDoor
open Go Go.HL Go.Proofs.Resv Go.Proofs.Srch
def th:=jq bC (jq (jq (jq @bne_self_eq_false.{0} (jq @Tp @cf120)) (jq @H9 (jq @ap1 @fa146_1))) (jq (jq @Ef (jq @Us @Ur)) (jq (jq @ld3 @ld48) (jq @ju @ik))))
theorem U3:∀(n:Nat) (L:List Nat),L.Nodup->(∀x∈L,x<n)->L.length<=n
 |0,L,_,h=>by
  cases L with
  |nil=>simp
  |cons x L=>exact absurd (h x (.head _)) (by omega)
 |n+1,L,hn,h=>by
  by_cases hm:n∈L
  . have h1:=U3 n (L.erase n) (hn.erase n) (fun x hx=>by
     have h2:=h x (List.mem_of_mem_erase hx)
     have h3:x≠n:=(List.Nodup.mem_erase_iff hn).1 hx |>.1
     omega)
    rw [List.length_erase_of_mem hm]at h1
    have:=List.length_pos_of_mem hm
    omega
  . have:=U3 n L hn (fun x hx=>by
     have h2:=h x hx
     have h3:x≠n:=fun e=>hm (e▸hx)
     omega)
    omega
theorem Oa {w k:Nat} {f:Nat->Nat->Int} {p:Pose} (h:cj w k f p=true) (hw:w<=16) (hk:k<=16):0<=numP w k p/\numP w k p<512:=by
 obtain ⟨e1,_,_,e4⟩:=yw (Ag h)
 have:w*k<=16*16:=Nat.mul_le_mul hw hk
 unfold numP
 rw [e1]
 split<;>omega
theorem T9 {q:Par} {p0:Pose} {t0 lo:Int} {z:Move} {S:SS} (v:Inv q.E p0 t0 z lo S) (gt:iu q.T) (fw:Few q.T 100) (hw:q.w<=16) (hk:q.k<=16):S.length<=110000:=by
 have hsl:∀x∈S,x.i<204:=fun x hx=>by
  have h1:=(List.getElem?_eq_some_iff.1 (v.at_ x hx).1).1
  have h2:(q.E.spans x.p).length=(lr q.T q.r ((bw x.p).map (numI q.w q.k))).length:=rfl
  have h3:=C7 gt fw q.r ((bw x.p).map (numI q.w q.k))
  rw [List.length_map,show (bw x.p).length=2 from rfl]at h3
  omega
 have h1:=U3 (512*204) (S.map fun x=>(numP q.w q.k x.p).toNat*204+x.i) ?_ ?_
 . rw [List.length_map]at h1;omega
 . refine List.Pairwise.map _ ?_ (List.pairwise_iff_getElem.2 fun i j hi hj hij=>?_) (R:=fun x y:St Pose Move=>x∈S/\y∈S/\¬(x.p=y.p/\x.i=y.i))
   . rintro x y ⟨hx,hy,hne⟩ e
     have b1:=Oa (v.ok x hx) hw hk
     have b2:=Oa (v.ok y hy) hw hk
     have c1:=hsl x hx
     have c2:=hsl y hy
     refine hne ⟨us (v.ok x hx) (v.ok y hy) ?_,?_⟩<;>omega
   . exact ⟨List.getElem_mem hi,List.getElem_mem hj,List.pairwise_iff_getElem.1 v.keys i j hi hj hij⟩
 . intro n hn
   obtain ⟨x,hx,rfl⟩:=List.mem_map.1 hn
   have b1:=Oa (v.ok x hx) hw hk
   have c1:=hsl x hx
   omega
theorem Zl {q:Par} {p:Pose} {y:WayT} (h:y∈q.E.ways p):y.1.k≠0:=by
 obtain ⟨i,hi⟩:=List.getElem?_of_mem h
 obtain ⟨m,hm,rfl⟩:=F0 hi
 show m.k≠0
 obtain ⟨_,⟨d,n,_,_,_,_,rfl⟩|⟨_,rfl⟩⟩:=Ab hm
 . show (1:Int)≠0;decide
 . show (2:Int)≠0;decide
theorem Of {l:List (Nat × St Pose Move)}:(m9 l).length<=l.length:=by
 induction l with
 |nil=>simp [m9]
 |cons x l ih=>
  cases l with
  |nil=>simp [m9]
  |cons y l=>simp only [m9,List.length_cons]at ih ⊢;omega
theorem K8 {G h a ae ah:Hp} {R:List Hp} {q:Par} {sp kp ms mw mp mt hp:Nat} {c:Cs} {S:SS} {L:List Go.Proofs.Wt.It} {n t0 lo:Int} {p0:Pose} {z:Move} {x:St Pose Move} {k:Nat}
 (ss:Srs q a ae ah ms mw mp mt hp c S L n) (bg:Bg G q sp kp ms mw mp mt hp) (v:Inv q.E p0 t0 z lo S) (hz:z.k=0) (hx:S[k]?=some x) (s:HL.Sep (a::ae::ah::R) h):
 al P_ G 69 #[.pointer (some ⟨sp,0,none⟩),ndV (uu q.w q.k x)] h (fun u h'=>∃ip,Slc jw 48 ip u (path S S.length k [])/\(path S S.length k []).length<=110000/\HL.Sep (ip::a::ae::ah::R) h'/\Dis G h'):=by
 obtain ⟨ab,cb,ap,cp,ar,cr,az,cs,gp,tp,hbg⟩:=id bg.ex
 refine al.assume fun d=>enter69 (by simp) ?_
 obtain ⟨_,_,gs,_⟩:=hbg h d
 have hS:∀x∈S,cj q.w q.k q.f x.p=true:=v.ok
 have hSl:=T9 v bg.gt bg.fw gs.w2 gs.k2
 obtain ⟨l,hch,hll⟩:=Md v hx
 have hpath:=Hc hch S.length [] hll
 rw [List.append_nil]at hpath
 rw [hpath]
 have hml:=Of (l:=l)
 obtain ⟨o,E,bb,km,sb,se⟩:=id ss.st
 unfold S69
 simp only [uu]
 simp only [th]
 intro xn hxn gxn
 have s1:=s.past (o := .cells #[(numP q.w q.k x.p),(x.i:Int)] 137 (0,0)) hxn
 have d1:=d.set (o := .cells #[(numP q.w q.k x.p),(x.i:Int)] 137 (0,0)) gxn
 have hns:(h.set xn (.cells #[(numP q.w q.k x.p),(x.i:Int)] 137 (0,0))) xn=some (.cells #[(numP q.w q.k x.p),(x.i:Int)] 137 (0,0)):=ag
 generalize Hp.set h xn _=h1 at s1 d1 hns ⊢
 have cn1:∀k,af G h1 ⟨xn,k,none⟩=_:=fun k=>aj (ai hns)
 have b1:=vi (hbg h1 d1).2.1
 have hmt:h1 mt=some o:=(s1.pick 1 rfl rfl).open sb |>.at 0 rfl ag
 have look:∀{h':Hp} {k':Nat} {x':St Pose Move},HL.look G h' mt=some o->S[k']?=some x'->∃e,E[k']?=some e/\bb e.2=some (p9 (ix q.w q.k S x'.b) x'.mv x'.a x'.dn)/\∀K,pw P_ G h' (Instr.lookup 131 (.map (some mt)) (.agg #[(numP q.w q.k x'.p),(x'.i:Int)]) false) K=K (.pointer (some ⟨e.2,0,none⟩)):=by
  intro h' k' x' hm hx'
  have hk:=al8 v hx'
  rcases se.get (f:=q.f) hS (hS _ (List.mem_of_getElem? hx')) (i:=x'.i)with ⟨h0,_⟩|⟨j,e,y,h1,h2,h3,h4,h5⟩
  . rw [hk]at h0;cases h0
  . rw [hk]at h1
    cases h1
    rw [hx']at h3
    cases h3
    refine ⟨e,h2,h5,fun K=>?_⟩
    have:=E2 (K:=K) Oe unmt zerot hm km (k:=(numP q.w q.k x'.p,(x'.i:Int)))
    rw [h4,Option.getD_some]at this
    exact this
 obtain ⟨e0,he0,hb0,lk0⟩:=look (ai hmt) hx
 try simp only [th,b1.mt,cn1,lk0]
 have kind:∀{k':Nat} {x':St Pose Move},S[k']?=some x'->(x'.b<0->x'.mv.k=0)/\(0<=x'.b->x'.mv.k≠0):=by
  intro k' x' hx'
  rcases v.by_ x' (List.mem_of_getElem? hx')with ⟨h1,_,_,h2⟩|⟨y,h1,_,_,_,⟨w,hw,_,_,_,_,_,_,_,_,hm⟩⟩
  . exact ⟨fun _=>by rw [h2];exact hz,fun h=>by omega⟩
  . refine ⟨fun h=>by omega,fun _=>?_⟩
    rw [hm]
    exact Zl hw
 generalize hKK:bn 0 _=KK
 refine b8 (fun m r' h'=>∃(k':Nat) (x':St Pose Move) (l':List (Nat × St Pose Move)) (e':Nd × Nat) (ip:Hp) (M:List Move),m=l'.length/\Dw S k' l'/\S[k']?=some x'/\bb e'.2=some (p9 (ix q.w q.k S x'.b) x'.mv x'.a x'.dn)/\Slc jw 48 ip (r' 5) M/\M++m9 l'=m9 l/\r' 0 = .pointer (some ⟨sp,0,none⟩)/\r' 6 = .pointer (some ⟨e'.2,0,none⟩)/\HL.Sep (ip::a::ae::ah::R) h'/\Dis G h') ?_ (m:=l.length)
  ⟨k,x,l,e0,noHp,[],rfl,hch,hx,hb0,by simp (disch:=decide) only [th];exact Slc.nil,rfl,by simp (disch:=decide) only [th],by simp only [th],s1.none,d1⟩
 rintro m r1 h2 ⟨k',x',l',e',ip,M,rfl,hc',hx',hbe,om,hM,e0',e6,s2,d2⟩ X hX
 unfold aA2
 have hbe2:h2 e'.2=some (p9 (ix q.w q.k S x'.b) x'.mv x'.a x'.dn):=(s2.pick 2 rfl rfl).open sb |>.at 1 rfl hbe
 have ce2:∀k,af G h2 ⟨e'.2,k,none⟩=_:=fun k=>aj (ai hbe2)
 simp only [stpL]at ce2
 simp only [th,e6,ce2]
 have hMl:M.length<=110000:=by
  have:=congrArg List.length hM
  rw [List.length_append]at this
  omega
 cases hc' with
 |start h0 hb=>
  rename_i x''
  rw [hx']at h0
  cases h0
  have hk0:=(kind hx').1 hb
  try simp only [th,hk0,decide_true,Bool.not_true]
  rw [<- hKK]
  show Vu G _ _ _
  unfold Vu
  simp (disch:=decide) only [th]
  rw [show m9 [(k',x')]=[]from rfl,List.append_nil]at hM
  subst hM
  refine (Z5 s2 om (by omega)).mono ?_
  rintro _ h3 ⟨ip3,om3,s3,d3⟩
  try simp (disch:=first|decide|omega) only [th,Nat.reduceAdd,Nat.reduceMul]
  exact ⟨ip3,om3,by rw [List.length_reverse];omega,s3,d3⟩
 |@step _ j x'' l'' h0 hb hc2=>
  rw [hx']at h0
  cases h0
  have hk0:=(kind hx').2 (by omega)
  try simp only [th,show (x'.mv.k != 0)=true from by simpa using hk0]
  unfold Mz
  try simp (disch:=decide) only [th,Nat.reduceAdd,e6,ce2]
  intro b hb' gb
  have s3:=s2.past (o := .cells #[x'.mv.k,x'.mv.d,x'.mv.n,x'.mv.f.x,x'.mv.f.y,.bool x'.mv.f.d,x'.mv.t.x,x'.mv.t.y,.bool x'.mv.t.d,x'.mv.a,x'.mv.e] 48 (0,0)) hb'
  have d3:=d2.set (o := .cells #[x'.mv.k,x'.mv.d,x'.mv.n,x'.mv.f.x,x'.mv.f.y,.bool x'.mv.f.d,x'.mv.t.x,x'.mv.t.y,.bool x'.mv.t.d,x'.mv.a,x'.mv.e] 48 (0,0)) gb
  have hbs:(h2.set b (.cells #[x'.mv.k,x'.mv.d,x'.mv.n,x'.mv.f.x,x'.mv.f.y,.bool x'.mv.f.d,x'.mv.t.x,x'.mv.t.y,.bool x'.mv.t.d,x'.mv.a,x'.mv.e] 48 (0,0))) b=_:=ag
  generalize Hp.set h2 b _=h3 at s3 d3 hbs ⊢
  refine dm jw (by decide) un40 eomove (by decide) (by decide) (M:=[x'.mv]) s3 d3 om (Sees.row (c:=jw) (L:=[x'.mv]) hbs rfl (Nat.le_refl _)) (by simp;omega) fun v4 a4 h4 o4 s4 d4=>?_
  obtain ⟨y,hy⟩:∃y,S[j]?=some y:=by cases hc2<;>exact ⟨_,by assumption⟩
  obtain ⟨e1,he1,hb1,lk1⟩:=look (h':=h4) (ai ((s4.pick 2 rfl rfl).open sb |>.at 0 rfl ag)) hy
  have hbe4:h4 e'.2=some (p9 (ix q.w q.k S x'.b) x'.mv x'.a x'.dn):=(s4.pick 2 rfl rfl).open sb |>.at 1 rfl hbe
  have hfr:ix q.w q.k S x'.b=uu q.w q.k y:=by
   unfold ix
   rw [if_neg (by omega),hb,Int.toNat_natCast,hy]
  rw [hfr]at hbe4
  have ce4:∀k,af G h4 ⟨e'.2,k,none⟩=_:=fun k=>aj (ai hbe4)
  simp only [stpL,uu]at ce4
  have b4:=vi (hbg h4 d4).2.1
  unfold My
  try simp (disch:=decide) only [th,e0',e6,b4.mt,ce4,lk1]
  refine hX l''.length _ _ (by simp) ⟨j,y,l'',e1,a4,M++[x'.mv],rfl,hc2,hy,hb1,by simp (disch:=decide) only [th];exact o4,?_,by simp (disch:=decide) only [th,e0'],by simp only [th],s4,d4⟩
  rw [<- hM,List.append_assoc]
  congr 1
  cases hc2<;>rfl
def bRtS:=jq bC (jq (jq (jq (jq (jq @Bool.and_true @al139) (jq @al30 (jq @cf66 @cf68))) (jq (jq @cf69 (jq @cf70 @eq28)) (jq @eq30 (jq @Ia @H9)))) (jq (jq (jq @Xk @Sz) (jq @Sy (jq @Xj @ap3))) (jq (jq @Xi (jq @ap2 @ap0)) (jq @Xh (jq @ao9 @Sx))))) (jq (jq (jq (jq @F5 @wd) (jq @an4 (jq @an3 @D8))) (jq (jq @Ut (jq @Us @ld132)) (jq @ld137 (jq @Ur @ld28)))) (jq (jq (jq @ld3 (jq @ld30 @tw)) (jq @ld3p (jq @ld4 @ld4p))) (jq (jq @ju (jq @ik @jt)) (jq @ry (jq @ag6 @yd))))))
theorem StE.look {w k:Nat} {f:Nat->Nat->Int} {b:Hp} {E:List (Nd × Nat)} {S:SS} (s:StE w k b E S) (hS:∀x∈S,cj w k f x.p=true) {j:Nat} {x:St Pose Move} (hx:S[j]?=some x) (hk:Srch.key S x.p x.i=some j):
 ∃e,E[j]?=some e/\b e.2=some (p9 (ix w k S x.b) x.mv x.a x.dn)/\kget (E.map entV) (numP w k x.p,(x.i:Int))=some (.pointer (some ⟨e.2,0,none⟩)):=by
 rcases s.get (f:=f) hS (hS _ (List.mem_of_getElem? hx)) (i:=x.i)with ⟨h0,_⟩|⟨j',e,y,h1,h2,h3,h4,h5⟩
 . rw [hk]at h0;cases h0
 . rw [hk]at h1
   cases h1
   rw [hx]at h3
   cases h3
   exact ⟨e,h2,h5,h4⟩
theorem StE.done {w k:Nat} {b:Hp} {E:List (Nd × Nat)} {S:SS} (s:StE w k b E S) {j:Nat} {x:St Pose Move} {e:Nd × Nat} (hx:S[j]?=some x) (he:E[j]?=some e):
 StE w k (b.set e.2 (p9 (ix w k S x.b) x.mv x.a true)) E (take S j x):=by
 have hjS:j<S.length:=(List.getElem?_eq_some_iff.1 hx).1
 have e3:({ x with dn:=true }:St Pose Move).p=x.p:=rfl
 have e4:({ x with dn:=true }:St Pose Move).i=x.i:=rfl
 refine ⟨by unfold take;rw [List.length_set];exact s.len,s.nod,fun i e' y he' hy=>?_⟩
 unfold take at hy ⊢
 by_cases hij:j=i
 . subst hij
   rw [List.getElem?_set_self hjS]at hy
   rw [he]at he'
   cases he'
   cases hy
   refine ⟨(s.cel j e x he hx).1,?_⟩
   rw [ag,C6 (y:={ x with dn:=true }) hx e3 e4]
 . rw [List.getElem?_set_ne hij]at hy
   obtain ⟨h1,h2⟩:=s.cel i e' y he' hy
   have hne:e'.2≠e.2:=fun h=>by
    have hl1:=(List.getElem?_eq_some_iff.1 he).1
    have hl2:=(List.getElem?_eq_some_iff.1 he').1
    have a1:(E.map (·.2))[j]?=some e.2:=by rw [List.getElem?_map,he];rfl
    have a2:(E.map (·.2))[i]?=some e'.2:=by rw [List.getElem?_map,he'];rfl
    rw [h,<- a1]at a2
    exact hij ((List.getElem?_inj (by simpa using hl1) s.nod).1 a2.symm)
   rw [av hne,C6 (y:={ x with dn:=true }) hx e3 e4]
   exact ⟨h1,h2⟩
def outL:Res Move->List Move
 | .ok l=>l
 | .no _=>[]
def outE:Res Move->Int
 | .ok _=>0
 | .no e=>e
structure Fz (G B:Hp) (q:Par) (sp kp ms mw mp mt hp xc xg:Nat) (gp:Pose) (any:Bool):Prop where
 bg:∀A h,HL.Sep [A,B] h->Dis G h->Bg (HL.under G h A) q sp kp ms mw mp mt hp
 rd:∃g tp,∀h,B.le h->Dis G h->BC G h sp g kp tp q.r ms mw mp mt hp
 gt:iu q.T
 fw:Few q.T 100
 w2:q.w<=16
 k2:q.k<=16
 bud:∀h,B.le h->Dis G h->af G h ⟨xc,14,none⟩=some (.int .i64 q.C.bu)
 aim:B xg=some (.cells #[gp.x,gp.y,.bool gp.d,.bool any] 45 (0,0))
def ml (gp:Pose) (any:Bool) (p:Pose) (s:Sp):Bool:=((p.x==gp.x&&p.y==gp.y&&p.d==gp.d)||(any&&(p.x==gp.x&&p.y==gp.y)))&&(s.2==FV)
theorem Qu {P M:Type} [DecidableEq P] {E:Env P M} {goal:P->Sp->Bool} {n:Nat} {S:List (St P M)} {k:Nat} {x:St P M} (h:least E S=some (k,x)) (hg:goal x.p x.s=true):run E goal (n+1) S = .ok (path (take S k x) S.length k []):=by
 conv=>lhs;unfold run
 rw [h]
 simp only [hg,if_true]
theorem run_on {P M:Type} [DecidableEq P] {E:Env P M} {goal:P->Sp->Bool} {n:Nat} {S:List (St P M)} {k:Nat} {x:St P M} (h:least E S=some (k,x)) (hg:goal x.p x.s=false):run E goal (n+1) S=run E goal n (zc E { x with dn:=true } k (take S k x)):=by
 conv=>lhs;unfold run
 rw [h]
 simp [hg]
def OutR (G:Hp) (B:Hp) (W:Res Move) (u:Value) (h':Hp):Prop:=∃ip vs,u = .tuple #[vs,(outE W)]/\Slc jw 48 ip vs (outL W)/\(outL W).length<=110000/\HL.Sep [ip,B] h'/\Dis G h'
theorem Qx {G h A B a ae ah ak:Hp} {q:Par} {sp kp ms mw mp mt hp xc xg:Nat} {gp:Pose} {any:Bool} {c:Cs} {S:SS} {L:List Go.Proofs.Wt.It} {n t0 lo:Int} {p0:Pose} {z:Move} {N:Nat}
 (fz:Fz G B q sp kp ms mw mp mt hp xc xg gp any) (ok:qf q.E) (ht0:0<=t0) (hN:(N:Int)=q.C.bu) (hN1:1<=N) (hN2:N<=4000) (hz:z.k=0)
 (ss:Srs q a ae ah ms mw mp mt hp c S L n) (kpk:KP ak kp q.C.un q.C.ac q.C.sp) (v:Inv q.E p0 t0 z lo S) (hn:n<=1)
 (sA:HL.Sep [a,ae,ah,ak] A) (s:HL.Sep [A,B] h) (d:Dis G h) (r:Rg) (g19:r 19 = .pointer (some ⟨sp,0,none⟩)) (g6:r 6 = .pointer (some ⟨xc,0,none⟩)) (g11:r 11 = .pointer (some ⟨xg,0,none⟩)) (g20:r 20 = .int .i64 0) (g15:r 15 = .int .i64 6) {Q:Value->Hp->Prop} (HQ:∀u h',OutR G B (run q.E (ml gp any) N S) u h'->Q u h'):
 ci (V3 G) r h (bn 0 (bv (Er G (retK P_ G [.tmp 12,.tmp 13] Q)) (qa (retK P_ G [.tmp 12,.tmp 13] Q)))):=by
 obtain ⟨g,tp,hrd⟩:=fz.rd
 generalize hW:run q.E (ml gp any) N S=W at HQ
 generalize hKR:retK P_ G [.tmp 12,.tmp 13] Q=KR
 generalize hKK:bn 0 _=KK
 refine b8 (fun m r' h'=>∃(i:Nat) (S':SS) (A' a' ae' ah' ak':Hp) (c':Cs) (L':List Go.Proofs.Wt.It) (n' lo':Int),m=(N-i)*40000000000+L'.length/\i<N/\run q.E (ml gp any) (N-i) S'=W/\Srs q a' ae' ah' ms mw mp mt hp c' S' L' n'/\KP ak' kp q.C.un q.C.ac q.C.sp/\Inv q.E p0 t0 z lo' S'/\n'<=1+i*2000000/\
  HL.Sep [a',ae',ah',ak'] A'/\HL.Sep [A',B] h'/\Dis G h'/\r' 19 = .pointer (some ⟨sp,0,none⟩)/\r' 6 = .pointer (some ⟨xc,0,none⟩)/\r' 11 = .pointer (some ⟨xg,0,none⟩)/\r' 20 = .int .i64 i/\r' 15 = .int .i64 6) ?_ (m:=N*40000000000+L.length)
  ⟨0,S,A,a,ae,ah,ak,c,L,n,lo,by simp,by omega,hW,ss,kpk,v,by omega,sA,s,d,g19,g6,g11,g20,g15⟩
 clear ss kpk v sA s d g19 g6 g11 g20 g15 hW
 rintro m r1 h1 ⟨i,S1,A1,a1,ae1,ah1,ak1,c1,L1,n1,lo1,rfl,hi,hW,ss,kpk,v,hn1,sA,s,d,e19,e6,e11,e20,e15⟩ X hX
 have b1:=hrd h1 (s.in 1 rfl) d
 unfold V3
 simp only [bRtS,e19,b1.hp]
 obtain ⟨N',hN'⟩:∃N',N-i=N'+1:=⟨N-i-1,by omega⟩
 have sAh:HL.Sep [ah1,a1,ae1,ak1] A1:=sA.sel [2,0,1,3] (by decide) rfl
 have hLn:=ss.ln
 cases L1 with
 |nil=>
  refine (Hw.al9 ss.hp (HL.Sep.open (R:=[B]) s sAh)).mono ?_
  rintro _ h2 ⟨rfl,rfl⟩
  simp only [Hw.pkV]
  try simp (disch:=first|decide|exact ao|exact am|omega|rfl) only [bRtS]
  intro xw hxw gxw
  have s2:=s.past (o := .cells #[(0:Int),(0:Int),(0:Int)] 139 (0,0)) hxw
  have d2:=d.set (o := .cells #[(0:Int),(0:Int),(0:Int)] 139 (0,0)) gxw
  generalize Hp.set h2 xw _=h3 at s2 d2 ⊢
  rw [<- hKK]
  show Er G KR _ _
  unfold Er
  have hr:W = .no 6:=by
   rw [<- hW,hN']
   unfold run
   rw [ai9 ss.qi]
  rw [<- hKR]
  simp (disch:=decide) only [bRtS,e15]
  exact HQ _ _ ⟨noHp,_,by rw [hr];rfl,by rw [hr];exact Slc.nil,by rw [hr];simp [outL],(s2.drop).none,d2⟩
 |cons w L1=>
  obtain ⟨wk,wm,ws,wn⟩:=w
  obtain ⟨hok',hperm,hmin⟩:=Go.Proofs.Wt.pop_ok ss.ok
  obtain ⟨k,x,hxk,em,es,hstale,hfresh⟩:=popQ ok v ss.qi hmin (L':=Go.Proofs.Wt.popL (⟨wk,wm,ws,wn⟩::L1)) (List.Perm.cons_inv hperm).symm
  have em':wm=numP q.w q.k x.p:=em.symm
  have es':ws=(x.i:Int):=es.symm
  subst em' es'
  have hxm:=List.mem_of_getElem? hxk
  have hpl:=Go.Proofs.Wt.yp (⟨wk,numP q.w q.k x.p,(x.i:Int),wn⟩::L1)
  simp only [List.length_cons]at hpl hLn
  refine (Sep.on s (Hw.hpop (G:=HL.under G h1 A1) ss.hp sAh (by omega))).mono ?_
  rintro _ h2 ⟨A2,⟨rfl,ah2,hp2,sA2,dA2⟩,s2,d2⟩
  have sA2:HL.Sep [ah2,a1,ae1,ak1] A2:=sA2
  simp only [Hw.pkV]
  try simp (disch:=first|decide|exact ao|exact am|omega|rfl) only [bRtS]
  intro xw hxw gxw
  have s3:=s2.new (o := .cells #[wk,(numP q.w q.k x.p),(x.i:Int)] 139 (0,0)) hxw
  have d3:=d2.set (o := .cells #[wk,(numP q.w q.k x.p),(x.i:Int)] 139 (0,0)) gxw
  generalize how:Obj.cells #[wk,(numP q.w q.k x.p),(x.i:Int)] 139 (0,0)=ow at s3 d3 ⊢
  generalize Hp.set h2 xw _=h3 at s3 d3 ⊢
  have s3:HL.Sep [A2,B,noHp.set xw ow] h3:=s3.sel [1,2,0] (by decide) rfl
  have cw3:∀k,af G h3 ⟨xw,k,none⟩=_:=fun k=>aj (ai ((s3.at 2 rfl ag).trans (by rw [how])))
  have b3:=hrd h3 (s3.in 1 rfl) d3
  obtain ⟨o,E,bb,km,sb,se⟩:=id ss.st
  have sAe:HL.Sep [ae1,a1,ah2,ak1] A2:=sA2.sel [2,1,0,3] (by decide) rfl
  have sAo:HL.Sep [noHp.set mt o,bb,a1,ah2,ak1] A2:=HL.Sep.open (L:=[noHp.set mt o,bb]) (R:=[a1,ah2,ak1]) sAe sb
  have hmt3:h3 mt=some o:=(s3.in 0 rfl) _ _ (sAo.at 0 rfl ag)
  obtain ⟨e,he,hbe,hkg⟩:=se.look (f:=q.f) v.ok hxk (al8 v hxk)
  have hbe3:h3 e.2=some (p9 (ix q.w q.k S1 x.b) x.mv x.a x.dn):=(s3.in 0 rfl) _ _ (sAo.at 1 rfl hbe)
  have ce3:∀k,af G h3 ⟨e.2,k,none⟩=_:=fun k=>aj (ai hbe3)
  simp only [stpL]at ce3
  have lk3:∀K,pw P_ G h3 (Instr.lookup 131 (.map (some mt)) (.agg #[(numP q.w q.k x.p),(x.i:Int)]) false) K=K (.pointer (some ⟨e.2,0,none⟩)):=by
   intro K
   have:=E2 (G:=G) (K:=K) Oe unmt zerot (ai hmt3) km (k:=(numP q.w q.k x.p,(x.i:Int)))
   rw [hkg,Option.getD_some]at this
   exact this
  unfold Nk
  try simp (disch:=decide) only [bRtS,Nat.reduceAdd,e19,b3.mt,cw3,lk3,ce3]
  have stale:(x.dn=true\/x.a≠wk)->∀r':Rg,r' 19 = .pointer (some ⟨sp,0,none⟩)->r' 6 = .pointer (some ⟨xc,0,none⟩)->r' 11 = .pointer (some ⟨xg,0,none⟩)->r' 20 = .int .i64 i->r' 15 = .int .i64 6->X r' h3:=by
   intro hs r' w19 w6 w11 w20 w15
   exact hX ((N-i)*40000000000+(Go.Proofs.Wt.popL (⟨wk,numP q.w q.k x.p,(x.i:Int),wn⟩::L1)).length) _ _ (by rw [hpl];simp only [List.length_cons];omega)
    ⟨i,S1,A2,a1,ae1,ah2,ak1,c1,_,n1,lo1,rfl,hi,hW,⟨ss.ch,ss.st,hp2,hok',hstale hs,ss.kept,ss.n0,by rw [hpl];omega⟩,kpk,v,hn1,sA2.sel [1,2,0,3] (by decide) rfl,s3.sel [0,1] (by decide) rfl,d3,w19,w6,w11,w20,w15⟩
  cases hdn:x.dn with
  |true=>
   try simp only [bRtS,dw]
   exact stale (.inl hdn) _ (by simp (disch:=omega) only [au,e19]) (by simp (disch:=omega) only [au,e6]) (by simp (disch:=omega) only [au,e11]) (by simp (disch:=omega) only [au,e20]) (by simp (disch:=omega) only [au,e15])
  |false=>
  try simp only [bRtS,ce3,cw3]
  by_cases hxa:x.a=wk
  rotate_left
  . try simp only [bRtS,show (x.a != wk)=true from by simpa using hxa]
    exact stale (.inr hxa) _ (by simp (disch:=omega) only [au,e19]) (by simp (disch:=omega) only [au,e6]) (by simp (disch:=omega) only [au,e11]) (by simp (disch:=omega) only [au,e20]) (by simp (disch:=omega) only [au,e15])
  subst hxa
  try simp only [bRtS,show (x.a != x.a)=false from by simp]
  obtain ⟨hle,hq2⟩:=hfresh hdn rfl
  obtain ⟨v2,hx2⟩:=Gi v hle
  suffices k8:∀r':Rg,r' 19 = .pointer (some ⟨sp,0,none⟩)->r' 6 = .pointer (some ⟨xc,0,none⟩)->r' 11 = .pointer (some ⟨xg,0,none⟩)->r' 20 = .int .i64 i->r' 15 = .int .i64 6->r' 21 = .pointer (some ⟨xw,0,none⟩)->r' 23 = .pointer (some ⟨e.2,0,none⟩)->Ep G (bv X KK) r' h3 from
   k8 _ (by simp (disch:=omega) only [au,e19]) (by simp (disch:=omega) only [au,e6]) (by simp (disch:=omega) only [au,e11]) (by simp (disch:=omega) only [au,e20]) (by simp (disch:=omega) only [au,e15]) (by simp (disch:=decide) only [bRtS]) (by simp (disch:=decide) only [bRtS])
  clear stale
  intro r2 f19 f6 f11 f20 f15 f21 f23
  unfold Ep
  simp (disch:=decide) only [bRtS,f23]
  rw [bz sz4 rfl hbe3 (by simp [stpL])]
  have hset:(stpL (ix q.w q.k S1 x.b) x.mv x.a x.dn).set 14 (.bool true)=stpL (ix q.w q.k S1 x.b) x.mv x.a true:=rfl
  rw [hset]
  have s4:=s3.put (o:=p9 (ix q.w q.k S1 x.b) x.mv x.a true) (sAo.at 1 rfl hbe)
  have d4:=d3.set (o:=p9 (ix q.w q.k S1 x.b) x.mv x.a true) (d3 _ _ hbe3)
  have sA4:=(HL.Sep.sel (L':=[bb,noHp.set mt o,a1,ah2,ak1]) sAo [1,0,2,3,4] (by decide) rfl).put (o:=p9 (ix q.w q.k S1 x.b) x.mv x.a true) hbe
  have se4:=se.done hxk he
  generalize bb.set e.2 _=bb4 at sA4 se4
  generalize A2.set e.2 _=A4 at s4 sA4
  generalize Hp.set h3 e.2 _=h4 at s4 d4 ⊢
  obtain ⟨ae4,sA5,t5⟩:=HL.Sep.pack [noHp.set mt o,bb4] (R:=[a1,ah2,ak1]) (sA4.sel [1,0,2,3,4] (by decide) rfl)
  have sA5:HL.Sep [a1,ae4,ah2,ak1] A4:=sA5.sel [1,0,2,3] (by decide) rfl
  have ss4:Srs q a1 ae4 ah2 ms mw mp mt hp c1 (take S1 k x) (Go.Proofs.Wt.popL (⟨x.a,numP q.w q.k x.p,(x.i:Int),wn⟩::L1)) n1:=⟨ss.ch,⟨o,E,bb4,km,t5,se4⟩,hp2,hok',hq2,fun y hy=>by
   obtain ⟨j,hj⟩:=List.getElem?_of_mem hy
   unfold take at hj
   by_cases hkj:k=j
   . subst hkj
     rw [List.getElem?_set_self (List.getElem?_eq_some_iff.1 hxk).1]at hj
     cases hj
     exact ss.kept x hxm
   . rw [List.getElem?_set_ne hkj]at hj
     exact ss.kept y (List.mem_of_getElem? hj),ss.n0,by rw [hpl];omega⟩
  obtain ⟨o1,o2,o3,m1,m2,m3,sa⟩:=id ss.ch.sep
  have sA6:HL.Sep [noHp.set ms o1,noHp.set mw o2,noHp.set mp o3,c1.P,ae4,ah2,ak1] A4:=HL.Sep.open (L:=[noHp.set ms o1,noHp.set mw o2,noHp.set mp o3,c1.P]) (R:=[ae4,ah2,ak1]) sA5 sa
  have hmp:h4 mp=some o3:=(s4.in 0 rfl) _ _ (sA6.at 2 rfl ag)
  have b4:=hrd h4 (s4.in 1 rfl) d4
  obtain ⟨hk1,hk3⟩:=ss.kept x hxm
  have cw4:∀k,af G h4 ⟨xw,k,none⟩=_:=fun k=>aj (ai ((s4.at 2 rfl ag).trans (by rw [how])))
  try simp -implicitDefEqProofs (maxSteps:=2000000) (disch:=first|decide|with_reducible exact Nat.ne_of_beq_eq_false rfl|exact ao|exact am|omega|rfl|(simp;done)|fail) only [bRtS,Nat.reduceAdd,f20,f19,b4.mp,f21,cw4]
  rw [E3 unmp un3r zerop (ai hmp) m3,hk3,Option.getD_some]
  intro xp hxp gxp
  try simp (disch:=first|decide|exact ao|exact am|omega|rfl) only [bRtS]
  have s5:=s4.new (o := .cells #[x.p.x,x.p.y,.bool x.p.d] 30 (0,0)) hxp
  have d5:=d4.set (o := .cells #[x.p.x,x.p.y,.bool x.p.d] 30 (0,0)) gxp
  generalize hop:Obj.cells #[x.p.x,x.p.y,.bool x.p.d] 30 (0,0)=op at s5 d5 ⊢
  generalize Hp.set h4 xp _=h5 at s5 d5 ⊢
  have s5:HL.Sep [A4,B,noHp.set xw ow,noHp.set xp op] h5:=s5.sel [1,2,3,0] (by decide) rfl
  have cp5:∀k,af G h5 ⟨xp,k,none⟩=_:=fun k=>aj (ai ((s5.at 3 rfl ag).trans (by rw [hop])))
  have cw5:∀k,af G h5 ⟨xw,k,none⟩=_:=fun k=>aj (ai ((s5.at 2 rfl ag).trans (by rw [how])))
  have cg5:∀k,af G h5 ⟨xg,k,none⟩=_:=fun k=>aj (ai (s5.at 1 rfl fz.aim))
  have hA0:0<=x.a:=by
   obtain ⟨z1,z2,_⟩:=v.at_ x hxm
   have:=(ok.pos _ _ (List.mem_of_getElem? z1)).1
   omega
  have k9:ml gp any x.p x.s=false->∀(r':Rg) (h' A' a':Hp) (c':Cs),Srs q a' ae4 ah2 ms mw mp mt hp c' (take S1 k x) (Go.Proofs.Wt.popL (⟨x.a,numP q.w q.k x.p,(x.i:Int),wn⟩::L1)) n1->HL.Sep [a',ae4,ah2,ak1] A'->HL.Sep [A',B,noHp.set xw ow] h'->Dis G h'->r' 19 = .pointer (some ⟨sp,0,none⟩)->r' 6 = .pointer (some ⟨xc,0,none⟩)->r' 11 = .pointer (some ⟨xg,0,none⟩)->r' 20 = .int .i64 ((i:Int)+1)->r' 15 = .int .i64 6->r' 21 = .pointer (some ⟨xw,0,none⟩)->Eo G (bv X KK) r' h':=by
   intro hg r' h' A' a' c' ss' sA' s' d' w19 w6 w11 w20 w15 w21
   have hrun:W=run q.E (ml gp any) N' (zc q.E { x with dn:=true } k (take S1 k x)):=by
    rw [<- hW,hN',run_on hle hg]
   have cb:=fz.bud h' (s'.in 1 rfl) d'
   unfold Eo
   try simp only [bRtS,w6,w20,cb]
   by_cases hb:(i:Int)+1=q.C.bu
   . try simp only [bRtS,show ((i:Int)+1==q.C.bu)=true from by simpa using hb]
     rw [<- hKK]
     show Er G KR _ _
     unfold Er
     have hN0:N'=0:=by omega
     subst hN0
     rw [<- hKR]
     simp (disch:=decide) only [bRtS]
     exact HQ _ _ ⟨noHp,_,by rw [hrun];rfl,by rw [hrun];exact Slc.nil,by rw [hrun];simp [run,outL],(s'.sel [1] (by decide) rfl).none,d'⟩
   . try simp only [bRtS,show ((i:Int)+1==q.C.bu)=false from by simpa using hb]
     unfold I2
     have cw':∀k,af G h' ⟨xw,k,none⟩=_:=fun k=>aj (ai ((s'.at 2 rfl ag).trans (by rw [how])))
     try simp (disch:=decide) only [bRtS,Nat.reduceAdd,w19,w21,cw']
     have bg:=fz.bg A' h' (s'.sel [0,1] (by decide) rfl) d'
     refine (Sep.on s' (ac3 (G:=HL.under G h' A') (R:=[]) (x:={ x with dn:=true }) ss' kpk bg ok v2 hx2 rfl hA0 (by omega) sA')).mono ?_
     rintro _ h7 ⟨A7,⟨a7,ae7,ah7,ak7,c7,L7,n7,ss7,kp7,_,m1,m2,sA7,_⟩,s7,d7⟩
     try simp (disch:=first|decide|omega) only [bRtS,Nat.reduceAdd,Nat.reduceMul]
     have v7:=(Gd ok (k:=k) (x:={ x with dn:=true }) rfl hA0 (v.ok x hxm) (q.E.ways x.p) (fun _ h=>h) v2 hx2).1
     have ln7:=ss7.ln
     refine hX ((N-(i+1))*40000000000+L7.length) _ _ (by omega) ⟨i+1,_,A7,a7,ae7,ah7,ak7,c7,L7,n7,x.a,rfl,by omega,?_,ss7,kp7,v7,by omega,sA7,s7.sel [0,1] (by decide) rfl,d7,by simp (disch:=omega) only [au,w19],by simp (disch:=omega) only [au,w6],by simp (disch:=omega) only [au,w11],by simp (disch:=omega) only [au,w20];rfl,by simp (disch:=omega) only [au,w15]⟩
     rw [show N-(i+1)=N' by omega]
     exact hrun.symm
  try simp only [bRtS,cp5,f11,cg5]
  have sJ:HL.Sep [noHp.set xp op,noHp.set xw ow,c1.P] h5:=HL.Sep.sel (HL.Sep.open (R:=[B,noHp.set xw ow,noHp.set xp op]) s5 sA6) [9,8,3] (by decide) rfl
  cases hD:(x.p.x==gp.x&&x.p.y==gp.y&&x.p.d==gp.d)with
  |true=>
   try simp only [bRtS,Nat.reduceAdd,dw]
   obtain ⟨q9,l1,l2,l3,l4⟩:=join3 (R:=[]) sJ
   have lq2:q9.le h5:=l4 h5 (s5.in 3 rfl) (s5.in 2 rfl) ((sA6.in 3 rfl).trans (s5.in 0 rfl))
   have cq:∀k,af G q9 ⟨xp,k,none⟩=_:=fun k=>aj (ai ((l1 _ _ ag).trans (by rw [hop])))
   have cqn:∀k,af G q9 ⟨xw,k,none⟩=_:=fun k=>aj (ai ((l2 _ _ ag).trans (by rw [how])))
   refine ⟨q9,lq2,?_⟩
   try simp only [bRtS,cq,f19,dw]
   refine (Sep.on s5 (ly (G:=HL.under G h5 A4) (R:=[ae4,ah2,ak1]) ss4.ch (fz.bg A4 h5 (s5.sel [0,1] (by decide) rfl) d5) sA5 (v.ok x hxm))).mono ?_
   rintro u h6 ⟨A6,⟨a6,c6,ch6,cl6,e2,hu,hu3,sA7,_⟩,s6,d6⟩
   refine ⟨l4 h6 (s6.in 3 rfl) (s6.in 2 rfl) (cl6.p.trans (ch6.pool.trans ((sA7.in 0 rfl).trans (s6.in 0 rfl)))),?_⟩
   obtain ⟨u0,hu0⟩:=Option.isSome_iff_exists.1 hk1
   have huu:=cl6.l1 _ _ hu0
   rw [hu]at huu
   cases huu
   have slu:=ss.ch.look1 (v.ok x hxm) hu0
   obtain ⟨sv,cv,rfl,_⟩:=slu.len (by decide)
   have hsi':(kw q.w q.k q.T q.r x.p)[x.i]?=some x.s:=(v.at_ x hxm).1
   obtain ⟨b,o,rfl,z1,z2⟩:=Sees.span (slu.see (G:=G) (by decide) l3) hsi'
   have hlti:(x.i:Int)<((kw q.w q.k q.T q.r x.p).length:Int):=Int.ofNat_lt.2 (List.getElem?_eq_some_iff.1 hsi').1
   try simp (disch:=first|decide|omega) only [bRtS,cqn,R2 (Int.natCast_nonneg x.i) hlti,z1,z2,dw]
   have ss6:Srs q a6 ae4 ah2 ms mw mp mt hp c6 (take S1 k x) (Go.Proofs.Wt.popL (⟨x.a,numP q.w q.k x.p,(x.i:Int),wn⟩::L1)) n1:=⟨ch6,ss4.st,ss4.hp,ss4.ok,ss4.qi,ss4.kept.le cl6,ss4.n0,ss4.ln⟩
   by_cases hfv:x.s.2=4611686018427387904
   . have hg:ml gp any x.p x.s=true:=by unfold ml FV;rw [hfv];rw [hD];rfl
     try simp only [bRtS,show (x.s.2==4611686018427387904)=true from by simpa using hfv]
     have cw6:∀k,af G h6 ⟨xw,k,none⟩=_:=fun k=>aj (ai ((s6.at 2 rfl ag).trans (by rw [how])))
     try simp only [bRtS,f21,f19,cw6]
     refine (Sep.on s6 (K8 (G:=HL.under G h6 A6) (R:=[ak1]) ss6 (fz.bg A6 h6 (s6.sel [0,1] (by decide) rfl) d6) v2 hz hx2 sA7)).mono ?_
     rintro u h8 ⟨A8,⟨ip,sl8,hl8,sA8,_⟩,s8,d8⟩
     have hrun:W = .ok (path (take S1 k x) S1.length k []):=by
      rw [<- hW,hN',Qu hle hg]
     have hlen:(take S1 k x).length=S1.length:=by unfold take;rw [List.length_set]
     rw [hlen]at sl8 hl8
     rw [<- hKK,<- hKR]
     try simp (disch:=decide) only [bRtS]
     exact HQ _ _ ⟨ip,_,by rw [hrun];rfl,by rw [hrun];exact sl8,by rw [hrun];exact hl8,(s8.cut (sA8.in 0 rfl)).sel [0,1] (by decide) rfl,d8⟩
   . try simp only [bRtS,show (x.s.2==4611686018427387904)=false from by simpa using hfv]
     exact k9 (by unfold ml FV;rw [show (x.s.2==4611686018427387904)=false from by simpa using hfv,Bool.and_false]) _ h6 A6 a6 c6 ss6 sA7 (s6.sel [0,1,2] (by decide) rfl) d6 (by simp (disch:=omega) only [au,f19]) (by simp (disch:=omega) only [au,f6]) (by simp (disch:=omega) only [au,f11]) (by simp (disch:=decide) only [bRtS]) (by simp (disch:=omega) only [au,f15]) (by simp (disch:=omega) only [au,f21])
  |false=>
   try simp only [bRtS,cg5]
   cases hany:any with
   |false=>
    try simp only [bRtS,dw]
    refine ⟨h5,Hp.le.refl _,?_⟩
    try simp (disch:=first|decide|omega) only [bRtS,Nat.reduceAdd,Nat.reduceMul,dw]
    exact k9 (by unfold ml;rw [hD,hany];rfl) _ h5 A4 a1 c1 ss4 sA5 (s5.sel [0,1,2] (by decide) rfl) d5 (by simp (disch:=omega) only [au,f19]) (by simp (disch:=omega) only [au,f6]) (by simp (disch:=omega) only [au,f11]) (by simp (disch:=decide) only [bRtS]) (by simp (disch:=omega) only [au,f15]) (by simp (disch:=omega) only [au,f21])
   |true=>
    try simp only [bRtS,cp5,cg5,f11]
    cases hC:(x.p.x==gp.x&&x.p.y==gp.y)with
    |true=>
     try simp only [bRtS,Nat.reduceAdd]
     obtain ⟨q9,l1,l2,l3,l4⟩:=join3 (R:=[]) sJ
     have lq2:q9.le h5:=l4 h5 (s5.in 3 rfl) (s5.in 2 rfl) ((sA6.in 3 rfl).trans (s5.in 0 rfl))
     have cq:∀k,af G q9 ⟨xp,k,none⟩=_:=fun k=>aj (ai ((l1 _ _ ag).trans (by rw [hop])))
     have cqn:∀k,af G q9 ⟨xw,k,none⟩=_:=fun k=>aj (ai ((l2 _ _ ag).trans (by rw [how])))
     refine ⟨q9,lq2,?_⟩
     try simp only [bRtS,cq,f19,dw]
     refine (Sep.on s5 (ly (G:=HL.under G h5 A4) (R:=[ae4,ah2,ak1]) ss4.ch (fz.bg A4 h5 (s5.sel [0,1] (by decide) rfl) d5) sA5 (v.ok x hxm))).mono ?_
     rintro u h6 ⟨A6,⟨a6,c6,ch6,cl6,e2,hu,hu3,sA7,_⟩,s6,d6⟩
     refine ⟨l4 h6 (s6.in 3 rfl) (s6.in 2 rfl) (cl6.p.trans (ch6.pool.trans ((sA7.in 0 rfl).trans (s6.in 0 rfl)))),?_⟩
     obtain ⟨u0,hu0⟩:=Option.isSome_iff_exists.1 hk1
     have huu:=cl6.l1 _ _ hu0
     rw [hu]at huu
     cases huu
     have slu:=ss.ch.look1 (v.ok x hxm) hu0
     obtain ⟨sv,cv,rfl,_⟩:=slu.len (by decide)
     have hsi':(kw q.w q.k q.T q.r x.p)[x.i]?=some x.s:=(v.at_ x hxm).1
     obtain ⟨b,o,rfl,z1,z2⟩:=Sees.span (slu.see (G:=G) (by decide) l3) hsi'
     have hlti:(x.i:Int)<((kw q.w q.k q.T q.r x.p).length:Int):=Int.ofNat_lt.2 (List.getElem?_eq_some_iff.1 hsi').1
     try simp (disch:=first|decide|omega) only [bRtS,cqn,R2 (Int.natCast_nonneg x.i) hlti,z1,z2,dw]
     have ss6:Srs q a6 ae4 ah2 ms mw mp mt hp c6 (take S1 k x) (Go.Proofs.Wt.popL (⟨x.a,numP q.w q.k x.p,(x.i:Int),wn⟩::L1)) n1:=⟨ch6,ss4.st,ss4.hp,ss4.ok,ss4.qi,ss4.kept.le cl6,ss4.n0,ss4.ln⟩
     by_cases hfv:x.s.2=4611686018427387904
     . have hg:ml gp any x.p x.s=true:=by unfold ml FV;rw [hfv];rw [hD,hany,hC];rfl
       try simp only [bRtS,show (x.s.2==4611686018427387904)=true from by simpa using hfv]
       have cw6:∀k,af G h6 ⟨xw,k,none⟩=_:=fun k=>aj (ai ((s6.at 2 rfl ag).trans (by rw [how])))
       try simp only [bRtS,f21,f19,cw6]
       refine (Sep.on s6 (K8 (G:=HL.under G h6 A6) (R:=[ak1]) ss6 (fz.bg A6 h6 (s6.sel [0,1] (by decide) rfl) d6) v2 hz hx2 sA7)).mono ?_
       rintro u h8 ⟨A8,⟨ip,sl8,hl8,sA8,_⟩,s8,d8⟩
       have hrun:W = .ok (path (take S1 k x) S1.length k []):=by
        rw [<- hW,hN',Qu hle hg]
       have hlen:(take S1 k x).length=S1.length:=by unfold take;rw [List.length_set]
       rw [hlen]at sl8 hl8
       rw [<- hKK,<- hKR]
       try simp (disch:=decide) only [bRtS]
       exact HQ _ _ ⟨ip,_,by rw [hrun];rfl,by rw [hrun];exact sl8,by rw [hrun];exact hl8,(s8.cut (sA8.in 0 rfl)).sel [0,1] (by decide) rfl,d8⟩
     . try simp only [bRtS,show (x.s.2==4611686018427387904)=false from by simpa using hfv]
       exact k9 (by unfold ml FV;rw [show (x.s.2==4611686018427387904)=false from by simpa using hfv,Bool.and_false]) _ h6 A6 a6 c6 ss6 sA7 (s6.sel [0,1,2] (by decide) rfl) d6 (by simp (disch:=omega) only [au,f19]) (by simp (disch:=omega) only [au,f6]) (by simp (disch:=omega) only [au,f11]) (by simp (disch:=decide) only [bRtS]) (by simp (disch:=omega) only [au,f15]) (by simp (disch:=omega) only [au,f21])
    |false=>
     try simp only [bRtS]
     refine ⟨h5,Hp.le.refl _,?_⟩
     try simp (disch:=first|decide|omega) only [bRtS,Nat.reduceAdd,Nat.reduceMul,dw]
     exact k9 (by unfold ml;rw [hD,hany,hC];rfl) _ h5 A4 a1 c1 ss4 sA5 (s5.sel [0,1,2] (by decide) rfl) d5 (by simp (disch:=omega) only [au,f19]) (by simp (disch:=omega) only [au,f6]) (by simp (disch:=omega) only [au,f11]) (by simp (disch:=decide) only [bRtS]) (by simp (disch:=omega) only [au,f15]) (by simp (disch:=omega) only [au,f21])
theorem Uc {C:Conf} (mk:dh C):(1<=C.un/\C.un<=1000)/\(1<=C.ac/\C.ac<=1000)/\(1<=C.sp/\C.sp<=1000)/\(1<=C.tu/\C.tu<=1000)/\(1<=C.ho/\C.ho<=1000):=by
 have h:=mk.six
 simp only [List.mem_cons,List.not_mem_nil,or_false,forall_eq_or_imp,forall_eq,ax,Bool.and_eq_true,decide_eq_true_eq]at h
 omega
theorem Rt {C:Conf} (mk:dh C) {w k:Nat} {f:Nat->Nat->Int} {p:Pose} {m:Move} (h:m∈lk w k f p):1<=fk C m/\fk C m<=16000:=by
 obtain ⟨⟨a1,a2⟩,_,_,⟨b1,b2⟩,_⟩:=Uc mk
 obtain ⟨_,⟨d,n,_,n1,n2,_,rfl⟩|⟨_,rfl⟩⟩:=Ab h
 . obtain ⟨_,t2,t3⟩:=time_bd (A:=C.ac) (V:=C.sp) (n:=(n:Int)) a1 a2
   have e:fk C (uv p d n)=Gh C.un C.ac C.sp n:=by unfold fk;exact if_pos rfl
   rw [e]
   exact ⟨t3 (by omega) (by omega),t2⟩
 . have e:fk C (m8 p)=C.tu:=by
    unfold fk
    rw [if_neg (by show ¬((2:Int)=1);decide)]
    exact if_pos rfl
   rw [e]
   omega
theorem Zn {w k:Nat} {f:Nat->Nat->Int} {p:Pose} (h:wayB w k f (m8 p)=true):cj w k f (Av p)=true:=by
 unfold wayB at h
 simp only [Bool.and_eq_true]at h
 obtain ⟨_,h⟩:=h
 rw [if_neg (by show ¬((2:Int)=1);decide),show (m8 p).k=2 from rfl,if_pos (rfl:(2:Int)=2)]at h
 simp only [Bool.and_eq_true,List.all_eq_true]at h
 obtain ⟨_,h,_⟩:=h
 have h1:∀c∈gj (p.x,p.y),ny w k f c=true:=h
 unfold cj
 rw [Bool.and_eq_true]
 refine ⟨h1 _ (by simp [gj,Av]),h1 _ ?_⟩
 unfold east Av
 cases p.d<;>simp [gj]
theorem aq4 {q:Par} (mk:dh q.C) (gt:iu q.T):qf q.E:=by
 refine ⟨fun p y hy=>?_,fun p s hs=>?_,fun p hp y hy=>?_,fun p p' hp hp' e=>us (f:=q.f) hp hp' e⟩
 . obtain ⟨i,hi⟩:=List.getElem?_of_mem hy
   obtain ⟨m,hm,rfl⟩:=F0 hi
   have:=Rt mk hm
   exact ⟨this.1,Int.le_trans this.2 (by decide)⟩
 . have hr:Ris (q.E.spans p):=yh gt q.r _
   exact hr.bd s hs
 . obtain ⟨i,hi⟩:=List.getElem?_of_mem hy
   obtain ⟨m,hm,rfl⟩:=F0 hi
   show cj q.w q.k q.f m.t=true
   obtain ⟨_,⟨d,n,_,_,_,ho,rfl⟩|⟨hb,rfl⟩⟩:=Ab hm
   . exact ho
   . exact Zn hb
end Go.Proofs.YtfflipnhffknnaaGreatDoor
end
section
namespace Go.Proofs.YtfflipnhffknnaaGreatDoor
open Go Go.HL
theorem ca_nil {G h:Hp} {C:Conf} (h1:C.bl=[]) (h2:C.po=[]) (h3:C.ro=[]) (h4:C.st=[]):CA G h C none 0 none 0 none 0 none 0:=by
 obtain ⟨w,hh,ht,bl,po,ro,st,un,ac,sp,tu,ho,qu,re,bu,back⟩:=C
 subst h1 h2 h3 h4
 exact ⟨Slc.nil.sees (e:=28) (a:=noHp) (by decide) (fun _ _ e=>by cases e),Slc.nil.sees (e:=28) (a:=noHp) (by decide) (fun _ _ e=>by cases e),Slc.nil.sees (e:=30) (a:=noHp) (by decide) (fun _ _ e=>by cases e),[],Slc.nil.sees (e:=95) (a:=noHp) (by decide) (fun _ _ e=>by cases e),by simp⟩
theorem may_nil {C:Conf} (h1:C.bl=[]) (h2:C.po=[]) (h3:C.ro=[]) (h4:C.st=[]):Zk C↔qc C=true:=by
 refine ⟨fun m=>m.nums,fun n=>⟨n,by simp [h2],by simp [h3],by simp [h1],by simp [h1],by simp [h2],by simp [h3],by simp [h3],?_⟩⟩
 exact ⟨by simp [h4],by simp [h4],by simp [h4],by simp [h4],by simp [h4],by simp [h4]⟩
end Go.Proofs.YtfflipnhffknnaaGreatDoor
end
section
namespace Go.Proofs.YtfflipnhffknnaaGreatDoor
open Go Go.HL Go.Proofs.Resv Go.Proofs.Srch
def bRtT:=jq bC (jq (jq (jq (jq @tl @bd146_) (jq @cf29 @cf63)) (jq (jq @cf65 @cf66) (jq @cf67 @Xk))) (jq (jq (jq @H5 @O2) (jq @O1 @ld26)) (jq (jq @ld3 @ld30) (jq @ju @jt))))
def zM:Move:=⟨0,0,0,⟨0,0,false⟩,⟨0,0,false⟩,0,0⟩
theorem kb_of {C:Conf} (mk:dh C):KB C.un C.ac C.sp:=by
 obtain ⟨⟨a1,a2⟩,⟨b1,b2⟩,⟨c1,c2⟩,_,_⟩:=Uc mk
 exact ⟨a1,a2,b1,b2,c1,c2⟩
theorem mkmapR {T:TypeId} {G h:Hp} {K:VK}:wpH P_ G (Instr.makeMap T none) h K=∀x,h x=none->G x=none->K (.map (some x)) (h.set x (.map #[] 0)):=by
 simp [Instr.makeMap,bind,Sem.bind,pure,wpH,newObj]
theorem find_k3 {G h ga B0:Hp} {C:Conf} {T:Tb} {ab:Option Addr} {cb:Nat} {ap:Option Addr} {cp:Nat} {ar:Option Addr} {cr:Nat} {az:Option Addr} {cs:Nat} {xc xp xg tp gb kb w k:Nat} {f:Nat->Nat->Int} {p gp:Pose} {rb t:Int} {any:Bool}
 (st:jb G) (mk:dh C) (hbu:C.bu<=4000) (gt:iu T) (fw:Few T 100) (go:GO ga gb kb w k f) (ca:CA G B0 C ab cb ap cp ar cr az cs) (ts:Rv.TSee G B0 tp T) (hpf:cj w k f p=true) (ht0:0<=t) (ht1:t<FV)
 (bc:B0 xc=some (.cells #[C.w,C.h,C.ht,.slice ab C.bl.length cb,.slice ap C.po.length cp,.slice ar C.ro.length cr,.slice az C.st.length cs,C.un,C.ac,C.sp,C.tu,C.ho,C.qu,C.re,C.bu,.bool C.back] 26 (0,0)))
 (bp:B0 xp=some (.cells #[p.x,p.y,.bool p.d] 30 (0,0))) (bgl:B0 xg=some (.cells #[gp.x,gp.y,.bool gp.d,.bool any] 45 (0,0)))
 (s:HL.Sep [ga,B0] h) (d:Dis G h) (r:Rg) (g1:r 1 = .pointer (some ⟨tp,0,none⟩)) (g2:r 2 = .int .i64 rb) (g4:r 4 = .int .i64 t) (g6:r 6 = .pointer (some ⟨xc,0,none⟩)) (g9:r 9 = .pointer (some ⟨xp,0,none⟩)) (g11:r 11 = .pointer (some ⟨xg,0,none⟩)) (g14:r 14 = .pointer (some ⟨gb,0,none⟩)) {Q:Value->Hp->Prop} (HQ:∀u h',OutR G B0 (find (envE C w k f T rb) (ml gp any) p t zM C.bu.toNat) u h'->Q u h'):
 V4 G (retK P_ G [.tmp 12,.tmp 13] Q) r h:=by
 generalize hq:(⟨C,w,k,f,T,rb⟩:Par)=q
 have hE:envE C w k f T rb=q.E:=by rw [<- hq];rfl
 rw [hE]at HQ
 generalize hW:find q.E (ml gp any) p t zM C.bu.toNat=W at HQ
 generalize hKR:retK P_ G [.tmp 12,.tmp 13] Q=KR
 unfold V4
 have cc:∀k,af G h ⟨xc,k,none⟩=_:=fun k=>aj (ai (s.at 1 rfl bc))
 simp only [bRtT,g6,cc]
 refine (Ru (U:=C.un) (A:=C.ac) (V:=C.sp)).mono ?_
 rintro _ h1 (⟨_,ak,kp,rfl,kpk,s1,d1⟩|⟨hno,_⟩)
 rotate_left
 . exact absurd (kb_of mk) hno
 have s1:HL.Sep [ak,ga,B0] h1:=HL.Sep.open (L:=[ga,B0]) (R:=[ak]) (s1.swap) s |>.sel [2,0,1] (by decide) rfl
 have cc1:∀k,af G h1 ⟨xc,k,none⟩=_:=fun k=>aj (ai (s1.at 2 rfl bc))
 try simp only [bRtT,g6,cc1]
 simp only [mkmapR]
 intro ms hms gms mw hmw gmw mp hmp gmp mt hmt gmt
 have s2:=((((s1.new (o := .map #[] 0) hms).new (o := .map #[] 0) hmw).new (o := .map #[] 0) hmp).new (o := .map #[] 0) hmt)
 have d2:=((((d1.set (o := .map #[] 0) gms).set (o := .map #[] 0) gmw).set (o := .map #[] 0) gmp).set (o := .map #[] 0) gmt)
 generalize Hp.set (Hp.set (Hp.set (Hp.set h1 ms _) mw _) mp _) mt _=h2 at s2 d2 ⊢
 try simp only [bRtT,g14,g1,g2]
 intro sp hsp gsp
 have s3:=s2.new (o := .cells ((oy C (.slice ab C.bl.length cb) (.slice ap C.po.length cp) (.slice ar C.ro.length cr) (.slice az C.st.length cs) (.pointer (some ⟨gb,0,none⟩)) kp tp rb ms mw mp mt 0).set 24 (.pointer none)).toArray 134 (0,0)) hsp
 have d3:=d2.set (o := .cells ((oy C (.slice ab C.bl.length cb) (.slice ap C.po.length cp) (.slice ar C.ro.length cr) (.slice az C.st.length cs) (.pointer (some ⟨gb,0,none⟩)) kp tp rb ms mw mp mt 0).set 24 (.pointer none)).toArray 134 (0,0)) gsp
 simp only [oy,List.set_cons_succ,List.set_cons_zero]at s3 d3
 generalize hos:Obj.cells (List.toArray [.int .i64 C.w,_,_,_,_,_,_,_,_,_,_,_,_,_,_,_,_,_,_,_,_,_,_,_,_]) 134 (0,0)=os at s3 d3 ⊢
 generalize Hp.set h2 sp _=h3 at s3 d3 ⊢
 refine (Hw.si (G:=G) (h:=h3)).mono ?_
 rintro _ _ ⟨hp,rfl,hhp,ghp,rfl⟩
 have s4:=s3.new (o := .cells #[.func (.func 64) #[] #[],.slice none 0 0,(0:Int)] 218 (0,0)) hhp
 have d4:=d3.set (o := .cells #[.func (.func 64) #[] #[],.slice none 0 0,(0:Int)] 218 (0,0)) ghp
 generalize hoh:Obj.cells #[.func (.func 64) #[] #[],.slice none 0 0,(0:Int)] 218 (0,0)=oh at s4 d4 ⊢
 generalize Hp.set h3 hp oh=h4 at s4 d4 ⊢
 try simp (disch:=first|decide|omega) only [bRtT,Nat.reduceAdd,Nat.reduceMul]
 have hs4:h4 sp=some os:=s4.at 1 rfl ag
 subst hos
 rw [bz sz132 rfl hs4 (by simp)]
 have s5:=(s4.pick 1 rfl rfl).put (o := .cells (oy C (.slice ab C.bl.length cb) (.slice ap C.po.length cp) (.slice ar C.ro.length cr) (.slice az C.st.length cs) (.pointer (some ⟨gb,0,none⟩)) kp tp rb ms mw mp mt hp).toArray 134 (0,0)) ag
 rw [set_set]at s5
 have d5:=d4.set (o := .cells (oy C (.slice ab C.bl.length cb) (.slice ap C.po.length cp) (.slice ar C.ro.length cr) (.slice az C.st.length cs) (.pointer (some ⟨gb,0,none⟩)) kp tp rb ms mw mp mt hp).toArray 134 (0,0)) (d4 _ _ hs4)
 simp only [List.set_cons_succ,List.set_cons_zero]
 generalize hos:Obj.cells (oy C (.slice ab C.bl.length cb) (.slice ap C.po.length cp) (.slice ar C.ro.length cr) (.slice az C.st.length cs) (.pointer (some ⟨gb,0,none⟩)) kp tp rb ms mw mp mt hp).toArray 134 (0,0)=os at s5 d5
 have hos':=hos
 simp only [oy]at hos'
 rw [hos']
 generalize Hp.set h4 sp _=h5 at s5 d5 ⊢
 have s6:=s5.none.none.sel [7,6,5,0,4,1,3,8,2,9,10] (by decide) rfl
 clear s1 s2 s3 s4 s5 d1 d2 d3 d4 hs4 cc cc1
 obtain ⟨a,s7,ta⟩:=HL.Sep.pack [noHp.set ms (.map #[] 0),noHp.set mw (.map #[] 0),noHp.set mp (.map #[] 0),noHp] s6
 obtain ⟨ae,s8,tae⟩:=HL.Sep.pack [noHp.set mt (.map #[] 0),noHp] (R:=[a,noHp.set hp oh,ak,noHp.set sp os,ga,B0]) (s7.sel [1,2,0,3,4,5,6,7] (by decide) rfl)
 obtain ⟨A,s9,tA⟩:=HL.Sep.pack [a,ae,noHp.set hp oh,ak] (R:=[noHp.set sp os,ga,B0]) (s8.sel [1,0,2,3,4,5,6] (by decide) rfl)
 obtain ⟨B,s10,tB⟩:=HL.Sep.pack [noHp.set sp os,ga,B0] (R:=[A]) (s9.sel [1,2,3,0] (by decide) rfl)
 have s11:HL.Sep [A,B] h5:=s10.swap
 have lB0:B0.le B:=tB.in 2 rfl
 have dB:Dis G B:=fun x o hx=>d5 x o (s10.in 0 rfl x o hx)
 have hsB:B sp=some os:=tB.at 0 rfl ag
 have bgA:∀A' h',HL.Sep [A',B] h'->Dis G h'->Bg (HL.under G h' A') q sp kp ms mw mp mt hp:=by
  intro A' h' s' d'
  subst hq
  refine Bg.of (tp:=tp) (gp:=gb) s' d' (ca.up lB0 dB) (fun j hj=>?_) ((go.le (tB.in 1 rfl)).gs) (ts.up lB0 dB) st gt fw
  rw [aj (ai (hsB.trans (by rw [<- hos])))]
 have cB:∀h',B.le h'->Dis G h'->BC G h' sp (.pointer (some ⟨gb,0,none⟩)) kp tp q.r ms mw mp mt hp:=by
  intro h' l' d'
  subst hq
  exact vi (C:=C) (vb := .slice ab C.bl.length cb) (vp := .slice ap C.po.length cp) (vr := .slice ar C.ro.length cr) (vz := .slice az C.st.length cs) fun j hj=>by
   rw [aj (ai ((l' _ _ hsB).trans (by rw [<- hos])))]
 have hC:q.C=C:=by rw [<- hq]
 have fz:Fz G B q sp kp ms mw mp mt hp xc xg gp any:=⟨bgA,⟨_,_,cB⟩,by rw [<- hq];exact gt,by rw [<- hq];exact fw,by rw [<- hq];exact go.w2,by rw [<- hq];exact go.k2,fun h' l' d'=>by rw [aj (ai (l' _ _ (lB0 _ _ bc))),hC];rfl,lB0 _ _ bgl⟩
 have c0:Ch q a ms mw mp ⟨[],[],[],noHp⟩:=⟨⟨_,_,_,⟨#[],0,rfl,rfl⟩,⟨#[],0,rfl,rfl⟩,⟨#[],0,rfl,rfl⟩,ta⟩,fun n v h=>by simp [mget]at h,fun n v h=>by simp [mget]at h,fun n v h=>by simp [mget]at h⟩
 have hpq:cj q.w q.k q.f p=true:=by rw [<- hq];exact hpf
 have cp5:∀k,af G h5 ⟨xp,k,none⟩=_:=fun k=>aj (ai ((s11.in 1 rfl) _ _ (lB0 _ _ bp)))
 try simp only [bRtT,g9,cp5]
 refine (Sep.on s11 (ly (G:=HL.under G h5 A) (R:=[ae,noHp.set hp oh,ak]) c0 (bgA A h5 s11 d5) tA hpq)).mono ?_
 rintro u h6 ⟨A6,⟨a6,c6,ch6,cl6,e2,hu,hu3,sA6,_⟩,s12,d6⟩
 have slu:=ch6.look1 hpq hu
 rw [g4]
 refine (E6 (t:=t) (slu.see (G:=G) (by decide) (ch6.pool.trans ((sA6.in 0 rfl).trans (s12.in 0 rfl)))) (by have:=Kw (q:=q) fz.gt fz.fw p;omega)).mono ?_
 rintro _ h6 ⟨rfl,rfl⟩
 try simp only [bRtT,g4]
 have hsp:q.E.spans p=kw q.w q.k q.T q.r p:=rfl
 cases hi:inside (kw q.w q.k q.T q.r p) t with
 |none=>
  have hw:W = .no 18:=by
   rw [<- hW]
   unfold find
   rw [hsp,hi]
  rw [show insI (kw q.w q.k q.T q.r p) t = -1 from by unfold insI;rw [hi]]
  rw [<- hKR]
  try simp (disch:=decide) only [bRtT]
  exact HQ _ _ ⟨noHp,_,by rw [hw];rfl,by rw [hw];exact Slc.nil,by rw [hw];simp [outL],((s12.drop).cut lB0).none,d6⟩
 |some i0=>
  rw [show insI (kw q.w q.k q.T q.r p) t=(i0:Int)from by unfold insI;rw [hi]]
  try simp only [bRtT,show decide ((i0:Int)<0)=false from decide_eq_false (by omega)]
  unfold aD4
  have cp6:∀k,af G h6 ⟨xp,k,none⟩=_:=fun k=>aj (ai ((s12.in 1 rfl) _ _ (lB0 _ _ bp)))
  try simp (disch:=decide) only [bRtT,g9,cp6,g4]
  have ss0:Srs q a6 ae (noHp.set hp oh) ms mw mp mt hp c6 [] [] 0:=
   { ch:=ch6,st:=⟨.map #[] 0,[],noHp,KMap.empty,tae,⟨rfl,List.nodup_nil,fun i e x h=>by simp at h⟩⟩,hp:=⟨none,_,ag.trans (by rw [<- hoh]),⟨rfl,rfl⟩⟩,
     ok:=fun j h1 h2=>absurd h2 (by simp),qi:=⟨(fun w hw=>nomatch hw),(fun x hx=>nomatch hx)⟩,kept:=(fun x hx=>nomatch hx),n0:=Int.le_refl _,ln:=Int.le_refl _ }
  have v0:Inv q.E p t zM t []:=⟨List.Pairwise.nil,(fun x hx=>nomatch hx),(fun x hx=>nomatch hx),(fun x hx=>nomatch hx),(fun x hx=>nomatch hx),(fun x hx=>nomatch hx)⟩
  have ok:qf q.E:=aq4 (by rw [hC];exact mk) fz.gt
  have sA7:HL.Sep [a6,ae,noHp.set hp oh,ak] A6:=sA6
  have hr:=G5 (G:=HL.under G h6 A6) (R:=[ak]) (p:=p) (t:=t) (m:=zM) (b := -1) (lo:=t) (t0:=t) (p0:=p) (z:=zM) ss0 (bgA A6 h6 s12 d6) v0 (Int.le_refl _) hpq (by omega) (.inl (by decide)) sA7
  have hf:ix q.w q.k [] (-1)=(0,0):=by unfold ix;rw [if_pos (by decide)]
  rw [hf]at hr
  simp only [zM]at hr
  refine (Sep.on s12 hr).mono ?_
  rintro _ h7 ⟨A7,⟨a7,ae7,ah7,c7,L7,n7,ss7,_,_,m1,m2,sA8,_⟩,s13,d7⟩
  have v7:Inv q.E p t zM t (note q.E [] p t zM (-1)):=He v0 (Int.le_refl _) hpq (.inl ⟨rfl,rfl,rfl,rfl⟩)
  have hb:=mk.bu
  unfold ax at hb
  simp only [Bool.and_eq_true,decide_eq_true_eq]at hb
  try simp (disch:=first|decide|omega) only [bRtT,Nat.reduceAdd,Nat.reduceMul]
  subst hKR
  have hkq:KP ak kp q.C.un q.C.ac q.C.sp:=by rw [hC];exact kpk
  have ss7':Srs q a7 ae7 ah7 ms mw mp mt hp _ (note q.E [] p t zM (-1)) L7 n7:=ss7
  refine Qx (N:=C.bu.toNat) (t0:=t) fz ok ht0 (by rw [hC];omega) (by omega) (by omega) rfl ss7' hkq v7 (by omega) sA8 s13 d7 _ (by simp (disch:=decide) only [bRtT]) (by simp (disch:=omega) only [au,g6]) (by simp (disch:=omega) only [au,g11]) (by simp (disch:=decide) only [bRtT]) (by simp only [bRtT]) ?_
  intro u h' ho
  have hw:W=run q.E (ml gp any) C.bu.toNat (note q.E [] p t zM (-1)):=by
   rw [<- hW]
   unfold find
   rw [hsp,hi]
  have ho':OutR G B W u h':=by rw [hw];exact ho
  obtain ⟨ip,vs,e1,e2,e3,e4,e5⟩:=ho'
  exact HQ _ _ ⟨ip,vs,e1,e2,e3,(e4.swap.cut lB0).swap,e5⟩
def ic:=jq bC (jq (jq (jq (jq @vh @vg) (jq @bne_self_eq_false.{0} (jq @cf26 @cf37))) (jq (jq @cf61 @cf62) (jq @eq34np (jq @eq34sp @Xe)))) (jq (jq (jq @Xb @wd) (jq @an4 (jq @an3 @ld26))) (jq (jq @ld28 (jq @ld30 @tw)) (jq @ld3p (jq @ld4 @jt)))))
def aimB (C:Conf) (gp:Pose) (any:Bool):Bool:=if any=true then ny (wC C) (kC C) (f3C C) (gp.x,gp.y)else cj (wC C) (kC C) (f3C C) gp
def j5 (C:Conf) (To:Option Tb) (rb:Int) (p:Pose) (t:Int) (gp:Pose) (any:Bool):Res Move:=match To with
 |none => .no 1
 |some T=>if (T.length:Int)≠C.w*C.h\/rb<0\/t<0\/t>=FV\/cj (wC C) (kC C) (f3C C) p=false\/aimB C gp any=false then .no 1
  else find (envE C (wC C) (kC C) (f3C C) T rb) (ml gp any) p t zM C.bu.toNat
def FindR (G h:Hp) (C:Conf) (To:Option Tb) (rb:Int) (p:Pose) (t:Int) (gp:Pose) (any:Bool) (u:Value) (h':Hp):Prop:=
 ∃W,OutR G h W u h'/\((¬dh C/\W = .no 5)\/(dh C/\W=j5 C To rb p t gp any))
def TabV (G h:Hp) (vt:Value):Option Tb->Prop
 |none=>vt = .pointer none
 |some T=>∃tp,vt = .pointer (some ⟨tp,0,none⟩)/\Rv.TSee G h tp T/\iu T/\Few T 100
theorem ac7 {G h:Hp} {C:Conf} {v vt:Value} {To:Option Tb} {p gp:Pose} {rb t:Int} {any:Bool} (hv:CV G h v C) (st:jb G) (hro:∀p∈C.ro,PB p) (hsl:C.st.length<=100000000000000) (hbu:dh C->C.bu<=4000)
 (tv:TabV G h vt To) (hp:PB p) (hgp:PB gp):
 al P_ G 27 #[v,vt,rb,kz p,t,.agg #[gp.x,gp.y,.bool gp.d,.bool any]] h (FindR G h C To rb p t gp any):=by
 obtain ⟨ab,cb,ap,cp,ar,cr,az,cs,rfl,ca⟩:=hv
 refine al.assume fun d=>enter27 (by simp) ?_
 unfold S27
 simp (disch:=decide) only [ic]
 intro xc hxc gxc xp hxp gxp xg hxg gxg
 have s1:=((HL.Sep.one (h:=h)).past (o := .cells #[C.w,C.h,C.ht,.slice ab C.bl.length cb,.slice ap C.po.length cp,.slice ar C.ro.length cr,.slice az C.st.length cs,C.un,C.ac,C.sp,C.tu,C.ho,C.qu,C.re,C.bu,.bool C.back] 26 (0,0)) hxc)
 generalize e1:Hp.set h xc _=h1 at*
 obtain ⟨l1,d1,bc1⟩:=boxed e1 hxc d gxc
 generalize e2:Hp.set h1 xp _=h2 at*
 obtain ⟨l2,d2,bp2⟩:=boxed e2 hxp d1 gxp
 generalize e3:Hp.set h2 xg _=h3 at*
 obtain ⟨l3,d3,bg3⟩:=boxed e3 hxg d2 gxg
 have bc3:=l3 _ _ (l2 _ _ bc1)
 have bp3:=l3 _ _ bp2
 have L:=l1.trans (l2.trans l3)
 have cc:∀j,af G h3 ⟨xc,j,none⟩=_:=fun j=>aj (ai bc3)
 have cg:∀j,af G h3 ⟨xg,j,none⟩=_:=fun j=>aj (ai bg3)
 clear s1
 try simp only [ic,cc]
 refine (si (ca.up L d3).cv st hro hsl).mono ?_
 rintro _ h4 ⟨l4,d4,⟨mk,ga,gb,kb,rfl,go,s4⟩|⟨hno,rfl⟩⟩
 rotate_left
 . try simp only [ic]
   exact ⟨.no 5,⟨noHp,_,rfl,Slc.nil,by simp [outL],(HL.Sep.one.none.swap.cut (L.trans l4)).swap,d4⟩,.inl ⟨hno,rfl⟩⟩
 try simp only [ic]
 have gs:=go.gs (G:=G)
 have gs4:=gs.up (s4.in 0 rfl) d4
 have cg4:∀j,af G h4 ⟨xg,j,none⟩=_:=fun j=>aj (ai (s4.at 1 rfl bg3))
 unfold aD5
 try simp (disch:=decide) only [ic,cg4]
 have out1:j5 C To rb p t gp any = .no 1->FindR G h C To rb p t gp any (.tuple #[.slice none 0 0,(1:Int)]) h4:=fun e=>
  ⟨.no 1,⟨noHp,_,rfl,Slc.nil,by simp [outL],(HL.Sep.one.none.swap.cut (L.trans l4)).swap,d4⟩,.inr ⟨mk,e.symm⟩⟩
 have cc4:∀j,af G h4 ⟨xc,j,none⟩=_:=fun j=>aj (ai (s4.at 1 rfl bc3))
 have cp4:∀j,af G h4 ⟨xp,j,none⟩=_:=fun j=>aj (ai (s4.at 1 rfl bp3))
 generalize hKR:retK P_ G [.tmp 12,.tmp 13] (FindR G h C To rb p t gp any)=KR
 suffices k2:∀r':Rg,r' 1=vt->r' 2 = .int .i64 rb->r' 4 = .int .i64 t->r' 6 = .pointer (some ⟨xc,0,none⟩)->r' 9 = .pointer (some ⟨xp,0,none⟩)->r' 11 = .pointer (some ⟨xg,0,none⟩)->r' 14 = .pointer (some ⟨gb,0,none⟩)->r' 16 = .bool (aimB C gp any)->Pp G KR r' h4 by
  refine (nt gs4 st hgp).mono ?_
  rintro _ h5 ⟨rfl,rfl⟩
  try simp only [ic,cg4]
  cases hany:any with
  |true=>
   try simp only [ic,cg4]
   refine (Aa (c:=(gp.x,gp.y)) gs4).mono ?_
   rintro _ h6 ⟨rfl,rfl⟩
   exact k2 _ (by simp (disch:=decide) only [ic]) (by simp (disch:=decide) only [ic]) (by simp (disch:=decide) only [ic]) (by simp (disch:=decide) only [ic]) (by simp (disch:=decide) only [ic]) (by simp (disch:=decide) only [ic]) (by simp (disch:=decide) only [ic]) (by simp only [ic];simp [aimB,hany])
  |false=>
   try simp only [ic]
   exact k2 _ (by simp (disch:=decide) only [ic]) (by simp (disch:=decide) only [ic]) (by simp (disch:=decide) only [ic]) (by simp (disch:=decide) only [ic]) (by simp (disch:=decide) only [ic]) (by simp (disch:=decide) only [ic]) (by simp (disch:=decide) only [ic]) (by simp (disch:=decide) only [ic];simp [aimB,hany])
 intro r1 f1 f2 f4 f6 f9 f11 f14 f16
 unfold Pp
 refine ⟨h4,Hp.le.refl _,?_⟩
 try simp only [ic,f1]
 cases To with
 |none=>
  rw [show vt = .pointer none from tv]
  try simp only [ic,dw]
  rw [<- hKR]
  try simp (disch:=decide) only [ic]
  exact out1 rfl
 |some T=>
  obtain ⟨tp,rfl,ts,gt,fw⟩:=tv
  try simp only [ic]
  refine (Rv.pi (ts.up (L.trans l4) d4)).mono ?_
  rintro _ h5 ⟨rfl,rfl⟩
  refine ⟨Hp.le.refl _,?_⟩
  try simp only [ic,f6,cc4]
  have hw:IntKind.i64.wrap (C.w*C.h)=C.w*C.h:=by
   have a1:=gs.w1
   have a2:=gs.w2
   have a3:=gs.k1
   have a4:=gs.k2
   unfold wC at a1 a2
   unfold kC at a3 a4
   have b1:0<=C.w*C.h:=Int.mul_nonneg (by omega) (by omega)
   have b2:C.w*C.h<=16*16:=Int.mul_le_mul (by omega) (by omega) (by omega) (by omega)
   exact ky (by omega) (by omega)
  rw [hw]
  by_cases q1:(T.length:Int)=C.w*C.h
  rotate_left
  . try simp only [ic,show ((T.length:Int) != C.w*C.h)=true from by simpa using q1,dw]
    rw [<- hKR]
    try simp (disch:=decide) only [ic]
    exact out1 (by unfold j5;exact if_pos (.inl q1))
  try simp only [ic,show ((T.length:Int) != C.w*C.h)=false from by simpa using q1,f2]
  by_cases q2:rb<0
  . try simp only [ic,je q2,dw]
    rw [<- hKR]
    try simp (disch:=decide) only [ic]
    exact out1 (by unfold j5;exact if_pos (.inr (.inl q2)))
  try simp only [ic,i8 q2,f4]
  by_cases q3:t<0
  . try simp only [ic,je q3,dw]
    rw [<- hKR]
    try simp (disch:=decide) only [ic]
    exact out1 (by unfold j5;exact if_pos (.inr (.inr (.inl q3))))
  try simp only [ic,i8 q3,f4]
  by_cases q4:t>=4611686018427387904
  . try simp only [ic,je q4,dw]
    rw [<- hKR]
    try simp (disch:=decide) only [ic]
    exact out1 (by unfold j5;exact if_pos (.inr (.inr (.inr (.inl q4)))))
  try simp only [ic,i8 q4,f14,f9,cp4]
  refine (nt gs4 st hp).mono ?_
  rintro _ h6 ⟨rfl,rfl⟩
  cases q5:cj (wC C) (kC C) (f3C C) p with
  |false=>
   try simp only [ic,dw]
   rw [<- hKR]
   try simp (disch:=decide) only [ic]
   exact out1 (by unfold j5;exact if_pos (.inr (.inr (.inr (.inr (.inl q5))))))
  |true=>
  try simp only [ic,f16]
  cases q6:aimB C gp any with
  |false=>
   try simp only [ic,q6]
   rw [<- hKR]
   try simp (disch:=decide) only [ic]
   exact out1 (by unfold j5;exact if_pos (.inr (.inr (.inr (.inr (.inr q6))))))
  |true=>
  try simp only [ic,q6]
  rw [<- hKR]
  have hfw:j5 C (some T) rb p t gp any=find (envE C (wC C) (kC C) (f3C C) T rb) (ml gp any) p t zM C.bu.toNat:=by
   unfold j5
   refine if_neg ?_
   rintro (h|h|h|h|h|h)
   . exact h q1
   . exact q2 h
   . exact q3 h
   . exact q4 h
   . rw [q5]at h;cases h
   . rw [q6]at h;cases h
  refine find_k3 (T:=T) (rb:=rb) (p:=p) (gp:=gp) (any:=any) (t:=t) st mk (hbu mk) gt fw go (ca.up L d3) (ts.up L d3) q5 (by omega) (by unfold FV;omega) bc3 bp3 bg3 s4 d4 _ (by simp (disch:=omega) only [au,f1]) (by simp (disch:=omega) only [au,f2]) (by simp (disch:=omega) only [au,f4]) (by simp (disch:=omega) only [au,f6]) (by simp (disch:=omega) only [au,f9]) (by simp (disch:=omega) only [au,f11]) (by simp (disch:=omega) only [au,f14]) ?_
  rintro u h' ⟨ip,vs,e1,e2,e3,e4,e5⟩
  exact ⟨_,⟨ip,vs,e1,e2,e3,(e4.swap.cut L).swap,e5⟩,.inr ⟨mk,hfw.symm⟩⟩
end Go.Proofs.YtfflipnhffknnaaGreatDoor
end
section
namespace Go.Proofs.YtfflipnhffknnaaGreatDoor
open Go Go.HL
section
variable (G:Hp) (K:EK) (r:Rg) (h:Hp)
def S4_k4:Prop:=
 c_ G 23 #[] h fun v44 h44=>
 K .ret (u2 r 106 v44 12 v44) h44
def aB5:Prop:=
 o_ G (binOp .add 3 (r 19) (.int .i64 1)) h fun v47 h47=>
 K .normal (u3 r 84 (r 19) 85 v47 19 v47) h47
def aB6:Prop:=
 o_ G (Instr.indexAt 40 (r 15) (r 19)) h fun v48 h48=>o_ G (Instr.loadAt 48 v48) h48 fun v49 h49=>o_ G (Instr.alloc 48 true (.tuple #[])) h49 fun v50 h50=>
 opH P_ G (su (Instr.storeAt 48 v50 v49)) h50 fun v51 h51=>o_ G (Instr.fieldAt 48 v50 5) h51 fun v52 h52=>o_ G (Instr.loadAt 3 v52) h52 fun v53 h53=>o_ G (binOp .add 3 v53 (r 3)) h53 fun v54 h54=>o_ G (Instr.fieldAt 48 v50 5) h54 fun v55 h55=>
 opH P_ G (su (Instr.storeAt 3 v55 v54)) h55 fun v56 h56=>o_ G (Instr.fieldAt 48 v50 6) h56 fun v57 h57=>o_ G (Instr.loadAt 3 v57) h57 fun v58 h58=>o_ G (binOp .add 3 v58 (r 3)) h58 fun v59 h59=>o_ G (Instr.fieldAt 48 v50 6) h59 fun v60 h60=>
 opH P_ G (su (Instr.storeAt 3 v60 v59)) h60 fun v61 h61=>
 w_ G h61 (Instr.loadAt 48 v50) h61 fun v62 h62=>
 p_ (Instr.indexAt 40 (r 17) (r 19)) h62 fun v63 h63=>
 w_ G h61 (Instr.loadAt 48 v63) h63 fun v64 h64=>
 bk P_ G h61 (xEq .neq 48 (.tmp 0) (.tmp 0) v62 v64) h64 fun v65 h65=>
 (fun q=>cond v65
 (K .ret (upd q 12 (.bool false)) h65)
 (aB5 G K q h65))
 (upd (u10 (u10 r 86 (r 15) 87 (r 19) 88 v48 89 v49 20 v50 90 v52 91 v53 92 (r 3) 93 v54 94 v55) 95 v57 96 v58 97 (r 3) 98 v59 99 v60 100 v62 101 (r 17) 102 (r 19) 103 v63 104 v64) 105 v65)
def S4_l5 (r:Rg) (h:Hp) (K:EK):Prop:=
 o_ G (Builtin.len_ #[40] 3 #[(r 15)]) h fun v45 h45=>o_ G (binOp .lss 3 (r 19) v45) h45 fun v46 h46=>
 cond v46
 (aB6 G K (u4 r 80 (r 19) 81 (r 15) 82 v45 83 v46) h46)
 (K (.exit 0) (u4 r 80 (r 19) 81 (r 15) 82 v45 83 v46) h46)
def S4_k3:Prop:=
 ci (S4_l5 G) (upd r 19 (.int .i64 0)) h (bn 0 (bv (S4_k4 G K) K))
def S4_k2:Prop:=
 w_ G h (Instr.loadAt 26 (r 6)) h fun v20 h20=>
 c_ G 28 #[v20] h20 fun v21 h21=>h.le h21/\
 w_ G h (Instr.loadAt 30 (r 7)) h21 fun v22 h22=>
 w_ G h (Instr.loadAt 30 (r 10)) h22 fun v23 h23=>
 p_ (Instr.build 45 #[(0,v23),(1,(r 5))]) h23 fun v24 h24=>
 c_ G 27 #[v21,(r 13),(.int .i64 1),v22,(r 2),v24] h24 fun v25 h25=>
 p_ (Instr.extract v25 0) h25 fun v26 h26=>
 p_ (Instr.extract v25 1) h26 fun v27 h27=>
 w_ G h27 (Instr.loadAt 26 (r 6)) h27 fun v28 h28=>
 c_ G 28 #[v28] h28 fun v29 h29=>h27.le h29/\
 w_ G h27 (Instr.loadAt 30 (r 7)) h29 fun v30 h30=>
 p_ (binOp .add 3 (r 2) (r 3)) h30 fun v31 h31=>
 w_ G h27 (Instr.loadAt 30 (r 10)) h31 fun v32 h32=>
 p_ (Instr.build 45 #[(0,v32),(1,(r 5))]) h32 fun v33 h33=>
 c_ G 27 #[v29,(r 13),(.int .i64 1),v30,v31,v33] h33 fun v34 h34=>
 p_ (Instr.extract v34 0) h34 fun v35 h35=>
 p_ (Instr.extract v34 1) h35 fun v36 h36=>
 opH P_ G (xEq .neq 35 (.tmp 0) (.tmp 0) v27 v36) h36 fun v37 h37=>g_ v37 false (fun K1=>K1 v26 h37) h37 fun v38 h38=>g_ v37 false (o_ G (Builtin.len_ #[40] 3 #[v38]) h38) h38 fun v39 h39=>g_ v37 false (fun K1=>K1 v35 h39) h39 fun v40 h40=>g_ v37 false (o_ G (Builtin.len_ #[40] 3 #[v40]) h40) h40 fun v41 h41=>g_ v37 false (opH P_ G (xEq .neq 3 (.tmp 0) (.tmp 0) v39 v41) h41) h41 fun v42 h42=>
 opH P_ G (bj v37 (.bool true) v42) h42 fun v43 h43=>
 (fun q=>cond v43
 (K .ret (upd q 12 (.bool false)) h43)
 (S4_k3 G K q h43))
 (u10 (u10 (u10 (u10 r 45 v20 46 v21 47 (r 13) 48 v22 49 (r 2) 50 v23 51 (r 5) 52 v24 53 v25 44 v25) 54 v26 55 v27 15 v26 16 v27 57 v28 58 v29 59 (r 13) 60 v30 61 (r 2) 62 (r 3)) 63 v31 64 v32 65 (r 5) 66 v33 67 v34 56 v34 68 v35 69 v36 17 v35 18 v36) 70 v27 71 v36 72 v37 73 v37 74 v38 75 v39 76 v40 77 v41 78 v42 79 v43)
def S4_k1:Prop:=
 c_ G 25 #[(r 2),(.int .i64 1073741824)] h fun v6 h6=>
 c_ G 25 #[(r 3),(.int .i64 1073741824)] h6 fun v7 h7=>o_ G (Instr.fieldAt 26 (r 6) 0) h7 fun v8 h8=>o_ G (Instr.loadAt 3 v8) h8 fun v9 h9=>o_ G (Instr.fieldAt 26 (r 6) 1) h9 fun v10 h10=>o_ G (Instr.loadAt 3 v10) h10 fun v11 h11=>o_ G (binOp .mul 3 v9 v11) h11 fun v12 h12=>
 c_ G 24 #[v12] h12 fun v13 h13=>o_ G (Instr.extract v13 0) h13 fun v14 h14=>o_ G (Instr.extract v13 1) h14 fun v15 h15=>
 opH P_ G (xEq .neq 35 (.tmp 0) (.const .nilFunc) v15 (.int .i64 0)) h15 fun v16 h16=>g_ v16 false (fun K1=>K1 v14 h16) h16 fun v17 h17=>g_ v16 false (opH P_ G (xEq .eql 34 (.tmp 0) (.const .nilFunc) v17 (.pointer none)) h17) h17 fun v18 h18=>
 opH P_ G (bj v16 (.bool true) v18) h18 fun v19 h19=>
 (fun q=>cond v19
 (K .ret (upd q 12 (.bool false)) h19)
 (S4_k2 G K q h19))
 (u3 (u10 (u10 r 25 (r 2) 26 v6 2 v6 27 (r 3) 28 v7 3 v7 30 v8 31 v9 32 v10 33 v11) 34 v12 35 v13 29 v13 36 v14 37 v15 13 v14 14 v15 38 v15 39 v16 40 v16) 41 v17 42 v18 43 v19)
def S4:Prop:=
 o_ G (Instr.box 26 (r 0)) h fun v0 h0=>o_ G (Instr.box 30 (r 1)) h0 fun v1 h1=>o_ G (Instr.box 30 (r 4)) h1 fun v2 h2=>o_ G (Instr.loadAt 26 v0) h2 fun v3 h3=>
 c_ G 21 #[v3] h3 fun v4 h4=>o_ G (Op.unary .not v4) h4 fun v5 h5=>
 cond v5
 (c_ G 23 #[] h5 fun v66 h66=>
 K .ret (u9 r 6 v0 7 v1 10 v2 12 (.bool false) 21 v3 22 v4 23 v5 24 v66 12 v66) h66)
 (S4_k1 G K (u7 r 6 v0 7 v1 10 v2 12 (.bool false) 21 v3 22 v4 23 v5) h5)
end
end Go.Proofs.YtfflipnhffknnaaGreatDoor
end
section
namespace Go.Proofs.YtfflipnhffknnaaGreatDoor
open Go Go.HL Go.Proofs.Resv Go.Proofs.Srch
theorem Hu {n:Nat}:iu (List.replicate n []):=fun L hL=>by rw [(List.mem_replicate.1 hL).2];exact Resv.Good.nil
theorem an1 {n b:Nat}:Few (List.replicate n []) b:=fun L hL=>by rw [(List.mem_replicate.1 hL).2];exact Nat.zero_le _
end Go.Proofs.YtfflipnhffknnaaGreatDoor
end
section
namespace Go.Proofs.YtfflipnhffknnaaGreatDoor
open Go Go.HL
def bRpY:=jq bC (jq (jq (jq (jq @al26 @Vi) (jq @aw8 (jq @cf122 @cf71))) (jq (jq @H8 @So) (jq @H7 (jq @O4 @H6)))) (jq (jq (jq @U6 @Ok) (jq @ld22 (jq @ld23 @ld24))) (jq (jq @ld26 @xj) (jq @ln24 (jq @Cr @zy)))))
theorem eoraw:fg P_ 234 rawC.n 40:=⟨by kernel_rfl,by kernel_rfl,by kernel_rfl⟩
theorem eopose:fg P_ 30 yo.n 24:=⟨by kernel_rfl,by kernel_rfl,by kernel_rfl⟩
def Room (n bytes:Nat):Prop:=(2*n+192)*bytes<=281474976710656
theorem Kl {G h:Hp} {v:Value} {L:List Int} (sv:Sees icC G h v L) (hl:Room L.length 8):al P_ G 122 #[v] h (fun u h'=>∃ip,Slc icC 3 ip u L/\Sep [ip,h] h'/\Dis G h'):=by
 refine al.assume fun d=>au2 (by simp) ?_
 unfold S122
 simp only [bRpY]
 refine qn icC (by decide) Gg eoint (by decide) (Sep.one (h:=h)).none d Slc.nil sv (by simpa [Room]using hl) fun v' a' h' o' s' d'=>?_
 try simp (disch:=first|decide|omega) only [bRpY,Nat.reduceAdd,Nat.reduceMul]
 exact ⟨a',o',s',d'⟩
def Rel (pb:Hp) (raws:List Raw) (st:List (Cell × List Int)):Prop:=∀(i:Nat) (r:Raw) (s:Cell × List Int),raws[i]?=some r->st[i]?=some s->(r.x,r.y)=s.1/\r.n=s.2.length/\Slc icC 3 pb (.slice r.a s.2.length r.c) s.2
def StkO (pz:Hp) (v:Value) (st:List (Cell × List Int)):Prop:=∃raws pr pb,Slc rawC 234 pr v raws/\Sep [pr,pb] pz/\raws.length=st.length/\Rel pb raws st
theorem Rel.le {pb pb':Hp} {raws:List Raw} {st:List (Cell × List Int)} (r:Rel pb raws st) (l:pb.le pb'):Rel pb' raws st:=fun i x s h1 h2=>let ⟨a,b,c⟩:=r i x s h1 h2;⟨a,b,c.le l⟩
theorem Fx {G h:Hp} {C:Conf} {ab:Option Addr} {cb:Nat} {ap:Option Addr} {cp:Nat} {ar:Option Addr} {cr:Nat} {az:Option Addr} {cs:Nat} (ca:CA G h C ab cb ap cp ar cr az cs)
 (hst:Room C.st.length 40) (hb:∀s∈C.st,Room s.2.length 8):al P_ G 71 #[.slice az C.st.length cs] h (fun u h'=>∃pz,StkO pz u C.st/\Sep [pz,h] h'/\Dis G h'):=by
 refine al.assume fun d=>enter71 (by simp) ?_
 unfold S71
 have hlb:C.st.length<=7036874417664:=by unfold Room at hst;omega
 refine b8 (fun m r h3=>∃(i:Nat) (raws:List Raw) (pr pb:Hp) (v:Value),m=C.st.length-i/\i<=C.st.length/\r 0 = .slice az C.st.length cs/\r 3=v/\r 4 = .int .i64 i/\Slc rawC 234 pr v raws/\raws.length=i/\Rel pb raws C.st/\Sep [pr,pb,h] h3/\Dis G h3) ?_
  (m:=C.st.length) ⟨0,[],noHp,noHp,_,rfl,Nat.zero_le _,by simp (disch:=decide) only [bRpY],by simp (disch:=decide) only [bRpY],by simp only [bRpY]<;>rfl,Slc.nil,rfl,fun i r s h1=>by simp at h1,(Sep.one.none).none,d⟩
 rintro m r h3 ⟨i,raws,pr,pb,v,rfl,hi,g0,g3,g4,o,hlen,rel,s3,d3⟩ X HX
 unfold aA0
 simp only [bRpY,g0,g4]
 refine bm (fun hlt=>?_) (fun hge=>?_)
 rotate_left
 . obtain rfl:i=C.st.length:=by omega
   try simp (disch:=first|decide|omega) only [bRpY,Nat.reduceAdd,Nat.reduceMul]
   unfold aA1
   try simp (disch:=decide) only [bRpY,g3]
   obtain ⟨pz,s4,t4⟩:=s3.pack2
   exact ⟨pz,⟨raws,pr,pb,o,t4,hlen,rel⟩,s4,d3⟩
 have hlt':i<C.st.length:=by omega
 obtain ⟨s,hs⟩:∃s,C.st[i]?=some s:=⟨_,List.getElem?_eq_getElem hlt'⟩
 have ca3:=ca.up (s3.in 2 rfl) d3
 obtain ⟨b,ofs,a,c,rfl,z0,z1,z2,sv⟩:=ca3.stk hs
 unfold Mw
 refine ⟨h3,Hp.le.refl _,?_⟩
 try simp (disch:=decide) only [bRpY,g0,g4,R0 (Int.natCast_nonneg i) hlt,z0,z1,z2]
 refine (Kl sv (hb s (List.mem_of_getElem? hs))).mono ?_
 rintro u h4 ⟨ip,o4,s4,d4⟩
 refine ⟨s4.in 1 rfl,?_⟩
 obtain ⟨sa,cap,rfl,hcap⟩:=o4.len (by decide)
 try simp only [bRpY]
 intro x hx gx
 have s5:Sep [ip,pr,pb,h] h4:=by
  have:=s4.split s3
  simpa using this
 let rw0:Raw:=⟨s.1.1,s.1.2,sa,s.2.length,cap⟩
 have s6:Sep [pr,ip,pb,h] (h4.set x (.cells #[s.1.1,s.1.2,.slice sa s.2.length cap] 234 (0,0))):=(s5.past hx).pick 1 rfl rfl
 have d6:Dis G (h4.set x (.cells #[s.1.1,s.1.2,.slice sa s.2.length cap] 234 (0,0))):=d4.set gx
 have b6:(h4.set x (.cells #[s.1.1,s.1.2,.slice sa s.2.length cap] 234 (0,0))) x=some (.cells #[s.1.1,s.1.2,.slice sa s.2.length cap] 234 (0,0)):=ag
 generalize Hp.set h4 x _=h6 at s6 d6 b6 ⊢
 rw [g3]
 refine qn rawC (by decide) un24 eoraw (by decide) (M:=[rw0]) s6 d6 o (Sees.row (c:=rawC) (L:=[rw0]) b6 rfl (Nat.le_refl _)) (by
  unfold Room at hst
  refine Nat.le_trans (Nat.mul_le_mul_right _ ?_) hst
  rw [hlen,List.length_singleton]
  omega) fun v7 pr7 h7 o7 s7 d7=>?_
 have s7':Sep [ip,pb,pr7,h] h7:=(s7.pick 2 rfl rfl).pick 2 rfl rfl
 obtain ⟨pb7,s8,t8⟩:=s7'.pack2
 unfold Mu
 try simp (disch:=first|decide|omega) only [bRpY,g4]
 refine HX (C.st.length-(i+1)) _ _ (by omega) ⟨i+1,raws++[rw0],pr7,pb7,v7,rfl,hlt',by simp (disch:=decide) only [bRpY,g0],by simp (disch:=decide) only [bRpY],by simp only [bRpY]<;>rfl,o7,by simp [hlen],?_,s8.pick 1 rfl rfl,d7⟩
 intro j r' s' hr' hs'
 by_cases hj:j<i
 . rw [List.getElem?_append_left (by omega)]at hr'
   exact (rel.le (t8.in 1 rfl)) j r' s' hr' hs'
 . have hj2:j<(raws++[rw0]).length:=(List.getElem?_eq_some_iff.1 hr').1
   obtain rfl:j=i:=by simp at hj2;omega
   rw [List.getElem?_append_right (by omega),hlen,Nat.sub_self]at hr'
   cases hr'
   rw [hs]at hs'
   cases hs'
   exact ⟨rfl,rfl,o4.le (t8.in 0 rfl)⟩
abbrev kg (C:Conf) (vb vp vr vz:Value):Obj := .cells #[C.w,C.h,C.ht,vb,vp,vr,vz,C.un,C.ac,C.sp,C.tu,C.ho,C.qu,C.re,C.bu,.bool C.back] 26 (0,0)
abbrev confA (C:Conf) (vb vp vr vz:Value):Value := .agg #[C.w,C.h,C.ht,vb,vp,vr,vz,C.un,C.ac,C.sp,C.tu,C.ho,C.qu,C.re,C.bu,.bool C.back]
theorem store26 {G h:Hp} {y:Nat} {C:Conf} {D:Conf} {v1 v2 v3 v4:Value} {a1 a2 a3 a4:Option Addr} {n1 n2 n3 n4 c1 c2 c3 c4:Nat} {K:Unit->Hp->Prop} (hb:h y=some (kg D v1 v2 v3 v4)):
 wpH P_ G (Instr.storeAt 26 (.pointer (some ⟨y,0,none⟩)) (confA C (.slice a1 n1 c1) (.slice a2 n2 c2) (.slice a3 n3 c3) (.slice a4 n4 c4))) h K=K () (h.set y (kg C (.slice a1 n1 c1) (.slice a2 n2 c2) (.slice a3 n3 c3) (.slice a4 n4 c4))):=by
 conv=>lhs;rw [<- yf hb]
 exact st26w
structure Fit0 (C:Conf):Prop where
 bl:Room C.bl.length 16
 po:Room C.po.length 16
 ro:Room C.ro.length 24
 st:Room C.st.length 40
 bins:∀s∈C.st,Room s.2.length 8
def Cz:Conf:=⟨0,0,0,[],[],[],[],0,0,0,0,0,0,0,0,false⟩
abbrev nilV:Value := .slice none 0 0
structure CO (h:Hp) (C:Conf) (u:Value) (h' pb pp pr pz:Hp) (vb vp vr vz:Value):Prop where
 v:u=confA C vb vp vr vz
 bl:Slc dl 28 pb vb C.bl
 po:Slc dl 28 pp vp C.po
 ro:Slc yo 30 pr vr C.ro
 st:StkO pz vz C.st
 sep:Sep [pb,pp,pr,pz,h] h'
def CopyR (G h:Hp) (C:Conf) (u:Value) (h':Hp):Prop:=(∃pb pp pr pz vb vp vr vz,CO h C u h' pb pp pr pz vb vp vr vz)/\Dis G h'
theorem A3 {G h:Hp} {v:Value} {C:Conf} (hv:CV G h v C) (fit:Fit0 C):al P_ G 28 #[v] h (CopyR G h C):=by
 obtain ⟨ab,cb,ap,cp,ar,cr,az,cs,rfl,ca⟩:=hv
 refine al.assume fun d=>enter28 (by simp) ?_
 unfold S28
 simp (disch:=decide) only [bRpY]
 intro x hx gx y hy gy
 have exy:=jd hy
 have s2:Sep [noHp,noHp.set x (kg C (.slice ab C.bl.length cb) (.slice ap C.po.length cp) (.slice ar C.ro.length cr) (.slice az C.st.length cs)),noHp.set y (kg Cz nilV nilV nilV nilV),h] _:=(((Sep.one (h:=h)).new (o:=kg C (.slice ab C.bl.length cb) (.slice ap C.po.length cp) (.slice ar C.ro.length cr) (.slice az C.st.length cs)) hx).new (o:=kg Cz nilV nilV nilV nilV) hy).swap.none
 have d2:=(d.set (o:=kg C (.slice ab C.bl.length cb) (.slice ap C.po.length cp) (.slice ar C.ro.length cr) (.slice az C.st.length cs)) gx).set (o:=kg Cz nilV nilV nilV nilV) gy
 unfold Cz at s2 d2
 generalize Hp.set (Hp.set h x _) y _=h2 at s2 d2 ⊢
 have cx:∀j,af G h2 ⟨x,j,none⟩=_:=fun j=>aj (ai (s2.at 1 rfl ag))
 have ca2:=ca.up (s2.in 3 rfl) d2
 try simp only [bRpY,cx]
 refine qn dl (by decide) un22 eocell (by decide) s2 d2 Slc.nil ca2.bl (by simpa [Room]using fit.bl) fun vb pb h3 ob s3 d3=>?_
 obtain ⟨sb,cpb,rfl,_⟩:=ob.len (by decide)
 rw [List.nil_append]at ob
 have hx3:=s3.at 1 rfl ag
 try simp (disch:=first|decide|omega) only [bRpY,Nat.reduceAdd,Nat.reduceMul]
 rw [bz sz22 rfl hx3 (by simp)]
 have s4:Sep [noHp,noHp.set x (kg C (.slice sb C.bl.length cpb) (.slice ap C.po.length cp) (.slice ar C.ro.length cr) (.slice az C.st.length cs)),pb,noHp.set y (kg ⟨0,0,0,[],[],[],[],0,0,0,0,0,0,0,0,false⟩ nilV nilV nilV nilV),h] (h3.set x (kg C (.slice sb C.bl.length cpb) (.slice ap C.po.length cp) (.slice ar C.ro.length cr) (.slice az C.st.length cs))):=by
  have:=(s3.pick 1 rfl rfl).put (o:=kg C (.slice sb C.bl.length cpb) (.slice ap C.po.length cp) (.slice ar C.ro.length cr) (.slice az C.st.length cs)) ag
  rw [set_set]at this
  exact this.none
 have d4:Dis G (h3.set x (kg C (.slice sb C.bl.length cpb) (.slice ap C.po.length cp) (.slice ar C.ro.length cr) (.slice az C.st.length cs))):=d3.set gx
 try simp only [bRpY,List.nil_append]
 generalize Hp.set h3 x _=h4 at s4 d4 ⊢
 refine qn dl (by decide) un22 eocell (by decide) s4 d4 Slc.nil (ca.up (s4.in 4 rfl) d4).po (by simpa [Room]using fit.po) fun vp pp h5 op s5 d5=>?_
 obtain ⟨sp,cpp,rfl,_⟩:=op.len (by decide)
 rw [List.nil_append]at op
 have hx5:=s5.at 1 rfl ag
 try simp (disch:=first|decide|omega) only [bRpY,Nat.reduceAdd,Nat.reduceMul]
 rw [bz sz22 rfl hx5 (by simp)]
 have s6:Sep [noHp,noHp.set x (kg C (.slice sb C.bl.length cpb) (.slice sp C.po.length cpp) (.slice ar C.ro.length cr) (.slice az C.st.length cs)),pp,pb,noHp.set y (kg ⟨0,0,0,[],[],[],[],0,0,0,0,0,0,0,0,false⟩ nilV nilV nilV nilV),h] (h5.set x (kg C (.slice sb C.bl.length cpb) (.slice sp C.po.length cpp) (.slice ar C.ro.length cr) (.slice az C.st.length cs))):=by
  have:=(s5.pick 1 rfl rfl).put (o:=kg C (.slice sb C.bl.length cpb) (.slice sp C.po.length cpp) (.slice ar C.ro.length cr) (.slice az C.st.length cs)) ag
  rw [set_set]at this
  exact this.none
 have d6:Dis G (h5.set x (kg C (.slice sb C.bl.length cpb) (.slice sp C.po.length cpp) (.slice ar C.ro.length cr) (.slice az C.st.length cs))):=d5.set gx
 try simp only [bRpY,List.nil_append]
 generalize Hp.set h5 x _=h6 at s6 d6 ⊢
 refine qn yo (by decide) un23 eopose (by decide) s6 d6 Slc.nil (ca.up (s6.in 5 rfl) d6).ro (by simpa [Room]using fit.ro) fun vr pr h7 or s7 d7=>?_
 obtain ⟨sr,cpr,rfl,_⟩:=or.len (by decide)
 rw [List.nil_append]at or
 have hx7:=s7.at 1 rfl ag
 try simp (disch:=first|decide|omega) only [bRpY,Nat.reduceAdd,Nat.reduceMul]
 rw [bz sz23 rfl hx7 (by simp)]
 have s8:Sep [noHp.set x (kg C (.slice sb C.bl.length cpb) (.slice sp C.po.length cpp) (.slice sr C.ro.length cpr) (.slice az C.st.length cs)),pr,pp,pb,noHp.set y (kg ⟨0,0,0,[],[],[],[],0,0,0,0,0,0,0,0,false⟩ nilV nilV nilV nilV),h] (h7.set x (kg C (.slice sb C.bl.length cpb) (.slice sp C.po.length cpp) (.slice sr C.ro.length cpr) (.slice az C.st.length cs))):=by
  have:=(s7.pick 1 rfl rfl).put (o:=kg C (.slice sb C.bl.length cpb) (.slice sp C.po.length cpp) (.slice sr C.ro.length cpr) (.slice az C.st.length cs)) ag
  rw [set_set]at this
  exact this
 have d8:Dis G (h7.set x (kg C (.slice sb C.bl.length cpb) (.slice sp C.po.length cpp) (.slice sr C.ro.length cpr) (.slice az C.st.length cs))):=d7.set gx
 try simp only [bRpY,List.nil_append]
 generalize Hp.set h7 x _=h8 at s8 d8 ⊢
 refine (Fx (ca.up (s8.in 5 rfl) d8) fit.st fit.bins).mono ?_
 rintro vz h9 ⟨pz,oz,s9,d9⟩
 have s9':Sep [pz,noHp.set x (kg C (.slice sb C.bl.length cpb) (.slice sp C.po.length cpp) (.slice sr C.ro.length cpr) (.slice az C.st.length cs)),pr,pp,pb,noHp.set y (kg ⟨0,0,0,[],[],[],[],0,0,0,0,0,0,0,0,false⟩ nilV nilV nilV nilV),h] h9:=by
  have:=s9.split s8
  simpa using this
 obtain ⟨sz,cpz,rfl⟩:∃sz cpz,vz = .slice sz C.st.length cpz:=by
  obtain ⟨raws,_,_,o,_,e,_⟩:=oz
  obtain ⟨a,b,e2,_⟩:=o.len (by decide)
  exact ⟨a,b,by rw [e2,e]⟩
 have hx9:=s9'.at 1 rfl ag
 try simp (disch:=first|decide|omega) only [bRpY,Nat.reduceAdd,Nat.reduceMul]
 rw [bz sz24 rfl hx9 (by simp)]
 have s10:Sep [noHp.set x (kg C (.slice sb C.bl.length cpb) (.slice sp C.po.length cpp) (.slice sr C.ro.length cpr) (.slice sz C.st.length cpz)),pz,pr,pp,pb,noHp.set y (kg ⟨0,0,0,[],[],[],[],0,0,0,0,0,0,0,0,false⟩ nilV nilV nilV nilV),h] (h9.set x (kg C (.slice sb C.bl.length cpb) (.slice sp C.po.length cpp) (.slice sr C.ro.length cpr) (.slice sz C.st.length cpz))):=by
  have:=(s9'.pick 1 rfl rfl).put (o:=kg C (.slice sb C.bl.length cpb) (.slice sp C.po.length cpp) (.slice sr C.ro.length cpr) (.slice sz C.st.length cpz)) ag
  rw [set_set]at this
  exact this
 have d10:Dis G (h9.set x (kg C (.slice sb C.bl.length cpb) (.slice sp C.po.length cpp) (.slice sr C.ro.length cpr) (.slice sz C.st.length cpz))):=d9.set gx
 try simp only [bRpY]
 generalize Hp.set h9 x _=h10 at s10 d10 ⊢
 have hy10:=s10.at 5 rfl ag
 rw [store26 hy10]
 try simp only [bRpY]
 refine ⟨⟨pb,pp,pr,pz,_,_,_,_,rfl,ob,op,or,oz,?_⟩,d10.set gy⟩
 have s11:=((s10.pick 5 rfl rfl).put (o:=kg C (.slice sb C.bl.length cpb) (.slice sp C.po.length cpp) (.slice sr C.ro.length cpr) (.slice sz C.st.length cpz)) ag).drop.drop
 have s12:Sep [pz,pr,pp,pb,h] _:=s11
 exact ((s12.pick 1 rfl rfl).pick 2 rfl rfl).pick 3 rfl rfl
theorem StkO.len {pz:Hp} {v:Value} {st:List (Cell × List Int)} (o:StkO pz v st):∃sz cpz,v = .slice sz st.length cpz:=by
 obtain ⟨raws,_,_,o,_,e,_⟩:=o
 obtain ⟨a,b,e2,_⟩:=o.len (by decide)
 exact ⟨a,b,by rw [e2,e]⟩
theorem CO.cv {G h h' h2 pb pp pr pz:Hp} {C:Conf} {u vb vp vr vz:Value} (c:CO h C u h' pb pp pr pz vb vp vr vz) (l:h'.le h2):CV G h2 u C:=by
 obtain ⟨rfl,ob,op,or,oz,s⟩:=c
 obtain ⟨sb,cb,rfl,_⟩:=ob.len (by decide)
 obtain ⟨sp,cp,rfl,_⟩:=op.len (by decide)
 obtain ⟨sr,cr,rfl,_⟩:=or.len (by decide)
 obtain ⟨sz,cz,rfl⟩:=oz.len
 refine ⟨sb,cb,sp,cp,sr,cr,sz,cz,rfl,ob.sees (by decide) ((s.in 0 rfl).trans l),op.sees (by decide) ((s.in 1 rfl).trans l),or.sees (by decide) ((s.in 2 rfl).trans l),?_⟩
 obtain ⟨raws,pr',pb',o,t,e,rel⟩:=oz
 refine ⟨raws,o.sees (by decide) (((t.in 0 rfl).trans (s.in 3 rfl)).trans l),fun i r x h1 h2=>?_⟩
 obtain ⟨a,b,c⟩:=rel i r x h1 h2
 exact ⟨a,b,c.sees (by decide) (((t.in 1 rfl).trans (s.in 3 rfl)).trans l)⟩
end Go.Proofs.YtfflipnhffknnaaGreatDoor
end
section
namespace Go.Proofs.YtfflipnhffknnaaGreatDoor
open Go Go.HL Go.Proofs.Resv Go.Proofs.Srch
def A9:=jq bC (jq (jq (jq @ud (jq @cf38 @Bu)) (jq @Ei (jq @F7 @F6))) (jq (jq @F5 (jq @H6 @H5)) (jq (jq @ld23 @ld26) (jq @ld3 @ln23))))
structure SmO (C:Conf):Prop where
 w:C.w<=6
 h:C.h<=6
 bu:C.bu<=4000
 un:C.un<=100
 tu:C.tu<=200
 ho:C.ho<=200
 ro:C.ro.length<=4
 may:Zk C
theorem small12 {G h:Hp} {v:Value} {C:Conf} (hv:CV G h v C):al P_ G 21 #[v] h (fun u h'=>(∃b,u = .bool b/\(b=true->SmO C))/\h'=h):=by
 have hv0:=hv
 obtain ⟨ab,cb,ap,cp,ar,cr,az,cs,rfl,ca⟩:=hv
 refine al.assume fun d=>quietly (enter21 (by simp) ?_)
 unfold S21
 simp only [A9]
 intro x hx gx
 generalize e1:Hp.set h x _=h1
 obtain ⟨l1,d1,b1⟩:=boxed e1 hx d gx
 have cx:∀j,af G h1 ⟨x,j,none⟩=_:=fun j=>aj (ai b1)
 by_cases g1:C.w<=6
 rotate_left
 . try simp only [A9,cx,decide_eq_false g1,dw]
   exact ⟨⟨false,rfl,by simp⟩,l1⟩
 by_cases g2:C.h<=6
 rotate_left
 . try simp only [A9,cx,decide_eq_true g1,decide_eq_false g2,dw]
   exact ⟨⟨false,rfl,by simp⟩,l1⟩
 by_cases g3:C.bu<=4000
 rotate_left
 . try simp only [A9,cx,decide_eq_true g1,decide_eq_true g2,decide_eq_false g3,dw]
   exact ⟨⟨false,rfl,by simp⟩,l1⟩
 by_cases g4:C.un<=100
 rotate_left
 . try simp only [A9,cx,decide_eq_true g1,decide_eq_true g2,decide_eq_true g3,decide_eq_false g4,dw]
   exact ⟨⟨false,rfl,by simp⟩,l1⟩
 by_cases g5:C.tu<=200
 rotate_left
 . try simp only [A9,cx,decide_eq_true g1,decide_eq_true g2,decide_eq_true g3,decide_eq_true g4,decide_eq_false g5,dw]
   exact ⟨⟨false,rfl,by simp⟩,l1⟩
 by_cases g6:C.ho<=200
 rotate_left
 . try simp only [A9,cx,decide_eq_true g1,decide_eq_true g2,decide_eq_true g3,decide_eq_true g4,decide_eq_true g5,decide_eq_false g6,dw]
   exact ⟨⟨false,rfl,by simp⟩,l1⟩
 by_cases g7:((C.ro.length:Nat):Int)<=4
 rotate_left
 . try simp only [A9,cx,decide_eq_true g1,decide_eq_true g2,decide_eq_true g3,decide_eq_true g4,decide_eq_true g5,decide_eq_true g6,decide_eq_false g7,dw]
   exact ⟨⟨false,rfl,by simp⟩,l1⟩
 try simp only [A9,cx,decide_eq_true g1,decide_eq_true g2,decide_eq_true g3,decide_eq_true g4,decide_eq_true g5,decide_eq_true g6,decide_eq_true g7]
 refine (Z4 (hv0.up l1 d1)).mono ?_
 rintro _ h1 ⟨⟨b,rfl,hb⟩,rfl⟩
 try simp (disch:=first|decide|omega) only [A9,Nat.reduceAdd,Nat.reduceMul]
 exact ⟨⟨b,rfl,fun e=>⟨g1,g2,g3,g4,g5,g6,by omega,hb.1 e⟩⟩,l1⟩
end Go.Proofs.YtfflipnhffknnaaGreatDoor
end
section
namespace Go.Proofs.Srch
open Go.Proofs.Resv
section
variable {P M:Type} [DecidableEq P] {E:Env P M}
structure Flat (E:Env P M) (D:Int):Prop where
 sp:∀p,E.ok p->E.spans p=[(0,FV)]
 wy:∀p,E.ok p->∀w∈E.ways p,w.2.2.2=[(0,FV)]/\1<=w.2.2.1/\w.2.2.1<=D/\E.ok w.2.1
theorem Nw {a d:Int} (h0:0<=a) (hd:0<=d) (h:sumI a d<FV):sumI a d=a+d:=by
 unfold sumI cutI FV at*
 split at h
 . omega
 . rw [if_neg (by assumption)];omega
section
variable {by_:Int} {shM:M->M}
def Low (E:Env P M) (B:Int) (S:List (St P M)):Prop:=∀x∈S,x.s=(0,FV)/\E.ok x.p/\0<=x.a/\x.a<=B
theorem Low.up {B B':Int} {S:List (St P M)} (l:Low E B S) (h:B<=B'):Low E B' S:=fun x hx=>let ⟨a,b,c,d⟩:=l x hx;⟨a,b,c,Int.le_trans d h⟩
end
inductive Rch (E:Env P M) (p0:P):P->Int->Prop where
 |start:Rch E p0 p0 0
 |step {p:P} {n:Int} {w:M × P × Int × List Sp} (h:Rch E p0 p n) (hw:w∈E.ways p):Rch E p0 w.2.1 (n+w.2.2.1)
theorem Rch.ok {D:Int} (fl:Flat E D) {p0 p:P} {n:Int} (h:Rch E p0 p n) (ho:E.ok p0):E.ok p/\0<=n:=by
 induction h with
 |start=>exact ⟨ho,Int.le_refl _⟩
 |step h hw ih=>obtain ⟨_,e2,_,e4⟩:=fl.wy _ ih.1 _ hw;exact ⟨e4,by omega⟩
theorem Rch.pre {p0 p1:P} {w:M × P × Int × List Sp} (hw:w∈E.ways p0) (e:w.2.1=p1):∀{p:P} {n:Int},Rch E p1 p n->Rch E p0 p (w.2.2.1+n)
 |_,_,.start=>by subst e;have:=Rch.step (.start (E:=E) (p0:=p0)) hw;rw [Int.zero_add]at this;rw [Int.add_zero];exact this
 |_,_,.step h hv=>by have:=Rch.step (Rch.pre hw e h) hv;rw [<- Int.add_assoc];exact this
inductive Wk (E:Env P M) (p0:P) (t0:Int):List M->P->Nat->Int->Prop where
 |nil {i:Nat} (h:inside (E.spans p0) t0=some i):Wk E p0 t0 [] p0 i t0
 |snoc {l:List M} {p:P} {i j:Nat} {a:Int} {s0 s:Sp} {w:M × P × Int × List Sp} (h:Wk E p0 t0 l p i a) (h0:(E.spans p)[i]?=some s0) (ha1:s0.1<=a) (ha2:a<s0.2) (hw:w∈E.ways p) (hs:s∈w.2.2.2) (h1:s0.1<=s.1) (h2:s.2<=s0.2)
  (he:sumI (max a s.1) w.2.2.1<=s.2) (he2:sumI (max a s.1) w.2.2.1<FV) (hj:inside (E.spans w.2.1) (sumI (max a s.1) w.2.2.1)=some j):Wk E p0 t0 (l++[E.stamp w.1 (max a s.1) (sumI (max a s.1) w.2.2.1)]) w.2.1 j (sumI (max a s.1) w.2.2.1)
theorem Vc {S:List (St P M)} {k:Nat} {l:List (Nat × St P M)} (c:Dw S k l):∃x l',S[k]?=some x/\l=(k,x)::l':=by
 cases c with
 |start h hb=>exact ⟨_,_,h,rfl⟩
 |step h hb c=>exact ⟨_,_,h,rfl⟩
theorem aw5 (r:Ci E) {p0:P} {t0 lo:Int} {z:M} {S:List (St P M)} (v:Inv E p0 t0 z lo S) {k:Nat} {l:List (Nat × St P M)} (c:Dw S k l):∀{x:St P M},S[k]?=some x->Wk E p0 t0 (m9 l).reverse x.p x.i x.a:=by
 induction c with
 |@start k x h hb=>
  intro x' h'
  rw [h]at h';cases h'
  have hxm:=List.mem_of_getElem? h
  obtain ⟨a1,a2,a3⟩:=v.at_ x hxm
  rcases v.by_ x hxm with ⟨_,e1,e2,_⟩|⟨y,h0,_⟩
  . have hin:=Ea (r.ris x.p) a1 a2 a3
    rw [e1,e2]at hin ⊢
    exact .nil hin
  . omega
 |@step k j x l h hb c ih=>
  intro x' h'
  rw [h]at h';cases h'
  have hxm:=List.mem_of_getElem? h
  obtain ⟨a1,a2,a3⟩:=v.at_ x hxm
  rcases v.by_ x hxm with ⟨e,_⟩|⟨y,h0,hy,hd,hlt,w,hw,s,hs,l1,l2,l3,l4,l5,l6,l7⟩
  . omega
  . rw [show x.b.toNat=j by omega]at hy
    obtain ⟨b1,b2,b3⟩:=v.at_ y (List.mem_of_getElem? hy)
    have ih:=ih hy
    have hin:=Ea (r.ris x.p) a1 a2 a3
    have:=Wk.snoc ih b1 b2 b3 hw hs l1 l2 (by rw [<- l4];exact l5) (by rw [<- l4];exact l6) (j:=x.i) (by rw [<- l4,<- l3];exact hin)
    rw [<- l4,<- l3,<- l7]at this
    have e:(m9 ((k,x)::l)).reverse=(m9 l).reverse++[x.mv]:=by
     obtain ⟨x1,l',_,rfl⟩:=Vc c
     show (x.mv::m9 ((j,x1)::l')).reverse=_
     rw [List.reverse_cons]
    rw [e]
    exact this
theorem path_wk (r:Ci E) {p0:P} {t0 lo:Int} {z:M} {S:List (St P M)} (v:Inv E p0 t0 z lo S) {k:Nat} {x:St P M} (hk:S[k]?=some x):Wk E p0 t0 (path S S.length k []) x.p x.i x.a:=by
 obtain ⟨l,c,hl⟩:=Md v hk
 rw [Hc c _ _ hl,List.append_nil]
 exact aw5 r v c hk
end
theorem ac2 {T:Tb} (g:iu T) {r n a b:Int} {u:Sp} (hu:u∈n9 T r n) (h1:u.1<=a) (h2:b<=u.2):inT T.length n=true/\mn (rowT T n) r a b=true:=by
 unfold n9 at hu
 split at hu
 . rename_i hn
   refine ⟨hn,C8.2 fun s hs hr=>?_⟩
   have gr:=rq g n
   obtain ⟨_,h3⟩:=Lv (r:=r) gr (Int.le_refl 0) (by decide) (fun s hs => .inl (gr.ok s hs).1)
   rcases (h3 u hu).2.2.2.2.2 s hs hr with h4|h4<;>omega
 . cases hu
theorem Se {T:Tb} {r:Int}:∀(N:List Int) (l:List Sp) (s:Sp),s∈N.foldl (fun l n=>qw l (n9 T r n)) l->(∃u∈l,u.1<=s.1/\s.2<=u.2)/\∀n∈N,∃u∈n9 T r n,u.1<=s.1/\s.2<=u.2
 |[],l,s,h=>⟨⟨s,h,Int.le_refl _,Int.le_refl _⟩,fun _ h=>by cases h⟩
 |n::N,l,s,h=>by
  rw [List.foldl_cons]at h
  obtain ⟨⟨u,hu,h1,h2⟩,h3⟩:=Se N _ s h
  obtain ⟨x,hx,y,hy,rfl,_⟩:=C0.1 hu
  simp only at h1 h2
  refine ⟨⟨x,hx,by omega,by omega⟩,fun m hm=>?_⟩
  rcases List.mem_cons.1 hm with rfl|hm
  . exact ⟨y,hy,by omega,by omega⟩
  . exact h3 m hm
theorem Sh {T:Tb} {r a b:Int} (hab:a<b):∀(N:List Int) (l:List Sp),(∃u∈l,u.1<=a/\b<=u.2)->(∀n∈N,∃u∈n9 T r n,u.1<=a/\b<=u.2)->∃s∈N.foldl (fun l n=>qw l (n9 T r n)) l,s.1<=a/\b<=s.2
 |[],l,h,_=>h
 |n::N,l,⟨u,hu,h1,h2⟩,h=>by
  obtain ⟨v,hv,h3,h4⟩:=h n (.head _)
  rw [List.foldl_cons]
  exact Sh hab N _ ⟨(max u.1 v.1,min u.2 v.2),C0.2 ⟨u,hu,v,hv,rfl,by omega⟩,by simp only;omega,by simp only;omega⟩ fun m hm=>h m (.tail _ hm)
theorem Sc {T:Tb} {r:Int} {N:List Int} {s:Sp} (h:s∈lr T r N):∀n∈N,∃u∈n9 T r n,u.1<=s.1/\s.2<=u.2:=(Se N _ s h).2
theorem am7 {T:Tb} {r a b:Int} {N:List Int} (h0:0<=a) (h1:a<b) (h2:b<=FV) (h:∀n∈N,∃u∈n9 T r n,u.1<=a/\b<=u.2):∃s∈lr T r N,s.1<=a/\b<=s.2:=
 Sh h1 N _ ⟨_,.head _,h0,h2⟩ h
theorem ac5 {T:Tb} (g:iu T) {r:Int} {N N':List Int} (hN:∀n∈N',n∈N) {s:Sp} (h:s∈lr T r N):∃s'∈lr T r N',s'.1<=s.1/\s.2<=s'.2:=by
 obtain ⟨b1,b2,b3⟩:=(yh g r N).bd s h
 exact am7 b1 b2 b3 fun n hn=>Sc h n (hN n hn)
theorem Hx {T:Tb} (g:iu T) {r a b:Int} {N:List Int} {s:Sp} (h:s∈lr T r N) (h1:s.1<=a) (h2:b<=s.2):∀n∈N,inT T.length n=true/\mn (rowT T n) r a b=true:=fun n hn=>by
 obtain ⟨u,hu,e1,e2⟩:=Sc h n hn
 exact ac2 g hu (by omega) (by omega)
def Qf (r:Int) (T U:Tb):Prop:=T.length=U.length/\∀n,others (rowT T n) r=others (rowT U n) r
theorem Qf.trans {r:Int} {T U V:Tb} (a:Qf r T U) (b:Qf r U V):Qf r T V:=⟨a.1.trans b.1,fun n=>(a.2 n).trans (b.2 n)⟩
end Go.Proofs.Srch
end
section
namespace Go.Proofs.YtfflipnhffknnaaGreatDoor
open Go Go.HL
def rz (m:Move):List Cell:=if m.k=1 then (List.range (m.n.toNat+1)).flatMap (fun (i:Nat)=>bw (dy m.f m.d i))else if m.k=2 then gj (m.f.x,m.f.y)else bw m.f
def ir (C:Conf) (m:Move):List Cell:=if fc C m=true then nh (wC C) (kC C) (rz m)else []
theorem rway_eq {C:Conf} {m:Move} (hp:PB m.f) (hl:fc C m=true):rz m=wayL m:=by
 unfold rz wayL
 by_cases h1:m.k=1
 . rw [if_pos h1,if_pos h1]
   unfold fc at hl
   rw [Bool.and_eq_true,if_pos h1]at hl
   simp only [Bool.and_eq_true]at hl
   have hd:=dp.1 hl.2.2.1
   congr 1
   funext i
   rw [uk hp hd]
 . rw [if_neg h1,if_neg h1]
theorem ag2 {C:Conf} (mk:dh C) {m:Move} (hp:PB m.f):ka (wC C) (kC C) (f3C C) m=ir C m:=by
 unfold ka ir
 rw [Hh mk hp]
 cases hl:fc C m with
 |false=>rfl
 |true=>rw [if_pos rfl,if_pos rfl,rway_eq hp hl]
section
variable {C:Conf}
theorem E0 {α:Type} {ok:Nat->Bool} {mk:Nat->α} {x:α}:∀{k n:Nat},x∈kq ok mk n k↔∃j,n<=j/\j<n+k/\x=mk j/\∀i,n<=i->i<=j->ok i=true
 |0,n=>by
  unfold kq
  simp only [List.not_mem_nil,false_iff]
  rintro ⟨j,h1,h2,_⟩
  omega
 |k+1,n=>by
  unfold kq
  cases hb:ok n with
  |false=>
   simp only [Bool.false_eq_true,if_false,List.not_mem_nil,false_iff]
   rintro ⟨j,h1,h2,_,h⟩
   have:=h n (Nat.le_refl _) h1
   rw [hb]at this;cases this
  |true=>
   simp only [if_true,List.mem_cons]
   rw [E0]
   constructor
   . rintro (rfl|⟨j,h1,h2,rfl,h⟩)
     . exact ⟨n,Nat.le_refl _,by omega,rfl,fun i a b=>by obtain rfl:i=n:=by omega
                                                         exact hb⟩
     . exact ⟨j,by omega,by omega,rfl,fun i a b=>by
        by_cases hi:i=n
        . subst hi;exact hb
        . exact h i (by omega) b⟩
   . rintro ⟨j,h1,h2,rfl,h⟩
     by_cases hj:j=n
     . subst hj;exact .inl rfl
     . exact .inr ⟨j,by omega,by omega,rfl,fun i a b=>h i (by omega) b⟩
theorem Lh {α:Type} {D:Nat->List α} {x:α}:∀{k i:Nat},x∈na D i k↔∃j,i<=j/\j<i+k/\x∈D j
 |0,i=>by
  unfold na
  simp only [List.not_mem_nil,false_iff]
  rintro ⟨j,h1,h2,_⟩
  omega
 |k+1,i=>by
  unfold na
  rw [List.mem_append,Lh]
  constructor
  . rintro (h|⟨j,h1,h2,h⟩)
    . exact ⟨i,Nat.le_refl _,by omega,h⟩
    . exact ⟨j,by omega,by omega,h⟩
  . rintro ⟨j,h1,h2,h⟩
    by_cases hj:j=i
    . subst hj;exact .inl h
    . exact .inr ⟨j,by omega,by omega,h⟩
theorem ak4 {p:Pose} {d:Nat} {x:Move} (h:x∈rrunD C p d):∃n,1<=n/\n<17/\x=mkR p d n/\fc C x=true:=by
 obtain ⟨n,h1,h2,rfl,h3⟩:=E0.1 h
 exact ⟨n,h1,by omega,rfl,h3 n h1 (Nat.le_refl _)⟩
theorem vx {m:Move} (h:fc C m=true):fq C m.f=true:=by
 unfold fc at h
 exact (Bool.and_eq_true _ _▸h).1
end
section
variable {C:Conf}
def nc (m:Move):Move:=⟨m.k,if m.k=1 then (m.d+2).tmod 4 else m.d,m.n,m.t,m.f,m.a,m.e⟩
theorem yn {p q:Pose} (h1:p.x=q.x) (h2:p.y=q.y) (h3:p.d=q.d):p=q:=by cases p;cases q;simp_all
theorem F1 (mk:dh C) {c:Cell} (h:pq C c=true):(0<=c.1/\c.1<wC C/\0<=c.2/\c.2<kC C)/\c.1<16/\c.2<16:=by
 obtain ⟨e1,e2,_,w2,_,k2⟩:=zv mk.laid.w mk.laid.h
 unfold pq inB at h
 simp only [Bool.and_eq_true,decide_eq_true_eq,ge_iff_le]at h
 omega
theorem wr_s {x:Int} (h : -100<=x/\x<=100):wr x=x:=Ko (by unfold Bd;omega)
theorem rx {p:Pose} {d n:Int} (hx:0<=p.x/\p.x<16) (hy:0<=p.y/\p.y<16) (hn:0<=n/\n<=16):
 (dy p d n).x=(if d=1 then p.x+n else if d=3 then p.x-n else p.x)/\(dy p d n).y=(if d=0 then p.y-n else if d=2 then p.y+n else p.y)/\(dy p d n).d=p.d:=by
 unfold dy
 rw [wr_s (x:=p.x+n) (by omega),wr_s (x:=p.x-n) (by omega),wr_s (x:=p.y-n) (by omega),wr_s (x:=p.y+n) (by omega)]
 exact ⟨rfl,rfl,rfl⟩
theorem Vn {p:Pose} {d n i:Int} (hx:0<=p.x/\p.x<16) (hy:0<=p.y/\p.y<16) (hd:0<=d/\d<=3) (hn:0<=n/\n<=16) (hi:0<=i/\i<=n) (tx:0<=(dy p d n).x/\(dy p d n).x<16) (ty:0<=(dy p d n).y/\(dy p d n).y<16):
 dy (dy p d n) ((d+2).tmod 4) i=dy p d (n-i):=by
 obtain ⟨a1,a2,a3⟩:=rx (d:=(d+2).tmod 4) (n:=i) tx ty (by omega)
 obtain ⟨b1,b2,b3⟩:=rx (d:=d) (n:=n) hx hy hn
 obtain ⟨c1,c2,c3⟩:=rx (d:=d) (n:=n-i) hx hy (by omega)
 have hd4:d=0\/d=1\/d=2\/d=3:=by omega
 refine yn ?_ ?_ (by rw [a3,b3,c3])
 . rw [a1,b1,c1]
   rcases hd4 with rfl|rfl|rfl|rfl<;>simp [show ((0:Int)+2).tmod 4=2 from rfl,show ((1:Int)+2).tmod 4=3 from rfl,show ((2:Int)+2).tmod 4=0 from rfl,show ((3:Int)+2).tmod 4=1 from rfl]<;>omega
 . rw [a2,b2,c2]
   rcases hd4 with rfl|rfl|rfl|rfl<;>simp [show ((0:Int)+2).tmod 4=2 from rfl,show ((1:Int)+2).tmod 4=3 from rfl,show ((2:Int)+2).tmod 4=0 from rfl,show ((3:Int)+2).tmod 4=1 from rfl]<;>omega
theorem Nu {w k:Nat} {W V:List Cell} (h:∀x,x∈W↔x∈V):nh w k W=nh w k V:=
 Gz (n:=numW w) ri ri fun x=>by rw [pk,pk,h]
theorem nn {L:List Cell} {a b c:Cell} (ha:a∈L) (hb:b∈L) (hc:c∈L) (ab:a≠b) (ac:a≠c) (bc:b≠c):3<=L.length:=by
 match L,ha,hb,hc with
 |[],ha,_,_=>cases ha
 |[x],ha,hb,_=>simp at ha hb;exact absurd (ha.trans hb.symm) ab
 |[x,y],ha,hb,hc=>
  simp at ha hb hc
  rcases ha with rfl|rfl<;>rcases hb with rfl|rfl<;>rcases hc with rfl|rfl<;>first|exact absurd rfl ab|exact absurd rfl ac|exact absurd rfl bc
 |x::y::z::L,_,_,_=>simp
theorem ub (mk:dh C) {p:Pose} (h:fq C p=true):(0<=p.x/\p.x<16)/\(0<=p.y/\p.y<16):=by
 unfold fq at h
 rw [Bool.and_eq_true]at h
 have:=F1 mk h.1
 simp only at this
 omega
theorem Gv (mk:dh C) {m:Move} (hl:fc C m=true) (h1:m.k=1):1<=m.n/\m.n<=16/\(0<=m.d/\m.d<=3)/\m.t=dy m.f m.d m.n/\∀i:Int,0<=i->i<=m.n->fq C (dy m.f m.d i)=true:=by
 have hf:=vx hl
 unfold fc at hl
 rw [hf,Bool.true_and,if_pos h1]at hl
 simp only [Bool.and_eq_true,decide_eq_true_eq,List.all_eq_true,List.mem_range]at hl
 obtain ⟨hn,hd,ht,hs⟩:=hl
 obtain ⟨n1,n2⟩:=dp.1 hn
 refine ⟨n1,n2,dp.1 hd,ht,fun i h0 hi=>?_⟩
 by_cases hz:i=0
 . subst hz
   obtain ⟨fx,fy⟩:=ub mk hf
   obtain ⟨a1,a2,a3⟩:=rx (d:=m.d) (n:=0) fx fy (by omega)
   rw [show dy m.f m.d 0=m.f from yn (by rw [a1];simp) (by rw [a2];simp) a3]
   exact hf
 . have:=hs (i-1).toNat (by omega)
   unfold Bp at this
   rw [show (((i-1).toNat:Nat):Int)+1=i by omega]at this
   exact this
theorem Tv (mk:dh C) {m:Move} (hl:fc C m=true) (h1:m.k=1):fc C (nc m)=true/\ir C m=ir C (nc m)/\fq C m.t=true/\3<=(ir C m).length:=by
 obtain ⟨n1,n2,hd,ht,hs⟩:=Gv mk hl h1
 have hf:=vx hl
 obtain ⟨fx,fy⟩:=ub mk hf
 have hft:fq C m.t=true:=by rw [ht];exact hs m.n (by omega) (Int.le_refl _)
 obtain ⟨tx,ty⟩:=ub mk hft
 have hbs:∀i:Int,0<=i->i<=m.n->dy m.t ((m.d+2).tmod 4) i=dy m.f m.d (m.n-i):=fun i h0 hi=>by
  have tx':=tx
  have ty':=ty
  rw [ht]at tx' ty'
  rw [ht]
  exact Vn fx fy hd (by omega) ⟨h0,hi⟩ tx' ty'
 have ed:(nc m).d=(m.d+2).tmod 4:=by unfold nc;simp only [if_pos h1]
 have hd':0<=(m.d+2).tmod 4/\(m.d+2).tmod 4<=3:=by
  have hd4:m.d=0\/m.d=1\/m.d=2\/m.d=3:=by omega
  rcases hd4 with e|e|e|e<;>rw [e]<;>decide
 have e0:dy m.f m.d (m.n-m.n)=m.f:=by
  rw [Int.sub_self]
  obtain ⟨a1,a2,a3⟩:=rx (d:=m.d) (n:=0) fx fy (by omega)
  exact yn (by rw [a1];simp) (by rw [a2];simp) a3
 have hlb:fc C (nc m)=true:=by
  unfold fc
  rw [if_pos (show (nc m).k=1 from h1),ed]
  simp only [Bool.and_eq_true,decide_eq_true_eq,List.all_eq_true,List.mem_range]
  refine ⟨hft,dp.2 ⟨n1,n2⟩,dp.2 hd',?_,fun i hi=>?_⟩
  . show m.f=dy m.t ((m.d+2).tmod 4) m.n
    rw [hbs m.n (by omega) (Int.le_refl _),e0]
  . have hi':i<m.n.toNat:=hi
    unfold Bp
    rw [ed]
    show fq C (dy m.t _ ((i:Int)+1))=true
    rw [hbs _ (by omega) (by omega)]
    exact hs _ (by omega) (by omega)
 have mem1:∀x,x∈rz m↔∃i:Nat,i<=m.n.toNat/\x∈bw (dy m.f m.d i):=fun x=>by
  unfold rz
  rw [if_pos h1,List.mem_flatMap]
  constructor
  . rintro ⟨i,hi,hx⟩;exact ⟨i,by have:=List.mem_range.1 hi;omega,hx⟩
  . rintro ⟨i,hi,hx⟩;exact ⟨i,List.mem_range.2 (by omega),hx⟩
 have mem2:∀x,x∈rz (nc m)↔∃i:Nat,i<=m.n.toNat/\x∈bw (dy m.t ((m.d+2).tmod 4) i):=fun x=>by
  unfold rz
  rw [if_pos (show (nc m).k=1 from h1),ed,List.mem_flatMap]
  constructor
  . rintro ⟨i,hi,hx⟩;exact ⟨i,by have:i<m.n.toNat+1:=List.mem_range.1 hi;omega,hx⟩
  . rintro ⟨i,hi,hx⟩;exact ⟨i,List.mem_range.2 (show i<m.n.toNat+1 by omega),hx⟩
 refine ⟨hlb,?_,hft,?_⟩
 . unfold ir
   rw [if_pos hl,if_pos hlb]
   refine Nu fun x=>?_
   rw [mem1,mem2]
   constructor
   . rintro ⟨i,hi,hx⟩
     refine ⟨m.n.toNat-i,by omega,?_⟩
     rw [hbs _ (by omega) (by omega),show m.n-((m.n.toNat-i:Nat):Int)=(i:Int)by omega]
     exact hx
   . rintro ⟨i,hi,hx⟩
     refine ⟨m.n.toNat-i,by omega,?_⟩
     rw [hbs _ (by omega) (by omega)]at hx
     rw [show ((m.n.toNat-i:Nat):Int)=m.n-(i:Int)by omega]
     exact hx
 . unfold ir
   rw [if_pos hl]
   have hin:∀(i:Nat) (x:Cell),i<=m.n.toNat->x∈bw (dy m.f m.d i)->x∈nh (wC C) (kC C) (rz m):=fun i x hi hx=>by
    rw [pk]
    have hfi:=hs i (by omega) (by omega)
    unfold fq at hfi
    rw [Bool.and_eq_true]at hfi
    refine ⟨?_,(mem1 x).2 ⟨i,hi,hx⟩⟩
    simp only [bw,List.mem_cons,List.not_mem_nil,or_false]at hx
    rcases hx with rfl|rfl
    . exact (F1 mk hfi.1).1
    . exact (F1 mk hfi.2).1
   have z0:dy m.f m.d ((0:Nat):Int)=m.f:=by
    obtain ⟨a1,a2,a3⟩:=rx (d:=m.d) (n:=((0:Nat):Int)) fx fy (by omega)
    exact yn (by rw [a1];simp) (by rw [a2];simp) a3
   obtain ⟨a1,a2,a3⟩:=rx (d:=m.d) (n:=1) fx fy (by omega)
   have eA:east m.f=if m.f.d=true then (m.f.x,m.f.y+1)else (m.f.x+1,m.f.y):=by
    unfold east
    rw [wr_s (by omega),wr_s (by omega)]
   have h1f:=hs 1 (by omega) (by omega)
   obtain ⟨sx,sy⟩:=ub mk h1f
   have eB:east (dy m.f m.d 1)=if m.f.d=true then ((dy m.f m.d 1).x,(dy m.f m.d 1).y+1)else ((dy m.f m.d 1).x+1,(dy m.f m.d 1).y):=by
    unfold east
    rw [wr_s (by omega),wr_s (by omega),a3]
   have c0:(m.f.x,m.f.y)∈nh (wC C) (kC C) (rz m):=hin 0 _ (by omega) (by rw [z0];exact .head _)
   have c1:east m.f∈nh (wC C) (kC C) (rz m):=hin 0 _ (by omega) (by rw [z0];exact .tail _ (.head _))
   have c2:((dy m.f m.d 1).x,(dy m.f m.d 1).y)∈nh (wC C) (kC C) (rz m):=hin 1 _ (by omega) (.head _)
   have c3:east (dy m.f m.d 1)∈nh (wC C) (kC C) (rz m):=hin 1 _ (by omega) (.tail _ (.head _))
   rw [eA]at c1
   rw [eB]at c3
   rw [a1,a2]at c2 c3
   have hd4:m.d=0\/m.d=1\/m.d=2\/m.d=3:=by omega
   cases hdn:m.f.d with
   |false=>
    rw [hdn]at c1 c3
    simp only [Bool.false_eq_true,if_false]at c1 c3
    rcases hd4 with e|e|e|e<;>simp only [e]at c2 c3
    . exact nn c0 c1 c2 (by simp<;>omega) (by simp<;>omega) (by simp<;>omega)
    . exact nn c0 c1 c3 (by simp<;>omega) (by simp<;>omega) (by simp<;>omega)
    . exact nn c0 c1 c2 (by simp<;>omega) (by simp<;>omega) (by simp<;>omega)
    . exact nn c0 c1 c2 (by simp<;>omega) (by simp<;>omega) (by simp<;>omega)
   |true=>
    rw [hdn]at c1 c3
    simp only [if_true]at c1 c3
    rcases hd4 with e|e|e|e<;>simp only [e]at c2 c3
    . exact nn c0 c1 c2 (by simp<;>omega) (by simp<;>omega) (by simp<;>omega)
    . exact nn c0 c1 c2 (by simp<;>omega) (by simp<;>omega) (by simp<;>omega)
    . exact nn c0 c1 c3 (by simp<;>omega) (by simp<;>omega) (by simp<;>omega)
    . exact nn c0 c1 c2 (by simp<;>omega) (by simp<;>omega) (by simp<;>omega)
theorem Mg (mk:dh C) {m:Move} (hl:fc C m=true) (h2:m.k=2):fc C (nc m)=true/\ir C m=ir C (nc m)/\fq C m.t=true/\3<=(ir C m).length:=by
 have h1:¬m.k=1:=by omega
 have hf:=vx hl
 obtain ⟨fx,fy⟩:=ub mk hf
 have hl0:=hl
 unfold fc at hl0
 rw [hf,Bool.true_and,if_neg h1,if_pos h2]at hl0
 simp only [Bool.and_eq_true,decide_eq_true_eq,List.all_eq_true]at hl0
 obtain ⟨hs,hn,hd,ht⟩:=hl0
 have e1:gj (m.f.x,m.f.y)=[(m.f.x,m.f.y),(m.f.x+1,m.f.y),(m.f.x,m.f.y+1),(m.f.x+1,m.f.y+1)]:=by
  unfold gj
  simp only
  rw [wr_s (by omega),wr_s (by omega)]
 have hft:fq C m.t=true:=by
  rw [ht]
  unfold fq east Av
  simp only [Bool.and_eq_true]
  rw [e1]at hs
  refine ⟨hs _ (.head _),?_⟩
  cases hdn:m.f.d with
  |false=>simp only [Bool.not_false,if_true];rw [wr_s (by omega)];exact hs _ (.tail _ (.tail _ (.head _)))
  |true=>simp only [Bool.not_true,Bool.false_eq_true,if_false];rw [wr_s (by omega)];exact hs _ (.tail _ (.head _))
 have etx:m.t.x=m.f.x/\m.t.y=m.f.y:=by rw [ht];exact ⟨rfl,rfl⟩
 have hlb:fc C (nc m)=true:=by
  unfold fc
  rw [if_neg (show ¬(nc m).k=1 from h1),if_pos (show (nc m).k=2 from h2)]
  simp only [Bool.and_eq_true,decide_eq_true_eq,List.all_eq_true]
  refine ⟨hft,?_,hn,?_,?_⟩
  . show ∀x∈gj (m.t.x,m.t.y),_
    rw [etx.1,etx.2]
    exact hs
  . show (if m.k=1 then _ else m.d)=0
    rw [if_neg h1];exact hd
  . show m.f=Av m.t
    rw [ht]
    unfold Av
    simp
 refine ⟨hlb,?_,hft,?_⟩
 . unfold ir
   rw [if_pos hl,if_pos hlb]
   unfold rz
   rw [if_neg h1,if_pos h2,if_neg (show ¬(nc m).k=1 from h1),if_pos (show (nc m).k=2 from h2)]
   show _=nh _ _ (gj (m.t.x,m.t.y))
   rw [etx.1,etx.2]
 . unfold ir rz
   rw [if_pos hl,if_neg h1,if_pos h2]
   have hin:∀x∈gj (m.f.x,m.f.y),x∈nh (wC C) (kC C) (gj (m.f.x,m.f.y)):=fun x hx=>by
    rw [pk]
    exact ⟨(F1 mk (hs x hx)).1,hx⟩
   rw [e1]at hin ⊢
   exact nn (hin _ (.head _)) (hin _ (.tail _ (.head _))) (hin _ (.tail _ (.tail _ (.head _)))) (by simp;omega) (by simp;omega) (by simp;omega)
theorem ax9 (mk:dh C) {p:Pose} (hp:PB p) {m:Move} (h:m∈Cp C p):m.f=p/\MB m/\MB (nc m)/\(m.k=1\/m.k=2)/\(m.k=1->0<=m.d/\m.d<=3)/\fc C m=true/\fc C (nc m)=true/\ir C m=ir C (nc m)/\fq C m.t=true/\3<=(ir C m).length:=by
 have key:m.f=p/\fc C m=true/\(m.k=1\/m.k=2):=by
  unfold Cp at h
  split at h
  . rcases List.mem_append.1 h with h|h
    . obtain ⟨j,_,_,hj⟩:=Lh.1 h
      obtain ⟨n,_,_,e1,e2⟩:=ak4 hj
      exact ⟨by rw [e1];rfl,e2,.inl (by rw [e1];rfl)⟩
    . split at h
      . rename_i hl
        simp at h
        exact ⟨by rw [h];rfl,by rw [h];exact hl,.inr (by rw [h];rfl)⟩
      . cases h
  . cases h
 obtain ⟨ef,hl,hk⟩:=key
 have hall:fc C (nc m)=true/\ir C m=ir C (nc m)/\fq C m.t=true/\3<=(ir C m).length:=by
  rcases hk with hk|hk
  . exact Tv mk hl hk
  . exact Mg mk hl hk
 have hn:Bd m.n:=by
  rcases hk with hk|hk
  . obtain ⟨n1,n2,_⟩:=Gv mk hl hk
    unfold Bd;omega
  . have hl0:=hl
    unfold fc at hl0
    rw [if_neg (by omega),if_pos hk]at hl0
    simp only [Bool.and_eq_true,decide_eq_true_eq]at hl0
    rw [hl0.2.2.1]
    unfold Bd;omega
 obtain ⟨tx,ty⟩:=ub mk hall.2.2.1
 refine ⟨ef,⟨hn,by rw [ef];exact hp⟩,⟨hn,⟨by show Bd m.t.x;unfold Bd;omega,by show Bd m.t.y;unfold Bd;omega⟩⟩,hk,fun hk1=>(Gv mk hl hk1).2.2.1,hl,hall.1,hall.2.1,hall.2.2.1,hall.2.2.2⟩
end
end Go.Proofs.YtfflipnhffknnaaGreatDoor
end
section
namespace Go.Proofs.YtfflipnhffknnaaGreatDoor
open Go Go.HL Go.Proofs.Resv Go.Proofs.Srch
section
abbrev envC (C:Conf) (T:Tb) (r:Int):Env Pose Move:=envE C (wC C) (kC C) (f3C C) T r
variable {C:Conf}
theorem Xr (mk:dh C) {T:Tb} (gt:iu T) {r:Int}:qf (envC C T r):=aq4 (q:=⟨C,wC C,kC C,f3C C,T,r⟩) mk gt
theorem Gc {T:Tb} {r:Int} {p:Pose} {w:Move × Pose × Int × List Sp} (h:w∈(envC C T r).ways p):∃m∈lk (wC C) (kC C) (f3C C) p,w=wayE C (wC C) (kC C) (f3C C) T r m:=by
 obtain ⟨m,hm,rfl⟩:=List.mem_map.1 h
 exact ⟨m,hm,rfl⟩
theorem Ou (mk:dh C) {p:Pose} (h:fq C p=true):PB p:=by
 obtain ⟨a,b⟩:=ub mk h
 exact ⟨by unfold Bd;omega,by unfold Bd;omega⟩
theorem aj8 (mk:dh C) {p:Pose} {m:Move} (h:m∈lk (wC C) (kC C) (f3C C) p):fq C p=true/\m∈Cp C p/\m.f=p/\MB m/\MB (nc m)/\(m.k=1\/m.k=2)/\(m.k=1->0<=m.d/\m.d<=3)/\fc C m=true/\fc C (nc m)=true/\ir C m=ir C (nc m)/\fq C m.t=true/\ka (wC C) (kC C) (f3C C) m=ir C m:=by
 have hf:fq C p=true:=by
  unfold lk at h
  split at h
  . rename_i h1;rw [vd mk]at h1;exact h1
  . cases h
 have hp:=Ou mk hf
 rw [ak0 mk hp]at h
 obtain ⟨e1,e2,e3,e4,e5,e6,e7,e8,e9,_⟩:=ax9 mk hp h
 exact ⟨hf,h,e1,e2,e3,e4,e5,e6,e7,e8,e9,ag2 mk (by rw [e1];exact hp)⟩
theorem Sj (mk:dh C) {p:Pose} (h:fq C p=true):∀c∈bw p,inW (wC C) (kC C) c=true:=fun c hc=>(pd (by rw [vd mk];exact h) c hc).1
theorem wr16 {x:Int} (h:0<=x/\x<16):wr x=x:=Ko (by unfold Bd;omega)
theorem Gk (mk:dh C) {m:Move} (hl:fc C m=true) (hk:m.k=1\/m.k=2):∀c∈bw m.f,c∈ir C m:=by
 have hf:=vx hl
 have hin:=Sj mk hf
 intro c hc
 have h0:=i7.1 (hin c hc)
 unfold ir
 rw [if_pos hl,pk]
 refine ⟨by omega,?_⟩
 unfold rz
 by_cases h1:m.k=1
 . rw [if_pos h1,List.mem_flatMap]
   refine ⟨0,by simp,?_⟩
   have e:dy m.f m.d ((0:Nat):Int)=m.f:=by
    obtain ⟨ha,hb⟩:=ub mk hf
    unfold dy
    simp [wr16 ha,wr16 hb]
   rw [e];exact hc
 . have h2:m.k=2:=by omega
   rw [if_neg h1,if_pos h2]
   rcases List.mem_cons.1 hc with rfl|hc
   . simp [gj]
   . rw [List.mem_singleton]at hc;subst hc
     unfold east gj
     split<;>simp
theorem T4 (mk:dh C) {p:Pose} {m:Move} (h:m∈lk (wC C) (kC C) (f3C C) p):(∀c∈bw p,c∈ka (wC C) (kC C) (f3C C) m)/\(∀c∈bw m.t,c∈ka (wC C) (kC C) (f3C C) m)/\∀c∈ka (wC C) (kC C) (f3C C) m,inW (wC C) (kC C) c=true:=by
 obtain ⟨hf,hr,e1,e2,e3,e4,e5,e6,e7,e8,e9,e10⟩:=aj8 mk h
 rw [e10]
 refine ⟨fun c hc=>Gk mk e6 e4 c (by rw [e1];exact hc),fun c hc=>?_,fun c hc=>?_⟩
 . rw [e8]
   exact Gk mk e7 (by unfold nc;exact e4) c hc
 . unfold ir at hc
   rw [if_pos e6,pk]at hc
   exact i7.2 (by omega)
theorem env_ris (mk:dh C) {T:Tb} (gt:iu T) {r:Int}:Ci (envC C T r):=by
 refine ⟨fun p=>yh gt r _,fun p w hw=>?_,fun p w hw s hs=>?_⟩
 . obtain ⟨m,hm,rfl⟩:=Gc hw
   exact yh gt r _
 . obtain ⟨m,hm,rfl⟩:=Gc hw
   obtain ⟨_,h2,_⟩:=T4 mk hm
   refine ac5 gt (fun n hn=>?_) hs
   obtain ⟨c,hc,rfl⟩:=List.mem_map.1 hn
   exact List.mem_map.2 ⟨c,h2 c hc,rfl⟩
end
section
variable {C:Conf}
inductive Out (C:Conf) (T:Tb) (r:Int) (p:Pose) (t:Int) (gp:Pose) (any:Bool):Res Move->Prop where
 |ok {l:List Move} {q:Pose} {i:Nat} {a:Int} {s:Sp} (w:Wk (envC C T r) p t l q i a) (hs:((envC C T r).spans q)[i]?=some s) (h1:s.1<=a) (h2:a<s.2) (g:ml gp any q s=true)
  (best:∀p' i' t' s',Rc (envC C T r) p t p' i' t'->((envC C T r).spans p')[i']?=some s'->ml gp any p' s'=true->a<=t'):Out C T r p t gp any (.ok l)
 |route (h:(inside ((envC C T r).spans p) t).isSome=true) (none:∀p' i' t' s',Rc (envC C T r) p t p' i' t'->((envC C T r).spans p')[i']?=some s'->ml gp any p' s'=false):Out C T r p t gp any (.no 6)
 |budget:Out C T r p t gp any (.no 7)
 |taken (h:inside ((envC C T r).spans p) t=none):Out C T r p t gp any (.no 18)
theorem Sl (mk:dh C) {T:Tb} (gt:iu T) {r:Int} {p gp:Pose} {t:Int} {any:Bool} {n:Nat} (hp:cj (wC C) (kC C) (f3C C) p=true):Out C T r p t gp any (find (envC C T r) (ml gp any) p t zM n):=by
 have ris:=env_ris mk gt (r:=r)
 rcases an0 (Xr mk gt (r:=r)) ris (goal:=ml gp any) (t0:=t) (z:=zM) (p0:=p) hp n with ⟨h,h2⟩|⟨h0,⟨lo',S',k,x,h1,v,hk,hg,hb⟩|⟨h1,h2⟩|h1⟩
 . rw [h];exact .taken h2
 . rw [h1]
   obtain ⟨a1,a2,a3⟩:=v.at_ x (List.mem_of_getElem? hk)
   exact .ok (path_wk ris v hk) a1 a2 a3 hg hb
 . rw [h1];exact .route h0 h2
 . rw [h1];exact .budget
abbrev Mh (C:Conf) (T:Tb) (rb:Int) (p:Pose) (t:Int) (gp:Pose) (any:Bool):Prop:=(T.length:Int)≠C.w*C.h\/rb<0\/t<0\/t>=FV\/cj (wC C) (kC C) (f3C C) p=false\/aimB C gp any=false
theorem H0 {T:Tb} {rb t:Int} {p gp:Pose} {any:Bool} (h:Mh C T rb p t gp any):j5 C (some T) rb p t gp any = .no 1:=by
 unfold j5
 exact if_pos h
theorem Sm {T:Tb} {rb t:Int} {p gp:Pose} {any:Bool} (h:¬Mh C T rb p t gp any):j5 C (some T) rb p t gp any=find (envC C T rb) (ml gp any) p t zM C.bu.toNat:=by
 unfold j5
 exact if_neg h
def shM (by_:Int) (m:Move):Move:={ m with a:=m.a+by_,e:=m.e+by_ }
theorem X0 {T:Tb} {rb t:Int} {p gp:Pose} {any:Bool} (h:¬Mh C T rb p t gp any):(T.length:Int)=C.w*C.h/\0<=rb/\0<=t/\t<FV/\cj (wC C) (kC C) (f3C C) p=true/\aimB C gp any=true:=by
 unfold Mh at h
 simp only [not_or,Decidable.not_not,Bool.not_eq_false]at h
 obtain ⟨a,b,c,d,e,f⟩:=h
 exact ⟨a,by omega,by omega,by omega,e,f⟩
end
section
variable {C:Conf}
def FreeC (C:Conf) (T:Tb) (r:Int) (L:List Cell) (a b:Int):Prop:=∀c∈L,inT T.length (numI (wC C) (kC C) c)=true/\mn (rowT T (numI (wC C) (kC C) c)) r a b=true
def Ax (p:Pose) (l:List Move):Nat->Pose
 |0=>p
 |j+1=>(l.getD j zM).t
def mu (t:Int) (l:List Move):Nat->Int
 |0=>t
 |j+1=>(l.getD j zM).e
structure MvOk (C:Conf) (T:Tb) (r:Int) (P:Pose) (N:Int) (m:Move):Prop where
 k:m.k=1\/m.k=2
 nb:Bd m.n
 leg:fc C m=true
 f:m.f=P
 n0:0<=N
 at_:N<=m.a
 e:m.e=m.a+fk C m
 e2:m.a<m.e/\m.e<FV
 stand:FreeC C T r (bw P) N m.a
 go:FreeC C T r (ir C m) m.a m.e
 to:fq C m.t=true
theorem K4 {p:Pose} {l:List Move} {m:Move} {j:Nat} (h:j<=l.length):Ax p (l++[m]) j=Ax p l j:=by
 cases j with
 |zero=>rfl
 |succ j=>
  show ((l++[m]).getD j zM).t=(l.getD j zM).t
  rw [List.getD_eq_getElem?_getD,List.getD_eq_getElem?_getD,List.getElem?_append_left (by omega)]
theorem Lb {t:Int} {l:List Move} {m:Move} {j:Nat} (h:j<=l.length):mu t (l++[m]) j=mu t l j:=by
 cases j with
 |zero=>rfl
 |succ j=>
  show ((l++[m]).getD j zM).e=(l.getD j zM).e
  rw [List.getD_eq_getElem?_getD,List.getD_eq_getElem?_getD,List.getElem?_append_left (by omega)]
theorem wk_all (mk:dh C) {T:Tb} (gt:iu T) {r:Int} {p q:Pose} {t a:Int} {l:List Move} {i:Nat} (hp:fq C p=true) (ht:0<=t) (w:Wk (envC C T r) p t l q i a):
 (∀j m,l[j]?=some m->MvOk C T r (Ax p l j) (mu t l j) m)/\q=Ax p l l.length/\a=mu t l l.length/\fq C q=true/\0<=a:=by
 induction w with
 |nil h=>exact ⟨fun j m hm=>by simp at hm,rfl,rfl,hp,ht⟩
 |@snoc l q i j a s0 s w h h0 ha1 ha2 hw hs h1 h2 he he2 hj ih=>
  obtain ⟨ih1,rfl,rfl,ih4,ih5⟩:=ih
  obtain ⟨m,hm,rfl⟩:=Gc hw
  obtain ⟨hf,hr,e1,e2,e3,e4,e5,e6,e7,e8,e9,e10⟩:=aj8 mk hm
  obtain ⟨l1,l2⟩:=Rt mk hm
  have es:=Nw (show 0<=max (mu t l l.length) s.1 by omega) (show 0<=fk C m by omega) he2
  have e11:(l++[yc m (max (mu t l l.length) s.1) (sumI (max (mu t l l.length) s.1) (fk C m))]).getD l.length zM=yc m (max (mu t l l.length) s.1) (sumI (max (mu t l l.length) s.1) (fk C m)):=by
   rw [List.getD_eq_getElem?_getD,List.getElem?_append_right (Nat.le_refl _)];simp
  have hb:=(Xr mk gt (r:=r)).pos _ s0 (List.mem_of_getElem? h0)
  have hsum:sumI (max (mu t l l.length) s.1) (fk C m)<=s.2:=he
  have hsum2:sumI (max (mu t l l.length) s.1) (fk C m)<FV:=he2
  refine ⟨fun j m' hm'=>?_,?_,?_,e9,?_⟩
  . by_cases hjl:j<l.length
    . rw [List.getElem?_append_left hjl]at hm'
      rw [K4 (by omega),Lb (by omega)]
      exact ih1 j m' hm'
    . have hjl':j=l.length:=by
       have:=(List.getElem?_eq_some_iff.1 hm').1
       simp at this
       omega
      subst hjl'
      rw [K4 (Nat.le_refl _),Lb (Nat.le_refl _)]
      rw [List.getElem?_append_right (Nat.le_refl _)]at hm'
      simp at hm'
      subst hm'
      refine ⟨e4,e2.1,e6,e1,ih5,by show mu t l l.length<=max (mu t l l.length) s.1;omega,es,⟨?_,hsum2⟩,fun c hc=>?_,fun c hc=>?_,e9⟩
      . show max (mu t l l.length) s.1<sumI (max (mu t l l.length) s.1) (fk C m)
        omega
      . refine Hx gt (List.mem_of_getElem? h0) ha1 (show max (mu t l l.length) s.1<=s0.2 by omega) _ (List.mem_map.2 ⟨c,hc,rfl⟩)
      . refine Hx gt hs (show s.1<=max (mu t l l.length) s.1 by omega) hsum _ (List.mem_map.2 ⟨c,?_,rfl⟩)
        rw [e10]
        exact hc
  . rw [List.length_append]
    exact (congrArg Move.t e11).symm
  . rw [List.length_append]
    exact (congrArg Move.e e11).symm
  . show 0<=sumI (max (mu t l l.length) s.1) (fk C m)
    omega
theorem L0 (mk:dh C) {T:Tb} (gt:iu T) {rb t:Int} {p gp:Pose} {any:Bool} {l:List Move} (h:j5 C (some T) rb p t gp any = .ok l):
 ((T.length:Int)=C.w*C.h/\0<=rb/\0<=t/\t<FV/\fq C p=true)/\(∀j m,l[j]?=some m->MvOk C T rb (Ax p l j) (mu t l j) m)/\∃s:Sp,s∈(envC C T rb).spans (Ax p l l.length)/\s.1<=mu t l l.length/\mu t l l.length<s.2/\ml gp any (Ax p l l.length) s=true/\fq C (Ax p l l.length)=true/\0<=mu t l l.length:=by
 have ha:¬Mh C T rb p t gp any:=fun ha=>by rw [H0 ha]at h;cases h
 obtain ⟨c1,c2,c3,c4,c5,c6⟩:=X0 ha
 have hf:fq C p=true:=by rw [<- vd mk];exact c5
 rw [Sm ha]at h
 have o1:=Sl mk gt (r:=rb) (gp:=gp) (t:=t) (any:=any) (n:=C.bu.toNat) c5
 rw [h]at o1
 cases o1 with
 |ok w hs h1 h2 g best=>
  obtain ⟨w1,rfl,rfl,w4,w5⟩:=wk_all mk gt hf c3 w
  exact ⟨⟨c1,c2,c3,c4,hf⟩,w1,_,List.mem_of_getElem? hs,h1,h2,g,w4,w5⟩
end
theorem ag8 {C:Conf} (sm:SmO C):1<=C.w*C.h/\C.w*C.h<=36/\IntKind.i64.wrap (C.w*C.h)=(((C.w*C.h).toNat:Nat):Int)/\(((C.w*C.h).toNat:Nat):Int)=C.w*C.h:=by
 have hnb:1<=C.w/\1<=C.h:=by
  have hb:=sm.may.nums
  unfold qc ax at hb
  simp only [Bool.and_eq_true,decide_eq_true_eq]at hb
  omega
 obtain ⟨hw1,hh1⟩:=hnb
 have b2:C.w*C.h<=6*6:=Int.mul_le_mul sm.w sm.h (by omega) (by omega)
 have b1:1*1<=C.w*C.h:=Int.mul_le_mul hw1 hh1 (by omega) (by omega)
 refine ⟨by omega,by omega,?_,by omega⟩
 rw [ky (by omega) (by omega)];omega
abbrev zg (C:Conf) (ab:Option Addr) (cb:Nat) (ap:Option Addr) (cp:Nat) (ar:Option Addr) (cr:Nat) (az:Option Addr) (cs:Nat):Obj := .cells #[C.w,C.h,C.ht,.slice ab C.bl.length cb,.slice ap C.po.length cp,.slice ar C.ro.length cr,.slice az C.st.length cs,C.un,C.ac,C.sp,C.tu,C.ho,C.qu,C.re,C.bu,.bool C.back] 26 (0,0)
abbrev gu (p:Pose):Obj := .cells #[p.x,p.y,.bool p.d] 30 (0,0)
theorem TabV.up {G h h':Hp} {vt:Value} {To:Option Tb} (t:TabV G h vt To) (l:h.le h') (d:Dis G h'):TabV G h' vt To:=by
 cases To with
 |none=>exact t
 |some T=>obtain ⟨tp,e,ts,x⟩:=t;exact ⟨tp,e,ts.up l d,x⟩
structure FindO (G:Hp) (h:Hp) (W:Res Move) (u:Value) (h':Hp):Prop where
 ex:∃ip vs,u = .tuple #[vs,(outE W)]/\Slc jw 48 ip vs (outL W)/\(outL W).length<=110000/\HL.Sep [ip,h] h'/\Dis G h'
theorem ac8 {G h:Hp} {C:Conf} {v vt:Value} {To:Option Tb} {p gp:Pose} {rb t:Int} {any:Bool} (mk:dh C) (hv:CV G h v C) (st:jb G) (hro:∀p∈C.ro,PB p) (fit:Fit0 C) (hbu:C.bu<=4000)
 (tv:TabV G h vt To) (hp:PB p) (hgp:PB gp):
 al P_ G 27 #[v,vt,rb,kz p,t,.agg #[gp.x,gp.y,.bool gp.d,.bool any]] h (FindO G h (j5 C To rb p t gp any)):=by
 refine (ac7 hv st hro (by have:=fit.st;unfold Room at this;omega) (fun _=>hbu) tv hp hgp).mono ?_
 rintro u h' ⟨W,⟨ip,vs,e1,e2,e3,e4,e5⟩,⟨hno,_⟩|⟨_,rfl⟩⟩
 . exact absurd mk hno
 . exact ⟨ip,vs,e1,e2,e3,e4,e5⟩
theorem qx {C:Conf} (mk:dh C) {T:Tb} (gt:iu T) {rb t e:Int} {p gp:Pose} {any:Bool} (h:j5 C (some T) rb p t gp any = .no e):e=1\/e=6\/e=7\/e=18:=by
 by_cases ha:Mh C T rb p t gp any
 . rw [H0 ha]at h;cases h;exact .inl rfl
 . have c5:=(X0 ha).2.2.2.2.1
   rw [Sm ha]at h
   have o1:=Sl mk gt (r:=rb) (gp:=gp) (t:=t) (any:=any) (n:=C.bu.toNat) c5
   rw [h]at o1
   cases o1<;>simp
end Go.Proofs.YtfflipnhffknnaaGreatDoor
end
section
namespace Go.Proofs.YtfflipnhffknnaaGreatDoor.Rv
open Go Go.HL Go.Proofs.Resv
def vk:=jq bC (jq (jq (jq (jq @Bool.and_true @al103) (jq @Ek @Xz)) (jq (jq @ae6 @zj) (jq @cf107 @cf164))) (jq (jq (jq @eq106s @ld103) (jq @ld203p @ld3)) (jq (jq @ln103 @ln99) (jq @ne203p @true_and))))
def Ay:Cod (Int × Int):=⟨2,fun g=>[.int .i64 g.1,.int .i64 g.2],fun _=>rfl,fun _ v hv=>by simp at hv;rcases hv with rfl|rfl<;>rfl⟩
theorem eopair:fg P_ 110 Ay.n 16:=eo110
abbrev Wq (g:Int × Int):Obj := .cells #[g.1,g.2] 110 (0,0)
theorem store39 {G h:Hp} {lb:Nat} {z:Value} {a:Option Addr} {n c:Nat} {K:Unit->Hp->Prop} (hb:h lb=some (.cells #[z] 103 (0,0))):
 wpH P_ G (Instr.storeAt 103 (.pointer (some ⟨lb,0,none⟩)) (.slice a n c)) h K=K () (h.set lb (.cells #[.slice a n c] 103 (0,0))):=by
 rw [bz sz103 rfl hb (by simp)]
 rfl
theorem Tz {G a:Hp} {lb mb:Nat} {most:Int} {L:List (Int × Int)} {m:Int × Int} (y:HL.GYb Ay 110 103 most lb mb L a) (hm:most<=100000):
 al P_ G 107 #[m.1,m.2,.pointer (some ⟨lb,0,none⟩),.pointer (some ⟨mb,0,none⟩)] a (fun v a'=>v = .bool (HL.A0 most (L++[m]))/\HL.GY Ay 110 103 most lb mb (L++[m]) a'):=by
 obtain ⟨⟨ip,v,o,s⟩,hlen⟩:=y
 refine al.assume fun d=>av3 (by simp) ?_
 unfold S107
 have clb:∀j,af G a ⟨lb,j,none⟩=_:=fun j=>aj (ai (s.at 1 rfl ag))
 simp only [vk,clb]
 intro b hb gb
 have s2:=s.past (o:=Wq m) hb
 have d2:=d.set (o:=Wq m) gb
 have hb2:(a.set b (Wq m)) b=some (Wq m):=ag
 generalize Hp.set a b _=h2 at s2 d2 hb2 ⊢
 refine dm Ay (by decide) un103 eopair (by decide) (by decide) (M:=[m]) s2 d2 o (Sees.row (c:=Ay) (L:=[m]) hb2 rfl (Nat.le_refl _)) (by simp;omega) fun v3 a3 h3 o3 s3 d3=>?_
 obtain ⟨sa,cap,rfl,hcap⟩:=o3.len (by decide)
 have hlb3:=s3.at 1 rfl ag
 try simp (disch:=first|decide|omega) only [vk,Nat.reduceAdd,Nat.reduceMul]
 rw [store39 hlb3]
 have s4:=(s3.pick 1 rfl rfl).put (o := .cells #[.slice sa (L++[m]).length cap] 103 (0,0)) ag
 rw [set_set]at s4
 have clb4:∀j,af G (h3.set lb (.cells #[.slice sa (L++[m]).length cap] 103 (0,0))) ⟨lb,j,none⟩=_:=fun j=>aj (ai (s4.at 0 rfl ag))
 have cmb4:∀j,af G (h3.set lb (.cells #[.slice sa (L++[m]).length cap] 103 (0,0))) ⟨mb,j,none⟩=_:=fun j=>aj (ai (s4.at 2 rfl ag))
 try simp only [vk,clb4,cmb4]
 refine ⟨?_,a3,_,o3,s4.swap⟩
 first|rfl|simp [HL.A0]
theorem ac1 {G:Hp} {lb mb:Nat} {most:Int} (hm:most<=100000):HL.Yl P_ gapA G (.func (.func 107) #[] #[.pointer (some ⟨lb,0,none⟩),.pointer (some ⟨mb,0,none⟩)]) (HL.GYb Ay 110 103 most lb mb) (HL.GY Ay 110 103 most lb mb) (HL.A0 most):=by
 intro L m a q h y s d
 simp only [vk]
 refine (s.on (Tz y hm)).mono ?_
 rintro v h' ⟨a',⟨rfl,gy⟩,s',d'⟩
 refine ⟨a',rfl,s',d',?_⟩
 split
 . rename_i hc
   exact ⟨gy,of_decide_eq_true hc⟩
 . exact gy
theorem ly {G h:Hp} {b1 b2 b3 tp:Nat} {T:Tb} {c r most:Int} (h1:h b1=some (.cells #[.pointer (some ⟨tp,0,none⟩)] 34 (0,0))) (h2:h b2=some (.cells #[c] 3 (0,0))) (h3:h b3=some (.cells #[r] 3 (0,0))) (ts:TSee G h tp T)
 (fw:∀L∈T,L.length<=50000) (hm1:1<=most) (hm2:most<=100000):
 al P_ G 53 #[.func (.func 164) #[] #[.pointer (some ⟨b1,0,none⟩),.pointer (some ⟨b2,0,none⟩),.pointer (some ⟨b3,0,none⟩)],most] h (fun u h'=>∃ip,Slc Ay 110 ip u ((if inT T.length c=true then Fa (rowT T c) r else []).take most.toNat)/\HL.Sep [ip,h] h'/\Dis G h'):=by
 refine al.assume fun d=>enter53 (by simp) ?_
 unfold S53
 simp only [vk]
 intro mb hmb gmb lb hlb glb
 have s2:=((Sep.one (h:=h)).new (o := .cells #[most] 3 (0,0)) hmb).new (o := .cells #[.slice none 0 0] 103 (0,0)) hlb
 have d2:=(d.set (o := .cells #[most] 3 (0,0)) gmb).set (o := .cells #[.slice none 0 0] 103 (0,0)) glb
 generalize Hp.set (Hp.set h mb _) lb _=k2 at s2 d2 ⊢
 have cmb:∀j,af G k2 ⟨mb,j,none⟩=_:=fun j=>aj (ai (s2.at 1 rfl ag))
 have e1:decide (most<1)=false:=decide_eq_false (by omega)
 try simp only [vk,cmb,e1]
 unfold aA8
 try simp (disch:=decide) only [vk]
 obtain ⟨a,s3,sa⟩:=rp s2.none
 have ya:HL.GYb Ay 110 103 most lb mb [] a:=⟨⟨noHp,_,Slc.nil,sa⟩,by simp;omega⟩
 refine (Uy (r:=r) (ac1 hm2) ya s3 h1 h2 h3 ts fw).mono ?_
 rintro _ h4 ⟨a4,s4,d4,z4⟩
 rw [HL.Aj (by simp;omega)]at z4
 generalize (if inT T.length c=true then Fa (rowT T c) r else [])=GL at*
 have gy:HL.GY Ay 110 103 most lb mb (GL.take most.toNat) a4:=by
  unfold HL.Fin at z4
  simp only [List.nil_append,List.length_nil,Nat.sub_zero]at z4
  split at z4
  . exact z4.1
  . exact z4
 obtain ⟨ip,v,o,t4⟩:=gy
 have s5:HL.Sep [h,ip,noHp.set lb (.cells #[v] 103 (0,0)),noHp.set mb (.cells #[most] 3 (0,0))] h4:=by
  have:=s4.swap.split t4
  simpa using this
 have clb:∀j,af G h4 ⟨lb,j,none⟩=_:=fun j=>aj (ai (s5.at 2 rfl ag))
 try simp only [vk,clb]
 exact ⟨ip,o,(s5.take 2 rfl).swap,d4⟩
def Bd (x:Int):Prop := -9223372036854775808<=x/\x<=9223372036854775807
theorem Hb {G h:Hp} {a n:Int} (ha:Bd a) (hn:0<n) (hn2:n<=1000000):al P_ G 25 #[a,n] h (fun v h'=>v = .int .i64 (a % n)/\h'=h):=by
 refine quietly (Xt (by simp) ?_)
 obtain ⟨ha1,ha2⟩:=ha
 unfold S25
 have e1:a.tmod n=if 0<=a\/a % n=0 then a % n else a % n-n:=by
  rw [Int.tmod_eq_emod]
  have:(n.natAbs:Int)=n:=by omega
  by_cases h0:0<=a
  . simp [h0]
  . simp [h0,this,Int.dvd_iff_emod_eq_zero]
    split<;>omega
 have hb:=Int.emod_nonneg a (show n≠0 by omega)
 have hb2:=Int.emod_lt_of_pos a hn
 simp (disch:=first|decide|omega) only [vk]
 by_cases hc:0<=a\/a % n=0
 . rw [if_pos hc]at e1
   rw [e1,i8 (show ¬a % n<0 by omega)]
   simp only [vk]
   unfold Es
   simp (disch:=decide) only [vk]
   exact Hp.le.refl h
 . rw [if_neg hc]at e1
   have:a % n≠0:=fun e=>hc (.inr e)
   rw [e1,je (show a % n-n<0 by omega)]
   simp only [vk]
   unfold Es
   simp only [vk]
   exact ⟨by congr 1;omega,Hp.le.refl h⟩
end Go.Proofs.YtfflipnhffknnaaGreatDoor.Rv
end
section
namespace Go.Proofs.YtfflipnhffknnaaGreatDoor
open Go Go.HL
section
variable (G:Hp) (K:EK) (r:Rg) (h:Hp)
def md91:Nat->Hint
 |_=>mh false [] [] [] false
def ay6:Prop:=
 o_ G (Instr.makeSlice 98 (r 0) (r 0)) h fun v4 h4=>o_ G (Instr.build 188 #[(0,v4)]) h4 fun v5 h5=>o_ G (Instr.box 188 v5) h5 fun v6 h6=>
 K .ret (u5 r 9 (r 0) 10 v4 11 v5 12 v6 2 v6) h6
def S91:Prop:=
 o_ G (binOp .lss 3 (r 0) (.int .i64 1)) h fun v0 h0=>g_ v0 false (fun K1=>K1 (r 0) h0) h0 fun v1 h1=>g_ v0 false (o_ G (binOp .gtr 3 v1 (.int .i64 256)) h1) h1 fun v2 h2=>
 opH P_ G (bj v0 (.bool true) v2) h2 fun v3 h3=>
 (fun q=>cond v3
 (K .ret (upd q 2 (.pointer none)) h3)
 (ay6 G K q h3))
 (u7 r 2 (.pointer none) 3 (r 0) 4 v0 5 v0 6 v1 7 v2 8 v3)
theorem enter91:Ent 13 91 [.tmp 2] S91:=ent_ (m:=md91) (c:=(Tryz.f91.body.getD .skip)) (fun _ _ _ _=>by kernel_rfl) Tryz.func91 rfl rfl rfl
def md92:Nat->Hint
 |6=>⟨false,[0,0,0,6,14,30,63,127,255,511,511,2047,4095,8191,16383,32767,65535,131071,131071,524287,1048575,2097151,131071,131071,12713983,29491199,63045631,134217727,268435455,536870911,1073741823,1073741823,4294967295,8589934591,17179869183,34359738367,68719476735],[.pureN,.pureN,.pureN,.pureN,.pureN,.pureM,.eff,.pureN,.pureN,.pureN,.pureN,.pureN,.pureN,.pureM,.pureN,.pureN,.pureN,.pureN,.pureN,.pureN,.pureN,.pureM,.pureN,.pureN,.pureN,.pureN,.pureM,.pureN,.pureN,.pureN,.pureN,.pureN,.pureN,.pureN,.pureM,.pureN,.pureN],[.pureN,.pureN,.pureN,.pureN,.pureN,.pureM,.eff,.pureN,.pureN,.pureN,.pureN,.pureN,.pureN,.late,.pureN,.pureN,.pureN,.pureN,.pureN,.pureN,.pureN,.late,.pureN,.pureN,.pureN,.pureN,.late,.pureN,.pureN,.pureN,.pureN,.pureN,.pureN,.pureN,.late,.pureN,.pureN],[false,false,false,false,false,false,false,false,false,false,false,false,false,false,false,false,false,false,false,false,false,false,false,false,false,false,false,false,false,false,false,false,false,false,false,false,false],false⟩
 |11=>mh false [0,0,0,0,12,28,60,0,0,384,896,1920,0,0,12288,28672,61440,131071] [n_,n_,n_,n_,n_,n_,m_,n_,n_,n_,n_,m_,n_,n_,n_,n_,m_,e_] (fs 18) false
 |16=>mh false [0,0,0,0,12,28,60,0,0,384,896,1920,0,0,12288,28672,61440,131071] [n_,n_,n_,n_,n_,n_,m_,n_,n_,n_,n_,m_,n_,n_,n_,n_,m_,e_] (fs 18) false
 |_=>mh false [] [] [] false
def ay2 (G:Hp) (K:EK) (r:Rg) (h:Hp):Prop:=
 K .ret (upd r 6 (.int .i64 0)) h
def Mk:Prop:=
 o_ G (binOp .add 3 (r 9) (.int .i64 1)) h fun v3 h3=>
 K .normal (u3 r 83 (r 9) 84 v3 9 v3) h3
def Ml:Prop:=
 p_ (Instr.indexAt 114 (r 2) (r 9)) h fun v4 h4=>
 p_ (Instr.fieldAt 186 v4 0) h4 fun v5 h5=>
 w_ G h (Instr.loadAt 3 v5) h5 fun v6 h6=>
 p_ (Instr.indexAt 114 (r 2) (r 9)) h6 fun v7 h7=>
 p_ (Instr.fieldAt 186 v7 1) h7 fun v8 h8=>
 w_ G h (Instr.loadAt 3 v8) h8 fun v9 h9=>
 p_ (Instr.indexAt 114 (r 2) (r 9)) h9 fun v10 h10=>
 p_ (Instr.fieldAt 186 v10 2) h10 fun v11 h11=>
 w_ G h (Instr.loadAt 3 v11) h11 fun v12 h12=>
 c_ G 139 #[(r 0),(r 1),v6,v9,v12] h12 fun v13 h13=>
 Mk G K (u8 (u10 r 85 (r 0) 86 (r 1) 87 (r 2) 88 (r 9) 89 v4 90 v5 91 v6 92 (r 2) 93 (r 9) 94 v7) 95 v8 96 v9 97 (r 2) 98 (r 9) 99 v10 100 v11 101 v12 102 v13) h13
def ay1 (r:Rg) (h:Hp) (K:EK):Prop:=
 o_ G (Builtin.len_ #[114] 3 #[(r 2)]) h fun v1 h1=>o_ G (binOp .lss 3 (r 9) v1) h1 fun v2 h2=>
 cond v2
 (Ml G K (u4 r 79 (r 9) 80 (r 2) 81 v1 82 v2) h2)
 (K (.exit 4) (u4 r 79 (r 9) 80 (r 2) 81 v1 82 v2) h2)
def ay3:Prop:=
 ci (ay1 G) (upd r 9 (.int .i64 0)) h (bn 4 (bv (ay2 G K) K))
def Iw:Prop:=
 o_ G (binOp .add 3 (r 8) (.int .i64 1)) h fun v16 h16=>
 K .normal (u3 r 59 (r 8) 60 v16 8 v16) h16
def Mj:Prop:=
 p_ (Instr.indexAt 114 (r 2) (r 8)) h fun v17 h17=>
 p_ (Instr.fieldAt 186 v17 0) h17 fun v18 h18=>
 w_ G h (Instr.loadAt 3 v18) h18 fun v19 h19=>
 p_ (Instr.indexAt 114 (r 2) (r 8)) h19 fun v20 h20=>
 p_ (Instr.fieldAt 186 v20 1) h20 fun v21 h21=>
 w_ G h (Instr.loadAt 3 v21) h21 fun v22 h22=>
 p_ (Instr.indexAt 114 (r 2) (r 8)) h22 fun v23 h23=>
 p_ (Instr.fieldAt 186 v23 2) h23 fun v24 h24=>
 w_ G h (Instr.loadAt 3 v24) h24 fun v25 h25=>
 c_ G 138 #[(r 0),(r 1),v19,v22,v25] h25 fun v26 h26=>
 (fun q=>cond v26
 (K .ret (upd q 6 (.int .i64 18)) h26)
 (Iw G K q h26))
 (u8 (u10 r 61 (r 0) 62 (r 1) 63 (r 2) 64 (r 8) 65 v17 66 v18 67 v19 68 (r 2) 69 (r 8) 70 v20) 71 v21 72 v22 73 (r 2) 74 (r 8) 75 v23 76 v24 77 v25 78 v26)
def ay0 (r:Rg) (h:Hp) (K:EK):Prop:=
 o_ G (Builtin.len_ #[114] 3 #[(r 2)]) h fun v14 h14=>o_ G (binOp .lss 3 (r 8) v14) h14 fun v15 h15=>
 cond v15
 (Mj G K (u4 r 55 (r 8) 56 (r 2) 57 v14 58 v15) h15)
 (K (.exit 2) (u4 r 55 (r 8) 56 (r 2) 57 v14 58 v15) h15)
def ay4:Prop:=
 ci (ay0 G) (upd r 8 (.int .i64 0)) h (bn 2 (bv (ay3 G K) K))
def zm:Prop:=
 o_ G (binOp .add 3 (r 7) (.int .i64 1)) h fun v29 h29=>
 K .normal (u3 r 16 (r 7) 17 v29 7 v29) h29
def Fj:Prop:=
 p_ (Instr.indexAt 114 (r 2) (r 7)) h fun v30 h30=>
 p_ (Instr.fieldAt 186 v30 0) h30 fun v31 h31=>
 w_ G h (Instr.loadAt 3 v31) h31 fun v32 h32=>
 c_ G 137 #[(r 0),v32] h32 fun v33 h33=>
 p_ (Op.unary .not v33) h33 fun v34 h34=>g_ v34 false (fun K1=>K1 (r 2) h34) h34 fun v35 h35=>g_ v34 false (fun K1=>K1 (r 7) h35) h35 fun v36 h36=>g_ v34 false (p_ (Instr.indexAt 114 v35 v36) h36) h36 fun v37 h37=>g_ v34 false (p_ (Instr.fieldAt 186 v37 1) h37) h37 fun v38 h38=>g_ v34 false (w_ G h38 (Instr.loadAt 3 v38) h38) h38 fun v39 h39=>g_ v34 false (p_ (binOp .lss 3 v39 (.int .i64 0)) h39) h39 fun v40 h40=>
 bk P_ noHp noHp (bj v34 (.bool true) v40) h40 fun v41 h41=>g_ v41 false (fun K1=>K1 (r 2) h41) h41 fun v42 h42=>g_ v41 false (fun K1=>K1 (r 7) h42) h42 fun v43 h43=>g_ v41 false (p_ (Instr.indexAt 114 v42 v43) h43) h43 fun v44 h44=>g_ v41 false (p_ (Instr.fieldAt 186 v44 1) h44) h44 fun v45 h45=>g_ v41 false (w_ G h45 (Instr.loadAt 3 v45) h45) h45 fun v46 h46=>g_ v41 false (fun K1=>K1 (r 2) h46) h46 fun v47 h47=>g_ v41 false (fun K1=>K1 (r 7) h47) h47 fun v48 h48=>g_ v41 false (p_ (Instr.indexAt 114 v47 v48) h48) h48 fun v49 h49=>g_ v41 false (p_ (Instr.fieldAt 186 v49 2) h49) h49 fun v50 h50=>g_ v41 false (w_ G h50 (Instr.loadAt 3 v50) h50) h50 fun v51 h51=>g_ v41 false (p_ (binOp .geq 3 v46 v51) h51) h51 fun v52 h52=>
 bk P_ noHp noHp (bj v41 (.bool true) v52) h52 fun v53 h53=>g_ v53 false (fun K1=>K1 (r 2) h53) h53 fun v54 h54=>g_ v53 false (fun K1=>K1 (r 7) h54) h54 fun v55 h55=>g_ v53 false (p_ (Instr.indexAt 114 v54 v55) h55) h55 fun v56 h56=>g_ v53 false (p_ (Instr.fieldAt 186 v56 2) h56) h56 fun v57 h57=>g_ v53 false (w_ G h57 (Instr.loadAt 3 v57) h57) h57 fun v58 h58=>g_ v53 false (p_ (binOp .gtr 3 v58 (.int .i64 4611686018427387904)) h58) h58 fun v59 h59=>
 bk P_ noHp noHp (bj v53 (.bool true) v59) h59 fun v60 h60=>
 (fun q=>cond v60
 (K .ret (upd q 6 (.int .i64 1)) h60)
 (zm G K q h60))
 (u7 (u10 (u10 (u10 r 18 (r 0) 19 (r 2) 20 (r 7) 21 v30 22 v31 23 v32 24 v33 25 v34 26 v34 27 v35) 28 v36 29 v37 30 v38 31 v39 32 v40 33 v41 34 v41 35 v42 36 v43 37 v44) 38 v45 39 v46 40 v47 41 v48 42 v49 43 v50 44 v51 45 v52 46 v53 47 v53) 48 v54 49 v55 50 v56 51 v57 52 v58 53 v59 54 v60)
def X1 (r:Rg) (h:Hp) (K:EK):Prop:=
 o_ G (Builtin.len_ #[114] 3 #[(r 2)]) h fun v27 h27=>o_ G (binOp .lss 3 (r 7) v27) h27 fun v28 h28=>
 cond v28
 (Fj G K (u4 r 12 (r 7) 13 (r 2) 14 v27 15 v28) h28)
 (K (.exit 0) (u4 r 12 (r 7) 13 (r 2) 14 v27 15 v28) h28)
def ay5:Prop:=
 ci (X1 G) (upd r 7 (.int .i64 0)) h (bn 0 (bv (ay4 G K) K))
def S92:Prop:=
 o_ G (binOp .lss 3 (r 1) (.int .i64 0)) h fun v0 h0=>
 cond v0
 (K .ret (u4 r 6 (.int .i64 0) 10 (r 1) 11 v0 6 (.int .i64 1)) h0)
 (ay5 G K (u3 r 6 (.int .i64 0) 10 (r 1) 11 v0) h0)
theorem enter92:Ent 103 92 [.tmp 6] S92:=ent_ (m:=md92) (c:=(Tryz.f92.body.getD .skip)) (fun _ _ _ _=>by kernel_rfl) Tryz.func92 rfl rfl rfl
def md137:Nat->Hint
 |_=>mh false [] [] [] false
def S137:Prop:=
 o_ G (binOp .geq 3 (r 1) (.int .i64 0)) h fun v0 h0=>g_ v0 true (fun K1=>K1 (r 1) h0) h0 fun v1 h1=>g_ v0 true (fun K1=>K1 (r 0) h1) h1 fun v2 h2=>g_ v0 true (opH P_ G (xNil v2) h2) h2 fun v3 h3=>g_ v0 true (o_ G (Instr.fieldAt 188 v3 0) h3) h3 fun v4 h4=>g_ v0 true (o_ G (Instr.loadAt 98 v4) h4) h4 fun v5 h5=>g_ v0 true (o_ G (Builtin.len_ #[98] 3 #[v5]) h5) h5 fun v6 h6=>g_ v0 true (o_ G (binOp .lss 3 v1 v6) h6) h6 fun v7 h7=>
 opH P_ G (bj v0 v7 (.bool false)) h7 fun v8 h8=>
 K .ret (u3 (u10 r 4 (.bool false) 5 (r 1) 6 v0 7 v0 8 v1 9 v2 10 v3 11 v4 12 v5 13 v6) 14 v7 15 v8 4 v8) h8
theorem at1:Ent 16 137 [.tmp 4] S137:=ent_ (m:=md137) (c:=(Tryz.f137.body.getD .skip)) (fun _ _ _ _=>by kernel_rfl) Tryz.func137 rfl rfl rfl
def md138:Nat->Hint
 |_=>mh false [] [] [] false
def Ys (G:Hp) (K:EK) (r:Rg) (h:Hp):Prop:=
 K .ret (upd r 10 (.bool false)) h
def B8:Prop:=
 o_ G (binOp .add 3 (r 12) (.int .i64 1)) h fun v7 h7=>
 K .normal (u3 r 24 (r 12) 25 v7 12 v7) h7
def Jg:Prop:=
 o_ G (Instr.indexAt 99 (r 11) (r 12)) h fun v8 h8=>o_ G (Instr.fieldAt 203 v8 2) h8 fun v9 h9=>o_ G (Instr.loadAt 3 v9) h9 fun v10 h10=>
 opH P_ G (xEq .neq 3 (.tmp 0) (.tmp 0) v10 (r 1)) h10 fun v11 h11=>g_ v11 true (fun K1=>K1 (r 11) h11) h11 fun v12 h12=>g_ v11 true (fun K1=>K1 (r 12) h12) h12 fun v13 h13=>g_ v11 true (o_ G (Instr.indexAt 99 v12 v13) h13) h13 fun v14 h14=>g_ v11 true (o_ G (Instr.fieldAt 203 v14 0) h14) h14 fun v15 h15=>g_ v11 true (o_ G (Instr.loadAt 3 v15) h15) h15 fun v16 h16=>g_ v11 true (fun K1=>K1 (r 4) h16) h16 fun v17 h17=>g_ v11 true (o_ G (binOp .lss 3 v16 v17) h17) h17 fun v18 h18=>
 opH P_ G (bj v11 v18 (.bool false)) h18 fun v19 h19=>g_ v19 true (fun K1=>K1 (r 3) h19) h19 fun v20 h20=>g_ v19 true (fun K1=>K1 (r 11) h20) h20 fun v21 h21=>g_ v19 true (fun K1=>K1 (r 12) h21) h21 fun v22 h22=>g_ v19 true (o_ G (Instr.indexAt 99 v21 v22) h22) h22 fun v23 h23=>g_ v19 true (o_ G (Instr.fieldAt 203 v23 1) h23) h23 fun v24 h24=>g_ v19 true (o_ G (Instr.loadAt 3 v24) h24) h24 fun v25 h25=>g_ v19 true (o_ G (binOp .lss 3 v20 v25) h25) h25 fun v26 h26=>
 opH P_ G (bj v19 v26 (.bool false)) h26 fun v27 h27=>
 (fun q=>cond v27
 (K .ret (upd q 10 (.bool true)) h27)
 (B8 G K q h27))
 (u5 (u10 (u10 r 26 (r 11) 27 (r 12) 28 v8 29 v9 30 v10 31 (r 1) 32 v11 33 v11 34 v12 35 v13) 36 v14 37 v15 38 v16 39 v17 40 v18 41 v19 42 v19 43 v20 44 v21 45 v22) 46 v23 47 v24 48 v25 49 v26 50 v27)
def Yr (r:Rg) (h:Hp) (K:EK):Prop:=
 o_ G (Builtin.len_ #[99] 3 #[(r 11)]) h fun v5 h5=>o_ G (binOp .lss 3 (r 12) v5) h5 fun v6 h6=>
 cond v6
 (Jg G K (u4 r 20 (r 12) 21 (r 11) 22 v5 23 v6) h6)
 (K (.exit 0) (u4 r 20 (r 12) 21 (r 11) 22 v5 23 v6) h6)
def S138:Prop:=
 opH P_ G (xNil (r 0)) h fun v0 h0=>o_ G (Instr.fieldAt 188 v0 0) h0 fun v1 h1=>o_ G (Instr.loadAt 98 v1) h1 fun v2 h2=>o_ G (Instr.indexAt 98 v2 (r 2)) h2 fun v3 h3=>o_ G (Instr.loadAt 99 v3) h3 fun v4 h4=>
 ci (Yr G) (u10 r 10 (.bool false) 13 (r 0) 14 v0 15 v1 16 v2 17 (r 2) 18 v3 19 v4 11 v4 12 (.int .i64 0)) h4 (bn 0 (bv (Ys G K) K))
theorem at0:Ent 51 138 [.tmp 10] S138:=ent_ (m:=md138) (c:=(Tryz.f138.body.getD .skip)) (fun _ _ _ _=>by kernel_rfl) Tryz.func138 rfl rfl rfl
def md139:Nat->Hint
 |11=>mh false [0,0,2,7,15,31,31,127,255,511,31,1055,4095,8191] [n_,n_,m_,n_,n_,n_,n_,n_,n_,m_,n_,m_,n_,n_] (fs 14) false
 |_=>mh false [] [] [] false
def P3:Prop:=
 o_ G (Instr.sliceAt 99 (r 11) none (some (r 14)) none) h fun v3 h3=>o_ G (Builtin.append_ #[99,99] 99 #[(.slice none 0 0),v3]) h3 fun v4 h4=>o_ G (Instr.loadAt 203 (r 10)) h4 fun v5 h5=>o_ G (Instr.buildSlice 99 1 #[(0,v5)]) h5 fun v6 h6=>o_ G (Builtin.append_ #[99,99] 99 #[v4,v6]) h6 fun v7 h7=>o_ G (Instr.sliceAt 99 (r 11) (some (r 14)) none none) h7 fun v8 h8=>o_ G (Builtin.append_ #[99,99] 99 #[v7,v8]) h8 fun v9 h9=>
 opH P_ G (xNil (r 0)) h9 fun v10 h10=>o_ G (Instr.fieldAt 188 v10 0) h10 fun v11 h11=>o_ G (Instr.loadAt 98 v11) h11 fun v12 h12=>o_ G (Instr.indexAt 98 v12 (r 2)) h12 fun v13 h13=>
 opH P_ G (su (Instr.storeAt 99 v13 v9)) h13 fun v14 h14=>
 K .normal (u5 (u10 (u10 r 15 (.slice none 0 0) 92 (.slice none 0 0) 93 (r 11) 94 (r 14) 95 v3 96 v4 15 v4 97 v4 98 v5 99 v6) 100 v7 15 v7 101 v7 102 (r 11) 103 (r 14) 104 v8 105 v9 15 v9 106 (r 0) 107 v10) 108 v11 109 v12 110 (r 2) 111 v9 112 v13) h14
def Jf:Prop:=
 o_ G (binOp .add 3 (r 14) (.int .i64 1)) h fun v26 h26=>
 K .normal (u3 r 90 (r 14) 91 v26 14 v26) h26
def Yp (r:Rg) (h:Hp) (K:EK):Prop:=
 w_ G h (Builtin.len_ #[99] 3 #[(r 11)]) h fun v15 h15=>
 p_ (binOp .lss 3 (r 14) v15) h15 fun v16 h16=>g_ v16 true (fun K1=>K1 (r 11) h16) h16 fun v17 h17=>g_ v16 true (fun K1=>K1 (r 14) h17) h17 fun v18 h18=>g_ v16 true (p_ (Instr.indexAt 99 v17 v18) h18) h18 fun v19 h19=>g_ v16 true (p_ (Instr.fieldAt 203 v19 0) h19) h19 fun v20 h20=>g_ v16 true (w_ G h (Instr.loadAt 3 v20) h20) h20 fun v21 h21=>g_ v16 true (p_ (Instr.fieldAt 203 (r 10) 0) h21) h21 fun v22 h22=>g_ v16 true (w_ G h (Instr.loadAt 3 v22) h22) h22 fun v23 h23=>g_ v16 true (p_ (binOp .lss 3 v21 v23) h23) h23 fun v24 h24=>
 bk P_ noHp noHp (bj v16 v24 (.bool false)) h24 fun v25 h25=>
 (fun q=>cond v25
 (Jf G K q h25)
 (K (.exit 2) q h25))
 (u4 (u10 r 76 (r 14) 77 (r 11) 78 v15 79 v16 80 v16 81 v17 82 v18 83 v19 84 v20 85 v21) 86 v22 87 v23 88 v24 89 v25)
def Yq:Prop:=
 ci (Yp G) (upd r 14 (.int .i64 0)) h (bn 2 (bv (P3 G K) K))
def wp:Prop:=
 o_ G (binOp .add 3 (r 12) (.int .i64 1)) h fun v34 h34=>
 K .normal (u3 r 30 (r 12) 31 v34 12 v34) h34
def B7:Prop:=
 o_ G (Instr.loadAt 203 (r 13)) h fun v59 h59=>o_ G (Instr.buildSlice 99 1 #[(0,v59)]) h59 fun v60 h60=>o_ G (Builtin.append_ #[99,99] 99 #[(r 11),v60]) h60 fun v61 h61=>
 wp G K (u5 r 72 (r 11) 73 v59 74 v60 75 v61 11 v61) h61
def Je:Prop:=
 opH P_ G (xNil (r 0)) h fun v35 h35=>o_ G (Instr.fieldAt 188 v35 0) h35 fun v36 h36=>o_ G (Instr.loadAt 98 v36) h36 fun v37 h37=>o_ G (Instr.indexAt 98 v37 (r 2)) h37 fun v38 h38=>o_ G (Instr.loadAt 99 v38) h38 fun v39 h39=>o_ G (Instr.indexAt 99 v39 (r 12)) h39 fun v40 h40=>o_ G (Instr.loadAt 203 v40) h40 fun v41 h41=>o_ G (Instr.alloc 203 true (.tuple #[])) h41 fun v42 h42=>
 opH P_ G (su (Instr.storeAt 203 v42 v41)) h42 fun v43 h43=>o_ G (Instr.fieldAt 203 v42 2) h43 fun v44 h44=>o_ G (Instr.loadAt 3 v44) h44 fun v45 h45=>
 opH P_ G (xEq .eql 3 (.tmp 0) (.tmp 0) v45 (r 1)) h45 fun v46 h46=>g_ v46 true (o_ G (Instr.fieldAt 203 v42 0) h46) h46 fun v47 h47=>g_ v46 true (o_ G (Instr.loadAt 3 v47) h47) h47 fun v48 h48=>g_ v46 true (o_ G (Instr.fieldAt 203 (r 10) 1) h48) h48 fun v49 h49=>g_ v46 true (o_ G (Instr.loadAt 3 v49) h49) h49 fun v50 h50=>g_ v46 true (o_ G (binOp .leq 3 v48 v50) h50) h50 fun v51 h51=>
 opH P_ G (bj v46 v51 (.bool false)) h51 fun v52 h52=>g_ v52 true (o_ G (Instr.fieldAt 203 (r 10) 0) h52) h52 fun v53 h53=>g_ v52 true (o_ G (Instr.loadAt 3 v53) h53) h53 fun v54 h54=>g_ v52 true (o_ G (Instr.fieldAt 203 v42 1) h54) h54 fun v55 h55=>g_ v52 true (o_ G (Instr.loadAt 3 v55) h55) h55 fun v56 h56=>g_ v52 true (o_ G (binOp .leq 3 v54 v56) h56) h56 fun v57 h57=>
 opH P_ G (bj v52 v57 (.bool false)) h57 fun v58 h58=>
 cond v58
 (o_ G (Instr.fieldAt 203 (r 10) 0) h58 fun v62 h62=>o_ G (Instr.loadAt 3 v62) h62 fun v63 h63=>o_ G (Instr.fieldAt 203 v42 0) h63 fun v64 h64=>o_ G (Instr.loadAt 3 v64) h64 fun v65 h65=>o_ G (Builtin.min_ #[3,3] 3 #[v63,v65]) h65 fun v66 h66=>o_ G (Instr.fieldAt 203 (r 10) 0) h66 fun v67 h67=>
 opH P_ G (su (Instr.storeAt 3 v67 v66)) h67 fun v68 h68=>o_ G (Instr.fieldAt 203 (r 10) 1) h68 fun v69 h69=>o_ G (Instr.loadAt 3 v69) h69 fun v70 h70=>o_ G (Instr.fieldAt 203 v42 1) h70 fun v71 h71=>o_ G (Instr.loadAt 3 v71) h71 fun v72 h72=>o_ G (Builtin.max_ #[3,3] 3 #[v70,v72]) h72 fun v73 h73=>o_ G (Instr.fieldAt 203 (r 10) 1) h73 fun v74 h74=>
 opH P_ G (su (Instr.storeAt 3 v74 v73)) h74 fun v75 h75=>
 wp G K (upd (u10 (u10 (u10 (u10 r 32 (r 0) 33 v35 34 v36 35 v37 36 (r 2) 37 v38 38 v39 39 (r 12) 40 v40 41 v41) 13 v42 42 v44 43 v45 44 (r 1) 45 v46 46 v46 47 v47 48 v48 49 v49 50 v50) 51 v51 52 v52 53 v52 54 v53 55 v54 56 v55 57 v56 58 v57 59 v58 60 v62) 61 v63 62 v64 63 v65 64 v66 65 v67 66 v69 67 v70 68 v71 69 v72 70 v73) 71 v74) h75)
 (B7 G K (u9 (u10 (u10 r 32 (r 0) 33 v35 34 v36 35 v37 36 (r 2) 37 v38 38 v39 39 (r 12) 40 v40 41 v41) 13 v42 42 v44 43 v45 44 (r 1) 45 v46 46 v46 47 v47 48 v48 49 v49 50 v50) 51 v51 52 v52 53 v52 54 v53 55 v54 56 v55 57 v56 58 v57 59 v58) h58)
def Yo (r:Rg) (h:Hp) (K:EK):Prop:=
 opH P_ G (xNil (r 0)) h fun v27 h27=>o_ G (Instr.fieldAt 188 v27 0) h27 fun v28 h28=>o_ G (Instr.loadAt 98 v28) h28 fun v29 h29=>o_ G (Instr.indexAt 98 v29 (r 2)) h29 fun v30 h30=>o_ G (Instr.loadAt 99 v30) h30 fun v31 h31=>o_ G (Builtin.len_ #[99] 3 #[v31]) h31 fun v32 h32=>o_ G (binOp .lss 3 (r 12) v32) h32 fun v33 h33=>
 (fun q=>cond v33
 (Je G K q h33)
 (K (.exit 0) q h33))
 (u10 r 20 (r 12) 21 (r 0) 22 v27 23 v28 24 v29 25 (r 2) 26 v30 27 v31 28 v32 29 v33)
def S139:Prop:=
 o_ G (Instr.build 203 #[(0,(r 3)),(1,(r 4)),(2,(r 1))]) h fun v0 h0=>o_ G (Instr.alloc 203 true (.tuple #[])) h0 fun v1 h1=>
 opH P_ G (su (Instr.storeAt 203 v1 v0)) h1 fun v2 h2=>
 ci (Yo G) (u7 r 16 (r 3) 17 (r 4) 18 (r 1) 19 v0 10 v1 11 (.slice none 0 0) 12 (.int .i64 0)) h2 (bn 0 (bv (Yq G K) K))
theorem as9:Ent 113 139 [] S139:=ent_ (m:=md139) (c:=(Tryz.f139.body.getD .skip)) (fun _ _ _ _=>by kernel_rfl) Tryz.func139 rfl rfl rfl
end
end Go.Proofs.YtfflipnhffknnaaGreatDoor
end
section
namespace Go.Proofs.YtfflipnhffknnaaGreatDoor.Rv
open Go Go.HL Go.Proofs.Resv
def fd:=jq bC (jq (jq (jq (jq @Bool.true_and @and_true) (jq @bd188_0 @wh)) (jq (jq @kv @cf128) (jq @cf137 (jq @Xg @Am)))) (jq (jq (jq @Al @Ak) (jq @ld3 @ld98)) (jq (jq @ld99 @ln98) (jq @ln99 (jq @ju @true_and)))))
theorem T1 {G h:Hp} {tp:Nat} {T:Tb} {c:Int} (ts:TSee G h tp T):al P_ G 137 #[.pointer (some ⟨tp,0,none⟩),c] h (fun u h'=>u = .bool (inT T.length c)/\h'=h):=by
 obtain ⟨rb,e1,_⟩:=ts
 refine at1 (by simp) ?_
 unfold S137 inT
 try simp only [fd]
 by_cases h0:0<=c
 . try simp only [fd,decide_eq_true h0,show decide (c>=0)=true from decide_eq_true h0,e1]
 . try simp only [fd,decide_eq_false h0,show decide (c>=0)=false from decide_eq_false h0,dw,Bool.false_and]
theorem Z3 {G h:Hp} {n:Nat} (h1:1<=n) (h2:n<=256):al P_ G 91 #[n] h (fun u h'=>∃a tp,u = .pointer (some ⟨tp,0,none⟩)/\Tab 188 a tp (List.replicate n [])/\HL.Sep [a,h] h'/\Dis G h'):=by
 refine al.assume fun d=>enter91 (by simp) ?_
 unfold S91
 simp only [fd,decide_eq_false (show ¬(n:Int)<1 by omega),show decide ((n:Int)>256)=false from decide_eq_false (by omega)]
 unfold ay6
 simp (disch:=decide) only [fd]
 rw [tt svC (none,0,0) (by decide) un98 eosv (by kernel_rfl) (by omega) (by omega)]
 intro rb hrb grb
 simp only [fd]
 intro tp htp gtp
 have s1:=(Sep.one (h:=h)).new (o := .cells (svC.rows (List.replicate n (none,0,0))).toArray 99 (0,0)) hrb
 have d1:=d.set (o := .cells (svC.rows (List.replicate n (none,0,0))).toArray 99 (0,0)) grb
 have s2:=s1.new (o := .cells #[.slice (some ⟨rb,0,none⟩) n n] 188 (0,0)) htp
 have s3:=(s2.none.pick 2 rfl rfl).pick 2 rfl rfl
 obtain ⟨a,s4,t4⟩:=rp s3
 refine ⟨a,tp,rfl,⟨rb,List.replicate n (none,0,0),noHp,?_,by simp,fun i s L h1 h2=>?_⟩,s4,d1.set gtp⟩
 . rw [List.length_replicate]
   exact t4
 . rw [List.getElem?_replicate]at h1 h2
   split at h1
   . rename_i hi
     rw [if_pos hi]at h2
     cases h1
     cases h2
     exact ⟨rfl,Slc.nil⟩
   . cases h1
theorem ak3 {G h:Hp} {tp:Nat} {T:Tb} {L:List Slot} {c r f t:Int} (ts:TSee G h tp T) (h0:0<=c) (hL:T[c.toNat]?=some L) (hlen:L.length<=100000):
 al P_ G 138 #[.pointer (some ⟨tp,0,none⟩),r,c,f,t] h (fun u h'=>u = .bool (!mn L r f t)/\h'=h):=by
 have h1:c<T.length:=by have:=(List.getElem?_eq_some_iff.1 hL).1;omega
 obtain ⟨rb,e1,e2⟩:=ts
 obtain ⟨a,cap,e3,e4⟩:=e2 _ _ hL
 refine at0 (by simp) ?_
 unfold S138
 simp only [fd,e1,ix98 h0 h1,Nat.mul_one,e3]
 refine b8 (fun m q h3=>∃i:Nat,m=L.length-i/\i<=L.length/\q 1 = .int .i64 r/\q 3 = .int .i64 f/\q 4 = .int .i64 t/\q 11 = .slice a L.length cap/\q 12 = .int .i64 i/\h3=h/\mn (L.take i) r f t=true) ?_
  (m:=L.length) ⟨0,rfl,Nat.zero_le _,by simp (disch:=decide) only [fd],by simp (disch:=decide) only [fd],by simp (disch:=decide) only [fd],by simp (disch:=decide) only [fd],by simp only [fd]<;>rfl,rfl,rfl⟩
 rintro m q h ⟨i,rfl,hi,q1,q3,q4,q19,q21,rfl,hf⟩ X HX
 unfold Yr
 simp only [fd,q19,q21]
 refine bm (fun hlt=>?_) (fun hge=>?_)
 rotate_left
 . obtain rfl:i=L.length:=by omega
   rw [List.take_of_length_le (Nat.le_refl _)]at hf
   try simp (disch:=first|decide|omega) only [fd,Nat.reduceAdd,Nat.reduceMul]
   unfold Ys
   try simp only [fd]
   rw [hf]
   rfl
 obtain ⟨s,hs⟩:∃s,L[i]?=some s:=⟨_,List.getElem?_eq_getElem (by omega)⟩
 obtain ⟨b,o,rfl,z0,z1,z2⟩:=Sees.slot e4 hs
 unfold Jg
 simp (disch:=decide) only [fd,q19,q21,ix99 (Int.natCast_nonneg i) hlt,z0,z1,z2,q1]
 have k4:∀(K0:Exit->Rg->Hp->Prop) (q':Rg),q' 1 = .int .i64 r->q' 3 = .int .i64 f->q' 4 = .int .i64 t->q' 11=q 11->q' 12=q 12->(s.r==r || !(decide (s.f<t)&&decide (f<s.t)))=true->B8 G (bv X K0) q' h:=by
  intro K0 q' p1 p3 p4 p19 p21 hc
  unfold B8
  simp (disch:=first|decide|omega) only [fd,p21,q21]
  exact HX (L.length-(i+1)) _ _ (by omega) ⟨i+1,rfl,by omega,by simp (disch:=decide) only [fd,p1],by simp (disch:=decide) only [fd,p3],by simp (disch:=decide) only [fd,p4],by simp (disch:=decide) only [fd,p19,q19],by simp only [fd]<;>rfl,rfl,by rw [Lw hs,hf,hc];rfl⟩
 cases hb:(s.r != r)with
 |false=>
  try simp only [fd,dw,hb]
  exact k4 _ _ (by simp (disch:=decide) only [fd,q1]) (by simp (disch:=decide) only [fd,q3]) (by simp (disch:=decide) only [fd,q4]) (by simp (disch:=decide) only [fd]) (by simp (disch:=decide) only [fd]) (by simp at hb;simp [hb])
 |true=>
  try simp only [fd,q4,q19,q21,ix99 (Int.natCast_nonneg i) hlt,z0,z1,z2]
  by_cases hb2:s.f<t
  . try simp only [fd,decide_eq_true hb2,q3,q19,q21,ix99 (Int.natCast_nonneg i) hlt,z0,z1,z2]
    refine bm (fun hb3=>?_) (fun hb3=>?_)
    . try simp (disch:=first|decide|omega) only [fd,Nat.reduceAdd,Nat.reduceMul]
      have:(s.r==r || !(decide (s.f<t)&&decide (f<s.t)))=false:=by simp at hb;simp [hb,hb2,hb3]
      rw [Sd hs this]
      rfl
    . exact k4 _ _ (by simp (disch:=decide) only [fd,q1]) (by simp (disch:=decide) only [fd,q3]) (by simp (disch:=decide) only [fd,q4]) (by simp (disch:=decide) only [fd]) (by simp (disch:=decide) only [fd]) (by simp [hb3])
  . try simp only [fd,decide_eq_false hb2,dw]
    exact k4 _ _ (by simp (disch:=decide) only [fd,q1]) (by simp (disch:=decide) only [fd,q3]) (by simp (disch:=decide) only [fd,q4]) (by simp (disch:=decide) only [fd]) (by simp (disch:=decide) only [fd]) (by simp [hb2])
def dt:=jq bC (jq (jq (jq (jq @Ty @Tt) (jq @ud (jq @Tm @Xg))) (jq (jq @Am (jq @Sr @Al)) (jq @Ak (jq @ix99p @Rs)))) (jq (jq (jq @ld3 @ld3p) (jq @ld98 (jq @ld99 @ln99))) (jq (jq @ln99p (jq @ju @l8)) (jq @jj (jq @Gr @true_and)))))
theorem Wn {L:List Slot} {v:Int} {k:Nat} (h:∀s∈L.take k,s.f<v) (hk:k<=L.length) (h2:∀s,L[k]?=some s->¬s.f<v):rank L v=k:=by
 unfold rank
 have e:=List.take_append_drop k L
 conv=>lhs;rw [<- e]
 rw [List.takeWhile_append_of_pos (fun s hs=>by simpa using h s hs),List.length_append,List.length_take,Nat.min_eq_left hk]
 cases hd:L.drop k with
 |nil=>simp
 |cons s M=>
  have hs:L[k]?=some s:=by
   have:=congrArg (fun l=>l[0]?) hd
   simpa [List.getElem?_drop]using this
  rw [List.takeWhile_cons,if_neg (by simpa using h2 s hs)]
  simp
theorem ag9 {G a h:Hp} {v:Value} {L:List Slot} (o:Slc bo 203 a v L) (l:a.le h) {k:Nat} (hk:k<=L.length) {K:VK} (H:∀v',Sees bo G h v' (L.drop k)->K v' h):wpH P_ G (Instr.sliceAt 99 v (some (.int .i64 k)) none none) h K:=by
 by_cases hL:L=[]
 . subst hL
   obtain rfl:k=0:=by simpa using hk
   obtain ⟨ob,o'⟩:=id o
   cases ob with
   |none=>
    obtain ⟨rfl,_⟩:=o'
    rw [show ((0:Nat):Int)=0 from rfl,Ex un99 qh]
    exact H _ ⟨none,0,rfl,Nat.le_refl _,.inl rfl⟩
   |some b=>
    obtain ⟨cap,t,rfl,hb,hl⟩:=o'
    rw [show ([]:List Slot).length=0 from rfl,nk un99 qh (Int.natCast_nonneg _) (Int.natCast_nonneg _) (Nat.zero_le _)]
    exact H _ ⟨_,_,rfl,Nat.zero_le _,.inl rfl⟩
 . exact Zx (c:=bo) (j:=(k:Int)) un99 qh (o.sees (by decide) l) hL (Int.natCast_nonneg _) (by omega) H
theorem Zz {G h a:Hp} {R:List Hp} {tp:Nat} {T:List (List Slot)} {L:List Slot} {c r f t:Int} (tb:Tab 188 a tp T) (sp:HL.Sep (a::R) h) (h0:0<=c) (hL:T[c.toNat]?=some L) (g:Resv.Good L) (hlen:L.length<=50000) (hf:0<=f) (hft:f<t) (ht:t<=FV):
 al P_ G 139 #[.pointer (some ⟨tp,0,none⟩),r,c,f,t] h (fun u h'=>u = .tuple #[]/\∃a',Tab 188 a' tp (T.set c.toNat (Resv.putL L r f t))/\HL.Sep (a'::R) h'/\Dis G h'):=by
 have h1:c<T.length:=by have:=(List.getElem?_eq_some_iff.1 hL).1;omega
 refine al.assume fun d=>as9 (by simp) ?_
 have da:Dis G a:=fun b o e=>d _ _ (sp.hd _ _ e)
 obtain ⟨rb,e1,e2⟩:=tb.see (G:=G) (Hp.le.refl a)
 obtain ⟨sa,cap,e3,e4⟩:=e2 _ _ hL
 unfold S139
 simp (disch:=first|decide|exact ao|exact am|omega|rfl) only [dt]
 intro xb hxb gxb
 generalize eh:Hp.set h xb _=hb
 obtain ⟨lb,db,bb⟩:=boxed eh hxb d gxb
 have sb:HL.Sep (noHp::noHp.set xb (oc ⟨f,t,r⟩)::a::R) hb:=by rw [<- eh];exact (sp.new hxb).none
 clear eh
 refine b8 (fun m q h3=>∃(i:Nat) (fi ti:Int) (io:Hp) (v:Value) (out:List Slot),m=L.length-i/\i<=L.length/\q 0 = .pointer (some ⟨tp,0,none⟩)/\q 1 = .int .i64 r/\q 2 = .int .i64 c/\q 10 = .pointer (some ⟨xb,0,none⟩)/\q 11=v/\q 12 = .int .i64 i/\
  Slc bo 203 io v out/\out.length<=i/\HL.Sep (io::noHp.set xb (oc ⟨fi,ti,r⟩)::a::R) h3/\Dis G h3/\lm r (L.drop i) fi ti out=lm r L f t []) ?_
  (m:=L.length) ⟨0,f,t,noHp,_,[],rfl,Nat.zero_le _,by simp (disch:=decide) only [dt],by simp (disch:=decide) only [dt],by simp (disch:=decide) only [dt],by simp (disch:=decide) only [dt],rfl,by simp only [dt]<;>rfl,by simp (disch:=decide) only [dt];exact Slc.nil,Nat.zero_le _,sb,db,rfl⟩
 clear lb db bb sb hb
 rintro m q h3 ⟨i,fi,ti,io,v,out,rfl,hi,q0,q1,q2,q10,q11,q12,o,ho,s3,d3,hm⟩ X HX
 have l3:=s3.in 2 rfl
 have bx3:h3 xb=some (oc ⟨fi,ti,r⟩):=s3.at 1 rfl ag
 unfold Yo
 simp only [dt,q0,q2,q12,jh l3 d3 e1,ix98 h0 h1,Nat.mul_one,jh l3 d3 e3]
 refine bm (fun hlt=>?_) (fun hge=>?_)
 . obtain ⟨s,hs⟩:∃s,L[i]?=some s:=⟨_,List.getElem?_eq_getElem (by omega)⟩
   obtain ⟨b,of,rfl,z0,z1,z2⟩:=Sees.slot (e4.up l3 d3) hs
   unfold Je
   simp -implicitDefEqProofs (maxSteps:=2000000) (disch:=first|decide|with_reducible exact Nat.ne_of_beq_eq_false rfl|exact ao|exact am|omega|rfl|(simp;done)|fail) only [dt,q0,q2,q12,jh l3 d3 e1,ix98 h0 h1,Nat.mul_one,jh l3 d3 e3,ix99 (Int.natCast_nonneg i) hlt,z0,z1,z2]
   intro y hy gy
   simp only [dt,q1]
   generalize eh:Hp.set h3 y _=h4
   obtain ⟨l4,d4,b4⟩:=boxed eh hy d3 gy
   have s4:HL.Sep (io::noHp.set xb (oc ⟨fi,ti,r⟩)::a::R) h4:=by rw [<- eh];exact s3.past hy
   have cy:∀j,af G h4 ⟨y,j,none⟩=_:=fun j=>aj (ai b4)
   have bx4:h4 xb=some (oc ⟨fi,ti,r⟩):=s4.at 1 rfl ag
   have cb:∀j,af G h4 ⟨xb,j,none⟩=_:=fun j=>aj (ai bx4)
   have k8:∀(K0:Exit->Rg->Hp->Prop) (q':Rg),(∀k,k<=12->q' k=q k)->q' 13 = .pointer (some ⟨y,0,none⟩)->jc r fi ti s=false->B7 G (bv X K0) q' h4:=by
    intro K0 q' hq q'13 htb
    unfold B7
    simp only [dt,q'13,cy]
    intro z hz gz
    generalize ez:Hp.set h4 z _=h5
    obtain ⟨l5,d5,b5⟩:=boxed ez hz d4 gz
    have s5:HL.Sep (io::noHp.set xb (oc ⟨fi,ti,r⟩)::a::R) h5:=by rw [<- ez];exact s4.past hz
    rw [hq 11 (by decide),q11]
    refine dm bo (by decide) un99 eoslot (by decide) (by decide) (M:=[s]) s5 d5 o (Sees.row (c:=bo) (L:=[s]) b5 rfl (Nat.le_refl _)) (by simp;omega) fun v' a' h' o' s' d'=>?_
    unfold wp
    simp (disch:=first|decide|omega) only [dt,hq 12 (by decide),q12]
    refine HX (L.length-(i+1)) _ _ (by omega) ⟨i+1,fi,ti,a',v',out++[s],rfl,by omega,by simp (disch:=decide) only [dt,hq 0 (by decide),q0],by simp (disch:=decide) only [dt,hq 1 (by decide),q1],by simp (disch:=decide) only [dt,hq 2 (by decide),q2],by simp (disch:=decide) only [dt,hq 10 (by decide),q10],by simp (disch:=decide) only [dt],by simp only [dt]<;>rfl,o',by simp;omega,s',d',?_⟩
    rw [<- hm,vq hs,if_neg (by rw [htb];decide)]
   cases hb:(s.r==r)with
   |false=>
    simp only [dt,hb,dw]
    exact k8 _ _ (fun k hk=>by simp (disch:=omega) only [au]) (by simp (disch:=decide) only [dt]) (by unfold jc;rw [hb];rfl)
   |true=>
   simp only [dt,cy,q10,cb]
   by_cases hb2:s.f<=ti
   rotate_left
   . simp only [dt,decide_eq_false hb2,dw]
     exact k8 _ _ (fun k hk=>by simp (disch:=omega) only [au]) (by simp (disch:=decide) only [dt]) (by unfold jc;rw [decide_eq_false hb2];simp)
   simp only [dt,decide_eq_true hb2,q10,cb,cy]
   refine bm (fun hb3=>?_) (fun hb3=>?_)
   rotate_left
   . exact k8 _ _ (fun k hk=>by simp (disch:=omega) only [au]) (by simp (disch:=decide) only [dt]) (by unfold jc;rw [decide_eq_false hb3];simp)
   simp only [dt,cy,cb,q10,Wu]
   rw [bz sz3 rfl bx4 (by simp)]
   generalize e5:Hp.set h4 xb _=h5
   have b5:=Ud e5
   have c5:∀j,af G h5 ⟨xb,j,none⟩=_:=fun j=>aj (ai b5)
   have y5:∀j,af G h5 ⟨y,j,none⟩=_:=fun j=>aj (ai (by rw [D0 e5 (fun e=>by rw [e]at hy;rw [bx3]at hy;cases hy)];exact b4))
   simp only [dt,c5,y5,q10,Ww]
   rw [bz sz3 rfl b5 (by simp)]
   unfold wp
   simp (disch:=first|decide|omega) only [dt,q12]
   have s6:=((s4.pick 1 rfl rfl).put (o:=oc ⟨min fi s.f,max ti s.t,r⟩) ag)
   rw [set_set]at s6
   refine HX (L.length-(i+1)) _ _ (by omega) ⟨i+1,min fi s.f,max ti s.t,io,v,out,rfl,by omega,by simp (disch:=decide) only [dt,q0],by simp (disch:=decide) only [dt,q1],by simp (disch:=decide) only [dt,q2],by simp (disch:=decide) only [dt,q10],by simp (disch:=decide) only [dt,q11],by simp only [dt]<;>rfl,o,by omega,?_,?_,?_⟩
   . rw [<- e5,set_set]
     exact s6.pick 1 rfl rfl
   . rw [<- e5,set_set]
     exact d4.set (d4 _ _ bx4)
   . rw [<- hm,vq hs,if_pos (by unfold jc;rw [hb,decide_eq_true hb2,decide_eq_true hb3];rfl)]
 obtain rfl:i=L.length:=by omega
 rw [List.drop_of_length_le (Nat.le_refl _),lm]at hm
 obtain ⟨f',t',em,m1,m2,m3,m4,m5⟩:=Bq (r:=r) (f:=f) (t:=t) (out:=[]) g.apart (fun s hs=>(g.ok s hs).2.1) hft
 rw [<- hm]at em
 simp only [Prod.mk.injEq,List.nil_append]at em
 obtain ⟨rfl,rfl,eo⟩:=em
 have ep:Resv.putL L r f t=za out ⟨fi,ti,r⟩:=by unfold Resv.putL;rw [<- hm]
 clear HX m1 m2 m3 m4 m5 hm
 try simp (disch:=first|decide|omega) only [dt,Nat.reduceAdd,Nat.reduceMul]
 unfold Yq
 obtain ⟨oa,ocap,rfl,_⟩:=o.len (by decide)
 have cb:∀j,af G h3 ⟨xb,j,none⟩=_:=fun j=>aj (ai bx3)
 refine b8 (fun m q' h4=>∃k:Nat,m=out.length-k/\k<=out.length/\(∀j,j<=13->q' j=q j)/\q' 14 = .int .i64 k/\h4=h3/\∀s∈out.take k,s.f<fi) ?_
  (m:=out.length) ⟨0,rfl,Nat.zero_le _,(fun j hj=>by simp (disch:=omega) only [au]),by simp only [dt]<;>rfl,rfl,(fun s hs=>by simp at hs)⟩
 rintro m q' h4 ⟨k,rfl,hk,hq,q14,rfl,hlow⟩ X HX
 unfold Yp
 have fin:∀r1:Rg,(∀j,j<=13->r1 j=q j)->r1 14 = .int .i64 k->rank out fi=k->P3 G (retK P_ G [] fun u h'=>u = .tuple #[]/\∃a',Tab 188 a' tp (T.set c.toNat (Resv.putL L r f t))/\HL.Sep (a'::R) h'/\Dis G h') r1 h4:=by
  intro r1 hr r14 hrk
  unfold P3
  have so:=o.sees (G:=G) (by decide) (s3.in 0 rfl)
  simp only [dt,r14,hr 11 (by decide),q11]
  refine sees_to (c:=bo) (L:=out) (j:=(k:Int)) un99 qh so (Int.natCast_nonneg _) (by omega) fun v3 t3=>?_
  rw [Int.toNat_natCast]at t3
  refine dm bo (by decide) un99 eoslot (by decide) (by decide) (L:=[]) (M:=out.take k) s3.none d3 Slc.nil t3 (by simp;omega) fun v5 a5 h5 o5 s5 d5=>?_
  have bx5:h5 xb=some (oc ⟨fi,ti,r⟩):=s5.at 2 rfl ag
  have c5:∀j,af G h5 ⟨xb,j,none⟩=_:=fun j=>aj (ai bx5)
  simp only [dt,hr 10 (by decide),q10,c5]
  intro z hz gz
  generalize ez:Hp.set h5 z _=h6
  obtain ⟨l6,d6,b6⟩:=boxed ez hz d5 gz
  have s6:=s5.past (o:=oc ⟨fi,ti,r⟩) hz
  rw [ez]at s6
  rw [List.nil_append]at o5
  refine dm bo (by decide) un99 eoslot (by decide) (by decide) (M:=[⟨fi,ti,r⟩]) s6 d6 o5 (Sees.row (c:=bo) (L:=[⟨fi,ti,r⟩]) b6 rfl (Nat.le_refl _)) (by simp;omega) fun v7 a7 h7 o7 s7 d7=>?_
  refine ag9 o (s7.in 1 rfl) hk fun v8 t8=>?_
  refine dm bo (by decide) un99 eoslot (by decide) (by decide) (M:=out.drop k) s7 d7 o7 t8 (by simp;omega) fun v9 a9 h9 o9 s9 d9=>?_
  rw [show out.take k++[⟨fi,ti,r⟩]++out.drop k=Resv.putL L r f t by rw [ep,R6,hrk,List.append_assoc];rfl]at o9
  have s10:=((s9.pick 1 rfl rfl).drop.pick 1 rfl rfl).drop
  obtain ⟨rb',l,e1',hrb,hcl,a',t',s11,d11⟩:=Kt (c:=c.toNat) tb s10 d9 o9 (by omega)
  rw [e1]at e1'
  obtain rfl:rb=rb':=by simpa using e1'
  simp only [dt,hr 0 (by decide),q0,hr 2 (by decide),q2,jh (s9.in 3 rfl) d9 e1,ix98 h0 h1,Nat.mul_one]
  obtain ⟨sa6,cap6,rfl,_⟩:=o9.len (by decide)
  rw [bz sz99 rfl hrb hcl]
  exact ⟨a',t',s11,d11⟩
 simp only [dt,hq 11 (by decide),q11,q14]
 by_cases hlt:(k:Int)<out.length
 . obtain ⟨s,hs⟩:∃s,out[k]?=some s:=⟨_,List.getElem?_eq_getElem (by omega)⟩
   obtain ⟨b,of,rfl,z0,z1,z2⟩:=Sees.slot (o.sees (G:=G) (by decide) (s3.in 0 rfl)) hs
   simp (disch:=first|decide|omega) only [dt,decide_eq_true hlt,ix99 (Int.natCast_nonneg k) hlt,z0,hq 10 (by decide),q10,cb]
   refine bm (fun h5=>?_) (fun h5=>?_)
   . unfold Jf
     simp (disch:=first|decide|omega) only [dt,q14]
     refine HX (out.length-(k+1)) _ _ (by omega) ⟨k+1,rfl,by omega,(fun j hj=>by simp (disch:=omega) only [au,hq]),by simp only [dt]<;>rfl,rfl,fun s' hs'=>?_⟩
     rw [List.take_add_one,hs]at hs'
     rcases List.mem_append.1 hs' with h6|h6
     . exact hlow s' h6
     . simp at h6
       subst h6
       exact h5
   . try simp (disch:=first|decide|omega) only [dt,Nat.reduceAdd,Nat.reduceMul]
     exact fin _ (fun j hj=>by simp (disch:=omega) only [au,hq]) (by simp (disch:=decide) only [dt,q14]) (Wn hlow hk fun s' hs'=>by rw [hs]at hs';cases hs';exact h5)
 . simp only [dt,decide_eq_false hlt,dw]
   exact fin _ (fun j hj=>by simp (disch:=omega) only [au,hq]) (by simp (disch:=decide) only [dt,q14]) (Wn hlow hk fun s' hs'=>by rw [List.getElem?_eq_none (by omega)]at hs';cases hs')
end Go.Proofs.YtfflipnhffknnaaGreatDoor.Rv
end

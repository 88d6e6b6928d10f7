/- Texts of the proof, one behind the other. -/
import Derived.Test.YtfflipnhffknnaaGreatDoorBM7
import Derived.Test.YtfflipnhffknnaaGreatDoorBM4
import Derived.Test.YtfflipnhffknnaaGreatDoorBM6
import Derived.Test.YtfflipnhffknnaaGreatDoorBH2
import Derived.Test.YtfflipnhffknnaaGreatDoorBH3
import Derived.Test.YtfflipnhffknnaaGreatDoorRows
import Derived.Test.YtfflipnhffknnaaGreatDoorTie
import Derived.JoinedOf
import Derived.Handed
import Derived.LaidMore
import Derived.LaidHandle
import Derived.LaidLaws
import Derived.MakeChecks
set_option linter.unusedSimpArgs false
set_option linter.unusedVariables false
set_option maxRecDepth 100000
set_option maxHeartbeats 8000000
set_option linter.defProp false
section
namespace Go.Proofs.YtfflipnhffknnaaGreatDoor
open Go Go.HL Go.Proofs.Resv Go.Proofs.Srch
def xd:=jq bC (jq (jq @a3_.{0} (jq @kv @cf23)) (jq @Yg (jq @ld3 @ln40)))
theorem find_in {C:Conf} (mk:dx C) {T:Tb} {r t:Int} {p g:Pose} (h:nt C (some T) r p t g true ≠ .no 1):(T.length:Int)=C.w*C.h/\fu C p=true:=by have ha:¬F5 C T r p t g true:=fun ha=>h (vo ha);obtain ⟨c1,c2,c3,c4,c5,c6⟩:=F4 ha;exact ⟨c1,by rw [<- qm mk];exact c5⟩
theorem best_k3 {G q:Hp} {mv:Value} {C:Conf} {tp xc x1 x2:Nat} {T:Tb} {rb t0 e:Int} {p g:Pose} {M:List Move} {ab:Option Addr} {cb:Nat} {ap:Option Addr} {cp':Nat} {ar:Option Addr} {cr:Nat} {az:Option Addr} {cs:Nat}
 (ca:CA G q C ab cb ap cp' ar cr az cs) (bx:q xc=some (na C ab cb ap cp' ar cr az cs)) (b1:q x1=some (pq p)) (b2:q x2=some (pq g)) (st:lg G) (mk:dx C) (hbl:C.bl.length<=100000000000000) (gt:i7 T) (ts:Rv.TSee G q tp T) (fw:Few T 100) (sm:Sees jg G q mv M) (hML:M.length<=1000000000000)
 (d:Dis G q) (ht0:0<=t0) (ht1:t0<=1000) (hc:(e=6/\M=[]/\nt C (some T) rb p t0 g true = .no 6)\/(e=0/\nt C (some T) rb p t0 g true = .ok M)) {KK:EK} {r:Rg}
 (g2:r 2 = .int .i64 rb) (g4:r 4 = .int .i64 t0) (g6:r 6 = .pointer (some ⟨xc,0,none⟩)) (g9:r 9 = .pointer (some ⟨x1,0,none⟩)) (g11:r 11 = .pointer (some ⟨x2,0,none⟩)) (g14:r 14 = .pointer (some ⟨tp,0,none⟩)) (g16:r 16=mv) (g17:r 17 = .int .i64 e)
 (hret:∀(r':Rg) (h':Hp),r' 12 = .bool true->KK .ret r' h'):Mq G KK r q:=by
 have aw:∀{h:Hp} {K:VK},(∀h',K (.bool true) h')->bn P_ G 23 #[] h K:=fun hK=>(Jq st).mono fun u h' e=>by rw [e.1];exact hK h'
 obtain ⟨ew,ek,w1,w16,k1,k16⟩:=Jy mk;obtain ⟨hT,hp⟩:=find_in mk (show nt C (some T) rb p t0 g true ≠ .no 1 by rcases hc with ⟨_,_,h⟩|⟨_,h⟩<;>rw [h]<;>simp);obtain ⟨W,hW⟩:=aA2 (C:=C) (T:=T) (r:=rb) (p0:=p) (t0:=t0) (ps:=qo C);refine ps_loop ca bx hbl (by omega) (by omega) (by omega) (by omega) Slc.nil (HL.Sep.one (h:=q)).none d g6 fun r1 a1 h1 v1 hr1 h18 o1 s1 d1=>?_;have l1:q.le h1:=s1.in 1 rfl;have spv:Sees lk G h1 v1 (qo C):=o1.sees (by decide) (s1.in 0 rfl);have f1:∀{j:Nat} {v:Value},1<=j->j<=17->r j=v->r1 j=v:=fun a b e=>(hr1 _ a b).trans e;have f2:=f1 (by decide) (by decide) g2;have f4:=f1 (by decide) (by decide) g4;have f6:=f1 (by decide) (by decide) g6;have f9:=f1 (by decide) (by decide) g9;have f11:=f1 (by decide) (by decide) g11;have f14:=f1 (by decide) (by decide) g14;have f16:=f1 (by decide) (by decide) g16;have f17:=f1 (by decide) (by decide) g17
 have hE:0<=nc t0 M M.length/\nc t0 M M.length<FV:=by
  rcases hc with ⟨_,rfl,_⟩|⟨_,h⟩
  . exact ⟨ht0,by show t0<FV;have:FV=4611686018427387904:=rfl;omega⟩
  . obtain ⟨_,h2,s,h3,h4,h5,h6,h7,h8⟩:=ar8 mk gt h;have:=(Jp mk gt (r:=rb)).pos _ s h3;refine ⟨h8,?_⟩;omega
 generalize hEn:nc t0 M M.length=E at*;have hFV:FV=4611686018427387904:=rfl
 have tail:∀(r2:Rg) (n:Nat),n<=900->(∀j,1<=j->j<=18->r2 j=r1 j)->r2 24 = .int .i64 n->(∀k,k<=n->∀i,i<(qo C).length->pt C T rb W (qo C) g t0 k i=true->e=0/\k=n)->((∀k,k<=n->∀i,i<(qo C).length->pt C T rb W (qo C) g t0 k i=false)->e=6)->Hq G KK r2 h1:=by
  intro r2 n hn h2 h24 hgo hend
  exact au0 (ca.up l1 d1) (l1 _ _ bx) (l1 _ _ b1) (l1 _ _ b2) st mk hbl hT (ts.up l1 d1) fw spv d1 hn ht0 (by omega) hp hW hgo hend
   ((h2 2 (by decide) (by decide)).trans f2) ((h2 4 (by decide) (by decide)).trans f4) ((h2 6 (by decide) (by decide)).trans f6) ((h2 9 (by decide) (by decide)).trans f9) ((h2 11 (by decide) (by decide)).trans f11) ((h2 14 (by decide) (by decide)).trans f14) ((h2 17 (by decide) (by decide)).trans f17) ((h2 18 (by decide) (by decide)).trans h18) h24 hret
 have k5:∀r2:Rg,(∀j,1<=j->j<=18->r2 j=r1 j)->r2 23 = .int .i64 E->Tn G KK r2 h1:=by
  intro r2 h2 h23;have e4:=(h2 4 (by decide) (by decide)).trans f4;have e17:=(h2 17 (by decide) (by decide)).trans f17;unfold Tn;simp (disch:=first|decide|omega) only [xd,e4,h23];refine df (fun hgt=>?_) (fun hle=>?_)
  . try simp (disch:=first|decide|omega) only [xd,Nat.reduceAdd,Nat.reduceMul]
    refine aw fun h'=>?_;try simp (disch:=first|decide|omega) only [xd,Nat.reduceAdd,Nat.reduceMul]
    exact hret _ _ (by simp only [xd])
  . unfold aT7;simp (disch:=first|decide|omega) only [xd,e4,e17,h23];rcases hc with ⟨rfl,rfl,hf⟩|⟨rfl,hf⟩
    . try simp only [xd,show ((6:Int) != 0)=true from rfl]
      refine tail _ 60 (by decide) (fun j a b=>by simp (disch:=omega) only [bo];exact h2 j a b) (by simp only [xd]<;>rfl) (fun k hk i hi hg=>?_) fun _=>rfl;rw [best_no mk gt ht0 hW hf (by omega)]at hg;cases hg
    . obtain ⟨n,hn,hb1,j,hj,hb2⟩:=best_ok mk gt ht0 (fun z hz=>Pt mk hz) hW hf (by omega);have hn':E=t0+n:=by rw [<- hEn];exact hn
      try simp only [xd,show ((0:Int) != 0)=false from rfl]
      refine tail _ n (by omega) (fun j a b=>by simp (disch:=omega) only [bo];exact h2 j a b) (by simp (disch:=decide) only [xd];rw [show E-t0=(n:Int)by omega]) (fun k hk i hi hg=>⟨rfl,hb1 k i hk hg⟩) fun h=>?_;rw [h n (aj_ _) j hj]at hb2;cases hb2
 obtain ⟨sA,cA,rfl⟩:=sm.len;unfold Zf;simp (disch:=first|decide|omega) only [xd,f4,f16];by_cases hM:M=[]
 . subst hM;try simp only [xd,a3_,show decide (((0:Nat):Int)>0)=false from rfl]
   exact k5 _ (fun j a b=>by simp (disch:=omega) only [bo]) (by simp (disch:=decide) only [xd];rw [<- hEn];rfl)
 . have hpos:=bB_.2 hM;obtain ⟨y,hy⟩:∃y,M[M.length-1]?=some y:=⟨_,aa_ (by omega)⟩;obtain ⟨b,o,c,e1,x⟩:=(sm.up l1 d1).get hy;simp only [Value.slice.injEq]at e1;obtain ⟨rfl,-,-⟩:=e1;have y10:=x 10 (by decide);simp only [jg,bc_,ar_,as_]at y10;have hye:y.e=E:=by rw [<- hEn];obtain ⟨m,hm⟩:∃m,M.length=m+1:=⟨M.length-1,by omega⟩;rw [hm];rw [hm]at hy;exact (Xu hy).symm
   try simp only [xd,show decide ((M.length:Int)>0)=true from af_ (by omega),f16,ix40 (show 0<=(M.length:Int)-1 by omega) (show (M.length:Int)-1<(M.length:Int)by omega),show ((M.length:Int)-1).toNat=M.length-1 by omega,y10]
   exact k5 _ (fun j a b=>by simp (disch:=omega) only [bo]) (by simp only [xd,hye])
def iq:=jq bC (jq (jq (jq (jq @au1 @kv) (jq @cf21 @cf23)) (jq (jq @cf25 @cf27) (jq @cf28 (jq @cf42 @ex2)))) (jq (jq (jq @zq @Bv) (jq @Cv @Fo)) (jq (jq @Ha @ld26) (jq @Ak (jq @ld3 @rz)))))
theorem ay8 {P:Program} {G h:Hp} {a b:Int} {K:VK}:wpH P G (Builtin.min_ #[3,3] 3 #[a,b]) h K=K (.int .i64 (if b<a then b else a)) h:=rfl
theorem at9 {G:Hp} {v:Value} {C:Conf} {p g:Pose} {rb t:Int} {lv:Value} {l:List Hold} (pp:PB p) (pg:PB g) (bb:Bd t) (hl:Cf O8 G lv l) (hlb:∀x∈l,W5 x) (st:lg G) (hv:CV G noHp v C) (fit:Fit0 C) (hro:∀p∈C.ro,PB p):
 bn P_ G 13 #[v,lv,rb,mq p,t,mq g] noHp (fun u _=>u = .bool true):=by
 have hv0:=hv;obtain ⟨ab,cb,ap,cp,ar,cr,az,cs,rfl,ca⟩:=hv;refine bn.assume fun d=>enter13 (by simp) ?_;unfold S13;simp only [iq];intro xc hxc gxc x1 hx1 gx1 x2 hx2 gx2;generalize e1:Hp.set noHp xc _=h1 at*;obtain ⟨l1,d1,q1⟩:=boxed e1 hxc d gxc;have n1:x1≠xc:=fun e=>by rw [e,q1]at hx1;cases hx1
 generalize e2:Hp.set h1 x1 _=h2 at*;obtain ⟨l2,d2,q2⟩:=boxed e2 hx1 d1 gx1;have n2:x2≠xc:=fun e=>by rw [e,l2 _ _ q1]at hx2;cases hx2
 generalize e3:Hp.set h2 x2 _=hz at*;obtain ⟨l3,dz,q3⟩:=boxed e3 hx2 d2 gx2;have L:=l1.trans (l2.trans (l3));have bc:=l3 _ _ (l2 _ _ (q1));have b1:=l3 _ _ (q2);have b2:=q3;have cc:∀{h':Hp},hz.le h'->∀k,bf G h' ⟨xc,k,none⟩=_:=fun l k=>bm (bj (l _ _ bc));have ca0:=ca.up L dz;have lz:=Hp.le.refl hz;have aw:∀{h:Hp} {K:VK},(∀h',K (.bool true) h')->bn P_ G 23 #[] h K:=fun hK=>(Jq st).mono fun u h' e=>by rw [e.1];exact hK h'
 try simp only [iq,cc lz]
 refine (small12 ca0.cv).mono ?_;rintro _ hz ⟨⟨b,rfl,hb⟩,rfl⟩;cases b with
 |false=>
  try simp only [iq,fq]
  exact aw fun h'=>by simp only [iq]
 |true=>
 have sm:=hb rfl;have mk:dx C:=E9.2 sm.may;obtain ⟨m1,m2,m3,m4⟩:=Ug sm;try simp only [iq]
 try simp (disch:=first|decide|omega) only [iq,cc lz]
 cases h9:decide (C.w*C.h>9)with
 |true=>
  try simp only [iq,fq]
  exact aw fun h'=>by simp only [iq]
 |false=>
 try simp only [iq,cc lz]
 cases h12:decide (C.un>12)with
 |true=>
  try simp only [iq,fq]
  exact aw fun h'=>by simp only [iq]
 |false=>
 try simp only [iq,cc lz]
 cases h6:decide (C.tu>6)with
 |true=>
  try simp only [iq,fq]
  exact aw fun h'=>by simp only [iq]
 |false=>
 try simp only [iq,cc lz]
 cases h4:decide (C.bu<400)with
 |true=>
  try simp only [iq,fq]
  exact aw fun h'=>by simp only [iq]
 |false=>
 try simp only [iq,cc lz]
 unfold aT9;try simp (disch:=decide) only [iq,cc lz,ay8]
 rw [ec sz3 rfl bc (by simp)];obtain ⟨C',hC'⟩:∃C':Conf,C'={ C with un:=if 6<C.un then 6 else C.un }:=⟨_,rfl⟩;have eO:(Obj.cells (List.set [Value.int .i64 C.w,.int .i64 C.h,.int .i64 C.ht,.slice ab C.bl.length cb,.slice ap C.po.length cp,.slice ar C.ro.length cr,.slice az C.st.length cs,.int .i64 C.un,.int .i64 C.ac,.int .i64 C.sp,.int .i64 C.tu,.int .i64 C.ho,.int .i64 C.qu,.int .i64 C.re,.int .i64 C.bu,.bool C.back] 7 (.int .i64 (if 6<C.un then 6 else C.un))).toArray 26 (0,0))=na C' ab cb ap cp ar cr az cs:=by subst hC';rfl
 rw [show (Hp.set hz xc _)=Hp.set hz xc (na C' ab cb ap cp ar cr az cs)from congrArg _ eO];have ds:Dis G (Hp.set hz xc (na C' ab cb ap cp ar cr az cs)):=dz.set (dz _ _ bc);have bcs:(Hp.set hz xc (na C' ab cb ap cp ar cr az cs)) xc=some _:=bh;have b1s:(Hp.set hz xc (na C' ab cb ap cp ar cr az cs)) x1=some (pq p):=by rw [ci n1];exact b1
 have b2s:(Hp.set hz xc (na C' ab cb ap cp ar cr az cs)) x2=some (pq g):=by rw [ci n2];exact b2
 generalize Hp.set hz xc (na C' ab cb ap cp ar cr az cs)=hs at*;have ca1:CA G hs C ab cb ap cp ar cr az cs:=ca.up (fun _ _ h=>nomatch h) ds;have cad:CA G hs C' ab cb ap cp ar cr az cs:=by subst hC';exact ⟨ca1.bl,ca1.po,ca1.ro,ca1.st⟩
 have fit':Fit0 C':=by subst hC';exact ⟨fit.bl,fit.po,fit.ro,fit.st,fit.bins⟩
 have mk':dx C':=by
  subst hC';refine ⟨fun n hn=>?_,mk.ht,mk.qu,mk.bu,(by have:=mk.laid;cases this;constructor<;>assumption),mk.rob,mk.sta⟩;rcases al_.1 hn with rfl|hn
  . have:=mk.six C.un (by simp);unfold cj at this ⊢;simp only [ag_,aw_]at this ⊢;show (if 6<C.un then 6 else C.un)>=1/\(if 6<C.un then 6 else C.un)<=1000;split<;>omega
  . exact mk.six n (List.mem_cons_of_mem _ hn)
 have hro':∀p∈C'.ro,PB p:=by subst hC';exact hro
 have bu':C'.bu<=4000:=by subst hC';exact sm.bu
 have wh':C'.w=C.w/\C'.h=C.h:=by subst hC';exact ⟨rfl,rfl⟩
 have bl':C'.bl.length<=100000000000000:=by have:=fit'.bl;unfold Room at this;omega
 have hun:C'.un<=100:=by subst hC';show (if 6<C.un then 6 else C.un)<=100;have:=sm.un;split<;>omega
 have sm':SmO C':=by
  refine ⟨by rw [wh'.1];exact sm.w,by rw [wh'.2];exact sm.h,bu',hun,?_,?_,?_,E9.1 mk'⟩
  . subst hC';exact sm.tu
  . subst hC';exact sm.ho
  . subst hC';exact sm.ro
 clear b1 b2 bc cc ca0 lz;have lz:=Hp.le.refl hs;have cc:∀{h':Hp},hs.le h'->∀k,bf G h' ⟨xc,k,none⟩=_:=fun l k=>bm (bj (l _ _ bcs));have c1:∀{h':Hp},hs.le h'->∀k,bf G h' ⟨x1,k,none⟩=_:=fun l k=>bm (bj (l _ _ b1s));have c2:∀{h':Hp},hs.le h'->∀k,bf G h' ⟨x2,k,none⟩=_:=fun l k=>bm (bj (l _ _ b2s));try simp only [iq,cc lz]
 refine (T6 cad.cv sm' hl hlb).mono ?_;rintro _ h4 ⟨a1,a2,t1,t2,rfl,tab1,tab2,s4,d4⟩;have l4:=s4.in 2 rfl;obtain ⟨gT,fT,lT⟩:=tab_ok (C'.w*C'.h).toNat l;have tvT:∀{h':Hp},h4.le h'->Dis G h'->TabV G h' (.pointer (some ⟨t1,0,none⟩)) (some (tabL (C'.w*C'.h).toNat l)):=fun l d=>⟨t1,rfl,(tab1.see (s4.in 0 rfl)).up l d,gT,fT⟩;try simp only [iq]
 unfold aT8;try simp (disch:=decide) only [iq]
 refine (ze (a:=t) (n:=100) bb (by omega) (by omega)).mono ?_;rintro _ h4 ⟨rfl,rfl⟩;have bq0:=Int.emod_nonneg t (show (100:Int)≠0 by omega);have bq1:=Int.emod_lt_of_pos t (show (0:Int)<100 by omega);generalize t % 100=at0 at bq0 bq1 ⊢;try simp only [iq,cc l4]
 refine (N8 (cad.up l4 d4).cv fit').mono ?_;rintro u6 k6 ⟨⟨_,_,_,_,_,_,_,_,co6⟩,dk6⟩;have lk6:h4.le k6:=co6.sep.in 4 rfl;refine ⟨lk6,?_⟩;try simp only [iq,c1 l4,c2 l4]
 refine (ar7 (To:=some (tabL (C'.w*C'.h).toNat l)) (p:=p) (gp:=g) (rb:=rb) (t:=at0) (any:=true) mk' (co6.cv (Hp.le.refl _)) st hro' fit' bu' (tvT lk6 dk6) pp pg).mono ?_;rintro _ m6 ⟨ip6,vs6,rfl,sl6,ll6,sm6,dm6⟩;have lm6:h4.le m6:=lk6.trans (sm6.in 1 rfl);have la6:hs.le m6:=l4.trans lm6;have seeA:Sees jg G m6 vs6 _:=sl6.sees (by decide) (sm6.in 0 rfl);have ts2:Rv.TSee G m6 t2 (tabL (C'.w*C'.h).toNat l):=(tab2.see (s4.in 1 rfl)).up lm6 dm6
 have k3:∀(M:List Move) (e:Int) (r:Rg) (KK:Exit->Rg->Hp->Prop),Sees jg G m6 vs6 M->M.length<=1000000000000->((e=6/\M=[]/\nt C' (some (tabL (C'.w*C'.h).toNat l)) rb p at0 g true = .no 6)\/(e=0/\nt C' (some (tabL (C'.w*C'.h).toNat l)) rb p at0 g true = .ok M))->
  r 2 = .int .i64 rb->r 4 = .int .i64 at0->r 6 = .pointer (some ⟨xc,0,none⟩)->r 9 = .pointer (some ⟨x1,0,none⟩)->r 11 = .pointer (some ⟨x2,0,none⟩)->r 14 = .pointer (some ⟨t2,0,none⟩)->r 16=vs6->r 17 = .int .i64 e->(∀(r':Rg) (h':Hp),r' 12 = .bool true->KK .ret r' h')->Mq G KK r m6:=by intro M e r KK hM hML hc g2 g4 g6 g9 g11 g14 g16 g17 hret;exact best_k3 (cad.up la6 dm6) (la6 _ _ bcs) (la6 _ _ b1s) (la6 _ _ b2s) st mk' bl' gT ts2 fT hM hML dm6 bq0 (by omega) hc g2 g4 g6 g9 g11 g14 g16 g17 hret
 cases hW:nt C' (some (tabL (C'.w*C'.h).toNat l)) rb p at0 g true with
 |ok M=>
  rw [hW]at seeA ll6;try simp only [iq,show outE (Res.ok M)=0 from rfl,show ((0:Int)==1)=false from rfl,show ((0:Int)==18)=false from rfl,show ((0:Int)==7)=false from rfl]
  exact k3 M 0 _ _ seeA (by have h6:M.length<=_:=ll6;omega) (.inr ⟨rfl,hW⟩) (by simp (disch:=decide) only [iq]) (by simp (disch:=decide) only [iq]) (by simp (disch:=decide) only [iq]) (by simp (disch:=decide) only [iq]) (by simp (disch:=decide) only [iq]) (by simp (disch:=decide) only [iq]) (by simp (disch:=decide) only [iq]) (by simp (disch:=decide) only [iq]) fun r' h' e=>by simp only [iq,e]
 |no e=>
  rw [hW]at seeA ll6;rcases V6 mk' gT hW with rfl|rfl|rfl|rfl
  . try simp only [iq,show outE (Res.no (M:=Move) 1)=1 from rfl,show ((1:Int)==1)=true from rfl,fq]
    exact aw fun h'=>by simp only [iq]
  . try simp only [iq,show outE (Res.no (M:=Move) 6)=6 from rfl,show ((6:Int)==1)=false from rfl,show ((6:Int)==18)=false from rfl,show ((6:Int)==7)=false from rfl]
    exact k3 [] 6 _ _ seeA (by simp) (.inl ⟨rfl,rfl,hW⟩) (by simp (disch:=decide) only [iq]) (by simp (disch:=decide) only [iq]) (by simp (disch:=decide) only [iq]) (by simp (disch:=decide) only [iq]) (by simp (disch:=decide) only [iq]) (by simp (disch:=decide) only [iq]) (by simp (disch:=decide) only [iq]) (by simp (disch:=decide) only [iq]) fun r' h' e=>by simp only [iq,e]
  . try simp only [iq,show outE (Res.no (M:=Move) 7)=7 from rfl,show ((7:Int)==1)=false from rfl,show ((7:Int)==18)=false from rfl,show ((7:Int)==7)=true from rfl,fq]
    exact aw fun h'=>by simp only [iq]
  . try simp only [iq,show outE (Res.no (M:=Move) 18)=18 from rfl,show ((18:Int)==1)=false from rfl,show ((18:Int)==18)=true from rfl,fq]
    exact aw fun h'=>by simp only [iq]
end Go.Proofs.YtfflipnhffknnaaGreatDoor
end
section
namespace Go.Proofs.YtfflipnhffknnaaGreatDoor
open Go Go.HL Go.ChangeShapes Go.WideShapes Go.RowKit
theorem ax9:ownKnob P_.godebug=none:=by kernel_rfl
theorem az9:laidOutB P_=true:=by kernel_rfl
theorem aA9:P_.globalNamed "skep/grid.steps" = some 0:=by kernel_rfl
theorem tSteps:(P_.globals[0]?).map (·.type)=some 245:=by kernel_rfl
abbrev O4:List (String × DataW Unit):=[("skep/grid.steps",Rows.laid_skep_grid_steps)]
theorem aL1 (os:Os) (args:Array Value):laidMetH P_ O4 ((World.doorLaid P_ 400 os).forCall (fun _ _=>0) ⟨#[],args,[]⟩).memory:=
 laidMetH_of_parts3 (fuel:=8) (laidMet_of_run' 8 (by kernel_rfl) (by kernel_rfl)) (by kernel_rfl) (by kernel_rfl)
theorem Wl {H:Type} {enc:TypeId × Value->H} {P:Program} {w:World} {base:Nat} {spare:Nat->Bool} {held:Bool} {e:TypeId} {fuel:Nat} {cs:List Value} {y:DataW H × List MemPlace} {tos:List (TypeId × Nat)} (ht:i8 P e=some tos)
 (h:DataW.trod enc P w base spare held fuel e cs=some y):cs.length=P.cellsOf e/\∃(xs:List (DataW H × List MemPlace)) (m:Nat),y=(.agg (xs.map (·.1)),xs.flatMap (·.2))/\xs.length=tos.length/\∀(i:Nat) (t o:Nat),tos[i]?=some (t,o)->DataW.trod enc P w base spare held m t ((cs.drop o).take (P.cellsOf t))=xs[i]?:=by
 unfold i8 at ht;split at ht
 . rename_i fs hfs;obtain ⟨xs,n,_,h0,h1,h2,h3⟩:=DataW.trod_struct hfs h;simp only [Option.some.injEq]at ht;subst ht;refine ⟨h1,xs,n,h0,by simp [h2],fun i t o hi=>?_⟩;rw [aO_,aQ_]at hi;cases q:fs[i]? with
   |none=>rw [q]at hi;cases hi
   |some f=>rw [q]at hi;simp only [a0_,Option.some.injEq,Prod.mk.injEq]at hi;obtain ⟨rfl,rfl⟩:=hi;exact h3 i f q
 . cases ht
theorem un3i:P_.underlying 3=some (.int .i64):=by kernel_rfl
theorem c3:P_.cellsOf 3=1:=by kernel_rfl
theorem c28:P_.cellsOf 28=2:=by kernel_rfl
theorem c81:P_.cellsOf 245=8:=by kernel_rfl
theorem sf28:i8 P_ 28=some [(3,0),(3,1)]:=by kernel_rfl
theorem Er {H:Type} {enc:TypeId × Value->H} {w:World} {base:Nat} {spare:Nat->Bool} {held:Bool} {m:Nat} {cs:List Value} {x:DataW H × List MemPlace} {a b:Int}
 (h:DataW.trod enc P_ w base spare held m 28 cs=some x) (e:x.1 = .agg [.lit (.int .i64 a),.lit (.int .i64 b)]):cs=[.int .i64 a,.int .i64 b]:=by
 obtain ⟨hl,xs,n,rfl,hxl,d⟩:=Wl sf28 h;rw [c28]at hl;match cs,hl,xs,hxl with
 |[v0,v1],_,[x0,x1],_=>
 have h0:=d 0 3 0 rfl;have h1:=d 1 3 1 rfl;rw [c3]at h0 h1;obtain ⟨k0,e0,f0,_⟩:=DataW.trod_int un3i (show DataW.trod _ _ _ _ _ _ n 3 _=some x0 from h0);obtain ⟨k1,e1,f1,_⟩:=DataW.trod_int un3i (show DataW.trod _ _ _ _ _ _ n 3 _=some x1 from h1);simp at e0 e1;subst e0 e1 f0 f1;simp at e;obtain ⟨rfl,rfl⟩:=e;rfl
theorem len8 {α:Type} {L:List α} (h:L.length=8):∃a b c d e f g i,L=[a,b,c,d,e,f,g,i]:=by
 match L,h with
 |[a,b,c,d,e,f,g,i],_=>exact ⟨a,b,c,d,e,f,g,i,rfl⟩
theorem of_laid {W:World} (h:laidMetH P_ O4 W):lg (ground W):=by
 rw [MakeChecks.laidMetH_plain _ _ _ (by kernel_rfl)]at h;obtain ⟨ps,⟨g0,t0,cs0,f0,p0,q0,hg0,ht0,hv0,hd0,_,_⟩,_,_⟩:=h;obtain rfl:=Option.some.inj (aA9.symm.trans hg0);obtain rfl:=Option.some.inj (tSteps.symm.trans ht0);obtain ⟨xs,m,rfl,hx,hl,hxl,hel⟩:=DataW.trod_array un81 hd0;rw [c81]at hl;rw [c28]at hel;simp only [Prod.mk.injEq]at hx;obtain ⟨hx,_⟩:=hx
 have hobj:∃e f,W.heap[0]?=some (.cells cs0 e f):=by
  unfold World.var? at hv0;rw [aA9]at hv0;simp only [bl_]at hv0;split at hv0
  . rename_i c e f hc;cases hv0;exact ⟨e,f,hc⟩
  . cases hv0
 obtain ⟨e,f,hobj⟩:=hobj;refine ⟨e,f,?_⟩;show W.heap[0]?=_;rw [hobj];match xs,hxl with
 |[x0,x1,x2,x3],_=>
 have h0:=hel 0 (by decide);have h1:=hel 1 (by decide);have h2:=hel 2 (by decide);have h3:=hel 3 (by decide);unfold Rows.laid_skep_grid_steps at hx;simp only [bC_,List.map_nil,DataW.agg.injEq,List.cons.injEq]at hx;have k0:=Er (show DataW.trod _ _ _ _ _ _ m 28 _=some x0 from h0) hx.1.symm;have k1:=Er (show DataW.trod _ _ _ _ _ _ m 28 _=some x1 from h1) hx.2.1.symm;have k2:=Er (show DataW.trod _ _ _ _ _ _ m 28 _=some x2 from h2) hx.2.2.1.symm;have k3:=Er (show DataW.trod _ _ _ _ _ _ m 28 _=some x3 from h3) hx.2.2.2.1.symm;obtain ⟨cs⟩:=cs0;obtain ⟨a0,a1,a2,a3,a4,a5,a6,a7,rfl⟩:=len8 hl;simp at k0 k1 k2 k3;obtain ⟨rfl,rfl⟩:=k0;obtain ⟨rfl,rfl⟩:=k1;obtain ⟨rfl,rfl⟩:=k2;obtain ⟨rfl,rfl⟩:=k3;rfl
section
theorem yn {H:Type} {P:Program} {ts:List TypeId} {ds:List (DataW H)} (h:(DataW.weightsEach P ts ds).all (· <= reachBytes)=true) {j:Nat} {t:TypeId} {d:DataW H} (ht:ts[j]?=some t) (hd:ds[j]?=some d):r6 P t d:=fun n hn=>by simpa using az_.1 h n (DataW.weights_mem_each ht hd n hn)
theorem Bh {P:Program} {w:World} {r:Reach} {base:Nat} {t:TypeId} {v:Value} {tos:List (TypeId × Nat)} (ht:i8 P t=some tos) (hv:Value.okWide P w r base t v):∃cs:Array Value,v = .agg cs:=by
 unfold i8 at ht;split at ht
 . rename_i fs hfs;obtain ⟨cs,rfl,_⟩:=okWide_struct hfs hv;exact ⟨cs,rfl⟩
 . cases ht
theorem sf30:i8 P_ 30=some [(28,0),(4,2)]:=by kernel_rfl
theorem sf95:i8 P_ 234=some [(28,0),(168,2)]:=by kernel_rfl
theorem sf26:i8 P_ 26=some [(3,0),(3,1),(3,2),(22,3),(22,4),(23,5),(24,6),(3,7),(3,8),(3,9),(3,10),(3,11),(3,12),(3,13),(3,14),(4,15)]:=by kernel_rfl
theorem un4b:P_.underlying 4=some .bool:=by kernel_rfl
theorem c4:P_.cellsOf 4=1:=by kernel_rfl
theorem c22:P_.cellsOf 22=1:=by kernel_rfl
theorem c23:P_.cellsOf 23=1:=by kernel_rfl
theorem c24:P_.cellsOf 24=1:=by kernel_rfl
theorem c26:P_.cellsOf 26=16:=by kernel_rfl
theorem c30:P_.cellsOf 30=3:=by kernel_rfl
theorem c57:P_.cellsOf 168=1:=by kernel_rfl
theorem c95:P_.cellsOf 234=3:=by kernel_rfl
section
variable {H:Type} {enc:TypeId × Value->H} {w:World} {base:Nat} {spare:Nat->Bool} {held:Bool}
theorem len2 {α:Type} {L:List α} (h:L.length=2):∃a b,L=[a,b]:=by
 match L,h with
 |[a,b],_=>exact ⟨a,b,rfl⟩
theorem len3 {α:Type} {L:List α} (h:L.length=3):∃a b c,L=[a,b,c]:=by
 match L,h with
 |[a,b,c],_=>exact ⟨a,b,c,rfl⟩
theorem Fv {m:Nat} {cs:List Value} {y:DataW H × List MemPlace} (h:DataW.trod enc P_ w base spare held m 28 cs=some y):∃c:Cell,cs=dy.enc c/\Bd c.1/\Bd c.2:=by obtain ⟨hl,d⟩:=D4 sf28 h;rw [c28]at hl;obtain ⟨v0,v1,rfl⟩:=len2 hl;obtain ⟨m0,z0,e0⟩:=d 0 _ _ rfl;obtain ⟨m1,z1,e1⟩:=d 1 _ _ rfl;rw [c3]at e0 e1;obtain ⟨x0,f0,b0⟩:=mo un3i e0;obtain ⟨x1,f1,b1⟩:=mo un3i e1;simp at f0 f1;subst f0 f1;exact ⟨(x0,x1),rfl,b0,b1⟩
theorem U5 {m:Nat} {cs:List Value} {y:DataW H × List MemPlace} (h:DataW.trod enc P_ w base spare held m 30 cs=some y):∃p:Pose,cs=lk.enc p/\PB p:=by obtain ⟨hl,d⟩:=D4 sf30 h;rw [c30]at hl;obtain ⟨v0,v1,v2,rfl⟩:=len3 hl;obtain ⟨m0,z0,e0⟩:=d 0 _ _ rfl;obtain ⟨m1,z1,e1⟩:=d 1 _ _ rfl;rw [c28]at e0;rw [c4]at e1;obtain ⟨c,f0,b0⟩:=Fv e0;obtain ⟨b,f1⟩:=Wm un4b e1;simp [dy]at f0 f1;obtain ⟨rfl,rfl⟩:=f0;subst f1;exact ⟨⟨c.1,c.2,b⟩,rfl,b0⟩
def RawOk (G:Hp) (r:Raw):Prop:=∃L:List Int,r.n=L.length/\Room L.length 8/\∀h,Dis G h->Sees icC G h (.slice r.a r.n r.c) L
theorem Ev {n bytes:Nat} (h:n*bytes<=reachBytes) (hb:bytes<=40):Room n bytes:=by
 unfold Room;rw [show reachBytes=140737488351232 from rfl]at h;rw [bK_,Nat.mul_assoc];have:192*bytes<=7680:=by omega
 omega
theorem raw_dec {m:Nat} {cs:List Value} {y:DataW H × List MemPlace} (h:DataW.trod enc P_ w base spare held m 234 cs=some y) (hw:r6 P_ 234 y.1):∃r:Raw,cs=rawC.enc r/\RawOk (ground w) r:=by obtain ⟨hl,d⟩:=Il sf95 h hw;rw [c95]at hl;obtain ⟨v0,v1,v2,rfl⟩:=len3 hl;obtain ⟨m0,z0,e0,_⟩:=d 0 _ _ rfl;obtain ⟨m1,z1,e1,w1⟩:=d 1 _ _ rfl;rw [c28]at e0;rw [c57]at e1;obtain ⟨c,f0,b0⟩:=Fv e0;obtain ⟨a,n,cap,L,f1,hL,hs,hg,_⟩:=vu icC (fun _=>True) Ht c3 (by decide) (fun _ _ _ h _=>let ⟨x,e,_⟩:=mo un3i h;⟨x,e,trivial⟩) e1 w1;simp [dy]at f0 f1;obtain ⟨rfl,rfl⟩:=f0;subst f1;rw [show P_.bytesOf 3=8 by kernel_rfl]at hs;subst hL;exact ⟨⟨c.1,c.2,a,L.length,cap⟩,rfl,L,rfl,Ev hs (by decide),hg⟩
theorem len16 {α:Type} {L:List α} (h:L.length=16):∃a b c d e f g i j k l m n o p q,L=[a,b,c,d,e,f,g,i,j,k,l,m,n,o,p,q]:=by
 match L,h with
 |[a,b,c,d,e,f,g,i,j,k,l,m,n,o,p,q],_=>exact ⟨a,b,c,d,e,f,g,i,j,k,l,m,n,o,p,q,rfl⟩
theorem aL6 {m:Nat} {cs:List Value} {y:DataW H × List MemPlace} (h:DataW.trod enc P_ w base spare held m 26 cs=some y) (hw:r6 P_ 26 y.1):
 ∃C:Conf,(∀h,Dis (ground w) h->CV (ground w) h (.agg cs.toArray) C)/\Fit0 C/\∀p∈C.ro,PB p:=by
 obtain ⟨hl,d⟩:=Il sf26 h hw;rw [c26]at hl;obtain ⟨v0,v1,v2,v3,v4,v5,v6,v7,v8,v9,v10,v11,v12,v13,v14,v15,rfl⟩:=len16 hl;obtain ⟨_,_,e0,_⟩:=d 0 _ _ rfl;obtain ⟨_,_,e1,_⟩:=d 1 _ _ rfl;obtain ⟨_,_,e2,_⟩:=d 2 _ _ rfl;obtain ⟨_,_,e3,w3⟩:=d 3 _ _ rfl;obtain ⟨_,_,e4,w4⟩:=d 4 _ _ rfl;obtain ⟨_,_,e5,w5⟩:=d 5 _ _ rfl;obtain ⟨_,_,e6,w6⟩:=d 6 _ _ rfl;obtain ⟨_,_,e7,_⟩:=d 7 _ _ rfl;obtain ⟨_,_,e8,_⟩:=d 8 _ _ rfl;obtain ⟨_,_,e9,_⟩:=d 9 _ _ rfl;obtain ⟨_,_,e10,_⟩:=d 10 _ _ rfl;obtain ⟨_,_,e11,_⟩:=d 11 _ _ rfl;obtain ⟨_,_,e12,_⟩:=d 12 _ _ rfl;obtain ⟨_,_,e13,_⟩:=d 13 _ _ rfl;obtain ⟨_,_,e14,_⟩:=d 14 _ _ rfl;obtain ⟨_,_,e15,_⟩:=d 15 _ _ rfl;simp only [c3,c4,c22,c23,c24]at e0 e1 e2 e3 e4 e5 e6 e7 e8 e9 e10 e11 e12 e13 e14 e15;obtain ⟨x0,f0,_⟩:=mo un3i e0;obtain ⟨x1,f1,_⟩:=mo un3i e1;obtain ⟨x2,f2,_⟩:=mo un3i e2;obtain ⟨ab,nb,cb,B,f3,hB,sB,gB,_⟩:=vu dy (fun _=>True) un22 c28 (by decide) (fun _ _ _ h _=>let ⟨x,e,_⟩:=Fv h;⟨x,e,trivial⟩) e3 w3;obtain ⟨ap,np,cp,PO,f4,hP,sP,gP,_⟩:=vu dy (fun _=>True) un22 c28 (by decide) (fun _ _ _ h _=>let ⟨x,e,_⟩:=Fv h;⟨x,e,trivial⟩) e4 w4;obtain ⟨ar,nr,cr,R,f5,hR,sR,gR,qR⟩:=vu lk PB un23 c30 (by decide) (fun _ _ _ h _=>U5 h) e5 w5;obtain ⟨az,nz,cz,Z,f6,hZ,sZ,gZ,qZ⟩:=vu rawC (RawOk (ground w)) un24 c95 (by decide) (fun _ _ _ h hw=>raw_dec h hw) e6 w6;obtain ⟨x7,f7,_⟩:=mo un3i e7;obtain ⟨x8,f8,_⟩:=mo un3i e8;obtain ⟨x9,f9,_⟩:=mo un3i e9;obtain ⟨x10,f10,_⟩:=mo un3i e10;obtain ⟨x11,f11,_⟩:=mo un3i e11;obtain ⟨x12,f12,_⟩:=mo un3i e12;obtain ⟨x13,f13,_⟩:=mo un3i e13;obtain ⟨x14,f14,_⟩:=mo un3i e14;obtain ⟨x15,f15⟩:=Wm un4b e15;simp at f0 f1 f2 f3 f4 f5 f6 f7 f8 f9 f10 f11 f12 f13 f14 f15;subst f0 f1 f2 f3 f4 f5 f6 f7 f8 f9 f10 f11 f12 f13 f14 f15;subst hB hP hR hZ;rw [show P_.bytesOf 28=16 by kernel_rfl]at sB sP;rw [show P_.bytesOf 30=24 by kernel_rfl]at sR;rw [show P_.bytesOf 234=40 by kernel_rfl]at sZ
 obtain ⟨S,hS,qS⟩:=Jk (Q:=fun i (s:Cell × List Int)=>∀r,Z[i]?=some r->(r.x,r.y)=s.1/\r.n=s.2.length/\Room s.2.length 8/\∀h,Dis (ground w) h->Sees icC (ground w) h (.slice r.a s.2.length r.c) s.2) Z.length (fun i hi=>by
  obtain ⟨L,e,rm,se⟩:=qZ _ (cn_ hi);refine ⟨((Z[i].x,Z[i].y),L),fun r hr=>?_⟩;rw [aa_ hi]at hr;cases hr
  exact ⟨rfl,e,rm,fun h d=>by rw [<- e];exact se h d⟩)
 refine ⟨⟨x0,x1,x2,B,PO,R,S,x7,x8,x9,x10,x11,x12,x13,x14,x15⟩,fun h d=>⟨ab,cb,ap,cp,ar,cr,az,cz,by simp only [Wo,hS],gB h d,gP h d,gR h d,Z,by show Sees rawC _ h (.slice az S.length cz) Z;rw [hS];exact gZ h d,fun i r s hr hs=>?_⟩,⟨Ev sB (by decide),Ev sP (by decide),Ev sR (by decide),by show Room S.length 40;rw [hS];exact Ev sZ (by decide),fun s hs=>?_⟩,qR⟩
 . obtain ⟨a,b,c,e⟩:=qS i s hs r hr;exact ⟨a,b,e h d⟩
 . obtain ⟨i,hi⟩:=bn_ hs;have hi2:i<Z.length:=by rw [<- hS];exact (ad_.1 hi).1
   exact (qS i s hi _ (aa_ hi2)).2.2.1
theorem U6 {r:Reach} {b0:Nat} {v:Value} {d:DataW H} {ps:List MemPlace} (k:Value.okWide P_ w r b0 30 v) (h:DataW.Trod enc P_ w base spare held 30 v d ps):∃p:Pose,v=mq p/\PB p:=by obtain ⟨cs,rfl⟩:=Bh sf30 k;obtain ⟨m,h⟩:=h;obtain ⟨c,e,b⟩:=U5 (cs:=cs.toList) h;exact ⟨c,by rw [<- Array.toArray_toList (xs:=cs),e];rfl,b⟩
theorem aa6 {r:Reach} {b0:Nat} {v:Value} {d:DataW H} {ps:List MemPlace} (k:Value.okWide P_ w r b0 3 v) (h:DataW.Trod enc P_ w base spare held 3 v d ps):∃n:Int,v = .int .i64 n/\Bd n:=by obtain ⟨n,rfl,rfl,rfl,wf⟩:=open_int un3i k h;exact ⟨n,rfl,by simpa [Lit.wf,IntKind.min,IntKind.max,IntKind.signed,IntKind.bits,Bd]using wf⟩
theorem aL7 {r:Reach} {b0:Nat} {v:Value} {d:DataW H} {ps:List MemPlace} (k:Value.okWide P_ w r b0 26 v) (h:DataW.Trod enc P_ w base spare held 26 v d ps) (hl:r6 P_ 26 d):
 ∃C:Conf,(∀h,Dis (ground w) h->CV (ground w) h v C)/\Fit0 C/\∀p∈C.ro,PB p:=by obtain ⟨cs,rfl⟩:=Bh sf26 k;obtain ⟨m,h⟩:=h;obtain ⟨C,hC,f,hp⟩:=aL6 (cs:=cs.toList) h hl;exact ⟨C,fun h d=>by simpa using hC h d,f,hp⟩
end
end
end Go.Proofs.YtfflipnhffknnaaGreatDoor
end
section
namespace Go.Proofs.YtfflipnhffknnaaGreatDoor
open Go Go.HL Go.ChangeShapes Go.WideShapes Go.RowKit Go.Proofs.Resv
section
theorem chold:P_.cellsOf 97=4:=by kernel_rfl
theorem sfhold:i8 P_ 97=some [(3,0),(3,1),(3,2),(3,3)]:=by kernel_rfl
section
variable {H:Type} {enc:TypeId × Value->H} {w:World} {base:Nat} {spare:Nat->Bool} {held:Bool}
theorem lenh4 {α:Type} {L:List α} (h:L.length=4):∃a b c d,L=[a,b,c,d]:=by
 match L,h with
 |[a,b,c,d],_=>exact ⟨a,b,c,d,rfl⟩
theorem aA4 {m:Nat} {cs:List Value} {y:DataW H × List MemPlace} (h:DataW.trod enc P_ w base spare held m 97 cs=some y):∃x:Hold,cs=O8.enc x/\W5 x:=by obtain ⟨hl,d⟩:=D4 sfhold h;rw [chold]at hl;obtain ⟨v0,v1,v2,v3,rfl⟩:=lenh4 hl;obtain ⟨m0,z0,e0⟩:=d 0 _ _ rfl;obtain ⟨m1,z1,e1⟩:=d 1 _ _ rfl;obtain ⟨m2,z2,e2⟩:=d 2 _ _ rfl;obtain ⟨m3,z3,e3⟩:=d 3 _ _ rfl;rw [c3]at e0 e1 e2 e3;obtain ⟨x0,f0,b0⟩:=mo un3i e0;obtain ⟨x1,f1,b1⟩:=mo un3i e1;obtain ⟨x2,f2,b2⟩:=mo un3i e2;obtain ⟨x3,f3,b3⟩:=mo un3i e3;simp at f0 f1 f2 f3;subst f0 f1 f2 f3;exact ⟨⟨x0,x1,x2,x3⟩,rfl,b0,b1,b2,b3⟩
theorem aq6 {r:Reach} {b0:Nat} {v:Value} {d:DataW H} {ps:List MemPlace} (k:Value.okWide P_ w r b0 77 v) (h:DataW.Trod enc P_ w base spare held 77 v d ps):∃l:List Hold,Cf O8 (ground w) v l/\∀x∈l,W5 x:=by obtain ⟨a,len,cap,rfl⟩:=okWide_slice un77 k;obtain ⟨m,h⟩:=h;obtain ⟨a',len',cap',L,e,hl,_,hg,hq⟩:=as3 O8 W5 un77 chold (by decide) (fun _ _ _ h=>aA4 h) h;simp [Value.cells]at e;obtain ⟨rfl,rfl,rfl⟩:=e;exact ⟨L,hg,hq⟩
end
end
end Go.Proofs.YtfflipnhffknnaaGreatDoor
end

/- Texts of the proof, one behind the other. -/
import Derived.Test.YtfflipnhffknnaaGreatDoorBM2
import Derived.Test.YtfflipnhffknnaaGreatDoorBH3
import Derived.Test.YtfflipnhffknnaaGreatDoorBM1
set_option linter.unusedSimpArgs false
set_option linter.unusedVariables false
set_option maxRecDepth 100000
set_option maxHeartbeats 4000000
set_option linter.defProp false
section
namespace Go.Proofs.YtfflipnhffknnaaGreatDoor
open Go Go.HL
def bRpK:=jq bC (jq (jq (jq (jq @al30 @au3) (jq @yv @bd30_0p)) (jq (jq @kv @aM8) (jq @aM7 (jq @cf61 @V8)))) (jq (jq (jq @Fq @vq) (jq @Kw (jq @ld28 @ld3))) (jq (jq @ld30 @ld3p) (jq @li (jq @jc @Ax)))))
theorem Vw {α:Type} {w k:Nat} {f f':Nat->Nat->α} (h:∀x y,x<w->y<k->f x y=f' x y):lw w k f=lw w k f':=by
 apply bg_;intro n;by_cases hn:n<w*k
 . rw [yt hn,yt hn,h]
   . exact Nat.mod_lt _ (by
      rcases Nat.eq_zero_or_pos w with e|e
      . rw [e]at hn;simp at hn
      . exact e)
   . exact cc_ hn
 . rw [a4_ (by rw [gv];omega),a4_ (by rw [gv];omega)]
theorem GO.congr {a:Hp} {gp kb w k:Nat} {f f':Nat->Nat->Int} (g:GO a gp kb w k f) (h:∀x y,x<w->y<k->f x y=f' x y):GO a gp kb w k f':=
 ⟨g.hd,by rw [<- Vw h];exact g.row,g.w1,g.w2,g.k1,g.k2⟩
theorem Bf {w k:Nat} {f f':Nat->Nat->Int} (h:∀x y,x<w->y<k->(f x y = -1↔f' x y = -1)) (c:Cell):qe w k f c=qe w k f' c:=by
 unfold qe;cases hc:inW w k c with
 |false=>rfl
 |true=>obtain ⟨a1,a2,a3,a4⟩:=jr.1 hc;have:=h c.1.toNat c.2.toNat (by omega) (by omega);simp only [aH_,fAt];congr 1;rw [a6_];simpa using this
theorem Bs {w k:Nat} {f f':Nat->Nat->Int} (h:∀x y,x<w->y<k->(f x y = -1↔f' x y = -1)) (p:Pose):eu w k f p=eu w k f' p:=by unfold eu;rw [Bf h,Bf h]
def yq (w k:Nat) (f:Nat->Nat->Int) (x y:Nat):Bool:=(f x y == -1)||(eu w k f ⟨x,y,false⟩||eu w k f ⟨x,y,true⟩)
def f1 (w k:Nat) (f:Nat->Nat->Int) (x y:Nat):Int:=if yq w k f x y=true then f x y else -2
def fN (w k:Nat) (f:Nat->Nat->Int) (n x y:Nat):Int:=if y*w+x<n then f1 w k f x y else f x y
theorem ac6 {w k:Nat} {f:Nat->Nat->Int} (x y:Nat):f1 w k f x y = -1↔f x y = -1:=by
 unfold f1;by_cases h:yq w k f x y=true
 . rw [ak_ h]
 . rw [ah_ h];constructor
   . intro e;omega
   . intro e;exfalso;apply h;unfold yq;simp [e]
theorem fN_open {w k:Nat} {f:Nat->Nat->Int} {n:Nat} (x y:Nat):fN w k f n x y = -1↔f x y = -1:=by
 unfold fN;split
 . exact ac6 x y
 . exact Iff.rfl
theorem cellN {w n x y:Nat} (hw:0<w) (hx:x<w):y*w+x=n↔x=n % w/\y=n / w:=by
 constructor
 . intro e;subst e;rw [bi_ y w,Nat.mul_add_mod,Nat.mod_eq_of_lt hx,Nat.mul_add_div hw,Nat.div_eq_of_lt hx];simp
 . rintro ⟨rfl,rfl⟩;rw [bi_];exact b3_ n w
theorem robots1 {G:Hp} {gp kb w k:Nat} {f:Nat->Nat->Int} {KK:EK} (st:lg G) (r:Rg) (h:Hp) (g0:r 0 = .pointer (some ⟨gp,0,none⟩)) (g20:r 20 = .int .i64 ((w*k:Nat):Int)) (g21:r 21 = .int .i64 0)
 (go:GO h gp kb w k f) (d:Dis G h)
 (H1:(∀x y,x<w->y<k->yq w k f x y=false->f x y<=0)->∀(r':Rg) h',r' 0=r 0->r' 1=r 1->GO h' gp kb w k (f1 w k f)->Dis G h'->KK (.exit 0) r' h')
 (H2:(∃x y,x<w/\y<k/\yq w k f x y=false/\0<f x y)->∀(r':Rg) h',r' 4 = .bool false->Dis G h'->KK .ret r' h'):du (M5 G) r h KK:=by
 refine dt (fun m r2 h3=>∃n:Nat,m=w*k-n/\n<=w*k/\r2 0=r 0/\r2 1=r 1/\r2 20=r 20/\r2 21 = .int .i64 n/\(∀x y,x<w->y<k->y*w+x<n->yq w k f x y=false->f x y<=0)/\GO h3 gp kb w k (fN w k f n)/\Dis G h3) ?_
  (m:=w*k) ⟨0,rfl,au_ _,rfl,rfl,rfl,by rw [g21];rfl,fun x y _ _ h=>absurd h (by omega),go.congr fun x y _ _=>by simp [fN],d⟩
 rintro m r2 h3 ⟨n,rfl,hn,q0,q1,q20,q21,hok,go,d3⟩ X HX;rw [g0]at q0;rw [g20]at q20;have hw0:0<w:=go.w1;have hw2:=go.w2;have hk2:=go.k2;have hm2:w*k<=16*16:=bw_ go.w2 go.k2;unfold M5;simp only [bRpK,q20,q21];refine df (fun hlt=>?_) (fun hge=>?_);rotate_left
 . obtain rfl:n=w*k:=by omega
   refine H1 (fun x y hx hy=>hok x y hx hy ?_) _ _ (by simp (disch:=decide) only [bRpK,q0,g0]) (by simp (disch:=decide) only [bRpK,q1]) (go.congr fun x y hx hy=>?_) d3
   . have:=(yr (f:=f) hx hy);have:=(ad_.1 this).1;rwa [gv]at this
   . unfold fN;rw [ak_];have:=(yr (f:=f) hx hy);have:=(ad_.1 this).1;rwa [gv]at this
 have hlt':n<w*k:=by omega
 have hx:n % w<w:=Nat.mod_lt _ hw0;have hy:n / w<k:=cc_ hlt';have hnn:n / w*w+n % w=n:=by rw [bi_];exact b3_ n w
 have cg:∀j,bf G h3 ⟨gp,j,none⟩=_:=fun j=>bm (bj go.hd);have kn:bf G h3 ⟨kb,n,none⟩=some (.int .i64 (f (n % w) (n / w))):=by rw [bm (bj go.row)];refine us icC rfl rfl ?_;rw [yt hlt'];unfold fN;rw [hnn,ah_ (by omega)]
 have tm:(n:Int).tmod (w:Int)=((n % w:Nat):Int):=rfl;have td:(n:Int).tdiv (w:Int)=((n / w:Nat):Int):=rfl;have hcell:∀x y,x<w->(y*w+x=n↔x=n % w/\y=n / w):=fun x y h=>cellN hw0 h;generalize n % w=cx at*;generalize n / w=cy at*;unfold Gl;simp (disch:=first|decide|exact b8|exact bw|omega|rfl) only [bRpK,q0,q21,cg,tm,td];intro t ht gt;try rw [Ax]
 have go4:GO (h3.set t (.cells #[cx,cy,.bool false] 30 (0,0))) gp kb w k (fN w k f n):=go.le (dw ht);have d4:=d3.set (o := .cells #[cx,cy,.bool false] 30 (0,0)) gt;have bt:(h3.set t (.cells #[cx,cy,.bool false] 30 (0,0))) t=some (.cells #[cx,cy,.bool false] 30 (0,0)):=bh;have kn4:=ku (dw (o := .cells #[cx,cy,.bool false] 30 (0,0)) ht) d4 kn;generalize h3.set t (.cells #[cx,cy,.bool false] 30 (0,0))=h4 at*;have cg4:∀j,bf G h4 ⟨gp,j,none⟩=_:=fun j=>bm (bj go4.hd);have ct:∀j,bf G h4 ⟨t,j,none⟩=_:=fun j=>bm (bj bt);try simp only [bRpK,q0,q21,cg4,O6 hlt',kn4]
 have next:∀(r3:Rg) h5,r3 0=r2 0->r3 1=r2 1->r3 20=r2 20->r3 21=r2 21->(yq w k f cx cy=false->f cx cy<=0)->GO h5 gp kb w k (fN w k f (n+1))->Dis G h5->uw G (di X KK) r3 h5:=by
  intro r3 h5 w0 w1 w20 w21 hk go5 d5;unfold uw;have w21':=w21.trans q21;simp (disch:=first|decide|omega) only [bRpK,w21'];refine HX (w*k-(n+1)) _ _ (by omega) ⟨n+1,rfl,hlt',by simp (disch:=decide) only [bRpK,w0,q0,g0],by simp (disch:=decide) only [bRpK,w1,q1],by simp (disch:=decide) only [bRpK,w20,q20,g20],by simp only [bRpK]<;>rfl,fun x y hx' hy' hlt2 hkp=>?_,go5,d5⟩;by_cases e:y*w+x=n
  . obtain ⟨rfl,rfl⟩:=(hcell x y hx').1 e;exact hk hkp
  . exact hok x y hx' hy' (by omega) hkp
 have keeps:yq w k f cx cy=true->GO h4 gp kb w k (fN w k f (n+1)):=fun hkp=>go4.congr fun x y hx' hy'=>by
  unfold fN;by_cases e:y*w+x=n
  . obtain ⟨rfl,rfl⟩:=(hcell x y hx').1 e;rw [e,ah_ (by omega),ak_ (by omega)];unfold f1;rw [ak_ hkp]
  . by_cases e2:y*w+x<n
    . rw [ak_ e2,ak_ (by omega)]
    . rw [ah_ e2,ah_ (by omega)]
 have fcong:∀p,eu w k (fN w k f n) p=eu w k f p:=Bs fun x y _ _=>fN_open x y;have hfp:∀b,PB ⟨(cx:Int),(cy:Int),b⟩:=fun b=>⟨⟨by show -9223372036854775808<=(cx:Int);omega,by show (cx:Int)<=9223372036854775807;omega⟩,⟨by show -9223372036854775808<=(cy:Int);omega,by show (cy:Int)<=9223372036854775807;omega⟩⟩;have kcase:yq w k f cx cy=((f cx cy == -1)||(eu w k f ⟨cx,cy,false⟩||eu w k f ⟨cx,cy,true⟩)):=rfl;cases hb:(f cx cy == -1)with
 |true=>
  try simp only [bRpK]
  exact next _ _ (by simp (disch:=decide) only [bRpK,q0]) (by simp (disch:=decide) only [bRpK,q1]) (by simp (disch:=decide) only [bRpK,q20]) (by simp (disch:=decide) only [bRpK,q21]) (fun h=>by rw [kcase,hb]at h;simp at h) (keeps (by rw [kcase,hb];rfl)) d4
 |false=>
 try simp only [bRpK,ct]
 refine (p8 (p:=⟨(cx:Int),(cy:Int),false⟩) (go4.gs (G:=G)) st (hfp _)).mono ?_;rintro _ h4 ⟨rfl,rfl⟩;rw [fcong];cases hf1:eu w k f ⟨(cx:Int),(cy:Int),false⟩with
 |true=>
  try simp only [bRpK]
  exact next _ _ (by simp (disch:=decide) only [bRpK,q0]) (by simp (disch:=decide) only [bRpK,q1]) (by simp (disch:=decide) only [bRpK,q20]) (by simp (disch:=decide) only [bRpK,q21]) (fun h=>by rw [kcase,hb,hf1]at h;simp at h) (keeps (by rw [kcase,hb,hf1];rfl)) d4
 |false=>
 try simp only [bRpK,ct,q0]
 refine (p8 (p:=⟨(cx:Int),(cy:Int),true⟩) (go4.gs (G:=G)) st (hfp _)).mono ?_;rintro _ h4 ⟨rfl,rfl⟩;rw [fcong];cases hf2:eu w k f ⟨(cx:Int),(cy:Int),true⟩with
 |true=>
  try simp only [bRpK]
  exact next _ _ (by simp (disch:=decide) only [bRpK,q0]) (by simp (disch:=decide) only [bRpK,q1]) (by simp (disch:=decide) only [bRpK,q20]) (by simp (disch:=decide) only [bRpK,q21]) (fun h=>by rw [kcase,hb,hf1,hf2]at h;simp at h) (keeps (by rw [kcase,hb,hf1,hf2];rfl)) d4
 |false=>
 have hkf:yq w k f cx cy=false:=by rw [kcase,hb,hf1,hf2];rfl
 try simp only [bRpK]
 unfold Gk;try simp (disch:=decide) only [bRpK,q0,cg4,O6 hlt',kn4]
 by_cases hpos:f cx cy>0
 . try simp only [bRpK,af_ hpos]
   exact H2 ⟨cx,cy,hx,hy,hkf,hpos⟩ _ _ (by simp only [bRpK]) d4
 try simp only [bRpK,ai_ hpos]
 unfold Gj;try simp (disch:=decide) only [bRpK,q0,cg4,O6 hlt']
 have kb4:=go4.row;rw [ec sz3 rfl kb4 (by rw [icC.rows_length,gv];simp [icC];exact hlt')];have go5:=go4.put (v := -2) hx hy;rw [hnn]at go5;refine next _ _ (by simp (disch:=decide) only [bRpK,q0]) (by simp (disch:=decide) only [bRpK,q1]) (by simp (disch:=decide) only [bRpK,q20]) (by simp (disch:=decide) only [bRpK,q21]) (fun _=>by omega) (go5.congr fun x y hx' hy'=>?_) (d4.set (d4 _ _ kb4))
 unfold fN;by_cases e:y*w+x=n
 . obtain ⟨rfl,rfl⟩:=(hcell x y hx').1 e;rw [ak_ ⟨rfl,rfl⟩,ak_ (by omega)];unfold f1;rw [hkf];rfl
 . rw [ah_ (fun q=>e ((hcell x y hx').2 q))];by_cases e2:y*w+x<n
   . rw [ak_ e2,ak_ (by omega)]
   . rw [ah_ e2,ah_ (by omega)]
def bRpL:=jq bC (jq (jq (jq (jq @al28 @al30) (jq @kv @cf61)) (jq (jq @cf88 @cf89) (jq @Fq (jq @Kw @ld28)))) (jq (jq (jq @ld3 @ld30) (jq @ld4 @O1)) (jq (jq @ln22 @ln23) (jq @li (jq @Ud @Ax)))))
def f2 (w k:Nat) (f:Nat->Nat->Int) (T:List Cell) (x y:Nat):Int:=if ((x:Int),(y:Int))∈T then -2 else f1 w k f x y
theorem ac5 {w k:Nat} {f:Nat->Nat->Int} {T:List Cell} (hT:∀c∈T,fAt f c ≠ -1) (x y:Nat):f2 w k f T x y = -1↔f x y = -1:=by
 unfold f2;split
 . rename_i h;have:=hT _ h;simp only [fAt,aP_]at this;constructor
   . intro e;omega
   . intro e;exact absurd e this
 . exact ac6 x y
theorem f2_snoc {w k:Nat} {f:Nat->Nat->Int} {T:List Cell} {c:Cell} (h1:0<=c.1) (h2:0<=c.2):f2 w k f (T++[c])=fun p q=>if p=c.1.toNat/\q=c.2.toNat then -2 else f2 w k f T p q:=by
 funext p q;unfold f2;by_cases hpq:p=c.1.toNat/\q=c.2.toNat
 . have e:((p:Int),(q:Int))=c:=by rw [hpq.1,hpq.2,aD_ h1,aD_ h2]
   rw [ak_ hpq,e,ak_ (by simp)]
 . have e:((p:Int),(q:Int))≠c:=fun e=>hpq (by rw [<- e];simp);rw [ah_ hpq];by_cases hm:((p:Int),(q:Int))∈T
   . rw [ak_ (by simp [hm]),ak_ hm]
   . rw [ah_ (by simp [hm,e]),ah_ hm]
theorem GO.other {h:Hp} {gp kb w k:Nat} {f:Nat->Nat->Int} (g:GO h gp kb w k f) {b:Nat} {cs:Array Value} {e:TypeId} {o:Obj} (hb:h b=some (.cells cs e (0,0))) (h1:e≠215) (h2:e≠3):GO (h.set b o) gp kb w k f:=by
 have n1:gp≠b:=fun q=>by have:=g.hd;rw [q,hb]at this;simp at this;exact h1 this.2
 have n2:kb≠b:=fun q=>by have:=g.row;rw [q,hb]at this;simp at this;exact h2 this.2
 exact ⟨by rw [ci n1];exact g.hd,by rw [ci n2];exact g.row,g.w1,g.w2,g.k1,g.k2⟩
theorem MK.other {h:Hp} {mb w k:Nat} {f:Nat->Nat->Bool} (g:MK h mb w k f) {b:Nat} {cs:Array Value} {e:TypeId} {o:Obj} (hb:h b=some (.cells cs e (0,0))) (h1:e≠4):MK (h.set b o) mb w k f:=by
 unfold MK at*;have n1:mb≠b:=fun q=>by rw [q,hb]at g;simp at g;exact h1 g.2
 rw [ci n1];exact g
theorem MK.le {a h:Hp} {mb w k:Nat} {f:Nat->Nat->Bool} (g:MK a mb w k f) (l:a.le h):MK h mb w k f:=l _ _ g
theorem an9 {G:Hp} {gp kb mb w k:Nat} {f:Nat->Nat->Int} {KK:EK} {cs T0:List Cell} {cb:Nat} {p:Pose} (r:Rg) (h:Hp) (hcs:cs=dj p) (hin:∀c∈cs,inW w k c=true)
 (hc:h cb=some (.cells #[p.x,p.y,(east p).1,(east p).2] 28 (0,0))) (g0:r 0 = .pointer (some ⟨gp,0,none⟩)) (g7:r 7 = .slice (some ⟨mb,0,none⟩) (w*k) (w*k)) (g91:r 91 = .slice (some ⟨cb,0,none⟩) 2 2) (g92:r 92 = .int .i64 2) (g93:r 93 = .int .i64 0)
 (go:GO h gp kb w k (f2 w k f T0)) (mk:MK h mb w k (jk T0)) (d:Dis G h) (hnd0:T0.Nodup)
 (H1:(∀c∈cs,fAt (f1 w k f) c<=0)->(T0++cs).Nodup->∀(r':Rg) h',r' 0=r 0->r' 7=r 7->r' 79=r 79->r' 80=r 80->r' 81=r 81->GO h' gp kb w k (f2 w k f (T0++cs))->MK h' mb w k (jk (T0++cs))->Dis G h'->KK (.exit 4) r' h')
 (H2:¬((∀c∈cs,fAt (f1 w k f) c<=0)/\(T0++cs).Nodup)->∀(r':Rg) h',r' 4 = .bool false->Dis G h'->KK .ret r' h'):du (Eg G) r h KK:=by
 have hlen:cs.length=2:=by rw [hcs];rfl
 refine dt (fun m r2 h3=>∃j:Nat,m=2-j/\j<=2/\r2 0=r 0/\r2 7=r 7/\r2 79=r 79/\r2 80=r 80/\r2 81=r 81/\r2 91=r 91/\r2 92=r 92/\r2 93 = .int .i64 j/\(∀c∈cs.take j,fAt (f1 w k f) c<=0)/\(T0++cs.take j).Nodup/\
  GO h3 gp kb w k (f2 w k f (T0++cs.take j))/\MK h3 mb w k (jk (T0++cs.take j))/\h3 cb=some (.cells #[p.x,p.y,(east p).1,(east p).2] 28 (0,0))/\Dis G h3) ?_
  (m:=2) ⟨0,rfl,au_ _,rfl,rfl,rfl,rfl,rfl,rfl,rfl,by rw [g93];rfl,by simp,by simpa using hnd0,by simpa using go,by simpa using mk,hc,d⟩
 rintro m r2 h3 ⟨j,rfl,hj,q0,q7,q79,q80,q81,q91,q92,q93,hok,hnd,go,mk,hc3,d3⟩ X HX;rw [g0]at q0;rw [g7]at q7;rw [g91]at q91;rw [g92]at q92;unfold Eg;simp only [bRpL,q92,q93];refine df (fun hlt=>?_) (fun hge=>?_);rotate_left
 . obtain rfl:j=2:=by omega
   rw [am_ (by omega)]at hok hnd go mk;exact H1 hok hnd _ _ (by simp (disch:=decide) only [bRpL,q0,g0]) (by simp (disch:=decide) only [bRpL,q7,g7]) (by simp (disch:=decide) only [bRpL,q79]) (by simp (disch:=decide) only [bRpL,q80]) (by simp (disch:=decide) only [bRpL,q81]) go mk d3
 have hlt':j<2:=by omega
 obtain ⟨y,hy⟩:∃x,cs[j]?=some x:=⟨_,aa_ (by omega)⟩;have hym:y∈cs:=ab_ hy;have sv:Sees dy G h3 (.slice (some ⟨cb,0,none⟩) cs.length 2) cs:=by rw [hcs];exact Sees.row hc3 rfl (aj_ _)
 obtain ⟨b,ofs,eb,z0,z1⟩:=Sees.cell sv hy;cases eb;rw [a1_]at z0 z1;unfold Dj;simp (disch:=first|decide|exact b8|exact bw|omega|rfl) only [bRpL,q91,q93,ix22 (ac_ j) (show (j:Int)<(2:Nat)by omega),z0,z1];intro t ht gt;have go4:GO (h3.set t (.cells #[y.1,y.2] 28 (0,0))) gp kb w k (f2 w k f (T0++cs.take j)):=go.le (dw ht);have mk4:MK (h3.set t (.cells #[y.1,y.2] 28 (0,0))) mb w k (jk (T0++cs.take j)):=mk.le (dw ht);have hc4:=dw (o := .cells #[y.1,y.2] 28 (0,0)) ht _ _ hc3;have d4:=d3.set (o := .cells #[y.1,y.2] 28 (0,0)) gt;try simp only [bRpL,q0]
 generalize h3.set t (.cells #[y.1,y.2] 28 (0,0))=h4 at*;refine (qk (c:=y) (go4.gs (G:=G))).mono ?_;rintro _ h4 ⟨rfl,rfl⟩;have hc':=hin y hym;obtain ⟨hn,hx,hyk,hlt2⟩:=yf hc';obtain ⟨a1,a2,a3,a4⟩:=jr.1 hc';have hxy:((y.1.toNat:Int),(y.2.toNat:Int))=y:=by rw [aD_ a1,aD_ a3]
 have mg:=Xv (G:=G) mk4 (Hp.le.refl _) hx hyk;rw [show jk (T0++cs.take j) y.1.toNat y.2.toNat=decide (y∈T0++cs.take j)by unfold jk;rw [hxy]]at mg;have kn:bf G h4 ⟨kb,y.2.toNat*w+y.1.toNat,none⟩=some (.int .i64 (f2 w k f (T0++cs.take j) y.1.toNat y.2.toNat)):=by rw [bm (bj go4.row)];exact us icC rfl rfl (yr hx hyk)
 have cg4:∀j,bf G h4 ⟨gp,j,none⟩=_:=fun j=>bm (bj go4.hd);have g5:=go4.put (v := -2) hx hyk;have m5:=mk4.put (v:=true) hx hyk;rw [hn];generalize hnn:y.2.toNat*w+y.1.toNat=n at hn hlt2 mg kn g5 m5;have htk:T0++cs.take (j+1)=(T0++cs.take j)++[y]:=by rw [ik hy,aC_]
 have bad:y∈T0++cs.take j\/fAt (f1 w k f) y>0->¬((∀c∈cs,fAt (f1 w k f) c<=0)/\(T0++cs).Nodup):=by
  rintro (hm|hp) ⟨h1,h2⟩
  . refine yg (L:=T0++cs) (i:=T0.length+j) (x:=y) (by rw [aF_ (by omega),Nat.add_sub_cancel_left];exact hy) ?_ h2;rw [List.take_append,am_ (by omega),Nat.add_sub_cancel_left];exact hm
  . have:=h1 y hym;omega
 try simp only [bRpL,q7,G4 hlt2,mg]
 by_cases hmem:y∈T0++cs.take j
 . try simp only [bRpL,af_ hmem]
   exact H2 (bad (.inl hmem)) _ _ (by simp only [bRpL]) d4
 have hf2:f2 w k f (T0++cs.take j) y.1.toNat y.2.toNat=fAt (f1 w k f) y:=by unfold f2;rw [hxy,ah_ hmem];rfl
 rw [hf2]at kn;try simp only [bRpL,ai_ hmem,q0,cg4,O6 hlt2,kn]
 by_cases hpos:fAt (f1 w k f) y>0
 . try simp only [bRpL,af_ hpos]
   exact H2 (bad (.inr hpos)) _ _ (by simp only [bRpL]) d4
 try simp only [bRpL,ai_ hpos]
 unfold Ca;try simp (disch:=decide) only [bRpL,q7,G4 hlt2]
 rw [ec sz4 rfl mk4 (by rw [bcC.rows_length,gv];simp [bcC];exact hlt2)];have go6:=go4.other (o := .cells ((bcC.rows (lw w k (jk (T0++cs.take j)))).set n (.bool true)).toArray 4 (0,0)) mk4 (by decide) (by decide);have hc6:(h4.set mb (.cells ((bcC.rows (lw w k (jk (T0++cs.take j)))).set n (.bool true)).toArray 4 (0,0))) cb=_:=(ci (fun q=>by unfold MK at mk4;rw [<- q,hc4]at mk4;simp at mk4)).trans hc4;have d6:Dis G (h4.set mb (.cells ((bcC.rows (lw w k (jk (T0++cs.take j)))).set n (.bool true)).toArray 4 (0,0))):=d4.set (d4 _ _ mk4);generalize h4.set mb (.cells ((bcC.rows (lw w k (jk (T0++cs.take j)))).set n (.bool true)).toArray 4 (0,0))=h6 at*;have cg6:∀j,bf G h6 ⟨gp,j,none⟩=_:=fun j=>bm (bj go6.hd);try simp only [bRpL,q0,cg6,O6 hlt2]
 rw [ec sz3 rfl go6.row (by rw [icC.rows_length,gv];simp [icC];exact hlt2)];have go7:=go6.put (v := -2) hx hyk;rw [hnn,<- f2_snoc a1 a3,<- htk]at go7;have mk7:=m5.other (o := .cells ((icC.rows (lw w k (f2 w k f (T0++cs.take j)))).set n (.int .i64 (-2))).toArray 3 (0,0)) go6.row (by decide);rw [<- Gy a1 a3,<- htk]at mk7;have nkc:cb≠kb:=fun q=>by have:=go6.row;rw [<- q,hc6]at this;simp at this
 unfold Cb;simp (disch:=first|decide|omega) only [bRpL,q93];refine HX (2-(j+1)) _ _ (by omega) ⟨j+1,rfl,hlt',by simp (disch:=decide) only [bRpL,q0,g0],by simp (disch:=decide) only [bRpL,q7,g7],by simp (disch:=decide) only [bRpL,q79],by simp (disch:=decide) only [bRpL,q80],by simp (disch:=decide) only [bRpL,q81],by simp (disch:=decide) only [bRpL,q91,g91],by simp (disch:=decide) only [bRpL,q92,g92],by simp only [bRpL]<;>rfl,?_,?_,go7,mk7,(ci nkc).trans hc6,d6.set (d6 _ _ go6.row)⟩
 . rw [ik hy];intro c hc;rcases ao_.1 hc with q|q
   . exact hok c q
   . simp at q;rw [q];omega
 . rw [htk];exact a9_.2 ⟨hnd,by simp,fun a ha b hb=>by simp at hb;subst hb;exact fun e=>hmem (e▸ha)⟩
structure Gp (w k:Nat) (f:Nat->Nat->Int) (ro:List Pose):Prop where
 r8:ro.length<=8
 plain:∀x y,x<w->y<k->yq w k f x y=false->f x y<=0
 fit:∀p∈ro,eu w k f p=true
 low:∀c∈ro.flatMap dj,fAt (f1 w k f) c<=0
 once:(ro.flatMap dj).Nodup
theorem qx {w k:Nat} {f:Nat->Nat->Int} {p:Pose} (h:eu w k f p=true):∀c∈dj p,inW w k c=true/\fAt f c ≠ -1:=by
 unfold eu qe at h;simp only [ag_]at h;intro c hc;unfold dj at hc;simp only [al_,aK_,or_false]at hc;rcases hc with rfl|rfl
 . exact ⟨h.1.1,by have:=h.1.2;simpa using this⟩
 . exact ⟨h.2.1,by have:=h.2.2;simpa using this⟩
def RobR (w k gp kb:Nat) (f:Nat->Nat->Int) (ro:List Pose) (u:Value) (h':Hp):Prop:=
 (Gp w k f ro/\u = .bool true/\GO h' gp kb w k (f2 w k f (ro.flatMap dj)))\/(¬Gp w k f ro/\u = .bool false)
theorem Us {G h:Hp} {gp kb w k:Nat} {f:Nat->Nat->Int} {ro:List Pose} {rv:Value} (go:GO h gp kb w k f) (st:lg G) (sv:Cf lk G rv ro) (hp:∀p∈ro,PB p):
 bn P_ G 131 #[.pointer (some ⟨gp,0,none⟩),rv] h (RobR w k gp kb f ro):=by
 refine bn.assume fun d=>aI4 (by simp) ?_;obtain ⟨sa,cap,hrv⟩:=(sv h d).len;have hm2:w*k<=16*16:=bw_ go.w2 go.k2;unfold S131;simp only [bRpL,hrv];by_cases h8:ro.length<=8;rotate_left
 . try simp only [bRpL,show decide ((ro.length:Int)>8)=true from af_ (by omega)]
   exact .inr ⟨fun q=>h8 q.r8,rfl⟩
 try simp only [bRpL,show decide ((ro.length:Int)>8)=false from ai_ (by omega)]
 unfold aj2;have cg:∀j,bf G h ⟨gp,j,none⟩=_:=fun j=>bm (bj go.hd);try simp (disch:=decide) only [bRpL,cg]
 refine robots1 st _ h (by simp (disch:=decide) only [bRpL]) (by simp (disch:=decide) only [bRpL]) (by simp only [bRpL]) go d (fun hpl r2 h2 q0 q1 go2 d2=>?_) (fun ⟨x,y,hx,hy,hk,hpos⟩ r2 h2 q4 d2=>?_);rotate_left
 . simp only [bRpL,q4];exact .inr ⟨fun q=>by have:=q.plain x y hx hy hk;omega,rfl⟩
 simp only [ky,if_true,jj];have q0':r2 0 = .pointer (some ⟨gp,0,none⟩):=q0.trans (by simp (disch:=decide) only [bRpL]);have q1':r2 1=rv:=q1.trans (by simp (disch:=decide) only [bRpL,hrv]);have cg2:∀j,bf G h2 ⟨gp,j,none⟩=_:=fun j=>bm (bj go2.hd);unfold aj1;try simp only [bRpL,q0',cg2]
 rw [tf bcC false (by decide) un90 eobool (by kernel_rfl) (by omega) (by omega)];intro mb hmb gmb;have go3:GO (h2.set mb (.cells (bcC.rows (List.replicate (w*k) false)).toArray 4 (0,0))) gp kb w k (f2 w k f []):=(go2.le (dw hmb)).congr fun x y _ _=>by simp [f2]
 have mk3:MK (h2.set mb (.cells (bcC.rows (List.replicate (w*k) false)).toArray 4 (0,0))) mb w k (jk []):=by unfold MK;rw [bh,Kf,wq]
 have d3:=d2.set (o := .cells (bcC.rows (List.replicate (w*k) false)).toArray 4 (0,0)) gmb;generalize h2.set mb (.cells (bcC.rows (List.replicate (w*k) false)).toArray 4 (0,0))=h3 at*;try simp only [bRpL,q1',hrv]
 have no:¬Gp w k f ro->∀hh,RobR w k gp kb f ro (.bool false) hh:=fun q hh => .inr ⟨q,rfl⟩
 refine dt (fun m r4 h4=>∃i:Nat,m=ro.length-i/\i<=ro.length/\r4 0 = .pointer (some ⟨gp,0,none⟩)/\r4 7 = .slice (some ⟨mb,0,none⟩) (w*k) (w*k)/\r4 79=rv/\r4 80 = .int .i64 ro.length/\r4 81 = .int .i64 i/\
  (∀p∈ro.take i,eu w k f p=true)/\(∀c∈(ro.take i).flatMap dj,fAt (f1 w k f) c<=0)/\((ro.take i).flatMap dj).Nodup/\
  GO h4 gp kb w k (f2 w k f ((ro.take i).flatMap dj))/\MK h4 mb w k (jk ((ro.take i).flatMap dj))/\Dis G h4) ?_
  (m:=ro.length) ⟨0,rfl,au_ _,by simp (disch:=decide) only [bRpL,q0'],by simp (disch:=decide) only [bRpL],by simp (disch:=decide) only [bRpL,q1',hrv],by simp (disch:=decide) only [bRpL],by simp only [bRpL]<;>rfl,by simp,by simp,by simp,by simpa using go3,by simpa using mk3,d3⟩
 rintro m r4 h4 ⟨i,rfl,hi,k0,k7,k79,k80,k81,hfit,hlow,hnd,go4,mk4,d4⟩ X HX;unfold ai9;simp only [bRpL,k80,k81];refine df (fun hlt=>?_) (fun hge=>?_);rotate_left
 . obtain rfl:i=ro.length:=by omega
   rw [am_ (aj_ _)]at hfit hlow hnd go4;try simp (disch:=first|decide|omega) only [bRpL,Nat.reduceAdd,Nat.reduceMul]
   unfold aj0;simp only [bRpL];exact .inl ⟨⟨h8,hpl,hfit,hlow,hnd⟩,rfl,go4⟩
 have hlt':i<ro.length:=by omega
 obtain ⟨y,hy⟩:∃x,ro[i]?=some x:=⟨_,aa_ hlt'⟩;have hym:y∈ro:=ab_ hy;have sv4:=sv h4 d4;rw [hrv]at sv4;obtain ⟨b,ofs,eb,z0,z1,z2⟩:=Sees.pose sv4 hy;subst eb;unfold M4;simp (disch:=first|decide|exact b8|exact bw|omega|rfl) only [bRpL,k79,hrv,k81,ix23 (ac_ i) hlt,z0,z1,z2];intro t ht gt;try rw [Ax]
 have go5:GO (h4.set t (.cells #[y.x,y.y,.bool y.d] 30 (0,0))) gp kb w k (f2 w k f ((ro.take i).flatMap dj)):=go4.le (dw ht);have mk5:MK (h4.set t (.cells #[y.x,y.y,.bool y.d] 30 (0,0))) mb w k (jk ((ro.take i).flatMap dj)):=mk4.le (dw ht);have bt:(h4.set t (.cells #[y.x,y.y,.bool y.d] 30 (0,0))) t=some (.cells #[y.x,y.y,.bool y.d] 30 (0,0)):=bh;have d5:=d4.set (o := .cells #[y.x,y.y,.bool y.d] 30 (0,0)) gt;generalize h4.set t (.cells #[y.x,y.y,.bool y.d] 30 (0,0))=h5 at*;have ct:∀j,bf G h5 ⟨t,j,none⟩=_:=fun j=>bm (bj bt);try simp only [bRpL,ct,k0]
 refine (p8 (p:=y) (go5.gs (G:=G)) st (hp y hym)).mono ?_;rintro _ h5 ⟨rfl,rfl⟩;have hop:∀c∈(ro.take i).flatMap dj,fAt f c ≠ -1:=by intro c hc;obtain ⟨p,hp1,hp2⟩:=aY_.1 hc;exact (qx (hfit p hp1) c hp2).2
 rw [Bs (f':=f) (fun x y _ _=>ac5 hop x y)];cases hf:eu w k f y with
 |false=>
  try simp only [bRpL]
  exact no (fun q=>by have:=q.fit y hym;rw [hf]at this;cases this) _
 |true=>
 try simp only [bRpL]
 unfold M1;try simp (disch:=decide) only [bRpL,ct,k0]
 refine (qy (p:=y) st (hp y hym)).mono ?_;rintro _ _ ⟨cb,rfl,hcb,gcb,rfl⟩;have go6:GO (h5.set cb (.cells #[y.x,y.y,(east y).1,(east y).2] 28 (0,0))) gp kb w k (f2 w k f ((ro.take i).flatMap dj)):=go5.le (dw hcb);have mk6:MK (h5.set cb (.cells #[y.x,y.y,(east y).1,(east y).2] 28 (0,0))) mb w k (jk ((ro.take i).flatMap dj)):=mk5.le (dw hcb);have hcs:(h5.set cb (.cells #[y.x,y.y,(east y).1,(east y).2] 28 (0,0))) cb=_:=bh;have d6:=d5.set (o := .cells #[y.x,y.y,(east y).1,(east y).2] 28 (0,0)) gcb;generalize h5.set cb (.cells #[y.x,y.y,(east y).1,(east y).2] 28 (0,0))=h6 at*;try simp only [bRpL]
 have htk:(ro.take (i+1)).flatMap dj=(ro.take i).flatMap dj++dj y:=by rw [ik hy,be_];simp
 refine an9 (cs:=dj y) (p:=y) _ h6 rfl (fun c hc=>(qx hf c hc).1) hcs (by simp (disch:=decide) only [bRpL,k0]) (by simp (disch:=decide) only [bRpL,k7]) (by simp (disch:=decide) only [bRpL]) (by simp (disch:=decide) only [bRpL]<;>rfl) (by simp only [bRpL]) go6 mk6 d6 hnd (fun hlw hnd2 r7 h7 j0 j7 j79 j80 j81 go7 mk7 d7=>?_) (fun hbad r7 h7 j4 d7=>?_)
 . simp only [ky,if_true,ff,jj];unfold M3;have j81':r7 81 = .int .i64 i:=j81.trans (by simp (disch:=decide) only [bRpL,k81]);simp (disch:=first|decide|omega) only [bRpL,j81'];refine HX (ro.length-(i+1)) _ _ (by omega) ⟨i+1,rfl,hlt',by simp (disch:=decide) only [bRpL,j0,k0],by simp (disch:=decide) only [bRpL,j7,k7],by simp (disch:=decide) only [bRpL,j79,k79],by simp (disch:=decide) only [bRpL,j80,k80],by simp only [bRpL]<;>rfl,?_,?_,?_,?_,?_,d7⟩
   . rw [ik hy];intro c hc;rcases ao_.1 hc with q|q
     . exact hfit c q
     . simp at q;rw [q];exact hf
   . rw [htk];intro c hc;rcases ao_.1 hc with q|q
     . exact hlow c q
     . exact hlw c q
   . rw [htk];exact hnd2
   . rw [htk];exact go7
   . rw [htk];exact mk7
 . simp only [bRpL,j4];refine no (fun q=>hbad ⟨fun c hc=>q.low c (aY_.2 ⟨y,hym,hc⟩),?_⟩) _
   have hsub:((ro.take (i+1)).flatMap dj).Nodup:=by
    have e:ro.flatMap dj=(ro.take (i+1)).flatMap dj++(ro.drop (i+1)).flatMap dj:=by rw [<- be_,bE_]
    have:=q.once;rw [e]at this;exact (a9_.1 this).1
   rwa [htk]at hsub
def bRpM:=jq bC (jq (jq (jq (jq @al234 @kv) (jq @Wq @cf158)) (jq (jq @cf88 @Fq) (jq @fa234_0 @ab8))) (jq (jq (jq @Kw @ld234) (jq @ld28 @ld3)) (jq (jq @ld4 @O1) (jq @ln24 (jq @li @av9)))))
theorem un102:P_.underlying 269=some (.map 3 3):=by kernel_rfl
theorem un3:P_.underlying 3=some (.int .i64):=by kernel_rfl
theorem zero3:qv P_ 3=some (.int .i64 0):=by kernel_rfl
theorem mm102 {G h:Hp} {K:VK}:wpH P_ G (Instr.makeMap 269 none) h K=∀r,h r=none->G r=none->K (.map (some r)) (h.set r (.map #[] 0)):=by kernel_rfl
def GStk (G:Hp) (v:Value) (st:List (Cell × List Int)):Prop:=∃raw:List Raw,Cf rawC G v raw/\raw.length=st.length/\
 ∀(i:Nat) (r:Raw) (s:Cell × List Int),raw[i]?=some r->st[i]?=some s->(r.x,r.y)=s.1/\r.n=s.2.length/\Cf icC G (.slice r.a s.2.length r.c) s.2
theorem GStk.len {G:Hp} {v:Value} {st:List (Cell × List Int)} (g:GStk G v st) {h:Hp} (d:Dis G h):∃sa cap,v = .slice sa st.length cap:=by obtain ⟨raw,h1,h2,_⟩:=g;obtain ⟨sa,cap,e⟩:=(h1 h d).len;exact ⟨sa,cap,by rw [e,h2]⟩
theorem GStk.get {G:Hp} {sa:Option Addr} {n cap:Nat} {st:List (Cell × List Int)} (g:GStk G (.slice sa n cap) st) {h:Hp} (d:Dis G h) {i:Nat} {s:Cell × List Int} (hs:st[i]?=some s):
 ∃b o a c,sa=some ⟨b,o,none⟩/\bf G h ⟨b,o+i*3,none⟩=some (.int .i64 s.1.1)/\bf G h ⟨b,o+i*3+1,none⟩=some (.int .i64 s.1.2)/\bf G h ⟨b,o+i*3+2,none⟩=some (.slice a s.2.length c)/\Cf icC G (.slice a s.2.length c) s.2:=by
 obtain ⟨raw,h1,hl,h2⟩:=g;have hi:i<raw.length:=by rw [hl];exact (ad_.1 hs).1
 have hr:raw[i]?=some raw[i]:=aa_ hi;obtain ⟨k1,k2,k3⟩:=h2 i _ s hr hs;obtain ⟨b,o,c,e1,e2⟩:=(h1 h d).get hr;simp only [Value.slice.injEq]at e1;have z0:=e2 0 (by decide);have z1:=e2 1 (by decide);have z2:=e2 2 (by decide);simp only [rawC,bc_,ar_,as_]at z0 z1 z2;refine ⟨b,o,_,_,e1.1,?_,?_,?_,k3⟩
 . rw [z0,<- k1]
 . rw [z1,<- k1]
 . rw [z2,k2]
theorem GO.past {h:Hp} {gp kb w k:Nat} {f:Nat->Nat->Int} (g:GO h gp kb w k f) {b:Nat} {p o:Obj} (hb:h b=some p) (hp:iy p=false):GO (h.set b o) gp kb w k f:=by
 have n1:gp≠b:=fun q=>by have:=g.hd;rw [q,hb]at this;cases this;cases hp
 have n2:kb≠b:=fun q=>by have:=g.row;rw [q,hb]at this;cases this;cases hp
 exact ⟨by rw [ci n1];exact g.hd,by rw [ci n2];exact g.row,g.w1,g.w2,g.k1,g.k2⟩
theorem MK.past {h:Hp} {mb w k:Nat} {f:Nat->Nat->Bool} (g:MK h mb w k f) {b:Nat} {p o:Obj} (hb:h b=some p) (hp:iy p=false):MK (h.set b o) mb w k f:=by
 unfold MK at*;have n1:mb≠b:=fun q=>by rw [q,hb]at g;cases g;cases hp
 rw [ci n1];exact g
structure NM (h:Hp) (mp:Nat) (B:List Int):Prop where
 ex:∃o L,h mp=some o/\MapO o L/\L.map (·.1)=B/\∀p∈L,p.2 = .int .i64 1
theorem mget_in {L:List (Int × Value)} (h:∀p∈L,p.2 = .int .i64 1) {b:Int}:(mget L b).getD (.int .i64 0) = .int .i64 (if b∈L.map (·.1)then 1 else 0):=by
 induction L with
 |nil=>rfl
 |cons p L ih=>
  rw [vc];by_cases e:p.1=b
  . rw [ak_ e,ak_ (by rw [bC_,e];exact .head _)];exact h p (.head _)
  . rw [ah_ e,ih fun q hq=>h q (.tail _ hq)];congr 1;simp only [bC_,al_];by_cases hm:b∈L.map (·.1)
    . simp [hm]
    . have e2:¬b=p.1:=fun q=>e q.symm;simp [hm,e2]
theorem NM.put {G h:Hp} {mp:Nat} {B:List Int} (n:NM h mp B) {b:Int} (hb:b∉B) {K:Unit->Hp->Prop} (H:∀o',NM (h.set mp o') mp (B++[b])->K () (h.set mp o')):
 wpH P_ G (Instr.mapUpdate 269 (.map (some mp)) (.int .i64 b) (.int .i64 1)) h K:=by
 obtain ⟨o,L,h1,h2,h3,h4⟩:=n;refine zi un102 un3 h1 h2 fun o' m'=>H o' ⟨o',_,bh,m',?_,?_⟩
 . rw [Oy,h3,ah_ hb]
 . have:midx L b=none:=by unfold midx;rw [List.findIdx?_eq_none_iff];intro p hp;have:p.1≠b:=fun e=>hb (by rw [<- h3,<- e];exact List.mem_map_of_mem (f:=(·.1)) hp);simpa using this
   unfold mput;rw [this];intro p hp;rcases ao_.1 hp with q|q
   . exact h4 p q
   . simp at q;rw [q]
theorem am8 {G:Hp} {gp kb mb mp w k:Nat} {f:Nat->Nat->Int} {mf:Nat->Nat->Bool} {KK:EK} {L B0:List Int} {v:Value} (r:Rg) (h:Hp) (sv:Cf icC G v L) (hL:L.length<=100000) (hB0:B0.length<=512)
 (g8:r 8 = .map (some mp)) (g54:r 54=v) (g55:r 55 = .int .i64 L.length) (g56:r 56 = .int .i64 0)
 (go:GO h gp kb w k f) (mk:MK h mb w k mf) (nm:NM h mp B0) (d:Dis G h) (hnd0:B0.Nodup)
 (H1:(∀b∈L,cj b 1 1000000000=true)->(B0++L).Nodup->(B0++L).length<=512->∀(r':Rg) h',r' 0=r 0->r' 2=r 2->r' 7=r 7->r' 8=r 8->r' 20=r 20->r' 21=r 21->r' 22=r 22->GO h' gp kb w k f->MK h' mb w k mf->NM h' mp (B0++L)->Dis G h'->KK (.exit 2) r' h')
 (H2:¬((∀b∈L,cj b 1 1000000000=true)/\(B0++L).Nodup/\(B0++L).length<=512)->∀(r':Rg) h',r' 6 = .bool false->Dis G h'->KK .ret r' h'):du (Ef G) r h KK:=by
 obtain ⟨sa,cap,hve⟩:=(sv h d).len
 refine dt (fun m r2 h3=>∃j:Nat,m=L.length-j/\j<=L.length/\r2 0=r 0/\r2 2=r 2/\r2 7=r 7/\r2 8=r 8/\r2 20=r 20/\r2 21=r 21/\r2 22=r 22/\r2 54=r 54/\r2 55=r 55/\r2 56 = .int .i64 j/\(∀b∈L.take j,cj b 1 1000000000=true)/\(B0++L.take j).Nodup/\(B0++L.take j).length<=512/\
  GO h3 gp kb w k f/\MK h3 mb w k mf/\NM h3 mp (B0++L.take j)/\Dis G h3) ?_
  (m:=L.length) ⟨0,rfl,au_ _,rfl,rfl,rfl,rfl,rfl,rfl,rfl,rfl,rfl,by rw [g56];rfl,by simp,by simpa using hnd0,by simpa using hB0,go,mk,by simpa using nm,d⟩
 rintro m r2 h3 ⟨j,rfl,hj,q0,q2,q7,q8,q20,q21,q22,q54,q55,q56,hok,hnd,hle,go,mk,nm,d3⟩ X HX;rw [g8]at q8;rw [g54,hve]at q54;rw [g55]at q55;unfold Ef;simp only [bRpM,q55,q56];refine df (fun hlt=>?_) (fun hge=>?_);rotate_left
 . obtain rfl:j=L.length:=by omega
   rw [am_ (aj_ _)]at hok hnd hle nm;exact H1 hok hnd hle _ _ (by simp (disch:=decide) only [bRpM,q0]) (by simp (disch:=decide) only [bRpM,q2]) (by simp (disch:=decide) only [bRpM,q7]) (by simp (disch:=decide) only [bRpM,q8,g8]) (by simp (disch:=decide) only [bRpM,q20]) (by simp (disch:=decide) only [bRpM,q21]) (by simp (disch:=decide) only [bRpM,q22]) go mk nm d3
 have hlt':j<L.length:=by omega
 obtain ⟨y,hy⟩:∃x,L[j]?=some x:=⟨_,aa_ hlt'⟩;have hym:y∈L:=ab_ hy;have sv3:=sv h3 d3;rw [hve]at sv3;obtain ⟨b,ofs,eb,z0⟩:=Sees.int sv3 hy;subst eb;have htk:B0++L.take (j+1)=(B0++L.take j)++[y]:=by rw [ik hy,aC_]
 have hpre:∀{P:Prop},(((B0++L.take (j+1)).Nodup/\(B0++L.take (j+1)).length<=512->P)->((B0++L).Nodup/\(B0++L).length<=512->P)):=by
  intro P h q;have e:B0++L=(B0++L.take (j+1))++L.drop (j+1):=by rw [aC_,bE_]
  rw [e]at q;refine h ⟨(a9_.1 q.1).1,?_⟩;have:=q.2;rw [ae_]at this;omega
 obtain ⟨o,ML,n1,n2,n3,n4⟩:=id nm.ex;have nlk:HL.look G h3 mp=some o:=bj n1;unfold Di;simp (disch:=decide) only [bRpM,q54,q56,Vp (ac_ j) hlt,aW_,z0];refine (kw (n:=y) (a:=1) (b:=1000000000)).mono ?_;rintro _ h3 ⟨rfl,rfl⟩;cases hw:cj y 1 1000000000 with
 |false=>
  try simp only [bRpM]
  exact H2 (fun q=>by have:=q.1 y hym;rw [hw]at this;cases this) _ _ (by simp only [bRpM]) d3
 |true=>
 try simp only [bRpM,q8,Xx un102 un3 zero3 nlk n2,mget_in n4,n3]
 by_cases hm:y∈B0++L.take j
 . try simp only [bRpM,ak_ hm,show decide ((1:Int)>0)=true from rfl]
   refine H2 (fun q=>hpre (P:=False) (fun ⟨q1,_⟩=>?_) q.2) _ _ (by simp only [bRpM]) d3;rw [htk]at q1;exact (a9_.1 q1).2.2 y hm y (by simp) rfl
 try simp only [bRpM,ah_ hm,show decide ((0:Int)>0)=false from rfl,q8,ap7 un102 nlk n2]
 have hll:ML.length=(B0++L.take j).length:=by rw [<- n3,bq_]
 by_cases h512:(B0++L.take j).length=512
 . try simp only [bRpM,hll,h512,show (((512:Nat):Int)==512)=true from rfl]
   refine H2 (fun q=>hpre (P:=False) (fun ⟨_,q1⟩=>?_) q.2) _ _ (by simp only [bRpM]) d3;rw [htk,ae_,h512]at q1;simp at q1
 have e512:(((B0++L.take j).length:Int)==512)=false:=by
  have:((B0++L.take j).length:Int)≠512:=by omega
  simpa using this
 try simp only [bRpM,hll,e512]
 unfold Dg;try simp (disch:=decide) only [bRpM,q8]
 refine NM.put nm hm fun o' nm'=>?_;unfold Dh;try simp (disch:=first|decide|omega) only [bRpM,q56]
 refine HX (L.length-(j+1)) _ _ (by omega) ⟨j+1,rfl,hlt',by simp (disch:=decide) only [bRpM,q0],by simp (disch:=decide) only [bRpM,q2],by simp (disch:=decide) only [bRpM,q7],by simp (disch:=decide) only [bRpM,q8,g8],by simp (disch:=decide) only [bRpM,q20],by simp (disch:=decide) only [bRpM,q21],by simp (disch:=decide) only [bRpM,q22],by simp (disch:=decide) only [bRpM,q54,g54,hve],by simp (disch:=decide) only [bRpM,q55,g55],by simp only [bRpM]<;>rfl,?_,?_,?_,go.past n1 n2.cells,mk.past n1 n2.cells,by rw [htk];exact nm',d3.set (d3 _ _ n1)⟩
 . rw [ik hy];intro c hc;rcases ao_.1 hc with q|q
   . exact hok c q
   . simp at q;rw [q];exact hw
 . rw [htk];exact a9_.2 ⟨hnd,by simp,fun a ha b hb=>by simp at hb;subst hb;exact fun e=>hm (e▸ha)⟩
 . rw [htk,ae_];simp only [an_,a3_];omega
structure F9 (w k:Nat) (f:Nat->Nat->Int) (ht:Int) (st:List (Cell × List Int)):Prop where
 each:∀s∈st,inW w k s.1=true/\fAt f s.1=0/\(s.2.length:Int)<=ht
 apart:(st.map Prod.fst).Nodup
 nums:∀b∈st.flatMap Prod.snd,cj b 1 1000000000=true
 once:(st.flatMap Prod.snd).Nodup
 most:(st.flatMap Prod.snd).length<=512
def StR (w k gp kb:Nat) (f:Nat->Nat->Int) (ht:Int) (st:List (Cell × List Int)) (u:Value) (h':Hp):Prop:=
 (F9 w k f ht st/\u = .bool true/\GO h' gp kb w k f)\/(¬F9 w k f ht st/\u = .bool false)
theorem Ub {G h:Hp} {gp kb w k:Nat} {f:Nat->Nat->Int} {ht:Int} {st:List (Cell × List Int)} {sv:Value} (go:GO h gp kb w k f) (gs:GStk G sv st) (hht:ht<=8) (hsl:st.length<=100000000000000):
 bn P_ G 132 #[.pointer (some ⟨gp,0,none⟩),sv,ht] h (StR w k gp kb f ht st):=by
 refine bn.assume fun d=>aI3 (by simp) ?_;obtain ⟨sa,cap,hsv⟩:=gs.len d;have hm2:w*k<=16*16:=bw_ go.w2 go.k2;have cg:∀j,bf G h ⟨gp,j,none⟩=_:=fun j=>bm (bj go.hd);unfold S132;simp only [bRpM,hsv,cg];rw [tf bcC false (by decide) un90 eobool (by kernel_rfl) (by omega) (by omega)];intro mb hmb gmb;have go1:GO (h.set mb (.cells (bcC.rows (List.replicate (w*k) false)).toArray 4 (0,0))) gp kb w k f:=go.le (dw hmb);have mk1:MK (h.set mb (.cells (bcC.rows (List.replicate (w*k) false)).toArray 4 (0,0))) mb w k (jk []):=by unfold MK;rw [bh,Kf,wq]
 have d1:=d.set (o := .cells (bcC.rows (List.replicate (w*k) false)).toArray 4 (0,0)) gmb;generalize h.set mb (.cells (bcC.rows (List.replicate (w*k) false)).toArray 4 (0,0))=h1 at*;try simp only [bRpM,mm102]
 intro mp hmp gmp;have go2:GO (h1.set mp (.map #[] 0)) gp kb w k f:=go1.le (dw hmp);have mk2:MK (h1.set mp (.map #[] 0)) mb w k (jk []):=mk1.le (dw hmp);have nm2:NM (h1.set mp (.map #[] 0)) mp []:=⟨_,[],bh,⟨#[],0,rfl,rfl⟩,rfl,fun p hp=>by cases hp⟩;have d2:=d1.set (o := .map #[] 0) gmp;generalize h1.set mp (.map #[] 0)=h2 at*;try simp (disch:=first|decide|omega) only [bRpM,Nat.reduceAdd,Nat.reduceMul]
 have no:¬F9 w k f ht st->∀hh,StR w k gp kb f ht st (.bool false) hh:=fun q hh => .inr ⟨q,rfl⟩
 refine dt (fun m r4 h4=>∃i:Nat,m=st.length-i/\i<=st.length/\r4 0 = .pointer (some ⟨gp,0,none⟩)/\r4 2 = .int .i64 ht/\r4 7 = .slice (some ⟨mb,0,none⟩) (w*k) (w*k)/\r4 8 = .map (some mp)/\r4 20=sv/\r4 21 = .int .i64 st.length/\r4 22 = .int .i64 i/\
  (∀s∈st.take i,inW w k s.1=true/\fAt f s.1=0/\(s.2.length:Int)<=ht)/\((st.take i).map Prod.fst).Nodup/\(∀b∈(st.take i).flatMap Prod.snd,cj b 1 1000000000=true)/\((st.take i).flatMap Prod.snd).Nodup/\((st.take i).flatMap Prod.snd).length<=512/\
  GO h4 gp kb w k f/\MK h4 mb w k (jk ((st.take i).map Prod.fst))/\NM h4 mp ((st.take i).flatMap Prod.snd)/\Dis G h4) ?_
  (m:=st.length) ⟨0,rfl,au_ _,by simp (disch:=decide) only [bRpM],by simp (disch:=decide) only [bRpM],by simp (disch:=decide) only [bRpM],by simp (disch:=decide) only [bRpM],by simp (disch:=decide) only [bRpM,hsv],by simp (disch:=decide) only [bRpM],by simp only [bRpM]<;>rfl,by simp,by simp,by simp,by simp,by simp,go2,by simpa using mk2,by simpa using nm2,d2⟩
 rintro m r4 h4 ⟨i,rfl,hi,k0,k2,k7,k8,k20,k21,k22,hea,hap,hnu,hon,hmo,go4,mk4,nm4,d4⟩ X HX;unfold ai7;simp only [bRpM,k21,k22];refine df (fun hlt=>?_) (fun hge=>?_);rotate_left
 . obtain rfl:i=st.length:=by omega
   rw [am_ (aj_ _)]at hea hap hnu hon hmo;try simp (disch:=first|decide|omega) only [bRpM,Nat.reduceAdd,Nat.reduceMul]
   unfold ai8;simp only [bRpM];exact .inl ⟨⟨hea,hap,hnu,hon,hmo⟩,rfl,go4⟩
 have hlt':i<st.length:=by omega
 obtain ⟨y,hy⟩:∃x,st[i]?=some x:=⟨_,aa_ hlt'⟩;have hym:y∈st:=ab_ hy;have gs4:=gs;rw [hsv]at gs4;obtain ⟨b,ofs,a,c,eb,z0,z1,z2,z3⟩:=gs4.get d4 hy;subst eb;unfold M0;simp (disch:=first|decide|exact b8|exact bw|omega|rfl) only [bRpM,k20,hsv,k22,ix24 (ac_ i) hlt,z0,z1,z2];intro t ht' gt;try rw [av9]
 have go5:GO (h4.set t (.cells #[y.1.1,y.1.2,.slice a y.2.length c] 234 (0,0))) gp kb w k f:=go4.le (dw ht');have mk5:MK (h4.set t (.cells #[y.1.1,y.1.2,.slice a y.2.length c] 234 (0,0))) mb w k (jk ((st.take i).map Prod.fst)):=mk4.le (dw ht');have nm5:NM (h4.set t (.cells #[y.1.1,y.1.2,.slice a y.2.length c] 234 (0,0))) mp ((st.take i).flatMap Prod.snd):=by obtain ⟨o,L,n1,n2⟩:=nm4;exact ⟨o,L,dw ht' _ _ n1,n2⟩
 have bt:(h4.set t (.cells #[y.1.1,y.1.2,.slice a y.2.length c] 234 (0,0))) t=some (.cells #[y.1.1,y.1.2,.slice a y.2.length c] 234 (0,0)):=bh;have d5:=d4.set (o := .cells #[y.1.1,y.1.2,.slice a y.2.length c] 234 (0,0)) gt;generalize h4.set t (.cells #[y.1.1,y.1.2,.slice a y.2.length c] 234 (0,0))=h5 at*;have ct:∀j,bf G h5 ⟨t,j,none⟩=_:=fun j=>bm (bj bt);try simp only [bRpM,ct,k0]
 refine (Q6 (c:=y.1) (go5.gs (G:=G))).mono ?_;rintro _ h5 ⟨rfl,rfl⟩;cases hst:(inW w k y.1&&(fAt f y.1==0))with
 |false=>
  try simp only [bRpM]
  refine no (fun q=>?_) _;obtain ⟨q1,q2,_⟩:=q.each y hym;rw [q1,q2]at hst;cases hst
 |true=>
 have hst':=hst;simp only [ag_,beq_iff_eq]at hst';obtain ⟨hc',hf0⟩:=hst';try simp only [bRpM,ct,k0,k7]
 refine (qk (c:=y.1) (go5.gs (G:=G))).mono ?_;rintro _ h5 ⟨rfl,rfl⟩;obtain ⟨hn,hx,hyk,hlt2⟩:=yf hc';obtain ⟨a1,a2,a3,a4⟩:=jr.1 hc';have hxy:((y.1.1.toNat:Int),(y.1.2.toNat:Int))=y.1:=by rw [aD_ a1,aD_ a3]
 have mg:=Xv (G:=G) mk5 (Hp.le.refl _) hx hyk;rw [show jk ((st.take i).map Prod.fst) y.1.1.toNat y.1.2.toNat=decide (y.1∈(st.take i).map Prod.fst)by unfold jk;rw [hxy]]at mg;have m6:=mk5.put (v:=true) hx hyk;have hn0:=hn;rw [hn];generalize hnn:y.1.2.toNat*w+y.1.1.toNat=n at hn hlt2 mg m6;try simp only [bRpM,G4 hlt2,mg]
 by_cases hmem:y.1∈(st.take i).map Prod.fst
 . try simp only [bRpM,af_ hmem]
   refine no (fun q=>yg (L:=st.map Prod.fst) (i:=i) (x:=y.1) (by rw [aO_,hy];rfl) ?_ q.apart) _;rw [<- List.map_take];exact hmem
 try simp only [bRpM,ai_ hmem,ct,k2]
 by_cases hlen:(y.2.length:Int)<=ht;rotate_left
 . try simp only [bRpM,show decide ((y.2.length:Int)>ht)=true from af_ (by omega)]
   exact no (fun q=>hlen (q.each y hym).2.2) _
 try simp only [bRpM,show decide ((y.2.length:Int)>ht)=false from ai_ (by omega)]
 unfold My;try simp (disch:=decide) only [bRpM,ct,k0]
 refine (qk (c:=y.1) (go5.gs (G:=G))).mono ?_;rintro _ h5 ⟨rfl,rfl⟩;rw [hn];try simp only [bRpM,k7,G4 hlt2]
 rw [ec sz4 rfl mk5 (by rw [bcC.rows_length,gv];simp [bcC];exact hlt2)];have go6:=go5.other (o := .cells ((bcC.rows (lw w k (jk ((st.take i).map Prod.fst)))).set n (.bool true)).toArray 4 (0,0)) mk5 (by decide) (by decide);have nm6:NM (h5.set mb (.cells ((bcC.rows (lw w k (jk ((st.take i).map Prod.fst)))).set n (.bool true)).toArray 4 (0,0))) mp ((st.take i).flatMap Prod.snd):=by obtain ⟨o,L,n1,n2,n3⟩:=nm5;exact ⟨o,L,by rw [ci (fun q=>by unfold MK at mk5;rw [<- q,n1]at mk5;cases mk5;exact absurd n2.cells (by simp [iy]))];exact n1,n2,n3⟩
 have bt6:(h5.set mb (.cells ((bcC.rows (lw w k (jk ((st.take i).map Prod.fst)))).set n (.bool true)).toArray 4 (0,0))) t=_:=(ci (fun q=>by unfold MK at mk5;rw [<- q,bt]at mk5;simp at mk5)).trans bt;have d6:Dis G (h5.set mb (.cells ((bcC.rows (lw w k (jk ((st.take i).map Prod.fst)))).set n (.bool true)).toArray 4 (0,0))):=d5.set (d5 _ _ mk5);generalize h5.set mb (.cells ((bcC.rows (lw w k (jk ((st.take i).map Prod.fst)))).set n (.bool true)).toArray 4 (0,0))=h6 at*;have ct6:∀j,bf G h6 ⟨t,j,none⟩=_:=fun j=>bm (bj bt6);try simp only [bRpM,ct6]
 have mk7:MK h6 mb w k (jk ((st.take (i+1)).map Prod.fst)):=by rw [ik hy,bQ_,List.map_singleton,Gy a1 a3];exact m6
 have hft:(st.take (i+1)).flatMap Prod.snd=(st.take i).flatMap Prod.snd++y.2:=by rw [ik hy,be_];simp
 refine am8 (L:=y.2) (B0:=(st.take i).flatMap Prod.snd) _ h6 z3 (by omega) hmo (by simp (disch:=decide) only [bRpM,k8]) (by simp (disch:=decide) only [bRpM]) (by simp (disch:=decide) only [bRpM]) (by simp only [bRpM]) go6 mk7 nm6 d6 hon (fun hw2 hnd2 hl2 r7 h7 j0 j2 j7 j8 j20 j21 j22 go7 mk8 nm8 d7=>?_) (fun hbad r7 h7 j6 d7=>?_)
 . simp only [ky,if_true,ff,jj];unfold Mz;have j22':r7 22 = .int .i64 i:=j22.trans (by simp (disch:=decide) only [bRpM,k22]);simp (disch:=first|decide|omega) only [bRpM,j22'];refine HX (st.length-(i+1)) _ _ (by omega) ⟨i+1,rfl,hlt',by simp (disch:=decide) only [bRpM,j0,k0],by simp (disch:=decide) only [bRpM,j2,k2],by simp (disch:=decide) only [bRpM,j7,k7],by simp (disch:=decide) only [bRpM,j8,k8],by simp (disch:=decide) only [bRpM,j20,k20],by simp (disch:=decide) only [bRpM,j21,k21],by simp only [bRpM]<;>rfl,?_,?_,?_,?_,?_,go7,mk8,by rw [hft];exact nm8,d7⟩
   . rw [ik hy];intro s hs;rcases ao_.1 hs with q|q
     . exact hea s q
     . simp at q;rw [q];exact ⟨hc',hf0,hlen⟩
   . rw [ik hy,bQ_];exact a9_.2 ⟨hap,by simp,fun p hp q hq=>by simp at hq;subst hq;exact fun e=>hmem (e▸hp)⟩
   . rw [hft];intro c hc;rcases ao_.1 hc with q|q
     . exact hnu c q
     . exact hw2 c q
   . rw [hft];exact hnd2
   . rw [hft];exact hl2
 . simp only [bRpM,j6];have e:st.flatMap Prod.snd=((st.take i).flatMap Prod.snd++y.2)++(st.drop (i+1)).flatMap Prod.snd:=by rw [<- hft,<- be_,bE_]
   refine no (fun q=>hbad ⟨fun c hc=>q.nums c (aY_.2 ⟨y,hym,hc⟩),?_,?_⟩) _
   . have:=q.once;rw [e]at this;exact (a9_.1 this).1
   . have:=q.most;rw [e,ae_]at this;omega
def bRpN:=jq bC (jq (jq (jq (jq @C3 @Wq) (jq @cf130 (jq @cf131 @cf132))) (jq (jq @Cv @Fp) (jq @ab6 (jq @ab5 @Fo)))) (jq (jq (jq @aC1 @Lc) (jq @Yi (jq @Ha @Sa))) (jq (jq @R9 (jq @ld23 @ld24)) (jq @ld26 (jq @ld3 @O1)))))
def wC (C:Conf):Nat:=C.w.toNat
def kC (C:Conf):Nat:=C.h.toNat
def f0C (C:Conf):Nat->Nat->Int:=kd (C.bl++C.po) C.bl.length
def f3C (C:Conf):Nat->Nat->Int:=f2 (wC C) (kC C) (f0C C) (C.ro.flatMap dj)
structure dx (C:Conf):Prop where
 six:∀n∈[C.un,C.ac,C.sp,C.tu,C.ho,C.re],cj n 1 1000=true
 ht:cj C.ht 1 8=true
 qu:cj C.qu 1 16=true
 bu:cj C.bu 1 1048576=true
 laid:T2 C
 rob:Gp (wC C) (kC C) (f0C C) C.ro
 sta:F9 (wC C) (kC C) (f3C C) C.ht C.st
def MadeR (G h:Hp) (C:Conf) (u:Value) (h':Hp):Prop:=h.le h'/\Dis G h'/\
 ((dx C/\∃ga gp kb,u = .pointer (some ⟨gp,0,none⟩)/\GO ga gp kb (wC C) (kC C) (f3C C)/\Sep [ga,h] h')\/(¬dx C/\u = .pointer none))
theorem CA.gstk {G h h0 a:Hp} {C:Conf} {ab:Option Addr} {cb:Nat} {ap:Option Addr} {cp:Nat} {ar:Option Addr} {cr:Nat} {az:Option Addr} {cs:Nat} (ca:CA G h0 C ab cb ap cp ar cr az cs) (s:Sep [a,h0] h) (d:Dis G h):GStk (under G h a) (.slice az C.st.length cs) C.st:=by
 obtain ⟨raw,h1,h2⟩:=ca.st;refine ⟨raw,h1.gnd s d,?_,fun i r t hr ht=>?_⟩
 . obtain ⟨sa,c,e⟩:=h1.len;simp only [Value.slice.injEq]at e;exact e.2.1.symm
 . obtain ⟨k1,k2,k3⟩:=h2 i r t hr ht;exact ⟨k1,k2,k3.gnd s d⟩
theorem ap8 {G h:Hp} {v:Value} {C:Conf} (hv:CV G h v C) (st:lg G) (hp:∀p∈C.ro,PB p) (hsl:C.st.length<=100000000000000):bn P_ G 80 #[v] h (MadeR G h C):=by
 obtain ⟨ab,cb,ap,cp,ar,cr,az,cs,rfl,ca⟩:=hv;refine bn.assume fun d=>enter80 (by simp) ?_;unfold S80;simp only [bRpN];intro x hx gx;generalize e1:Hp.set h x _=h1;obtain ⟨l1,d1,b1⟩:=boxed e1 hx d gx;have cx:∀j,bf G h1 ⟨x,j,none⟩=_:=fun j=>bm (bj b1);try simp (disch:=first|decide|omega) only [bRpN,Nat.reduceAdd,Nat.reduceMul,cx]
 intro nb hnb gnb;generalize e2:Hp.set h1 nb _=h2;obtain ⟨l2,d2,b2⟩:=boxed e2 hnb d1 gnb;have L2:=l1.trans l2;have cx2:∀j,bf G h2 ⟨x,j,none⟩=_:=fun j=>bm (bj (l2 _ _ b1));have sv:Sees icC G h2 (.slice (some ⟨nb,0,none⟩) 6 6) [C.un,C.ac,C.sp,C.tu,C.ho,C.re]:=Sees.row (c:=icC) (L:=[C.un,C.ac,C.sp,C.tu,C.ho,C.re]) b2 rfl (aj_ _);have no:∀{hh:Hp},¬dx C->h.le hh->Dis G hh->MadeR G h C (.pointer none) hh:=fun q l d=>⟨l,d,.inr ⟨q,rfl⟩⟩;try simp (disch:=first|decide|omega) only [bRpN,Nat.reduceAdd,Nat.reduceMul]
 refine dt (fun m r h3=>∃j:Nat,m=6-j/\j<=6/\r 1 = .pointer (some ⟨x,0,none⟩)/\r 19 = .slice (some ⟨nb,0,none⟩) 6 6/\r 20 = .int .i64 6/\r 21 = .int .i64 j/\h3=h2/\∀n∈[C.un,C.ac,C.sp,C.tu,C.ho,C.re].take j,cj n 1 1000=true) ?_
  (m:=6) ⟨0,rfl,by decide,by simp (disch:=decide) only [bRpN],by simp (disch:=decide) only [bRpN],by simp (disch:=decide) only [bRpN]<;>rfl,by simp only [bRpN]<;>rfl,rfl,by simp⟩
 rintro m r h3 ⟨j,rfl,hj,g1,g19,g20,g21,rfl,hw⟩ X HX;unfold aO7;simp only [bRpN,g20,g21];refine df (fun hlt=>?_) (fun hge=>?_)
 . have hlt':j<6:=by omega
   obtain ⟨y,hy⟩:∃n,[C.un,C.ac,C.sp,C.tu,C.ho,C.re][j]?=some n:=⟨_,aa_ (by simpa using hlt')⟩;obtain ⟨b,o,eb,z0⟩:=Sees.int sv hy;cases eb;rw [a1_]at z0;unfold P5;simp (disch:=decide) only [bRpN,g19,g21,Vp (ac_ j) (show (j:Int)<(6:Nat)by omega),aW_,z0];refine (kw (n:=y) (a:=1) (b:=1000)).mono ?_;rintro _ h3 ⟨rfl,rfl⟩;cases hb:cj y 1 1000 with
   |false=>
    try simp only [bRpN]
    exact no (fun q=>by have:=q.six y (ab_ hy);rw [hb]at this;cases this) L2 d2
   |true=>
    try simp only [bRpN]
    unfold P4;simp (disch:=first|decide|omega) only [bRpN,g21];refine HX (6-(j+1)) _ _ (by omega) ⟨j+1,rfl,hlt',by simp (disch:=decide) only [bRpN,g1],by simp (disch:=decide) only [bRpN,g19],by simp (disch:=decide) only [bRpN,g20],by simp only [bRpN]<;>rfl,rfl,?_⟩;rw [ik hy];intro c hc;rcases ao_.1 hc with q|q
    . exact hw c q
    . simp at q;rw [q];exact hb
 obtain rfl:j=6:=by omega
 rw [am_ (by simp)]at hw;try simp (disch:=first|decide|omega) only [bRpN,Nat.reduceAdd,Nat.reduceMul]
 unfold aP0;try simp (disch:=decide) only [bRpN,g1,cx2]
 refine (kw (n:=C.ht) (a:=1) (b:=8)).mono ?_;rintro _ h3 ⟨rfl,rfl⟩;cases hht:cj C.ht 1 8 with
 |false=>try simp only [bRpN];exact no (fun q=>absurd (q.ht.symm.trans hht) (by decide)) L2 d2
 |true=>
 try simp only [bRpN,g1,cx2]
 refine (kw (n:=C.qu) (a:=1) (b:=16)).mono ?_;rintro _ h3 ⟨rfl,rfl⟩;cases hqu:cj C.qu 1 16 with
 |false=>try simp only [bRpN];exact no (fun q=>absurd (q.qu.symm.trans hqu) (by decide)) L2 d2
 |true=>
 try simp only [bRpN,g1,cx2]
 refine (kw (n:=C.bu) (a:=1) (b:=1048576)).mono ?_;rintro _ h3 ⟨rfl,rfl⟩;cases hbu:cj C.bu 1 1048576 with
 |false=>try simp only [bRpN];exact no (fun q=>absurd (q.bu.symm.trans hbu) (by decide)) L2 d2
 |true=>
 try simp only [bRpN]
 unfold aO9;try simp (disch:=decide) only [bRpN,g1,cx2]
 have ca2:=ca.up L2 d2;refine (aq2 ca2.cv).mono ?_;rintro _ h4 ⟨l4,d4,⟨hl,ga,gp,kb,rfl,go,s4⟩|⟨hl,rfl⟩⟩;rotate_left
 . try simp only [bRpN]
   exact no (fun q=>hl q.laid) (L2.trans l4) d4
 have cx4:∀j,bf G h4 ⟨x,j,none⟩=_:=fun j=>bm (bj (l4 _ _ (l2 _ _ b1)));try simp only [bRpN,g1,cx4]
 refine (s4.on (Us (w:=wC C) (k:=kC C) (f:=f0C C) go (st.under d4 s4.hd) (ca2.ro.gnd s4 d4) hp)).mono ?_;rintro _ h5 ⟨ga5,⟨hr,rfl,go5⟩|⟨hr,rfl⟩,s5,d5⟩;rotate_left
 . try simp only [bRpN]
   exact no (fun q=>hr q.rob) (L2.trans (s5.in 1 rfl)) d5
 have cx5:∀j,bf G h5 ⟨x,j,none⟩=_:=fun j=>bm (bj (s5.in 1 rfl _ _ (l2 _ _ b1)));try simp only [bRpN,g1,cx5]
 have hht8:C.ht<=8:=by unfold cj at hht;simp only [ag_,aw_]at hht;exact hht.2
 refine (s5.on (Ub (st:=C.st) go5 (ca2.gstk s5 d5) hht8 hsl)).mono ?_;rintro _ h6 ⟨ga6,⟨hs,rfl,go6⟩|⟨hs,rfl⟩,s6,d6⟩;rotate_left
 . try simp only [bRpN]
   exact no (fun q=>hs q.sta) (L2.trans (s6.in 1 rfl)) d6
 try simp only [bRpN]
 unfold aO8;try simp (disch:=decide) only [bRpN]
 exact ⟨L2.trans (s6.in 1 rfl),d6,.inl ⟨⟨hw,hht,hqu,hbu,hl,hr,hs⟩,ga6,gp,kb,rfl,go6,(s6.swap.cut L2).swap⟩⟩
def bRpO:=jq bC (jq (jq @cf80 (jq @eq68n @eq68s)) (jq (jq @ld26 @ne68n) (jq @ne68s @nq)))
def NewR (G h:Hp) (C:Conf) (u:Value) (h':Hp):Prop:=h.le h'/\Dis G h'/\
 ((dx C/\∃ga gp kb,u = .tuple #[.pointer (some ⟨gp,0,none⟩),(0:Int)]/\GO ga gp kb (wC C) (kC C) (f3C C)/\Sep [ga,h] h')\/(¬dx C/\u = .tuple #[.pointer none,(5:Int)]))
theorem yi {G h:Hp} {v:Value} {C:Conf} (hv:CV G h v C) (st:lg G) (hp:∀p∈C.ro,PB p) (hsl:C.st.length<=100000000000000):bn P_ G 37 #[v] h (NewR G h C):=by
 have hv0:=hv;obtain ⟨ab,cb,ap,cp,ar,cr,az,cs,rfl,ca⟩:=hv;refine bn.assume fun d=>enter37 (by simp) ?_;unfold S37;simp (disch:=decide) only [bRpO];intro x hx gx;generalize e1:Hp.set h x _=h1;obtain ⟨l1,d1,b1⟩:=boxed e1 hx d gx;have cx:∀j,bf G h1 ⟨x,j,none⟩=_:=fun j=>bm (bj b1);try simp (disch:=first|decide|omega) only [bRpO,Nat.reduceAdd,Nat.reduceMul,cx]
 refine (ap8 (ca.up l1 d1).cv st hp hsl).mono ?_;rintro _ h2 ⟨l2,d2,⟨hm,ga,gp,kb,rfl,go,s2⟩|⟨hm,rfl⟩⟩
 . try simp only [bRpO]
   unfold aS8;try simp (disch:=decide) only [bRpO]
   exact ⟨l1.trans l2,d2,.inl ⟨hm,ga,gp,kb,rfl,go,(s2.swap.cut l1).swap⟩⟩
 . try simp only [bRpO]
   exact ⟨l1.trans l2,d2,.inr ⟨hm,rfl⟩⟩
section
variable (G:Hp) (K:EK) (r:Rg) (h:Hp)
def md99:Nat->Hint
 |_=>m0_
def xv:Prop:=
 o_ G (l_ 30 (r 3)) h fun g h=>
 y_ G (x_ 30 (r 6) g) h fun j h=>
 K .ret (upd r 44 g) h
def S99:Prop:=
 o_ G (Instr.box 30 (r 0)) h fun g h=>o_ G (Instr.alloc 30 true (.tuple #[])) h fun j h=>
 y_ G (xEq .eql 3 (.tmp 0) (.const .nilFunc) (r 1) (.int .i64 0)) h fun s h=>
 cond s
 (o_ G (f_ 30 g 0) h fun u h'=>o_ G (f_ 28 u 1) h' fun w h'=>o_ G (l_ 3 w) h' fun z h'=>o_ G (z3_ z (r 2)) h' fun C h'=>o_ G (f_ 30 g 0) h' fun D h'=>o_ G (f_ 28 D 1) h' fun E h'=>
 y_ G (x_ 3 E C) h' fun F h'=>
 xv G K (u2 (u10 r 3 g 6 j 7 (r 1) 9 s 8 s 10 u 11 w 12 z 13 (r 2) 14 C) 15 D 16 E) h')
 (opH P_ G (xEq .eql 3 (.tmp 0) (.const .nilFunc) (r 1) (.int .i64 1)) h fun u h=>
 cond u
 (o_ G (f_ 30 g 0) h fun w h'=>o_ G (f_ 28 w 0) h' fun z h'=>o_ G (l_ 3 z) h' fun C h'=>o_ G (z1_ C (r 2)) h' fun D h'=>o_ G (f_ 30 g 0) h' fun E h'=>o_ G (f_ 28 E 0) h' fun F h'=>
 y_ G (x_ 3 F D) h' fun I h'=>
 xv G K (u4 (u10 r 3 g 6 j 7 (r 1) 9 s 8 s 18 u 17 u 19 w 20 z 21 C) 22 (r 2) 23 D 24 E 25 F) h')
 (opH P_ G (xEq .eql 3 (.tmp 0) (.const .nilFunc) (r 1) (.int .i64 2)) h fun w h=>
 cond w
 (o_ G (f_ 30 g 0) h fun z h'=>o_ G (f_ 28 z 1) h' fun C h'=>o_ G (l_ 3 C) h' fun D h'=>o_ G (z1_ D (r 2)) h' fun E h'=>o_ G (f_ 30 g 0) h' fun F h'=>o_ G (f_ 28 F 1) h' fun I h'=>
 y_ G (x_ 3 I E) h' fun J h'=>
 xv G K (u6 (u10 r 3 g 6 j 7 (r 1) 9 s 8 s 18 u 17 u 27 w 26 w 28 z) 29 C 30 D 31 (r 2) 32 E 33 F 34 I) h')
 (opH P_ G (xEq .eql 3 (.tmp 0) (.const .nilFunc) (r 1) (.int .i64 3)) h fun z h=>
 cond z
 (o_ G (f_ 30 g 0) h fun C h'=>o_ G (f_ 28 C 0) h' fun D h'=>o_ G (l_ 3 D) h' fun E h'=>o_ G (z3_ E (r 2)) h' fun F h'=>o_ G (f_ 30 g 0) h' fun I h'=>o_ G (f_ 28 I 0) h' fun J h'=>
 y_ G (x_ 3 J F) h' fun L h'=>
 xv G K (u8 (u10 r 3 g 6 j 7 (r 1) 9 s 8 s 18 u 17 u 27 w 26 w 36 z) 35 z 37 C 38 D 39 E 40 (r 2) 41 F 42 I 43 J) h')
 (xv G K (upd (u10 r 3 g 6 j 7 (r 1) 9 s 8 s 18 u 17 u 27 w 26 w 36 z) 35 z) h))))
theorem enter99:Ent 45 99 [.cell 6 30] S99:=ent_ (m:=md99) (c:=(Tryz.f99.body.getD .skip)) (fun _ _ _ _=>by kernel_rfl) Tryz.func99 rfl rfl rfl
def md45:Nat->Hint
 |5=>mh true [0,1,3,7,15,31,63,127,255,511,1023,2047,4095,2047,10239,2047,34815,2047,133119,518143,1048575,2097151] [n_,m_,e_,n_,n_,n_,m_,e_,n_,n_,n_,n_,m_,n_,m_,n_,m_,n_,m_,e_,m_,n_] (fs 2++[true]++fs 4++[true]++fs 11++[true]++fs 2) true
 |10=>mh false [0,0,2,0,8,0,62,127,255] [m_,n_,m_,n_,m_,n_,e_,e_,n_] (fs 6++[true]++fs 2) true
 |18=>mh false [0,0,0,6,14,31,63] [m_,n_,n_,n_,m_,e_,n_] (fs 7) false
 |_=>m0_
def S2 (G:Hp) (K:EK) (r:Rg) (h:Hp):Prop:=
 K .ret (upd r 4 (.bool false)) h
def aR6 (G:Hp) (K:EK) (r:Rg) (h:Hp):Prop:=
 K .ret (upd r 4 (.bool true)) h
def Qm:Prop:=
 o_ G (z1_ (r 5) (1:Int)) h fun g h=>
 K .normal (u3 r 43 (r 5) 44 g 5 g) h
def Qn:Prop:=
 ∃h':Hp,h'.le h/\
 w_ G h' (l_ 26 (r 2)) h fun g h=>
 p_ (f_ 48 (r 3) 3) h fun j h=>
 w_ G h' (l_ 30 j) h fun s h=>
 p_ (f_ 48 (r 3) 1) h fun u h=>
 w_ G h' (l_ 3 u) h fun w h=>
 c_ G 99 #[s,w,r 5] h fun z h=>h'.le h/\
 c_ G 22 #[g,z] h fun C h=>
 p_ (Op.unary .not C) h fun D h=>
 (fun q=>cond D
 (K .ret (upd q 4 (.bool false)) h)
 (Qm G K q h))
 (u9 r 45 g 46 j 47 s 48 u 49 w 50 (r 5) 51 z 52 C 53 D)
def aR4 (r:Rg) (h:Hp) (K:EK):Prop:=
 o_ G (f_ 48 (r 3) 2) h fun g h=>o_ G (l_ 3 g) h fun j h=>o_ G (z7_ (r 5) j) h fun s h=>
 cond s
 (Qn G K (u4 r 39 (r 5) 40 g 41 j 42 s) h)
 (K (.exit 1) (u4 r 39 (r 5) 40 g 41 j 42 s) h)
def aR7:Prop:=
 du (aR4 G) (upd r 5 (.int .i64 1)) h (dc 1 (di (aR6 G K) (dc 0 (di (S2 G K) K))))
def aR5:Prop:=
 o_ G (f_ 48 (r 3) 2) h fun g h=>o_ G (l_ 3 g) h fun j h=>
 y_ G (xEq .eql 3 (.tmp 0) (.const .nilFunc) j (.int .i64 0)) h fun s h=>g_ s true (o_ G (f_ 48 (r 3) 1) h) h fun u h=>g_ s true (o_ G (l_ 3 u) h) h fun w h=>g_ s true (opH P_ G (xEq .eql 3 (.tmp 0) (.const .nilFunc) w (.int .i64 0)) h) h fun z h=>
 y_ G (dh s z (.bool false)) h fun C h=>g_ C true (o_ G (f_ 48 (r 3) 4) h) h fun D h=>g_ C true (o_ G (l_ 30 D) h) h fun E h=>g_ C true (o_ G (f_ 48 (r 3) 3) h) h fun F h=>g_ C true (o_ G (f_ 30 F 0) h) h fun I h=>g_ C true (o_ G (l_ 28 I) h) h fun J h=>g_ C true (o_ G (f_ 48 (r 3) 3) h) h fun L h=>g_ C true (o_ G (f_ 30 L 1) h) h fun M h=>g_ C true (o_ G (l_ 4 M) h) h fun N h=>g_ C true (o_ G (Op.unary .not N) h) h fun O h=>g_ C true (o_ G (Instr.build 30 #[(0,J),(1,O)]) h) h fun P h=>g_ C true (opH P_ G (xEq .eql 30 (.tmp 0) (.tmp 0) E P) h) h fun Q h=>
 y_ G (dh C Q (.bool false)) h fun U h=>
 K .ret (u2 (u10 (u10 r 70 g 71 j 72 s 73 s 74 u 75 w 76 z 77 C 78 C 79 D) 80 E 81 F 82 I 83 J 84 L 85 M 86 N 87 O 88 P 89 Q) 90 U 4 U) h
def L5:Prop:=
 o_ G (z1_ (r 7) (1:Int)) h fun g h=>
 K .normal (u3 r 61 (r 7) 62 g 7 g) h
def L6:Prop:=
 w_ G h (l_ 26 (r 2)) h fun g h'=>
 p_ (i_ 22 (r 6) (r 7)) h' fun j h'=>
 w_ G h (l_ 28 j) h' fun s h=>
 c_ G 60 #[g,s] h fun u h=>
 p_ (Op.unary .not u) h fun w h=>
 (fun q=>cond w
 (K .ret (upd q 4 (.bool false)) h)
 (L5 G K q h))
 (u7 r 63 g 64 (r 6) 65 (r 7) 66 j 67 s 68 u 69 w)
def aR3 (r:Rg) (h:Hp) (K:EK):Prop:=
 o_ G (z2_ (r 7) (4:Int)) h fun g h=>
 cond g
 (L6 G K (u2 r 59 (r 7) 60 g) h)
 (K (.exit 3) (u2 r 59 (r 7) 60 g) h)
def Gi:Prop:=
 cond (r 91)
 (o_ G (f_ 48 (r 3) 2) h fun g h'=>o_ G (l_ 3 g) h' fun j h'=>
 y_ G (xEq .eql 3 (.tmp 0) (.const .nilFunc) j (.int .i64 0)) h' fun s h'=>g_ s true (o_ G (f_ 48 (r 3) 1) h') h' fun u h'=>g_ s true (o_ G (l_ 3 u) h') h' fun w h'=>g_ s true (opH P_ G (xEq .eql 3 (.tmp 0) (.const .nilFunc) w (.int .i64 0)) h') h' fun z h'=>
 y_ G (dh s z (.bool false)) h' fun C h'=>g_ C true (o_ G (f_ 48 (r 3) 4) h') h' fun D h'=>g_ C true (o_ G (l_ 30 D) h') h' fun E h'=>g_ C true (o_ G (f_ 48 (r 3) 3) h') h' fun F h'=>g_ C true (o_ G (l_ 30 F) h') h' fun I h'=>g_ C true (opH P_ G (xEq .eql 30 (.tmp 0) (.tmp 0) E I) h') h' fun J h'=>
 y_ G (dh C J (.bool false)) h' fun L h'=>
 K .ret (u6 (u10 r 94 g 95 j 96 s 97 s 98 u 99 w 100 z 101 C 102 C 103 D) 104 E 105 F 106 I 107 J 108 L 4 L) h')
 (S2 G K r h)
def aR8:Prop:=
 o_ G (f_ 48 (r 3) 0) h fun g ha=>o_ G (l_ 3 g) ha fun j ha=>
 y_ G (xEq .eql 3 (.tmp 0) (.const .nilFunc) j (.int .i64 1)) ha fun s ha=>
 cond s
 (∃hc:Hp,hc.le ha/\
 p_ (f_ 48 (r 3) 2) ha fun u hd=>
 w_ G hc (l_ 3 u) hd fun w hd=>
 c_ G 98 #[w,(.int .i64 1),(.int .i64 16)] hd fun z hd=>hc.le hd/\
 p_ (Op.unary .not z) hd fun C hd=>g_ C false (p_ (f_ 48 (r 3) 1) hd) hd fun D hd=>g_ C false (w_ G hc (l_ 3 D) hd) hd fun E hd=>g_ C false (fun K1=>c_ G 98 #[E,(.int .i64 0),(.int .i64 3)] hd fun v h'=>hc.le h'/\K1 v h') hd fun F hd=>g_ C false (p_ (Op.unary .not F) hd) hd fun I hd=>
 dl P_ noHp noHp (dh C (.bool true) I) hd fun J hd=>g_ J false (p_ (f_ 48 (r 3) 4) hd) hd fun L hd=>g_ J false (w_ G hc (l_ 30 L) hd) hd fun M hd=>g_ J false (p_ (f_ 48 (r 3) 3) hd) hd fun N hd=>g_ J false (w_ G hc (l_ 30 N) hd) hd fun O hd=>g_ J false (p_ (f_ 48 (r 3) 1) hd) hd fun P hd=>g_ J false (w_ G hc (l_ 3 P) hd) hd fun Q hd=>g_ J false (p_ (f_ 48 (r 3) 2) hd) hd fun U hd=>g_ J false (w_ G hc (l_ 3 U) hd) hd fun V hd=>g_ J false (fun K1=>c_ G 99 #[O,Q,V] hd fun v h'=>hc.le h'/\K1 v h') hd fun W h=>g_ J false (dl P_ G hc (xEq .neq 30 (.tmp 0) (.tmp 0) M W) h) h fun Y h=>
 dl P_ noHp noHp (dh J (.bool true) Y) h fun Z h=>
 cond Z
 (K .ret (u7 (u10 (u10 r 13 g 14 j 16 s 15 s 17 u 18 w 19 z 20 C 21 C 22 D) 23 E 24 F 25 I 26 J 27 J 28 L 29 M 30 N 31 O 32 P) 33 Q 34 U 35 V 36 W 37 Y 38 Z 4 (.bool false)) h)
 (aR7 G K (u6 (u10 (u10 r 13 g 14 j 16 s 15 s 17 u 18 w 19 z 20 C 21 C 22 D) 23 E 24 F 25 I 26 J 27 J 28 L 29 M 30 N 31 O 32 P) 33 Q 34 U 35 V 36 W 37 Y 38 Z) h))
 (opH P_ G (xEq .eql 3 (.tmp 0) (.const .nilFunc) j (.int .i64 2)) ha fun u h=>
 cond u
 (o_ G (f_ 48 (r 3) 3) h fun w ha=>o_ G (l_ 30 w) ha fun z ha=>
 c_ G 100 #[z] ha fun C ha=>
 du (aR3 G) (upd (u10 r 13 g 14 j 16 s 15 s 55 u 54 u 56 w 57 z 58 C 6 C) 7 (.int .i64 0)) ha (dc 3 (di (aR5 G K) (dc 0 (di (S2 G K) K)))))
 (opH P_ G (xEq .eql 3 (.tmp 0) (.const .nilFunc) j (.int .i64 3)) h fun w h=>
 cond w
 (Gi G K (u8 r 13 g 14 j 16 s 15 s 55 u 54 u 92 w 91 w) h)
 (opH P_ G (xEq .eql 3 (.tmp 0) (.const .nilFunc) j (.int .i64 4)) h fun z h=>
 Gi G K (u10 r 13 g 14 j 16 s 15 s 55 u 54 u 92 w 91 w 93 z 91 z) h)))
def S45:Prop:=
 o_ G (Instr.box 26 (r 0)) h fun g h=>o_ G (Instr.box 48 (r 1)) h fun j h=>o_ G (l_ 26 g) h fun s h=>o_ G (f_ 48 j 3) h fun u h=>o_ G (l_ 30 u) h fun w h=>
 c_ G 22 #[s,w] h fun z h=>o_ G (Op.unary .not z) h fun C h=>
 (fun q=>cond C
 (K .ret (upd q 4 (.bool false)) h)
 (aR8 G K q h))
 (u8 r 2 g 3 j 4 (.bool false) 8 s 9 u 10 w 11 z 12 C)
theorem enter45:Ent 109 45 [.tmp 4] S45:=ent_ (m:=md45) (c:=(Tryz.f45.body.getD .skip)) (fun _ _ _ _=>by kernel_rfl) Tryz.func45 rfl rfl rfl
def md100:Nat->Hint
 |_=>m0_
def S100:Prop:=
 o_ G (Instr.box 30 (r 0)) h fun g h=>o_ G (f_ 30 g 0) h fun j h=>o_ G (f_ 28 j 0) h fun s h=>o_ G (l_ 3 s) h fun u h=>o_ G (f_ 30 g 0) h fun w h=>o_ G (f_ 28 w 1) h fun z h=>o_ G (l_ 3 z) h fun C h=>o_ G (Instr.build 28 #[(0,u),(1,C)]) h fun D h=>o_ G (z1_ u (1:Int)) h fun E h=>o_ G (Instr.build 28 #[(0,E),(1,C)]) h fun F h=>o_ G (z1_ C (1:Int)) h fun I h=>o_ G (Instr.build 28 #[(0,u),(1,I)]) h fun J h=>o_ G (z1_ u (1:Int)) h fun L h=>o_ G (z1_ C (1:Int)) h fun M h=>o_ G (Instr.build 28 #[(0,L),(1,M)]) h fun N h=>o_ G (Instr.buildSlice 22 4 #[(0,D),(1,F),(2,J),(3,N)]) h fun O h=>
 K .ret (u8 (u10 (u10 r 1 g 2 (.slice none 0 0) 5 j 6 s 7 u 3 u 8 w 9 z 10 C 4 C) 11 u 12 C 13 D 14 u 15 E 16 C 17 F 18 u 19 C 20 I) 21 J 22 u 23 L 24 C 25 M 26 N 27 O 2 O) h
theorem aL0:Ent 28 100 [.tmp 2] S100:=ent_ (m:=md100) (c:=(Tryz.f100.body.getD .skip)) (fun _ _ _ _=>by kernel_rfl) Tryz.func100 rfl rfl rfl
def md102:Nat->Hint
 |10=>mh false [0,0,0,0,0,0,56,127,0,511] [n_,n_,m_,m_,n_,n_,e_,n_,.alloc,.store] (fs 6++[true]++fs 3) true
 |_=>m0_
def Jw (G:Hp) (K:EK) (r:Rg) (h:Hp):Prop:=
 K .ret (u2 r 53 (r 5) 4 (r 5)) h
def T1:Prop:=
 o_ G (l_ 30 (r 3)) h fun g h=>o_ G (f_ 30 (r 3) 0) h fun j h=>o_ G (l_ 28 j) h fun s h=>o_ G (f_ 30 (r 3) 1) h fun u h=>o_ G (l_ 4 u) h fun w h=>o_ G (Op.unary .not w) h fun z h=>o_ G (Instr.build 30 #[(0,s),(1,z)]) h fun C h=>o_ G (Instr.build 48 #[(0,(.int .i64 2)),(3,g),(4,C)]) h fun D h=>o_ G (Instr.alloc 48 true (.tuple #[])) h fun E h=>
 y_ G (x_ 48 E D) h fun F h=>o_ G (l_ 26 (r 2)) h fun F h=>o_ G (l_ 48 E) h fun I h=>
 c_ G 45 #[F,I] h fun J h=>
 cond J
 (o_ G (l_ 48 E) h fun L h'=>o_ G (Instr.buildSlice 40 1 #[(0,L)]) h' fun M h'=>o_ G (Builtin.append_ #[40,40] 40 #[r 5,M]) h' fun N h'=>
 Jw G K (u7 (u10 r 38 g 39 j 40 s 41 u 42 w 43 z 44 C 45 D 9 E 46 F) 47 I 48 J 49 (r 5) 50 L 51 M 52 N 5 N) h')
 (Jw G K (u2 (u10 r 38 g 39 j 40 s 41 u 42 w 43 z 44 C 45 D 9 E 46 F) 47 I 48 J) h)
def Em:Prop:=
 o_ G (z1_ (r 6) (1:Int)) h fun g h=>
 K .normal (u3 r 16 (r 6) 17 g 6 g) h
def Dk:Prop:=
 o_ G (z1_ (r 7) (1:Int)) h fun g h=>
 K .normal (u3 r 20 (r 7) 21 g 7 g) h
def Cd:Prop:=
 o_ G (l_ 48 (r 8)) h fun g h=>o_ G (Instr.buildSlice 40 1 #[(0,g)]) h fun j h=>o_ G (Builtin.append_ #[40,40] 40 #[r 5,j]) h fun s h=>
 Dk G K (u5 r 34 (r 5) 35 g 36 j 37 s 5 s) h
def Dl:Prop:=
 ∃h':Hp,h'.le h/\
 w_ G h' (l_ 30 (r 3)) h fun g h=>
 w_ G h' (l_ 30 (r 3)) h fun j h=>
 c_ G 99 #[j,r 6,r 7] h fun s h=>h'.le h/\
 p_ (Instr.build 48 #[(0,(.int .i64 1)),(1,(r 6)),(2,(r 7)),(3,g),(4,s)]) h fun u h=>o_ G (Instr.alloc 48 true (.tuple #[])) h fun w h=>
 y_ G (x_ 48 w u) h fun z h=>o_ G (l_ 26 (r 2)) h fun z h=>o_ G (l_ 48 w) h fun C h=>
 c_ G 45 #[z,C] h fun D h=>o_ G (Op.unary .not D) h fun E h=>
 (fun q=>cond E
 (K (.exit 2) q h)
 (Cd G K q h))
 (u3 (u10 r 22 (r 6) 23 (r 7) 24 g 25 j 26 (r 6) 27 (r 7) 28 s 29 u 8 w 30 z) 31 C 32 D 33 E)
def Ns (r:Rg) (h:Hp) (K:EK):Prop:=
 o_ G (z7_ (r 7) (16:Int)) h fun g h=>
 cond g
 (Dl G K (u2 r 18 (r 7) 19 g) h)
 (K (.exit 2) (u2 r 18 (r 7) 19 g) h)
def Nt:Prop:=
 du (Ns G) (upd r 7 (.int .i64 1)) h (dc 2 (dc 1 (di (Em G K) K)))
def al6 (r:Rg) (h:Hp) (K:EK):Prop:=
 o_ G (z7_ (r 6) (3:Int)) h fun g h=>
 cond g
 (Nt G K (u2 r 14 (r 6) 15 g) h)
 (K (.exit 0) (u2 r 14 (r 6) 15 g) h)
def al7:Prop:=
 du (al6 G) (u2 r 5 (.slice none 0 0) 6 (.int .i64 0)) h (dc 0 (di (T1 G K) K))
def S102:Prop:=
 o_ G (Instr.box 26 (r 0)) h fun g h=>o_ G (Instr.box 30 (r 1)) h fun j h=>o_ G (l_ 26 g) h fun s h=>o_ G (l_ 30 j) h fun u h=>
 c_ G 22 #[s,u] h fun w h=>o_ G (Op.unary .not w) h fun z h=>
 (fun q=>cond z
 (K .ret (upd q 4 (.slice none 0 0)) h)
 (al7 G K q h))
 (u7 r 2 g 3 j 4 (.slice none 0 0) 10 s 11 u 12 w 13 z)
theorem aK8:Ent 54 102 [.tmp 4] S102:=ent_ (m:=md102) (c:=(Tryz.f102.body.getD .skip)) (fun _ _ _ _=>by kernel_rfl) Tryz.func102 rfl rfl rfl
def md48:Nat->Hint
 |_=>m0_
def Y9 (G:Hp) (K:EK) (r:Rg) (h:Hp):Prop:=
 K .ret (u2 r 65 (r 7) 4 (r 7)) h
def Qi:Prop:=
 o_ G (z1_ (r 8) (1:Int)) h fun g h=>
 K .normal (u3 r 45 (r 8) 46 g 8 g) h
def uv:Prop:=
 o_ G (z1_ (r 9) (1:Int)) h fun g h=>
 K .normal (u3 r 51 (r 9) 52 g 9 g) h
def Gg:Prop:=
 o_ G (Instr.build 28 #[(0,(r 9)),(1,(r 8))]) h fun g h=>
 c_ G 83 #[r 5,g] h fun j h=>o_ G (z6_ j (0:Int)) h fun s h=>
 cond s
 (o_ G (Instr.build 28 #[(0,(r 9)),(1,(r 8))]) h fun u h'=>o_ G (Instr.buildSlice 22 1 #[(0,u)]) h' fun w h'=>o_ G (Builtin.append_ #[22,22] 22 #[r 7,w]) h' fun z h'=>
 uv G K (u3 (u10 r 53 (r 5) 54 (r 9) 55 (r 8) 56 g 57 j 58 s 59 (r 7) 60 (r 9) 61 (r 8) 62 u) 63 w 64 z 7 z) h')
 (uv G K (u6 r 53 (r 5) 54 (r 9) 55 (r 8) 56 g 57 j 58 s) h)
def Qh (r:Rg) (h:Hp) (K:EK):Prop:=
 o_ G (f_ 26 (r 2) 0) h fun g h=>o_ G (l_ 3 g) h fun j h=>o_ G (z2_ (r 9) j) h fun s h=>
 cond s
 (Gg G K (u4 r 47 (r 9) 48 g 49 j 50 s) h)
 (K (.exit 5) (u4 r 47 (r 9) 48 g 49 j 50 s) h)
def Qj:Prop:=
 du (Qh G) (upd r 9 (.int .i64 0)) h (dc 5 (dc 4 (di (Qi G K) K)))
def aQ9 (r:Rg) (h:Hp) (K:EK):Prop:=
 o_ G (f_ 26 (r 2) 1) h fun g h=>o_ G (l_ 3 g) h fun j h=>o_ G (z2_ (r 8) j) h fun s h=>
 cond s
 (Qj G K (u4 r 41 (r 8) 42 g 43 j 44 s) h)
 (K (.exit 3) (u4 r 41 (r 8) 42 g 43 j 44 s) h)
def Hj:Prop:=
 du (aQ9 G) (u2 r 7 (.slice none 0 0) 8 (.int .i64 0)) h (dc 3 (di (Y9 G K) K))
def Iz:Prop:=
 o_ G (z1_ (r 6) (1:Int)) h fun g h=>
 K .normal (u3 r 25 (r 6) 26 g 6 g) h
def I0:Prop:=
 o_ G (f_ 48 (r 3) 3) h fun g h=>o_ G (l_ 30 g) h fun j h=>o_ G (f_ 48 (r 3) 1) h fun s h=>o_ G (l_ 3 s) h fun u h=>
 c_ G 99 #[j,u,r 6] h fun w h=>
 c_ G 40 #[w] h fun z h=>o_ G (Builtin.append_ #[22,22] 22 #[r 5,z]) h fun C h=>
 Iz G K (u10 r 27 (r 5) 28 g 29 j 30 s 31 u 32 (r 6) 33 w 34 z 35 C 5 C) h
def ae6 (r:Rg) (h:Hp) (K:EK):Prop:=
 o_ G (f_ 48 (r 3) 2) h fun g h=>o_ G (l_ 3 g) h fun j h=>o_ G (z7_ (r 6) j) h fun s h=>
 cond s
 (I0 G K (u4 r 21 (r 6) 22 g 23 j 24 s) h)
 (K (.exit 1) (u4 r 21 (r 6) 22 g 23 j 24 s) h)
def aR0:Prop:=
 o_ G (f_ 48 (r 3) 0) h fun g h=>o_ G (l_ 3 g) h fun j h=>
 y_ G (xEq .eql 3 (.tmp 0) (.const .nilFunc) j (.int .i64 1)) h fun s h=>
 cond s
 (du (ae6 G) (u6 r 5 (.slice none 0 0) 14 g 15 j 20 s 19 s 6 (.int .i64 0)) h (dc 1 (dc 0 (di (Hj G K) K))))
 (opH P_ G (xEq .eql 3 (.tmp 0) (.const .nilFunc) j (.int .i64 2)) h fun u h=>
 cond u
 (o_ G (f_ 48 (r 3) 3) h fun w h'=>o_ G (l_ 30 w) h' fun z h'=>
 c_ G 100 #[z] h' fun C h'=>
 Hj G K (upd (u10 r 5 (.slice none 0 0) 14 g 15 j 20 s 19 s 37 u 36 u 38 w 39 z 40 C) 5 C) h')
 (o_ G (f_ 48 (r 3) 3) h fun w h=>o_ G (l_ 30 w) h fun z h=>
 c_ G 40 #[z] h fun C h=>
 Hj G K (upd (u10 r 5 (.slice none 0 0) 14 g 15 j 20 s 19 s 37 u 36 u 16 w 17 z 18 C) 5 C) h))
def S48:Prop:=
 o_ G (Instr.box 26 (r 0)) h fun g h=>o_ G (Instr.box 48 (r 1)) h fun j h=>o_ G (l_ 26 g) h fun s h=>o_ G (l_ 48 j) h fun u h=>
 c_ G 45 #[s,u] h fun w h=>o_ G (Op.unary .not w) h fun z h=>
 (fun q=>cond z
 (K .ret (upd q 4 (.slice none 0 0)) h)
 (aR0 G K q h))
 (u7 r 2 g 3 j 4 (.slice none 0 0) 10 s 11 u 12 w 13 z)
theorem enter48:Ent 66 48 [.tmp 4] S48:=ent_ (m:=md48) (c:=(Tryz.f48.body.getD .skip)) (fun _ _ _ _=>by kernel_rfl) Tryz.func48 rfl rfl rfl
end
section
variable (G:Hp) (K:EK) (r:Rg) (h:Hp)
def md28:Nat->Hint
 |_=>m0_
def S28:Prop:=
 o_ G (Instr.box 26 (r 0)) h fun g h=>o_ G (Instr.alloc 26 true (.tuple #[])) h fun j h=>o_ G (f_ 26 g 3) h fun s h=>o_ G (l_ 22 s) h fun u h=>o_ G (Builtin.append_ #[22,22] 22 #[(.slice none 0 0),u]) h fun w h=>o_ G (f_ 26 g 3) h fun z h=>
 y_ G (x_ 22 z w) h fun C h=>o_ G (f_ 26 g 4) h fun C h=>o_ G (l_ 22 C) h fun D h=>o_ G (Builtin.append_ #[22,22] 22 #[(.slice none 0 0),D]) h fun E h=>o_ G (f_ 26 g 4) h fun F h=>
 y_ G (x_ 22 F E) h fun I h=>o_ G (f_ 26 g 5) h fun I h=>o_ G (l_ 23 I) h fun J h=>o_ G (Builtin.append_ #[23,23] 23 #[(.slice none 0 0),J]) h fun L h=>o_ G (f_ 26 g 5) h fun M h=>
 y_ G (x_ 23 M L) h fun N h=>o_ G (f_ 26 g 6) h fun N h=>o_ G (l_ 24 N) h fun O h=>
 c_ G 71 #[O] h fun P h=>o_ G (f_ 26 g 6) h fun Q h=>
 y_ G (x_ 24 Q P) h fun U h=>o_ G (l_ 26 g) h fun U h=>
 y_ G (x_ 26 j U) h fun V h=>
 K .ret (u9 (u10 r 1 g 2 j 3 s 4 u 5 w 6 z 7 C 8 D 9 E 10 F) 11 I 12 J 13 L 14 M 15 N 16 O 17 P 18 Q 19 U) h
theorem enter28:Ent 20 28 [.cell 2 26] S28:=ent_ (m:=md28) (c:=(Tryz.f28.body.getD .skip)) (fun _ _ _ _=>by kernel_rfl) Tryz.func28 rfl rfl rfl
def md71:Nat->Hint
 |5=>mh false [0,0,0,6,14,30,0,0,192,448,960,1984,4094,8190,16383,32767] [n_,n_,n_,n_,n_,m_,n_,n_,n_,n_,m_,e_,n_,.alloc,e_,n_] (fs 11++[true]++fs 4) true
 |_=>m0_
def aP6 (G:Hp) (K:EK) (r:Rg) (h:Hp):Prop:=
 K .ret (u2 r 26 (r 3) 2 (r 3)) h
def P7:Prop:=
 o_ G (z1_ (r 4) (1:Int)) h fun g h=>
 K .normal (u3 r 9 (r 4) 10 g 4 g) h
def P8:Prop:=
 ∃h':Hp,h'.le h/\
 p_ (i_ 24 (r 0) (r 4)) h fun g h=>
 p_ (f_ 234 g 0) h fun j h=>
 w_ G h' (l_ 28 j) h fun s h=>
 p_ (i_ 24 (r 0) (r 4)) h fun u h=>
 p_ (f_ 234 u 1) h fun w h=>
 w_ G h' (l_ 168 w) h fun z h=>
 c_ G 122 #[z] h fun C h=>h'.le h/\
 p_ (Instr.build 234 #[(0,s),(1,C)]) h fun D h=>o_ G (Instr.buildSlice 24 1 #[(0,D)]) h fun E h=>o_ G (Builtin.append_ #[24,24] 24 #[r 3,E]) h fun F h=>
 P7 G K (u6 (u10 r 11 (r 3) 12 (r 0) 13 (r 4) 14 g 15 j 16 s 17 (r 0) 18 (r 4) 19 u 20 w) 21 z 22 C 23 D 24 E 25 F 3 F) h
def aP5 (r:Rg) (h:Hp) (K:EK):Prop:=
 o_ G (k_ 24 (r 0)) h fun g h=>o_ G (z2_ (r 4) g) h fun j h=>
 cond j
 (P8 G K (u4 r 5 (r 4) 6 (r 0) 7 g 8 j) h)
 (K (.exit 0) (u4 r 5 (r 4) 6 (r 0) 7 g 8 j) h)
def S71:Prop:=
 du (aP5 G) (u3 r 2 (.slice none 0 0) 3 (.slice none 0 0) 4 (.int .i64 0)) h (dc 0 (di (aP6 G K) K))
theorem enter71:Ent 27 71 [.tmp 2] S71:=ent_ (m:=md71) (c:=(Tryz.f71.body.getD .skip)) (fun _ _ _ _=>by kernel_rfl) Tryz.func71 rfl rfl rfl
def md122:Nat->Hint
 |_=>m0_
def S122:Prop:=
 o_ G (Builtin.append_ #[168,168] 168 #[(.slice none 0 0),r 0]) h fun g h=>
 K .ret (u4 r 2 (.slice none 0 0) 3 (r 0) 4 g 2 g) h
theorem aJ2:Ent 5 122 [.tmp 2] S122:=ent_ (m:=md122) (c:=(Tryz.f122.body.getD .skip)) (fun _ _ _ _=>by kernel_rfl) Tryz.func122 rfl rfl rfl
end
def bRpQ:=jq bC (jq (jq (jq (jq @aH_ @al30) (jq @bd30_ (jq @beq_self_eq_true.{0} @yu))) (jq (jq @Wq @D1) (jq @ab1 (jq @Dz @ab0)))) (jq (jq (jq @vq @Jn) (jq @ld3 (jq @ld30 @ld3p))) (jq (jq @A9 @yc) (jq @nq (jq @Ax @st3s)))))
def dxI (d:Int):Int:=if d=1 then 1 else if d=3 then -1 else 0
def dyI (d:Int):Int:=if d=0 then -1 else if d=2 then 1 else 0
def okS (d n:Int):Bool:=cj n 0 16&&cj d 0 3
def ir (p:Pose) (d n:Int):Pose:=⟨wr (p.x+n*dxI d),wr (p.y+n*dyI d),p.d⟩
def m8 (p:Pose) (d n:Int):Pose:=if okS d n=true then ir p d n else ⟨0,0,false⟩
theorem wr_bd (x:Int):Bd (wr x):=by unfold Bd wr IntKind.wrap;simp [IntKind.signed,IntKind.bits];omega
theorem Ob {x:Int} (h:Bd x):wr x=x:=by unfold Bd at h;exact ng (by omega) (by omega)
theorem Gu {p:Pose} {d n:Int}:PB (ir p d n):=⟨wr_bd _,wr_bd _⟩
theorem gh {n a b:Int}:cj n a b=true↔a<=n/\n<=b:=by unfold cj;simp only [ag_,aw_];try exact Iff.rfl
theorem lg.ne {G:Hp} (s:lg G) {x:Nat} (gx:G x=none):0≠x:=fun e=>by obtain ⟨a,b,s⟩:=s;subst e;rw [gx]at s;cases s
theorem Kd {G h:Hp} {g:Value} {p:Pose} {dir n:Int} (st:lg G):bn P_ G 155 #[g,mq p,dir,n] h (fun u h'=>u = .tuple #[mq (m8 p dir n),.bool (okS dir n)]/\h'=h):=by
 refine bn.assume fun d=>quietly (aG4 (by simp) ?_);unfold S155;simp (disch:=decide) only [bRpQ];intro x hx gx y hy gy;have l:=(dw (o := .cells #[p.x,p.y,.bool p.d] 30 (0,0)) hx).trans (dw (o := .cells #[(0:Int),(0:Int),.bool false] 30 (0,0)) hy);have exy:=ju hy;unfold m8 okS;try simp (disch:=first|decide|omega) only [bRpQ,Nat.reduceAdd,Nat.reduceMul]
 refine (kw (n:=n) (a:=0) (b:=16)).mono ?_;rintro _ _ ⟨rfl,rfl⟩;cases h1:cj n 0 16 with
 |false=>
  try simp (disch:=first|decide|exact b8|exact bw|omega|rfl) only [bRpQ]
  first|exact l|exact ⟨rfl,l⟩
 |true=>
 try simp only [bRpQ]
 refine (kw (n:=dir) (a:=0) (b:=3)).mono ?_;rintro _ _ ⟨rfl,rfl⟩;cases h2:cj dir 0 3 with
 |false=>
  try simp (disch:=first|decide|exact b8|exact bw|omega|rfl) only [bRpQ]
  first|exact l|exact ⟨rfl,l⟩
 |true=>
 have n0:=st.ne gx;have n1:=st.ne gy;have c0:=fun j=>st.cell d j;obtain ⟨a1,a2⟩:=gh.1 h2;obtain ⟨b1,b2⟩:=gh.1 h1;try simp (disch:=first|decide|exact b8|exact bw|omega|rfl) only [bRpQ]
 unfold af9;have hd:dir=0\/dir=1\/dir=2\/dir=3:=by omega
 have hy2:∀o,(h.set x o) y=none:=fun o=>by rw [ci (Ne.symm exy)];exact jx hy
 rcases hd with rfl|rfl|rfl|rfl
 . try simp -implicitDefEqProofs (maxSteps:=2000000) (disch:=first|decide|with_reducible exact aA_ rfl|exact b8|exact bw|omega|rfl|(simp;done)|fail) only [bRpQ,aa5 (by decide:(0:Int)<=0) (by decide:(0:Int)<(4:Nat)),show Int.toNat 0=0 from rfl,bH_,bv exy,bv n0,bv n1,c0,Hv,fk exy]
   exact ⟨rfl,(dw hx).trans (dw (hy2 _))⟩
 . try simp -implicitDefEqProofs (maxSteps:=2000000) (disch:=first|decide|with_reducible exact aA_ rfl|exact b8|exact bw|omega|rfl|(simp;done)|fail) only [bRpQ,Nat.reduceAdd,aa5 (by decide:(0:Int)<=1) (by decide:(1:Int)<(4:Nat)),show Int.toNat 1=1 from rfl,Nat.one_mul,bv exy,bv n0,bv n1,c0,Hv,fk exy]
   exact ⟨rfl,(dw hx).trans (dw (hy2 _))⟩
 . try simp -implicitDefEqProofs (maxSteps:=2000000) (disch:=first|decide|with_reducible exact aA_ rfl|exact b8|exact bw|omega|rfl|(simp;done)|fail) only [bRpQ,Nat.reduceAdd,Nat.reduceMul,aa5 (by decide:(0:Int)<=2) (by decide:(2:Int)<(4:Nat)),show Int.toNat 2=2 from rfl,bv exy,bv n0,bv n1,c0,Hv,fk exy]
   exact ⟨rfl,(dw hx).trans (dw (hy2 _))⟩
 . try simp -implicitDefEqProofs (maxSteps:=2000000) (disch:=first|decide|with_reducible exact aA_ rfl|exact b8|exact bw|omega|rfl|(simp;done)|fail) only [bRpQ,Nat.reduceAdd,Nat.reduceMul,aa5 (by decide:(0:Int)<=3) (by decide:(3:Int)<(4:Nat)),show Int.toNat 3=3 from rfl,bv exy,bv n0,bv n1,c0,Hv,fk exy]
   exact ⟨rfl,(dw hx).trans (dw (hy2 _))⟩
def dv (p:Pose) (d n:Int):Pose:=⟨if d=1 then wr (p.x+n)else if d=3 then wr (p.x-n)else p.x,if d=0 then wr (p.y-n)else if d=2 then wr (p.y+n)else p.y,p.d⟩
theorem xy {p:Pose} {d n:Int} (hp:PB p) (hd:0<=d/\d<=3):ir p d n=dv p d n:=by
 obtain ⟨h1,h2⟩:=hp;have hd:d=0\/d=1\/d=2\/d=3:=by omega
 have e:n * -1 = -n:=by omega
 rcases hd with rfl|rfl|rfl|rfl<;>simp [ir,dv,dxI,dyI,Ob h1,Ob h2,Int.mul_one,e,Int.sub_eq_add_neg]
theorem wg {G h:Hp} {p:Pose} {dir n:Int}:bn P_ G 99 #[mq p,dir,n] h (fun u h'=>u=mq (dv p dir n)/\h'=h):=by
 refine bn.assume fun d=>quietly (enter99 (by simp) ?_);unfold S99;simp only [bRpQ];intro x hx gx y hy gy;have exy:=ju hy;have hy2:∀o,(h.set x o) y=none:=fun o=>by rw [ci (Ne.symm exy)];exact jx hy
 unfold dv wr;by_cases h0:dir=0
 . subst h0;try simp (disch:=first|decide|exact b8|exact bw|omega|rfl) only [bRpQ,bv exy,fk exy]
   unfold xv;try simp -implicitDefEqProofs (maxSteps:=2000000) (disch:=first|decide|with_reducible exact aA_ rfl|exact b8|exact bw|omega|rfl|(simp;done)|fail) only [bRpQ,bv exy,fk exy]
   exact ⟨rfl,(dw hx).trans (dw (hy2 _))⟩
 by_cases h1:dir=1
 . subst h1;try simp (disch:=first|decide|exact b8|exact bw|omega|rfl) only [bRpQ,show ((1:Int)==0)=false from rfl,bv exy,fk exy]
   unfold xv;try simp -implicitDefEqProofs (maxSteps:=2000000) (disch:=first|decide|with_reducible exact aA_ rfl|exact b8|exact bw|omega|rfl|(simp;done)|fail) only [bRpQ,bv exy,fk exy]
   exact ⟨rfl,(dw hx).trans (dw (hy2 _))⟩
 by_cases h2:dir=2
 . subst h2;try simp (disch:=first|decide|exact b8|exact bw|omega|rfl) only [bRpQ,show ((2:Int)==0)=false from rfl,show ((2:Int)==1)=false from rfl,bv exy,fk exy]
   unfold xv;try simp -implicitDefEqProofs (maxSteps:=2000000) (disch:=first|decide|with_reducible exact aA_ rfl|exact b8|exact bw|omega|rfl|(simp;done)|fail) only [bRpQ,bv exy,fk exy]
   exact ⟨rfl,(dw hx).trans (dw (hy2 _))⟩
 by_cases h3:dir=3
 . subst h3;try simp (disch:=first|decide|exact b8|exact bw|omega|rfl) only [bRpQ,show ((3:Int)==0)=false from rfl,show ((3:Int)==1)=false from rfl,show ((3:Int)==2)=false from rfl,bv exy,fk exy]
   unfold xv;try simp -implicitDefEqProofs (maxSteps:=2000000) (disch:=first|decide|with_reducible exact aA_ rfl|exact b8|exact bw|omega|rfl|(simp;done)|fail) only [bRpQ,bv exy,fk exy]
   exact ⟨rfl,(dw hx).trans (dw (hy2 _))⟩
 try simp (disch:=first|decide|omega) only [bRpQ,beq_eq_false_iff_ne.2 h0,beq_eq_false_iff_ne.2 h1,beq_eq_false_iff_ne.2 h2,beq_eq_false_iff_ne.2 h3]
 unfold xv;try simp (disch:=first|decide|exact b8|exact bw|omega|rfl) only [bRpQ,bv exy,fk exy]
 exact ⟨by rw [ah_ h1,ah_ h3,ah_ h0,ah_ h2],(dw hx).trans (dw (hy2 _))⟩
def bRpR:=jq bC (jq (jq (jq @ad9 @cf82) (jq @zq @D1)) (jq (jq @Dz @ld26) (jq @ld28 (jq @ld3 @true_and))))
def numR (C:Conf) (c:Cell):Int:=if inB C c=true then c.2*C.w+c.1 else -1
theorem inB_iff {C:Conf} {c:Cell}:inB C c=true↔0<=c.1/\0<=c.2/\c.1<C.w/\c.2<C.h:=by unfold inB;simp only [ag_,aw_,ge_iff_le]
theorem Q7 {G h:Hp} {v:Value} {C:Conf} {c:Cell} (hv:CV G h v C) (hw:C.w<=16) (hh:C.h<=16):bn P_ G 41 #[v,ww c] h (fun u h'=>u = .int .i64 (numR C c)/\h'=h):=by
 have hv0:=hv;obtain ⟨ab,cb,ap,cp,ar,cr,az,cs,rfl,ca⟩:=hv;refine bn.assume fun d=>quietly (enter41 (by simp) ?_);unfold S41;simp only [bRpR];intro x hx gx;generalize e1:Hp.set h x _=h1;obtain ⟨l1,d1,b1⟩:=boxed e1 hx d gx;intro y hy gy;generalize e2:Hp.set h1 y _=h2;obtain ⟨l2,d2,b2⟩:=boxed e2 hy d1 gy;have cx:∀k,bf G h2 ⟨x,k,none⟩=_:=fun k=>bm (bj (l2 _ _ b1));have cy:∀k,bf G h2 ⟨y,k,none⟩=_:=fun k=>bm (bj b2);have ca2:=ca.up (l1.trans l2) d2;try simp only [bRpR,cx,cy]
 refine (Jl ca2.cv).mono ?_;rintro _ _ ⟨rfl,rfl⟩;unfold numR;cases hc:inB C c with
 |false=>try simp only [bRpR,hc];exact ⟨by simp,l1.trans l2⟩
 |true=>
 obtain ⟨a1,a2,a3,a4⟩:=inB_iff.1 hc;have hm:0<=c.2*C.w/\c.2*C.w<=15*16:=⟨Int.mul_nonneg (by omega) (by omega),bx_ (by omega) (by omega) (by omega) (by omega)⟩;try simp only [bRpR]
 unfold aS1;try simp (disch:=first|decide|omega) only [bRpR,cx,cy]
 first|exact l1.trans l2|exact ⟨by simp,l1.trans l2⟩
theorem ze {G h:Hp} {a n:Int} (ha:Bd a) (hn:0<n) (hn2:n<=4611686018427387904):bn P_ G 25 #[a,n] h (fun v h'=>v = .int .i64 (a % n)/\h'=h):=by
 refine quietly (ad0 (by simp) ?_);obtain ⟨ha1,ha2⟩:=ha;unfold S25
 have e1:a.tmod n=if 0<=a\/a % n=0 then a % n else a % n-n:=by
  rw [Int.tmod_eq_emod];have:(n.natAbs:Int)=n:=by omega
  by_cases h0:0<=a
  . simp [h0]
  . simp [h0,this,Int.dvd_iff_emod_eq_zero];split<;>omega
 have hb:=Int.emod_nonneg a (show n≠0 by omega);have hb2:=Int.emod_lt_of_pos a hn;simp (disch:=first|decide|omega) only [bRpR];by_cases hc:0<=a\/a % n=0
 . rw [ak_ hc]at e1;rw [e1,kc (show ¬a % n<0 by omega)];simp only [bRpR];unfold Ho;simp (disch:=decide) only [bRpR];exact Hp.le.refl h
 . rw [ah_ hc]at e1;have:a % n≠0:=fun e=>hc (.inr e);rw [e1,js (show a % n-n<0 by omega)];simp only [bRpR];unfold Ho;simp only [bRpR];exact ⟨by congr 1;omega,Hp.le.refl h⟩
structure Move where
 k:Int
 d:Int
 n:Int
 f:Pose
 t:Pose
 a:Int
 e:Int
 deriving DecidableEq
abbrev E7 (m:Move):Value := .agg #[m.k,m.d,m.n,m.f.x,m.f.y,.bool m.f.d,m.t.x,m.t.y,.bool m.t.d,m.a,m.e]
def Yl {α:Type} (enc:α->Value) (G:Hp) (y:Value) (Y Z:List α->Hp->Prop) (c:List α->Bool):Prop:=
 ∀(L:List α) (m:α) (a q h:Hp),Y L a->Sep [a,q] h->Dis G h->
  opH P_ G (jh y #[enc m]) h (fun v h'=>∃a',v = .bool (c (L++[m]))/\Sep [a',q] h'/\Dis G h'/\(if c (L++[m])=true then Y (L++[m]) a' else Z (L++[m]) a'))
def feed {α:Type} (c:List α->Bool):List α->List α->List α × Bool
 |L,[]=>(L,true)
 |L,m::M=>if c (L++[m])=true then feed c (L++[m]) M else (L++[m],false)
theorem La {α:Type} {c:List α->Bool} {L M:List α} {m:α} (h:c (L++[m])=true):feed c L (m::M)=feed c (L++[m]) M:=by rw [feed,ak_ h]
theorem R6 {α:Type} {c:List α->Bool} {L M:List α} {m:α} (h:c (L++[m])=false):feed c L (m::M)=(L++[m],false):=by rw [feed,ah_ (by simp [h])]
def C7 {α:Type} (k:Int) (L:List α):Bool:=decide ((L.length:Int)<k)
theorem Cu {α:Type} {k:Int}:∀{M L:List α},(L.length:Int)<k->feed (C7 k) L M=(L++M.take (k.toNat-L.length),decide (((L++M).length:Int)<k))
 |[],L,h=>by simp [feed,h]
 |m::M,L,h=>by
  have e1:k.toNat-L.length=(k.toNat-(L++[m]).length)+1:=by rw [ae_,a2_];omega
  by_cases h2:((L++[m]).length:Int)<k
  . rw [La (by unfold C7;exact af_ h2),Cu h2,e1,cd_];simp
  . rw [R6 (by unfold C7;exact ai_ h2)];rw [ae_,a2_]at h2;have e2:k.toNat-(L++[m]).length=0:=by rw [ae_,a2_];omega
    rw [e1,e2];simp only [cd_,List.take_zero,ae_,an_,Prod.mk.injEq,true_and];symm;apply ai_;omega
def Fin {α:Type} (T:List α × Bool) (Y Z:List α->Hp->Prop) (a:Hp):Prop:=if T.2=true then Y T.1 a else Z T.1 a
def jm {α:Type} (ok:Nat->Bool) (mk:Nat->α):Nat->Nat->List α
 |_,0=>[]
 |n,k+1=>if ok n=true then mk n::jm ok mk (n+1) k else []
def ka {α:Type} (D:Nat->List α):Nat->Nat->List α
 |_,0=>[]
 |i,k+1=>D i++ka D (i+1) k
def E4 (w k:Nat) (f:Nat->Nat->Int) (p:Pose) (d n:Nat):Bool:=eu w k f (ir p d n)
def ym (p:Pose) (d n:Nat):Move:=⟨1,d,n,p,ir p d n,0,0⟩
def runD (w k:Nat) (f:Nat->Nat->Int) (p:Pose) (d:Nat):List Move:=jm (E4 w k f p d) (ym p d) 1 16
def Hz (w k:Nat) (f:Nat->Nat->Int) (p:Pose):List Move:=ka (runD w k f p) 0 4
def RunsR (G q:Hp) (Y Z:List Move->Hp->Prop) (T:List Move × Bool) (h':Hp):Prop:=∃a',Sep [a',q] h'/\Dis G h'/\Fin T Y Z a'
theorem RunsR.go {G q a h':Hp} {Y Z:List Move->Hp->Prop} {T:List Move × Bool} {L:List Move} {c:List Move->Bool} (s:Sep [a,q] h') (d:Dis G h') (y:Y L a) (e:feed c L []=T):RunsR G q Y Z T h':=by subst e;exact ⟨a,s,d,y⟩
def bRpU:=jq bC (jq (jq (jq (jq (jq @bz_ @al28) (jq @al30 (jq @yw @au2))) (jq (jq @Lp @pd) (jq @Bz (jq @cf127 @cf155)))) (jq (jq (jq @cf156 @cf61) (jq @cf62 (jq @cf89 @eq30p))) (jq (jq @D1 @Dz) (jq @vq (jq @Jn @fa30_1p))))) (jq (jq (jq (jq @Dx @R8) (jq @Lb (jq @R7 @Yh))) (jq (jq @aa9 @Jm) (jq @ld28 (jq @yp @ld3)))) (jq (jq (jq @ld30 @rz) (jq @ld3p (jq @ld48 @ld4p))) (jq (jq @ln22 @nq) (jq @Ud (jq @Ax @true_and))))))
def gj (c:Cell):List Cell:=[(c.1,c.2),(wr (c.1+1),c.2),(c.1,wr (c.2+1)),(wr (c.1+1),wr (c.2+1))]
theorem Ue {G h:Hp} {c:Cell}:bn P_ G 156 #[ww c] h (fun u h'=>∃ip s,u = .slice s 4 4/\Slc dy 28 ip u (gj c)/\Sep [ip,h] h'/\Dis G h'):=by
 refine bn.assume fun d=>aG3 (by simp) ?_;unfold S156;simp only [bRpU];intro x hx gx;generalize e1:Hp.set h x _=h1;obtain ⟨l1,d1,b1⟩:=boxed e1 hx d gx;have cx:∀j,bf G h1 ⟨x,j,none⟩=_:=fun j=>bm (bj b1);try simp (disch:=first|decide|omega) only [bRpU,Nat.reduceAdd,Nat.reduceMul,cx]
 intro b hb gb;refine ⟨noHp.set b _,some ⟨b,0,none⟩,rfl,⟨some b,4,[],rfl,bh,rfl⟩,(Sep.one.new (hb)).swap.cut l1 |>.swap,d1.set gb⟩
def ry (w k:Nat) (f:Nat->Nat->Int) (m:Move) (i:Nat):Bool:=okS m.d i&&eu w k f (ir m.f m.d i)
def Av (p:Pose):Pose:=⟨p.x,p.y,!p.d⟩
def wayB (w k:Nat) (f:Nat->Nat->Int) (m:Move):Bool:=eu w k f m.f&&
 (if m.k=1 then decide (1<=m.n)&&((List.range (m.n.toNat+1)).all (ry w k f m)&&decide (m.t=ir m.f m.d m.n))
  else decide (m.d=0/\m.n=0)&&(if m.k=2 then (gj (m.f.x,m.f.y)).all (qe w k f)&&decide (m.t=Av m.f)else decide (m.k=3\/m.k=4)&&decide (m.t=m.f)))
def wayL (m:Move):List Cell:=if m.k=1 then (List.range (m.n.toNat+1)).flatMap (fun (i:Nat)=>dj (ir m.f m.d i))else if m.k=2 then gj (m.f.x,m.f.y)else dj m.f
def WayR (G h:Hp) (w k:Nat) (f:Nat->Nat->Int) (m:Move) (u:Value) (h':Hp):Prop:=
 ∃ip v L,u = .tuple #[v,.bool (wayB w k f m)]/\Slc dy 28 ip v L/\Sep [ip,h] h'/\Dis G h'/\(wayB w k f m=true->L=wayL m)
theorem WayR.no {G h h':Hp} {w k:Nat} {f:Nat->Nat->Int} {m:Move} (l:h.le h') (d:Dis G h') (e:wayB w k f m=false):WayR G h w k f m (.tuple #[.slice none 0 0,.bool false]) h':=
 ⟨noHp,_,[],by rw [e],Slc.nil,(Sep.one.le l).none,d,fun q=>by rw [e]at q;cases q⟩
theorem WayR.less {G h0 h h':Hp} {w k:Nat} {f:Nat->Nat->Int} {m:Move} {u:Value} (l:h0.le h) (x:WayR G h w k f m u h'):WayR G h0 w k f m u h':=by obtain ⟨ip,v,L,e1,e2,s,d,e3⟩:=x;exact ⟨ip,v,L,e1,e2,(s.swap.cut l).swap,d,e3⟩
structure MB (m:Move):Prop where
 n:Bd m.n
 f:PB m.f
theorem sj {p q:Pose}:((p.x==q.x&&p.y==q.y)&&(p.d==q.d))=decide (p=q):=by obtain ⟨a,b,c⟩:=p;obtain ⟨a',b',c'⟩:=q;rw [a6_];simp [and_assoc]
theorem store30 {G h:Hp} {lb:Nat} {z0 z1 z2:Value} {p:Pose} {K:Unit->Hp->Prop} (hb:h lb=some (.cells #[z0,z1,z2] 30 (0,0))):
 wpH P_ G (Instr.storeAt 30 (.pointer (some ⟨lb,0,none⟩)) (mq p)) h K=K () (h.set lb (.cells #[p.x,p.y,.bool p.d] 30 (0,0))):=by
 conv=>lhs;rw [<- Az hb]
 exact Ax
theorem fq {w:Bool} {X:(Value->Hp->Prop)->Prop} {h:Hp} {K:VK}:gd (J1 undef w) X h K=K undef h:=by cases w<;>rfl
abbrev jy (m:Move):Obj := .cells #[m.k,m.d,m.n,m.f.x,m.f.y,.bool m.f.d,m.t.x,m.t.y,.bool m.t.d,m.a,m.e] 48 (0,0)
def Ia (m:Move) (i:Nat):Pose:=if i=0 then m.f else ir m.f m.d ((i:Int)-1)
theorem Bb {s:Nat->Bool} {i:Nat} (h:∀j,j<i->s j=true) (hs:s i=true):∀j,j<i+1->s j=true:=fun j hj=>by
 rcases cg_.1 hj with h1|rfl
 . exact h j h1
 . exact hs
theorem ar6 {α:Type} {F:Nat->List α} {i:Nat}:(List.range (i+1)).flatMap F=(List.range i).flatMap F++F i:=by rw [bO_,be_];simp
theorem J0 {w k:Nat} {f:Nat->Nat->Int} {m:Move} (hk:m.k=1):wayB w k f m=(eu w k f m.f&&(decide (1<=m.n)&&((List.range (m.n.toNat+1)).all (ry w k f m)&&decide (m.t=ir m.f m.d m.n)))):=by unfold wayB;rw [ak_ hk]
theorem way_run {G h h1 h0:Hp} {x lb w k:Nat} {g:Value} {f:Nat->Nat->Int} {m:Move} {r:Rg} (gs:GS G h1 g w k f) (st:lg G) (nb:Bd m.n) (hf:eu w k f m.f=true) (hk:m.k=1)
 (bx:h1 x=some (jy m)) (g0:r 0=g) (g3:r 3 = .pointer (some ⟨x,0,none⟩)) (g6:r 6 = .slice none 0 0) (g7:r 7 = .pointer (some ⟨lb,0,none⟩)) (g8:r 8 = .int .i64 0)
 (s:Sep [noHp.set lb (.cells #[m.f.x,m.f.y,.bool m.f.d] 30 (0,0)),h1] h) (d:Dis G h) (l0:h0.le h1):
 du (Ts G) r h (dc 1 (di (Tu G (retK P_ G [.tmp 4,.tmp 5] (WayR G h0 w k f m))) (dc 0 (di (C1 G (retK P_ G [.tmp 4,.tmp 5] (WayR G h0 w k f m))) (retK P_ G [.tmp 4,.tmp 5] (WayR G h0 w k f m)))))):=by
 refine dt (fun mm r2 h3=>∃(i:Nat) (ip:Hp) (sv:Value),mm=18-i/\i<=17/\(m.n<0->i=0)/\(0<=m.n->(i:Int)<=m.n+1)/\r2 0=g/\r2 3 = .pointer (some ⟨x,0,none⟩)/\r2 7 = .pointer (some ⟨lb,0,none⟩)/\r2 8 = .int .i64 i/\r2 6=sv/\
  Slc dy 28 ip sv ((List.range i).flatMap fun (j:Nat)=>dj (ir m.f m.d j))/\Sep [ip,noHp.set lb (.cells #[(Ia m i).x,(Ia m i).y,.bool (Ia m i).d] 30 (0,0)),h1] h3/\Dis G h3/\(∀j,j<i->ry w k f m j=true)) ?_
  (m:=18) ⟨0,noHp,_,rfl,by decide,fun _=>rfl,fun h=>by simp;omega,g0,g3,g7,g8,g6,Slc.nil,by simpa [Ia]using s.none,d,by simp⟩
 rintro mm r2 h3 ⟨i,ip,sv,rfl,hi,hneg,hpos,q0,q3,q7,q8,q6,o,s3,d3,hs⟩ X HX;have bx3:=s3.at 2 rfl bx;have cx:∀j,bf G h3 ⟨x,j,none⟩=_:=fun j=>bm (bj bx3);unfold Ts;simp only [bRpU,q3,q8,cx];refine df (fun hle=>?_) (fun hgt=>?_);rotate_left
 . try simp (disch:=first|decide|omega) only [bRpU,Nat.reduceAdd,Nat.reduceMul]
   unfold Tu;have cl:∀j,bf G h3 ⟨lb,j,none⟩=_:=fun j=>bm (bj (s3.at 1 rfl bh));try simp (disch:=decide) only [bRpU,q3,q7,cx]
   by_cases h1n:1<=m.n
   . have e1:decide (m.n>=1)=true:=af_ h1n;have hin:(i:Int)=m.n+1:=by have:=hpos (by omega);omega
     have elast:Ia m i=ir m.f m.d m.n:=by unfold Ia;rw [ah_ (by omega),show (i:Int)-1=m.n by omega]
     have eall:(List.range (m.n.toNat+1)).all (ry w k f m)=true:=by rw [az_];intro j hj;exact hs j (by have:=aM_.1 hj;omega)
     try simp only [bRpU,Nat.reduceAdd,e1,q3,q7,cx,cl,sj,q6]
     rw [elast];have ew:wayB w k f m=decide (m.t=ir m.f m.d m.n):=by rw [J0 hk,hf,eall,af_ h1n];simp
     refine WayR.less l0 ⟨ip,sv,_,?_,o,(s3.pick 1 rfl rfl).drop,d3,fun _=>?_⟩
     . rw [ew]
     . unfold wayL;rw [ak_ hk,show m.n.toNat+1=i by omega]
   . have e1:decide (m.n>=1)=false:=ai_ (by omega);try simp only [bRpU,e1,q6]
     have ew:wayB w k f m=false:=by rw [J0 hk,ai_ (show ¬1<=m.n from h1n)];simp
     refine WayR.less l0 ⟨ip,sv,_,by rw [ew],o,(s3.pick 1 rfl rfl).drop,d3,fun q=>by rw [ew]at q;cases q⟩
 unfold Na;try simp (disch:=decide) only [bRpU,Nat.reduceAdd,q0,q3,q8,cx]
 refine (Kd (p:=m.f) (dir:=m.d) (n:=(i:Int)) st).mono ?_;rintro _ h3 ⟨rfl,rfl⟩;try simp (disch:=first|decide|exact b8|exact bw|omega|rfl) only [bRpU]
 intro y hy gy;have s4:=s3.past (o := .cells #[(m8 m.f m.d i).x,(m8 m.f m.d i).y,.bool (m8 m.f m.d i).d] 30 (0,0)) hy;have hy4:(h3.set y (.cells #[(m8 m.f m.d i).x,(m8 m.f m.d i).y,.bool (m8 m.f m.d i).d] 30 (0,0))) y=some (.cells #[(m8 m.f m.d i).x,(m8 m.f m.d i).y,.bool (m8 m.f m.d i).d] 30 (0,0)):=bh;have sg:=(s3.pick 2 rfl rfl).grow (o := .cells #[(m8 m.f m.d i).x,(m8 m.f m.d i).y,.bool (m8 m.f m.d i).d] 30 (0,0)) hy;have d4:=d3.set (o := .cells #[(m8 m.f m.d i).x,(m8 m.f m.d i).y,.bool (m8 m.f m.d i).d] 30 (0,0)) gy;generalize Hp.set h3 y _=h4 at s4 hy4 d4 sg ⊢
 have hin:ry w k f m i=false->0<=m.n->wayB w k f m=false:=fun e h0=>by
  rw [J0 hk];have:(List.range (m.n.toNat+1)).all (ry w k f m)=false:=by rw [bI_];exact ⟨i,aM_.2 (by omega),by simp [e]⟩
  rw [this];simp
 have h0n:0<=m.n:=by omega
 have cy:∀j,bf G h4 ⟨y,j,none⟩=_:=fun j=>bm (bj hy4);cases hok:okS m.d i with
 |false=>
  try simp only [bRpU]
  exact WayR.less l0 <| WayR.no (s4.in 2 rfl) d4 (hin (by unfold ry;rw [hok];rfl) h0n)
 |true=>
 have hi16:i<=16:=by unfold okS at hok;rw [ag_]at hok;have:=(gh.1 hok.1).2;omega
 have esh:m8 m.f m.d i=ir m.f m.d i:=by unfold m8;rw [ak_ hok]
 rw [esh]at cy hy4 sg;try simp only [bRpU,cy]
 refine (p8 (p:=ir m.f m.d i) (gs.up (s4.in 2 rfl) d4) st Gu).mono ?_;rintro _ h4 ⟨rfl,rfl⟩;cases hfi:eu w k f (ir m.f m.d i)with
 |false=>
  try simp only [bRpU]
  exact WayR.less l0 <| WayR.no (s4.in 2 rfl) d4 (hin (by unfold ry;rw [hok,hfi];rfl) h0n)
 |true=>
 try simp only [bRpU]
 unfold M8;try simp (disch:=decide) only [bRpU,q0,q6,cy]
 refine (qy (g:=g) (p:=ir m.f m.d i) st Gu).mono ?_;rintro _ _ ⟨b,rfl,hb,gb,rfl⟩;generalize e5:Hp.set h4 b _=h5;obtain ⟨l5,d5,b5⟩:=boxed e5 hb d4 gb;have s5:=(sg.le l5).pick 1 rfl rfl;have hlen:((List.range i).flatMap fun (j:Nat)=>dj (ir m.f m.d j)).length=2*i:=by rw [List.length_flatMap,show (fun (j:Nat)=>(dj (ir m.f m.d j)).length)=fun _=>2 from rfl,List.map_const',List.sum_replicate_nat,List.length_range,bi_]
 try simp (disch:=first|decide|omega) only [bRpU,Nat.reduceAdd,Nat.reduceMul]
 refine fh dy (by decide) un22 eocell (by decide) (by decide) (M:=dj (ir m.f m.d i)) s5 d5 o (Sees.row b5 rfl (aj_ _)) (by rw [hlen,show (dj (ir m.f m.d i)).length=2 from rfl];omega) fun v' a' h6 o' s6 d6=>?_;have cy6:∀j,bf G h6 ⟨y,j,none⟩=_:=fun j=>bm (bj (s6.at 1 rfl bh));have hlb6:=s6.at 2 rfl bh;try simp only [bRpU,cy6,q7]
 rw [store30 (p:=ir m.f m.d i) hlb6];have hy1:h1 y=none:=(s3.in 2 rfl).none hy;have s7:=((s6.pick 2 rfl rfl).put (o := .cells #[(ir m.f m.d i).x,(ir m.f m.d i).y,.bool (ir m.f m.d i).d] 30 (0,0)) bh);rw [set_set]at s7;have s8:=((s7.pick 2 rfl rfl).cut (dw hy1));have s9:=(s8.pick 1 rfl rfl).pick 2 rfl rfl;have d9:Dis G (h6.set lb (.cells #[(ir m.f m.d i).x,(ir m.f m.d i).y,.bool (ir m.f m.d i).d] 30 (0,0))):=d6.set (d6 _ _ hlb6);unfold M9;try simp (disch:=first|decide|omega) only [bRpU,q8]
 have el:Ia m (i+1)=ir m.f m.d i:=by unfold Ia;rw [ah_ (by omega),show ((i+1:Nat):Int)-1=i by omega]
 refine HX (18-(i+1)) _ _ (by omega) ⟨i+1,a',v',rfl,by omega,fun h=>absurd h (by omega),fun h=>by omega,by simp (disch:=decide) only [bRpU,q0],by simp (disch:=decide) only [bRpU,q3],by simp (disch:=decide) only [bRpU,q7],by simp only [bRpU]<;>rfl,by simp (disch:=decide) only [bRpU],?_,?_,d9,Bb hs (by unfold ry;rw [hok,hfi];rfl)⟩
 . rw [ar6];exact o'
 . rw [el];exact s9
theorem Od {w k:Nat} {f:Nat->Nat->Int} {m:Move} (hf:eu w k f m.f=true) (hk:m.k=2) (hz:m.d=0/\m.n=0):wayB w k f m=((gj (m.f.x,m.f.y)).all (qe w k f)&&decide (m.t=Av m.f)):=by unfold wayB;rw [ah_ (by omega),ak_ hk,hf,af_ hz];simp
theorem Oe {w k:Nat} {f:Nat->Nat->Int} {m:Move} (hf:eu w k f m.f=true) (hk1:m.k≠1) (hk:m.k≠2) (hz:m.d=0/\m.n=0):wayB w k f m=(decide (m.k=3\/m.k=4)&&decide (m.t=m.f)):=by unfold wayB;rw [ah_ hk1,ah_ hk,hf,af_ hz];simp
theorem av1 {G h h1 h0 ip:Hp} {x w k:Nat} {g sv:Value} {f:Nat->Nat->Int} {m:Move} {r:Rg} (gs:GS G h1 g w k f) (hf:eu w k f m.f=true) (hk:m.k=2) (hz:m.d=0/\m.n=0)
 (bx:h1 x=some (jy m)) (g0:r 0=g) (g3:r 3 = .pointer (some ⟨x,0,none⟩)) (g11:r 11=sv) (g84:r 84=sv) (g85:r 85 = .int .i64 4) (g86:r 86 = .int .i64 0)
 (o:Slc dy 28 ip sv (gj (m.f.x,m.f.y))) (s:Sep [ip,h1] h) (d:Dis G h) (l0:h0.le h1):
 du (Nb G) r h (dc 3 (di (Tt G (retK P_ G [.tmp 4,.tmp 5] (WayR G h0 w k f m))) (dc 0 (di (C1 G (retK P_ G [.tmp 4,.tmp 5] (WayR G h0 w k f m))) (retK P_ G [.tmp 4,.tmp 5] (WayR G h0 w k f m)))))):=by
 obtain ⟨sa,cap,rfl,hcap⟩:=o.len (by decide)
 refine dt (fun mm r2 h3=>∃(i:Nat),mm=4-i/\i<=4/\r2 0=g/\r2 3 = .pointer (some ⟨x,0,none⟩)/\r2 11=r 11/\r2 84=r 84/\r2 85 = .int .i64 4/\r2 86 = .int .i64 i/\Sep [ip,h1] h3/\Dis G h3/\((gj (m.f.x,m.f.y)).take i).all (qe w k f)=true) ?_
  (m:=4) ⟨0,rfl,by decide,g0,g3,rfl,rfl,g85,g86,s,d,by simp⟩
 rintro mm r2 h3 ⟨i,rfl,hi,q0,q3,q11,q84,q85,q86,s3,d3,hs⟩ X HX;rw [g11]at q11;rw [g84]at q84;have bx3:=s3.at 1 rfl bx;have cx:∀j,bf G h3 ⟨x,j,none⟩=_:=fun j=>bm (bj bx3);unfold Nb;simp only [bRpU,q85,q86];refine df (fun hlt=>?_) (fun hge=>?_);rotate_left
 . obtain rfl:i=4:=by omega
   try simp (disch:=first|decide|omega) only [bRpU,Nat.reduceAdd,Nat.reduceMul]
   unfold Tt;try simp (disch:=decide) only [bRpU,Nat.reduceAdd,q3,q11,cx,sj]
   rw [am_ (show (gj (m.f.x,m.f.y)).length<=4 from aj_ 4)]at hs;refine WayR.less l0 ⟨ip,_,_,?_,o,s3,d3,fun _=>?_⟩
   . rw [Od hf hk hz,hs,aH_,<- sj];rfl
   . unfold wayL;rw [ah_ (by omega),ak_ hk]
 have hlt':i<4:=by omega
 obtain ⟨y,hy⟩:∃y,(gj (m.f.x,m.f.y))[i]?=some y:=⟨_,aa_ (by simpa [gj]using hlt')⟩;obtain ⟨b,ofs,rfl,z0,z1⟩:=Sees.cell (G:=G) (o.sees (by decide) (s3.in 0 rfl)) hy;unfold Gn;try simp (disch:=first|decide|exact b8|exact bw|omega|rfl) only [bRpU,q0,q84,q86,ix22 (ac_ i) (show (i:Int)<(gj (m.f.x,m.f.y)).length from hlt),z0,z1]
 intro t ht gt;have s4:=s3.past (o := .cells #[y.1,y.2] 28 (0,0)) ht;have d4:=d3.set (o := .cells #[y.1,y.2] 28 (0,0)) gt;try simp (disch:=first|decide|omega) only [bRpU,Nat.reduceAdd,Nat.reduceMul]
 generalize Hp.set h3 t _=h4 at s4 d4 ⊢;refine (Ck (c:=y) (gs.up (s4.in 1 rfl) d4)).mono ?_;rintro _ _ ⟨rfl,rfl⟩;have hym:y∈gj (m.f.x,m.f.y):=ab_ hy;cases hc:qe w k f y with
 |false=>
  try simp only [bRpU]
  refine WayR.less l0 <| WayR.no (s4.in 1 rfl) d4 ?_
  rw [Od hf hk hz];have:(gj (m.f.x,m.f.y)).all (qe w k f)=false:=by rw [bI_];exact ⟨y,hym,by simp [hc]⟩
  rw [this];rfl
 |true=>
  try simp only [bRpU]
  unfold Gm;try simp (disch:=first|decide|omega) only [bRpU,q86]
  refine HX (4-(i+1)) _ _ (by omega) ⟨i+1,rfl,hlt',by simp (disch:=decide) only [bRpU,q0],by simp (disch:=decide) only [bRpU,q3],by simp (disch:=decide) only [bRpU,q11,g11],by simp (disch:=decide) only [bRpU,q84,g84],by simp (disch:=decide) only [bRpU,q85],by simp only [bRpU]<;>rfl,s4,d4,?_⟩;rw [aL_,hy];simp [hs,hc]
theorem T4 {G h:Hp} {g:Value} {w k:Nat} {f:Nat->Nat->Int} {m:Move} (gs:GS G h g w k f) (st:lg G) (mb:MB m):bn P_ G 127 #[g,E7 m] h (WayR G h w k f m):=by
 obtain ⟨nb,fb⟩:=mb;refine bn.assume fun d=>aI7 (by simp) ?_;unfold S127;simp (disch:=decide) only [bRpU,Nat.reduceAdd];intro x hx gx;generalize e1:Hp.set h x _=h1;obtain ⟨l1,d1,b1⟩:=boxed e1 hx d gx;have gs1:=gs.up l1 d1;have cx:∀j,bf G h1 ⟨x,j,none⟩=_:=fun j=>bm (bj b1);try simp (disch:=first|decide|omega) only [bRpU,Nat.reduceAdd,Nat.reduceMul,cx]
 refine (p8 (p:=m.f) gs1 st fb).mono ?_;rintro _ h1 ⟨rfl,rfl⟩;cases hf:eu w k f m.f with
 |false=>
  try simp only [bRpU]
  exact WayR.no l1 d1 (by unfold wayB;rw [hf];rfl)
 |true=>
 try simp only [bRpU]
 unfold aj5;try simp (disch:=decide) only [bRpU,cx]
 by_cases hk1:m.k=1
 . try simp only [bRpU,fq,show (m.k != 1)=false by simp [hk1]]
   unfold Tv;try simp (disch:=first|decide|exact b8|exact bw|omega|rfl) only [bRpU,Nat.reduceAdd,cx,show (m.k==1)=true by simp [hk1]]
   intro lb hlb glb;try simp (disch:=first|decide|omega) only [bRpU,Nat.reduceAdd,Nat.reduceMul]
   exact way_run gs1 st nb hf hk1 b1 (by simp (disch:=decide) only [bRpU]) (by simp (disch:=decide) only [bRpU]) (by simp (disch:=decide) only [bRpU]) (by simp (disch:=decide) only [bRpU]) (by simp only [bRpU]) (Sep.one.new hlb) (d1.set glb) l1
 have ek1:(m.k != 1)=true:=by simp [hk1]
 have ek1':(m.k==1)=false:=by simp [hk1]
 by_cases hz:m.d=0/\m.n=0;rotate_left
 . have ew:wayB w k f m=false:=by unfold wayB;rw [ah_ hk1,ai_ hz];simp
   by_cases hd:m.d=0
   . have hn:(m.n != 0)=true:=by have:m.n≠0:=fun e=>hz ⟨hd,e⟩;simp [this]
     try simp only [bRpU,cx,ek1,hn,show (m.d != 0)=false by simp [hd]]
     exact WayR.no l1 d1 ew
   . try simp only [bRpU,cx,fq,ek1,show (m.d != 0)=true by simp [hd]]
     exact WayR.no l1 d1 ew
 try simp only [bRpU,cx,ek1,show (m.d != 0)=false by simp [hz.1],show (m.n != 0)=false by simp [hz.2]]
 unfold Tv;by_cases hk2:m.k=2
 . try simp (disch:=first|decide|exact b8|exact bw|omega|rfl) only [bRpU,Nat.reduceAdd,cx,ek1',show (m.k==2)=true by simp [hk2]]
   refine (Ue (c:=(m.f.x,m.f.y))).mono ?_;rintro _ h2 ⟨ip,sa,rfl,o,s2,d2⟩;try simp only [bRpU]
   exact av1 gs1 hf hk2 hz b1 (by simp (disch:=decide) only [bRpU]) (by simp (disch:=decide) only [bRpU]) (by simp (disch:=decide) only [bRpU]) (by simp (disch:=decide) only [bRpU]) (by simp (disch:=decide) only [bRpU]<;>rfl) (by simp only [bRpU]) o s2 d2 l1
 have ek2:(m.k==2)=false:=by simp [hk2]
 by_cases hk34:m.k=3\/m.k=4;rotate_left
 . have ew:wayB w k f m=false:=by rw [Oe hf hk1 hk2 hz,ai_ hk34];rfl
   try simp (disch:=first|decide|exact b8|exact bw|omega|rfl) only [bRpU,Nat.reduceAdd,cx,ek1',ek2,show (m.k==3)=false by simp;omega,show (m.k==4)=false by simp;omega]
   unfold Cc;try simp (disch:=decide) only [bRpU,Nat.reduceAdd]
   unfold C1;try simp (disch:=decide) only [bRpU]
   exact WayR.no l1 d1 ew
 have k13:∀r:Rg,r 0=g->r 3 = .pointer (some ⟨x,0,none⟩)->r 107 = .bool true->Cc G (retK P_ G [.tmp 4,.tmp 5] (WayR G h w k f m)) r h1:=by
  intro r g0 g3 g107;unfold Cc;simp (disch:=decide) only [bRpU,g107];refine ⟨h1,Hp.le.refl _,?_⟩;try simp only [bRpU,Nat.reduceAdd,g0,g3,cx]
  refine (qy (g:=g) (p:=m.f) st fb).mono ?_;rintro _ _ ⟨b,rfl,hb,gb,rfl⟩;refine ⟨dw hb,?_⟩;try simp only [bRpU,g3,cx,sj]
  refine WayR.less l1 ⟨noHp.set b _,_,dj m.f,?_,⟨some b,2,[],rfl,bh,rfl⟩,Sep.one.new hb,d1.set gb,fun _=>?_⟩
  . rw [Oe hf hk1 hk2 hz,af_ hk34];rfl
  . unfold wayL;rw [ah_ hk1,ah_ hk2]
 rcases hk34 with h3|h4
 . try simp (disch:=first|decide|exact b8|exact bw|omega|rfl) only [bRpU,Nat.reduceAdd,cx,ek1',ek2,show (m.k==3)=true by simp [h3]]
   exact k13 _ (by simp (disch:=decide) only [bRpU]) (by simp (disch:=decide) only [bRpU]) (by simp only [bRpU])
 . try simp (disch:=first|decide|exact b8|exact bw|omega|rfl) only [bRpU,Nat.reduceAdd,cx,ek1',ek2,show (m.k==3)=false by simp [h4],show (m.k==4)=true by simp [h4]]
   exact k13 _ (by simp (disch:=decide) only [bRpU]) (by simp (disch:=decide) only [bRpU]) (by simp only [bRpU])
theorem Xy {G h:Hp} {g:Value} {w k:Nat} {f:Nat->Nat->Int} {m:Move} (gs:GS G h g w k f) (st:lg G) (mb:MB m):bn P_ G 78 #[g,E7 m] h (fun u h'=>u = .bool (wayB w k f m)/\h'=h):=by
 refine bn.assume fun d=>quietly (enter78 (by simp) ?_);unfold S78;simp only [bRpU];intro x hx gx;generalize e1:Hp.set h x _=h1;obtain ⟨l1,d1,b1⟩:=boxed e1 hx d gx;have cx:∀j,bf G h1 ⟨x,j,none⟩=_:=fun j=>bm (bj b1);try simp (disch:=first|decide|omega) only [bRpU,Nat.reduceAdd,Nat.reduceMul,cx]
 refine (T4 (gs.up l1 d1) st mb).mono ?_;rintro _ h2 ⟨ip,v,L,rfl,o,s2,d2,_⟩;try simp only [bRpU]
 exact l1.trans (s2.in 1 rfl)
def bRpV:=jq bC (jq (jq (jq (jq @al48 @yv) (jq @D6 (jq @ff @Lm))) (jq (jq @sn @cf166) (jq @cf61 (jq @cf78 @vq)))) (jq (jq (jq @Dy @ld178) (jq @ld28 (jq @ld30 @ld4))) (jq (jq @ld48 (jq @ld68 @mx)) (jq @jw (jq @Uc @true_and)))))
theorem _root_.Go.HL.Sep.pack2 {x y h:Hp} {R:List Hp} (s:Sep (x::y::R) h):∃b,Sep (b::R) h/\Sep [x,y] b:=by
 obtain ⟨s1,ap⟩:=s.join
 exact ⟨_,s1,⟨fun a ha=>by
  simp only [al_,aK_,or_false]at ha;rcases ha with rfl|rfl
  . exact Hp.le_join
  . exact Hp.le_join2 ap,by simp [ap]⟩⟩
theorem _root_.Go.HL.Sep.pack3 {x y z h:Hp} {R:List Hp} (s:Sep (x::y::z::R) h):∃b,Sep (b::R) h/\Sep [x,y,z] b:=by
 have s1:Sep (y::z::x::R) h:=s.rot.rot;obtain ⟨s2,a2⟩:=s1.join;obtain ⟨s3,a3⟩:=s2.swap.join;refine ⟨_,s3,fun a ha=>?_,(bd_ (l₁:=[x,y,z]) (l₂:=R)).1 s.2 |>.1⟩;simp only [al_,aK_,or_false]at ha;rcases ha with rfl|rfl|rfl
 . exact Hp.le_join
 . exact Hp.le_join.trans (Hp.le_join2 a3)
 . exact (Hp.le_join2 a2).trans (Hp.le_join2 a3)
theorem opE76 {G:Hp} {a b y:Value} {h:Hp} {K:VK}:opE P_ G (jh (.func (.func 182) #[] #[a,b]) #[y]) h K=bn P_ G 182 #[y,a,b] h K:=by kernel_rfl
theorem Zp {n d:Nat} {v:Value} {r:Rg} (hd:d<n):setR n #[d] #[v] r=upd r d v:=by unfold setR;simp [putR,hd]
theorem an4 {G h:Hp} {gp:Nat} {p:Pose}:bn P_ G 166 #[.pointer (some ⟨gp,0,none⟩),mq p] h (fun u h'=>∃b1 b2,u = .func (.func 182) #[] #[.pointer (some ⟨b1,0,none⟩),.pointer (some ⟨b2,0,none⟩)]/\h b1=none/\G b1=none/\(h.set b1 (.cells #[.pointer (some ⟨gp,0,none⟩)] 68 (0,0))) b2=none/\G b2=none/\h'=(h.set b1 (.cells #[.pointer (some ⟨gp,0,none⟩)] 68 (0,0))).set b2 (.cells #[p.x,p.y,.bool p.d] 30 (0,0))):=by refine aF8 (by simp) ?_;unfold S166;simp only [bRpV];intro x hx gx y hy gy;exact ⟨x,y,rfl,hx,gx,hy,gy,rfl⟩
def jv (p:Pose):Move:=⟨2,0,0,p,Av p,0,0⟩
def ml (w k:Nat) (f:Nat->Nat->Int) (p:Pose):List Move:=if eu w k f p=true then Hz w k f p++(if wayB w k f (jv p)=true then [jv p]else [])else []
def InY (Y:List Move->Hp->Prop) (eb:Hp) (l:Nat) (o:Obj) (L:List Move) (b:Hp):Prop:=∃a,Y L a/\Sep [a,eb,noHp.set l o] b
theorem Q2 {p:Pose} (hp:PB p):MB (jv p):=⟨⟨show (-9223372036854775808:Int)<=0 by decide,show (0:Int)<=9223372036854775807 by decide⟩,hp⟩
def jg:Cod Move:=⟨11,fun m=>[.int .i64 m.k,.int .i64 m.d,.int .i64 m.n,.int .i64 m.f.x,.int .i64 m.f.y,.bool m.f.d,.int .i64 m.t.x,.int .i64 m.t.y,.bool m.t.d,.int .i64 m.a,.int .i64 m.e],fun _=>rfl,fun _ v hv=>by simp at hv;rcases hv with rfl|rfl|rfl|rfl|rfl|rfl|rfl|rfl|rfl|rfl|rfl<;>rfl⟩
theorem eomove:iu P_ 48 jg.n 88:=eo48
def GY {α:Type} (c:Cod α) (e T:TypeId) (most:Int) (lb mb:Nat) (L:List α) (a:Hp):Prop:=∃ip v,Slc c e ip v L/\Sep [ip,noHp.set lb (.cells #[v] T (0,0)),noHp.set mb (.cells #[most] 3 (0,0))] a
def GYb {α:Type} (c:Cod α) (e T:TypeId) (most:Int) (lb mb:Nat) (L:List α) (a:Hp):Prop:=GY c e T most lb mb L a/\(L.length:Int)<most
section
variable (G:Hp) (K:EK) (r:Rg) (h:Hp)
def md108:Nat->Hint
 |_=>m0_
def al1 (G:Hp) (K:EK) (r:Rg) (h:Hp):Prop:=
 K .ret (u2 r 45 (r 9) 8 (r 9)) h
def Eh:Prop:=
 o_ G (z1_ (r 20) (1:Int)) h fun g h=>
 K .normal (u2 r 44 g 20 g) h
def Nm:Prop:=
 o_ G (l_ 142 (r 13)) h fun g h=>
 c_ G 146 #[r 9,g] h fun j h=>
 Eh G K (u4 r 41 (r 9) 42 g 43 j 9 j) h
def Ej (G:Hp) (r:Rg) (h:Hp) (K:EK):Prop:=
 K .normal (u2 r 14 (r 33) 15 (r 34)) h
def Ei (r:Rg) (h:Hp) (K:EK):Prop:=
 o_ G (l_ 142 (r 13)) h fun g h=>o_ G (Instr.build 151 #[(0,(r 14)),(1,(r 15))]) h fun j h=>o_ G (Instr.buildSlice 142 1 #[(0,j)]) h fun s h=>o_ G (Builtin.append_ #[142,142] 142 #[g,s]) h fun u h=>
 y_ G (x_ 142 (r 13) u) h fun w h=>
 K .normal (u6 r 35 g 36 (r 14) 37 (r 15) 38 j 39 s 40 u) h
def Nn:Prop:=
 o_ G (Instr.alloc 142 true (.tuple #[])) h fun g h=>
 c_ G 145 #[r 1,r 12,r 2] h fun j h=>
 Nu P_ G 2 (Ej G) (Ei G) (setR 46 #[33,34]) j (u5 r 13 g 29 (r 1) 30 (r 12) 31 (r 2) 32 j) h (dc 2 (di (Nm G K) (dc 1 (di (Eh G K) K))))
def Np:Prop:=
 o_ G (i_ 22 (r 18) (r 20)) h fun g h=>o_ G (l_ 28 g) h fun j h=>o_ G (Instr.alloc 28 true (.tuple #[])) h fun s h=>
 y_ G (x_ 28 s j) h fun u h=>o_ G (l_ 28 s) h fun u h=>
 c_ G 88 #[r 0,u] h fun w h=>o_ G (z2_ w (0:Int)) h fun z h=>
 (fun q=>cond z
 (K .ret (upd q 8 (.slice none 0 0)) h)
 (Nn G K q h))
 (u9 r 22 g 23 j 11 s 24 (r 0) 25 u 26 w 12 w 27 w 28 z)
def al0 (r:Rg) (h:Hp) (K:EK):Prop:=
 o_ G (z2_ (r 20) (r 19)) h fun g h=>
 cond g
 (Np G K (upd r 21 g) h)
 (K (.exit 0) (upd r 21 g) h)
def S108:Prop:=
 o_ G (Instr.build 151 #[(0,(.int .i64 0)),(1,(.int .i64 4611686018427387904))]) h fun g h=>o_ G (Instr.buildSlice 142 1 #[(0,g)]) h fun j h=>o_ G (k_ 22 (r 3)) h fun s h=>
 du (al0 G) (u7 r 8 (.slice none 0 0) 16 g 17 j 9 j 18 (r 3) 19 s 20 (.int .i64 0)) h (dc 0 (di (al1 G K) K))
theorem aK2:Ent 46 108 [.tmp 8] S108:=ent_ (m:=md108) (c:=(Tryz.f108.body.getD .skip)) (fun _ _ _ _=>by kernel_rfl) Tryz.func108 rfl rfl rfl
def md146:Nat->Hint
 |4=>mh false [0,0,3,7,15,0,0,96,224,480,1023,0,0,6144,14336,30720,0,0,196608,458752,983040,2095104,4194303,0,16777215] [n_,n_,n_,n_,m_,n_,n_,n_,n_,m_,n_,n_,n_,n_,n_,m_,n_,n_,n_,n_,m_,n_,n_,.alloc,.store] (fs 25) false
 |7=>mh false [0,0,3,7,15,0,0,96,224,480,1023] [n_,n_,n_,n_,m_,n_,n_,n_,n_,m_,n_] (fs 11) false
 |_=>m0_
def Js (G:Hp) (K:EK) (r:Rg) (h:Hp):Prop:=
 K .ret (u2 r 66 (r 5) 4 (r 5)) h
def Aa:Prop:=
 p_ (i_ 142 (r 0) (r 6)) h fun g h'=>
 p_ (f_ 151 g 1) h' fun j h'=>
 w_ G h (l_ 3 j) h' fun s h'=>
 p_ (i_ 142 (r 1) (r 7)) h' fun u h'=>
 p_ (f_ 151 u 1) h' fun w h'=>
 w_ G h (l_ 3 w) h' fun z h=>
 p_ (z2_ s z) h fun C h=>
 cond C
 (o_ G (z1_ (r 6) (1:Int)) h fun D h'=>
 K .normal (u4 (u10 r 51 (r 0) 52 (r 6) 53 g 54 j 55 s 56 (r 1) 57 (r 7) 58 u 59 w 60 z) 61 C 62 (r 6) 63 D 6 D) h')
 (o_ G (z1_ (r 7) (1:Int)) h fun D h=>
 K .normal (u4 (u10 r 51 (r 0) 52 (r 6) 53 g 54 j 55 s 56 (r 1) 57 (r 7) 58 u 59 w 60 z) 61 C 64 (r 7) 65 D 7 D) h)
def Mo:Prop:=
 p_ (i_ 142 (r 0) (r 6)) h fun g h'=>
 p_ (f_ 151 g 0) h' fun j h'=>
 w_ G h (l_ 3 j) h' fun s h'=>
 p_ (i_ 142 (r 1) (r 7)) h' fun u h'=>
 p_ (f_ 151 u 0) h' fun w h'=>
 w_ G h (l_ 3 w) h' fun z h'=>
 p_ (Builtin.max_ #[3,3] 3 #[s,z]) h' fun C h'=>
 p_ (i_ 142 (r 0) (r 6)) h' fun D h'=>
 p_ (f_ 151 D 1) h' fun E h'=>
 w_ G h (l_ 3 E) h' fun F h'=>
 p_ (i_ 142 (r 1) (r 7)) h' fun I h'=>
 p_ (f_ 151 I 1) h' fun J h'=>
 w_ G h (l_ 3 J) h' fun L h=>
 p_ (Builtin.min_ #[3,3] 3 #[F,L]) h fun M h=>
 p_ (Instr.build 151 #[(0,C),(1,M)]) h fun N h=>o_ G (Instr.alloc 151 true (.tuple #[])) h fun O h=>
 y_ G (x_ 151 O N) h fun P h=>o_ G (f_ 151 O 0) h fun P h=>o_ G (l_ 3 P) h fun Q h=>o_ G (f_ 151 O 1) h fun U h=>o_ G (l_ 3 U) h fun V h=>o_ G (z2_ Q V) h fun W h=>
 cond W
 (o_ G (l_ 151 O) h fun Y h'=>o_ G (Instr.buildSlice 142 1 #[(0,Y)]) h' fun Z h'=>o_ G (Builtin.append_ #[142,142] 142 #[r 5,Z]) h' fun aa h'=>
 Aa G K (u4 (u10 (u10 (u10 r 19 (r 0) 20 (r 6) 21 g 22 j 23 s 24 (r 1) 25 (r 7) 26 u 27 w 28 z) 29 C 30 (r 0) 31 (r 6) 32 D 33 E 34 F 35 (r 1) 36 (r 7) 37 I 38 J) 39 L 40 M 41 N 8 O 42 P 43 Q 44 U 45 V 46 W 47 (r 5)) 48 Y 49 Z 50 aa 5 aa) h')
 (Aa G K (u9 (u10 (u10 r 19 (r 0) 20 (r 6) 21 g 22 j 23 s 24 (r 1) 25 (r 7) 26 u 27 w 28 z) 29 C 30 (r 0) 31 (r 6) 32 D 33 E 34 F 35 (r 1) 36 (r 7) 37 I 38 J) 39 L 40 M 41 N 8 O 42 P 43 Q 44 U 45 V 46 W) h)
def ag4 (r:Rg) (h:Hp) (K:EK):Prop:=
 o_ G (k_ 142 (r 0)) h fun g h=>o_ G (z2_ (r 6) g) h fun j h=>g_ j true (fun K1=>K1 (r 7) h) h fun s h=>g_ j true (fun K1=>K1 (r 1) h) h fun u h=>g_ j true (o_ G (k_ 142 u) h) h fun w h=>g_ j true (o_ G (z2_ s w) h) h fun z h=>
 y_ G (dh j z (.bool false)) h fun C h=>
 (fun q=>cond C
 (Mo G K q h)
 (K (.exit 0) q h))
 (u10 r 9 (r 6) 10 (r 0) 11 g 12 j 13 j 14 s 15 u 16 w 17 z 18 C)
def S146:Prop:=
 du (ag4 G) (u4 r 4 (.slice none 0 0) 5 (.slice none 0 0) 6 (.int .i64 0) 7 (.int .i64 0)) h (dc 0 (di (Js G K) K))
theorem aH2:Ent 67 146 [.tmp 4] S146:=ent_ (m:=md146) (c:=(Tryz.f146.body.getD .skip)) (fun _ _ _ _=>by kernel_rfl) Tryz.func146 rfl rfl rfl
def md65:Nat->Hint
 |_=>m0_
def S65:Prop:=
 o_ G (Instr.box 3 (r 1)) h fun g h=>
 y_ G (callFunc 113 #[r 0,(.func (.func 114) #[] #[g])]) h fun j h=>
 K .ret (u6 r 3 g 4 (.int .i64 0) 5 (r 0) 6 (.func (.func 114) #[] #[g]) 7 j 4 j) h
theorem enter65:Ent 8 65 [.tmp 4] S65:=ent_ (m:=md65) (c:=(Tryz.f65.body.getD .skip)) (fun _ _ _ _=>by kernel_rfl) Tryz.func65 rfl rfl rfl
def md114:Nat->Hint
 |_=>m0_
def S114:Prop:=
 o_ G (Instr.box 151 (r 0)) h fun g h=>o_ G (f_ 151 g 0) h fun j h=>o_ G (l_ 3 j) h fun s h=>o_ G (l_ 3 (r 1)) h fun u h=>o_ G (z7_ s u) h fun w h=>g_ w true (o_ G (l_ 3 (r 1)) h) h fun z h=>g_ w true (o_ G (f_ 151 g 1) h) h fun C h=>g_ w true (o_ G (l_ 3 C) h) h fun D h=>g_ w true (o_ G (z2_ z D) h) h fun E h=>
 y_ G (dh w E (.bool false)) h fun F h=>
 K .ret (u3 (u10 r 2 g 3 (.bool false) 4 j 5 s 6 u 7 w 8 w 9 z 10 C 11 D) 12 E 13 F 3 F) h
theorem aK0:Ent 14 114 [.tmp 3] S114:=ent_ (m:=md114) (c:=(Tryz.f114.body.getD .skip)) (fun _ _ _ _=>by kernel_rfl) Tryz.func114 rfl rfl rfl
def md113:Nat->Hint
 |_=>m0_
def ak9 (G:Hp) (K:EK) (r:Rg) (h:Hp):Prop:=
 K .ret (upd r 4 (.int .i64 (-1))) h
def Nk:Prop:=
 o_ G (z1_ (r 8) (1:Int)) h fun g h=>
 K .normal (u2 r 18 g 8 g) h
def Nl:Prop:=
 o_ G (i_ 142 (r 0) (r 8)) h fun g h=>o_ G (l_ 151 g) h fun j h=>
 y_ G (jh (r 1) #[j]) h fun s h=>
 (fun q=>cond s
 (K .ret (u2 q 17 (r 8) 4 (r 8)) h)
 (Nk G K q h))
 (u8 r 10 (r 8) 5 (r 8) 11 (r 1) 12 (r 0) 13 (r 8) 14 g 15 j 16 s)
def ak6 (r:Rg) (h:Hp) (K:EK):Prop:=
 o_ G (z2_ (r 8) (r 7)) h fun g h=>
 cond g
 (Nl G K (upd r 9 g) h)
 (K (.exit 0) (upd r 9 g) h)
def S113:Prop:=
 o_ G (k_ 142 (r 0)) h fun g h=>
 du (ak6 G) (u4 r 4 (.int .i64 0) 6 (r 0) 7 g 8 (.int .i64 0)) h (dc 0 (di (ak9 G K) K))
theorem aK1:Ent 19 113 [.tmp 4] S113:=ent_ (m:=md113) (c:=(Tryz.f113.body.getD .skip)) (fun _ _ _ _=>by kernel_rfl) Tryz.func113 rfl rfl rfl
def md115:Nat->Hint
 |1=>mh false [0,1,3,7,0,16,63,127,255] [n_,n_,n_,m_,n_,m_,e_,n_,n_] (fs 9) false
 |4=>mh false [0,1,3,7,0,0,63] [n_,n_,n_,m_,n_,m_,e_] (fs 7) false
 |_=>m0_
def Jv:Prop:=
 dl P_ noHp noHp (xNil (r 0)) h fun g h'=>
 p_ (f_ 134 g 7) h' fun j h'=>
 w_ G h (l_ 130 j) h' fun s h'=>
 w_ G h (l_ 30 (r 3)) h' fun u h=>
 y_ G (su (Instr.mapUpdate 130 s (r 5) u)) h fun w h=>
 K .ret (u8 r 18 (r 0) 19 g 20 j 21 s 22 (r 5) 23 u 24 (r 5) 4 (r 5)) h
def S115:Prop:=
 o_ G (Instr.box 30 (r 1)) h fun g h=>
 dl P_ noHp noHp (xNil (r 0)) h fun j h'=>
 p_ (f_ 134 j 1) h' fun s h'=>
 w_ G h (l_ 68 s) h' fun u h'=>
 p_ (f_ 30 g 0) h' fun w h'=>
 w_ G h (l_ 28 w) h' fun z h=>
 c_ G 88 #[u,z] h fun C h=>
 p_ (z4_ (2:Int) C) h fun D h=>o_ G (f_ 30 g 1) h fun E h=>o_ G (l_ 4 E) h fun F h=>
 cond F
 (o_ G (z1_ D (1:Int)) h fun I h'=>
 Jv G K (u6 (u10 r 3 g 4 (.int .i64 0) 6 (r 0) 7 j 8 s 9 u 10 w 11 z 12 C 13 D) 5 D 14 E 15 F 16 D 17 I 5 I) h')
 (Jv G K (u3 (u10 r 3 g 4 (.int .i64 0) 6 (r 0) 7 j 8 s 9 u 10 w 11 z 12 C 13 D) 5 D 14 E 15 F) h)
theorem aJ9:Ent 25 115 [.tmp 4] S115:=ent_ (m:=md115) (c:=(Tryz.f115.body.getD .skip)) (fun _ _ _ _=>by kernel_rfl) Tryz.func115 rfl rfl rfl
def md66:Nat->Hint
 |4=>mh false [0,1,3,7,0,16,48,112,0,256,768,1792,0,4096,12288,28672,0,126976,262143,524287] [n_,n_,n_,m_,n_,n_,n_,m_,n_,n_,n_,m_,n_,n_,n_,m_,m_,e_,e_,n_] (fs 17++[true]++fs 2) false
 |_=>m0_
def Sx (G:Hp) (K:EK) (r:Rg) (h:Hp):Prop:=
 K .ret (u2 r 47 (r 6) 4 (r 6)) h
def S66:Prop:=
 o_ G (Instr.box 30 (r 1)) h fun g h=>o_ G (l_ 30 g) h fun j h=>
 c_ G 115 #[r 0,j] h fun s h=>
 y_ G (xNil (r 0)) h fun u h=>o_ G (f_ 134 u 5) h fun w h=>o_ G (l_ 128 w) h fun z h=>o_ G (Instr.lookup 128 z s true) h fun C h=>o_ G (Instr.extract C 0) h fun D h=>o_ G (Instr.extract C 1) h fun E h=>o_ G (Op.unary .not E) h fun F h=>
 cond F
 (dl P_ noHp noHp (xNil (r 0)) h fun I h'=>
 p_ (f_ 134 I 1) h' fun J h'=>
 w_ G h (l_ 68 J) h' fun L h'=>
 dl P_ noHp noHp (xNil (r 0)) h' fun M h'=>
 p_ (f_ 134 M 3) h' fun N h'=>
 w_ G h (l_ 34 N) h' fun O h'=>
 dl P_ noHp noHp (xNil (r 0)) h' fun P h'=>
 p_ (f_ 134 P 4) h' fun Q h'=>
 w_ G h (l_ 3 Q) h' fun U h'=>
 dl P_ noHp noHp (xNil (r 0)) h' fun V h'=>
 p_ (f_ 134 V 1) h' fun W h'=>
 w_ G h (l_ 68 W) h' fun Y h'=>
 w_ G h (l_ 30 g) h' fun Z h'=>
 c_ G 89 #[Y,Z] h' fun aa h'=>h.le h'/\
 c_ G 108 #[L,O,U,aa] h' fun ab h'=>
 y_ G (xNil (r 0)) h' fun ac h'=>o_ G (f_ 134 ac 5) h' fun ae h'=>o_ G (l_ 128 ae) h' fun af h'=>
 y_ G (su (Instr.mapUpdate 128 af s ab)) h' fun ag h'=>
 Sx G K (u5 (u10 (u10 (u10 (u10 r 3 g 4 (.slice none 0 0) 8 (r 0) 9 j 10 s 5 s 12 (r 0) 13 u 14 w 15 z) 16 s 17 C 11 C 18 D 19 E 6 D 7 E 20 E 21 F 22 (r 0)) 23 I 24 J 25 L 26 (r 0) 27 M 28 N 29 O 30 (r 0) 31 P 32 Q) 33 U 34 (r 0) 35 V 36 W 37 Y 38 Z 39 aa 40 ab 6 ab 41 (r 0)) 42 ac 43 ae 44 af 45 s 46 ab) h')
 (Sx G K (u9 (u10 r 3 g 4 (.slice none 0 0) 8 (r 0) 9 j 10 s 5 s 12 (r 0) 13 u 14 w 15 z) 16 s 17 C 11 C 18 D 19 E 6 D 7 E 20 E 21 F) h)
theorem enter66:Ent 48 66 [.tmp 4] S66:=ent_ (m:=md66) (c:=(Tryz.f66.body.getD .skip)) (fun _ _ _ _=>by kernel_rfl) Tryz.func66 rfl rfl rfl
def md121:Nat->Hint
 |5=>mh false [0,1,3,7,0,31] [m_,n_,n_,m_,m_,e_] (fs 6) false
 |7=>mh false [0,0,0,4,12,28,0,64,192,448,0,2044,0,4096,12288,28672,0,65536,196608,458752,0,1048576,3145728,7340032,0,16777216,50331648,117440512,0,520097788,1073741820,2147483646,4294967294,8589934591,17179869183] [m_,m_,m_,n_,n_,m_,m_,n_,n_,m_,m_,e_,m_,n_,n_,m_,m_,n_,n_,m_,m_,n_,n_,m_,m_,n_,n_,m_,m_,e_,e_,n_,.alloc,e_,.store] (fs 11++[true]++fs 17++[true,true]++fs 4) true
 |8=>mh false [0,1,3,7,0,0,63] [m_,n_,n_,m_,n_,m_,e_] (fs 7) false
 |_=>m0_
def aj8:Prop:=
 w_ G h (l_ 127 (r 2)) h fun g h'=>
 dl P_ noHp noHp (xNil g) h' fun j h'=>
 p_ (f_ 134 j 6) h' fun s h'=>
 w_ G h (l_ 129 s) h' fun u h'=>
 w_ G h (l_ 229 (r 6)) h' fun w h=>
 y_ G (su (Instr.mapUpdate 129 u (r 5) w)) h fun z h=>o_ G (l_ 229 (r 6)) h fun z h=>
 K .ret (u8 r 64 g 65 j 66 s 67 u 68 (r 5) 69 w 70 z 4 z) h
def Ty (r:Rg) (h:Hp) (K:EK):Prop:=
 o_ G (Instr.alloc 48 true (.tuple #[])) h fun g h=>
 y_ G (x_ 48 g (r 29)) h fun j h=>
 K .normal (upd r 8 g) h
def Tx (r:Rg) (h:Hp) (K:EK):Prop:=
 ∃h':Hp,h'.le h/\
 w_ G h' (l_ 229 (r 6)) h fun g h=>
 w_ G h' (l_ 48 (r 8)) h fun j h=>
 w_ G h' (l_ 127 (r 2)) h fun s h=>
 dl P_ noHp noHp (xNil s) h fun u h=>
 p_ (f_ 134 u 0) h fun w h=>
 w_ G h' (l_ 26 w) h fun z h=>
 w_ G h' (l_ 127 (r 2)) h fun C h=>
 dl P_ noHp noHp (xNil C) h fun D h=>
 p_ (f_ 134 D 2) h fun E h=>
 w_ G h' (l_ 50 E) h fun F h=>
 w_ G h' (l_ 48 (r 8)) h fun I h=>
 c_ G 30 #[z,F,I] h fun J h=>h'.le h/\
 w_ G h' (l_ 127 (r 2)) h fun L h=>
 dl P_ noHp noHp (xNil L) h fun M h=>
 p_ (f_ 134 M 1) h fun N h=>
 w_ G h' (l_ 68 N) h fun O h=>
 w_ G h' (l_ 127 (r 2)) h fun P h=>
 dl P_ noHp noHp (xNil P) h fun Q h=>
 p_ (f_ 134 Q 3) h fun U h=>
 w_ G h' (l_ 34 U) h fun V h=>
 w_ G h' (l_ 127 (r 2)) h fun W h=>
 dl P_ noHp noHp (xNil W) h fun Y h=>
 p_ (f_ 134 Y 4) h fun Z h=>
 w_ G h' (l_ 3 Z) h fun aa h=>
 w_ G h' (l_ 127 (r 2)) h fun ab h=>
 dl P_ noHp noHp (xNil ab) h fun ac h=>
 p_ (f_ 134 ac 1) h fun ae h=>
 w_ G h' (l_ 68 ae) h fun af h=>
 w_ G h' (l_ 48 (r 8)) h fun ag h=>
 c_ G 90 #[af,ag] h fun ah h=>h'.le h/\
 c_ G 108 #[O,V,aa,ah] h fun ai h=>h'.le h/\
 p_ (Instr.build 232 #[(0,j),(1,J),(2,ai)]) h fun aj h=>o_ G (Instr.buildSlice 229 1 #[(0,aj)]) h fun ak h=>o_ G (Builtin.append_ #[229,229] 229 #[g,ak]) h fun al h=>
 y_ G (x_ 229 (r 6) al) h fun am h=>
 K .normal (u4 (u10 (u10 (u10 r 30 g 31 j 32 s 33 u 34 w 35 z 36 C 37 D 38 E 39 F) 40 I 41 J 42 L 43 M 44 N 45 O 46 P 47 Q 48 U 49 V) 50 W 51 Y 52 Z 53 aa 54 ab 55 ac 56 ae 57 af 58 ag 59 ah) 60 ai 61 aj 62 ak 63 al) h
def aj9:Prop:=
 w_ G h (l_ 127 (r 2)) h fun g h'=>
 dl P_ noHp noHp (xNil g) h' fun j h'=>
 p_ (f_ 134 j 1) h' fun s h'=>
 w_ G h (l_ 68 s) h' fun u h'=>
 w_ G h (l_ 30 (r 3)) h' fun w h=>
 c_ G 149 #[u,w] h fun z h=>
 Nu P_ G 1 (Ty G) (Tx G) (setR 71 #[29]) z (u6 r 23 g 24 j 25 s 26 u 27 w 28 z) h (dc 0 (di (aj8 G K) K))
def S121:Prop:=
 o_ G (Instr.box 127 (r 0)) h fun g h=>o_ G (Instr.box 30 (r 1)) h fun j h=>o_ G (l_ 127 g) h fun s h=>o_ G (l_ 30 j) h fun u h=>
 c_ G 115 #[s,u] h fun w h=>o_ G (l_ 127 g) h fun z h=>
 y_ G (xNil z) h fun C h=>o_ G (f_ 134 C 6) h fun D h=>o_ G (l_ 129 D) h fun E h=>o_ G (Instr.lookup 129 E w true) h fun F h=>o_ G (Instr.extract F 0) h fun I h=>o_ G (Instr.extract F 1) h fun J h=>o_ G (Instr.alloc 229 true (.tuple #[])) h fun L h=>
 y_ G (x_ 229 L I) h fun M h=>
 cond J
 (o_ G (l_ 229 L) h fun M h'=>
 K .ret (upd (u10 (u10 r 2 g 3 j 4 (.slice none 0 0) 9 s 10 u 11 w 5 w 13 z 14 C 15 D) 16 E 17 w 18 F 12 F 19 I 20 J 6 L 7 J 21 J 22 M) 4 M) h')
 (aj9 G K (u9 (u10 r 2 g 3 j 4 (.slice none 0 0) 9 s 10 u 11 w 5 w 13 z 14 C 15 D) 16 E 17 w 18 F 12 F 19 I 20 J 6 L 7 J 21 J) h)
theorem aJ3:Ent 71 121 [.tmp 4] S121:=ent_ (m:=md121) (c:=(Tryz.f121.body.getD .skip)) (fun _ _ _ _=>by kernel_rfl) Tryz.func121 rfl rfl rfl
def md67:Nat->Hint
 |4=>mh false [0,1,3,7,0,31,63,127,127,255,1023] [n_,n_,n_,m_,m_,m_,n_,n_,n_,n_,n_] (fs 11) false
 |7=>mh false [0,1,3,7,0,31] [n_,n_,n_,m_,m_,e_] (fs 6) false
 |8=>mh false [0,1,3,7,0,0,48,127] [n_,n_,n_,m_,n_,m_,n_,e_] (fs 8) false
 |_=>m0_
def Y8:Prop:=
 o_ G (f_ 146 (r 7) 2) h fun g h=>
 y_ G (x_ 3 g (r 2)) h fun j h=>
 dl P_ noHp noHp (xNil (r 0)) h fun j h'=>
 p_ (f_ 134 j 8) h' fun s h'=>
 w_ G h (l_ 131 s) h' fun u h'=>
 w_ G h (l_ 137 (r 9)) h' fun w h=>
 y_ G (su (Instr.mapUpdate 131 u w (r 7))) h fun z h=>
 dl P_ noHp noHp (xNil (r 0)) h fun z h'=>
 p_ (f_ 134 z 9) h' fun C h'=>
 w_ G h (l_ 132 C) h' fun D h'=>
 w_ G h (l_ 137 (r 9)) h' fun E h=>
 p_ (Instr.build 139 #[(0,(r 2)),(1,E)]) h fun F h=>
 c_ G 116 #[D,F] h fun I h=>
 K .normal (u5 (u10 r 48 (r 2) 49 g 50 (r 0) 51 j 52 s 53 u 54 w 55 (r 0) 56 z 57 C) 58 D 59 (r 2) 60 E 61 F 62 I) h
def aP9:Prop:=
 o_ G (l_ 30 (r 5)) h fun g h=>
 c_ G 115 #[r 0,g] h fun j h=>o_ G (Instr.build 137 #[(0,j),(1,(r 8))]) h fun s h=>o_ G (Instr.alloc 137 true (.tuple #[])) h fun u h=>
 y_ G (x_ 137 u s) h fun w h=>
 dl P_ noHp noHp (xNil (r 0)) h fun w h'=>
 p_ (f_ 134 w 8) h' fun z h'=>
 w_ G h (l_ 131 z) h' fun C h'=>
 w_ G h (l_ 137 u) h' fun D h'=>
 w_ G h (Instr.lookup 131 C D true) h' fun E h=>
 p_ (Instr.extract E 0) h fun F h=>
 p_ (Instr.extract E 1) h fun I h=>g_ I true (fun K1=>K1 F h) h fun J h=>g_ I true (opH P_ G (xNil J) h) h fun L h=>g_ I true (o_ G (f_ 146 L 3) h) h fun M h=>g_ I true (o_ G (l_ 4 M) h) h fun N h=>g_ I true (fun K1=>K1 N h) h fun O h=>g_ O false (fun K1=>K1 F h) h fun P h=>g_ O false (opH P_ G (xNil P) h) h fun Q h=>g_ O false (o_ G (f_ 146 Q 2) h) h fun U h=>g_ O false (o_ G (l_ 3 U) h) h fun V h=>g_ O false (fun K1=>K1 (r 2) h) h fun W h=>g_ O false (o_ G (z7_ V W) h) h fun Y h=>g_ I true (opH P_ G (dh O (.bool true) Y) h) h fun Z h=>
 y_ G (dh I Z (.bool false)) h fun aa h=>
 (fun q=>cond aa
 (K .ret q h)
 (Y8 G K q h))
 (u2 (u10 (u10 (u10 r 19 (r 0) 20 g 21 j 22 (r 8) 23 s 9 u 25 (r 0) 26 w 27 z 28 C) 29 D 30 E 24 E 31 F 32 I 10 F 11 I 33 I 34 I 35 J) 36 L 37 M 38 N 39 O 40 P 41 Q 42 U 43 V 44 W 45 Y) 46 Z 47 aa)
def S67:Prop:=
 o_ G (Instr.box 30 (r 1)) h fun g h=>o_ G (Instr.box 146 (r 3)) h fun j h=>o_ G (l_ 30 g) h fun s h=>
 c_ G 66 #[r 0,s] h fun u h=>
 c_ G 65 #[u,r 2] h fun w h=>o_ G (z2_ w (0:Int)) h fun z h=>
 (fun q=>cond z
 (K .ret q h)
 (aP9 G K q h))
 (u10 r 5 g 7 j 12 (r 0) 13 s 14 u 15 (r 2) 16 w 8 w 17 w 18 z)
theorem enter67:Ent 63 67 [] S67:=ent_ (m:=md67) (c:=(Tryz.f67.body.getD .skip)) (fun _ _ _ _=>by kernel_rfl) Tryz.func67 rfl rfl rfl
def md70:Nat->Hint
 |1=>mh false [0,1,3,7,0,16,63,0,255] [n_,n_,n_,m_,n_,m_,m_,.alloc,.store] (fs 9) false
 |2=>mh false [0,0,3,0,8,31,63,0,255] [n_,m_,e_,n_,m_,n_,m_,.alloc,.store] (fs 2++[true]++fs 6) true
 |_=>m0_
def Hh:Prop:=
 o_ G (z1_ (r 33) (1:Int)) h fun g h=>
 K .normal (u2 r 93 g 33 g) h
def qa:Prop:=
 o_ G (z1_ (r 40) (1:Int)) h fun g h=>
 K .normal (u2 r 92 g 40 g) h
def Gb:Prop:=
 o_ G (f_ 232 (r 9) 0) h fun g h=>o_ G (l_ 48 g) h fun j h=>o_ G (Instr.alloc 48 true (.tuple #[])) h fun s h=>
 y_ G (x_ 48 s j) h fun u h=>o_ G (f_ 48 s 5) h fun u h=>
 y_ G (x_ 3 u (r 12)) h fun w h=>o_ G (f_ 48 s 6) h fun w h=>
 y_ G (x_ 3 w (r 13)) h fun z h=>o_ G (f_ 48 s 4) h fun z h=>o_ G (l_ 30 z) h fun C h=>o_ G (l_ 137 (r 4)) h fun D h=>o_ G (l_ 48 s) h fun E h=>o_ G (Instr.build 146 #[(0,D),(1,E)]) h fun F h=>
 c_ G 67 #[r 0,C,r 13,F] h fun I h=>
 qa G K (u5 (u10 r 78 g 79 j 14 s 80 (r 12) 81 (r 13) 82 u 83 w 84 (r 0) 85 z 86 C) 87 (r 13) 88 D 89 E 90 F 91 I) h
def Gc:Prop:=
 o_ G (f_ 151 (r 11) 0) h fun g h=>o_ G (l_ 3 g) h fun j h=>o_ G (Builtin.max_ #[3,3] 3 #[r 2,j]) h fun s h=>o_ G (f_ 232 (r 9) 1) h fun u h=>o_ G (l_ 3 u) h fun w h=>
 c_ G 77 #[s,w] h fun z h=>o_ G (f_ 151 (r 11) 1) h fun C h=>o_ G (l_ 3 C) h fun D h=>o_ G (z5_ s D) h fun E h=>g_ E false (fun K1=>K1 z h) h fun F h=>g_ E false (o_ G (f_ 151 (r 11) 1) h) h fun I h=>g_ E false (o_ G (l_ 3 I) h) h fun J h=>g_ E false (o_ G (z6_ F J) h) h fun L h=>
 y_ G (dh E (.bool true) L) h fun M h=>g_ M false (fun K1=>K1 z h) h fun N h=>g_ M false (o_ G (z5_ N (4611686018427387904:Int)) h) h fun O h=>
 y_ G (dh M (.bool true) O) h fun P h=>
 (fun q=>cond P
 (qa G K q h)
 (Gb G K q h))
 (u4 (u10 (u10 r 56 (r 2) 57 g 58 j 59 s 12 s 60 s 61 u 62 w 63 z 13 z) 64 s 65 C 66 D 67 E 68 E 69 F 70 I 71 J 72 L 73 M) 74 M 75 N 76 O 77 P)
def Gd:Prop:=
 o_ G (i_ 142 (r 38) (r 40)) h fun g h=>o_ G (l_ 151 g) h fun j h=>o_ G (Instr.alloc 151 true (.tuple #[])) h fun s h=>
 y_ G (x_ 151 s j) h fun u h=>o_ G (f_ 151 s 0) h fun u h=>o_ G (l_ 3 u) h fun w h=>o_ G (f_ 151 (r 7) 0) h fun z h=>o_ G (l_ 3 z) h fun C h=>o_ G (z2_ w C) h fun D h=>g_ D false (o_ G (f_ 151 s 1) h) h fun E h=>g_ D false (o_ G (l_ 3 E) h) h fun F h=>g_ D false (o_ G (f_ 151 (r 7) 1) h) h fun I h=>g_ D false (o_ G (l_ 3 I) h) h fun J h=>g_ D false (o_ G (z6_ F J) h) h fun L h=>
 y_ G (dh D (.bool true) L) h fun M h=>
 (fun q=>cond M
 (qa G K q h)
 (Gc G K q h))
 (u5 (u10 r 42 g 43 j 11 s 44 u 45 w 46 z 47 C 48 D 49 D 50 E) 51 F 52 I 53 J 54 L 55 M)
def Hg (r:Rg) (h:Hp) (K:EK):Prop:=
 o_ G (z2_ (r 40) (r 39)) h fun g h=>
 cond g
 (Gd G K (upd r 41 g) h)
 (K (.exit 2) (upd r 41 g) h)
def Qa:Prop:=
 o_ G (i_ 229 (r 31) (r 33)) h fun g h=>o_ G (l_ 232 g) h fun j h=>o_ G (Instr.alloc 232 true (.tuple #[])) h fun s h=>
 y_ G (x_ 232 s j) h fun u h=>o_ G (f_ 232 s 2) h fun u h=>o_ G (l_ 142 u) h fun w h=>o_ G (k_ 142 w) h fun z h=>
 du (Hg G) (u7 r 35 g 36 j 9 s 37 u 38 w 39 z 40 (.int .i64 0)) h (dc 2 (dc 1 (di (Hh G K) K)))
def Y6 (r:Rg) (h:Hp) (K:EK):Prop:=
 o_ G (z2_ (r 33) (r 32)) h fun g h=>
 cond g
 (Qa G K (upd r 34 g) h)
 (K (.exit 0) (upd r 34 g) h)
def S70:Prop:=
 o_ G (Instr.box 137 (r 1)) h fun g h=>
 dl P_ noHp noHp (xNil (r 0)) h fun j h'=>
 p_ (f_ 134 j 7) h' fun s h'=>
 w_ G h (l_ 130 s) h' fun u h'=>
 p_ (f_ 137 g 0) h' fun w h'=>
 w_ G h (l_ 3 w) h' fun z h'=>
 w_ G h (Instr.lookup 130 u z false) h' fun C h=>o_ G (Instr.alloc 30 true (.tuple #[])) h fun D h=>
 y_ G (x_ 30 D C) h fun E h=>
 ∃h':Hp,h'.le h/\
 w_ G h' (l_ 30 D) h fun E h=>
 c_ G 66 #[r 0,E] h fun F h=>h'.le h/\
 p_ (f_ 137 g 1) h fun I h=>
 w_ G h' (l_ 3 I) h fun J h=>
 p_ (i_ 142 F J) h fun L h=>
 w_ G h' (l_ 151 L) h fun M h=>o_ G (Instr.alloc 151 true (.tuple #[])) h fun N h=>
 y_ G (x_ 151 N M) h fun O h=>o_ G (l_ 30 D) h fun O h=>
 c_ G 121 #[r 0,O] h fun P h=>o_ G (k_ 229 P) h fun Q h=>
 du (Y6 G) (u2 (u10 (u10 r 4 g 15 (r 0) 16 j 17 s 18 u 19 w 20 z 21 C 6 D 22 (r 0)) 23 E 24 F 25 I 26 J 27 L 28 M 7 N 29 (r 0) 30 O 31 P) 32 Q 33 (.int .i64 0)) h (dc 0 K)
theorem enter70:Ent 94 70 [] S70:=ent_ (m:=md70) (c:=(Tryz.f70.body.getD .skip)) (fun _ _ _ _=>by kernel_rfl) Tryz.func70 rfl rfl rfl
def md69:Nat->Hint
 |2=>mh false [0,1,3,7,0,31,63] [n_,n_,n_,m_,m_,m_,n_] (fs 7) false
 |4=>mh false [0,1,3,7,0,16,48,112,255,511] [n_,n_,n_,m_,n_,n_,n_,m_,m_,n_] (fs 10) false
 |_=>m0_
def Y7:Prop:=
 c_ G 120 #[r 5] h fun g h=>
 K .ret (u4 r 35 (r 5) 36 g 37 (r 5) 4 (r 5)) h
def Qb:Prop:=
 dl P_ noHp noHp (xNil (r 0)) h fun g h'=>
 p_ (f_ 134 g 8) h' fun j h'=>
 w_ G h (l_ 131 j) h' fun s h'=>
 dl P_ noHp noHp (xNil (r 6)) h' fun u h'=>
 p_ (f_ 146 u 0) h' fun w h'=>
 w_ G h (l_ 137 w) h' fun z h'=>
 w_ G h (Instr.lookup 131 s z false) h' fun C h=>
 K .normal (u10 r 19 (r 0) 20 g 21 j 22 s 23 (r 6) 24 u 25 w 26 z 27 C 6 C) h
def Qc:Prop:=
 y_ G (xNil (r 6)) h fun g h=>o_ G (f_ 146 g 1) h fun j h=>o_ G (l_ 48 j) h fun s h=>o_ G (Instr.buildSlice 40 1 #[(0,s)]) h fun u h=>o_ G (Builtin.append_ #[40,40] 40 #[r 5,u]) h fun w h=>
 Qb G K (u8 r 28 (r 5) 29 (r 6) 30 g 31 j 32 s 33 u 34 w 5 w) h
def aP7 (r:Rg) (h:Hp) (K:EK):Prop:=
 y_ G (xNil (r 6)) h fun g h=>o_ G (f_ 146 g 1) h fun j h=>o_ G (f_ 48 j 0) h fun s h=>o_ G (l_ 3 s) h fun u h=>
 y_ G (xEq .neq 3 (.tmp 0) (.const .nilFunc) u (.int .i64 0)) h fun w h=>
 (fun q=>cond w
 (Qc G K q h)
 (K (.exit 0) q h))
 (u6 r 13 (r 6) 14 g 15 j 16 s 17 u 18 w)
def S69:Prop:=
 o_ G (Instr.box 137 (r 1)) h fun g h=>
 dl P_ noHp noHp (xNil (r 0)) h fun j h'=>
 p_ (f_ 134 j 8) h' fun s h'=>
 w_ G h (l_ 131 s) h' fun u h'=>
 w_ G h (l_ 137 g) h' fun w h'=>
 w_ G h (Instr.lookup 131 u w false) h' fun z h=>
 du (aP7 G) (u10 r 3 g 4 (.slice none 0 0) 5 (.slice none 0 0) 7 (r 0) 8 j 9 s 10 u 11 w 12 z 6 z) h (dc 0 (di (Y7 G K) K))
theorem enter69:Ent 38 69 [.tmp 4] S69:=ent_ (m:=md69) (c:=(Tryz.f69.body.getD .skip)) (fun _ _ _ _=>by kernel_rfl) Tryz.func69 rfl rfl rfl
def md27:Nat->Hint
 |7=>mh false [0,1,3,7,15,7,39,7,135,487,1023,2047,4095,8191,16383,32767,65535,131071,262143,524287,1048575,2097151,4194303,8388607,16777215,33554431,33554431,134217727,268435455,536870911,1073741823,2147483647,4294967295,8589934591] [n_,m_,n_,n_,e_,n_,m_,n_,m_,n_,m_,n_,n_,n_,n_,n_,n_,n_,n_,n_,n_,n_,n_,n_,n_,n_,m_,e_,n_,n_,n_,n_,n_,n_] (fs 4++[true]++fs 29) true
 |19=>mh false [0,1,3,7,0,16,63,127] [n_,n_,n_,m_,n_,m_,m_,n_] (fs 8) false
 |20=>mh false [0,1,3,7,15,31,63,127,255,31,543,2047,4095] [n_,n_,n_,m_,n_,n_,n_,n_,m_,n_,m_,m_,n_] (fs 13) false
 |23=>mh false [0,1,3,7,0,16,48,127,0,511] [n_,n_,n_,m_,n_,n_,m_,m_,.alloc,.store] (fs 10) false
 |25=>mh false [0,1,3,3,15,3,35,99,255,511,1023,2047,4095] [n_,n_,n_,m_,e_,n_,n_,m_,n_,n_,m_,m_,n_] (fs 4++[true]++fs 8) true
 |_=>m0_
def Hn (G:Hp) (K:EK) (r:Rg) (h:Hp):Prop:=
 K .ret (u3 r 201 (r 15) 12 (.slice none 0 0) 13 (r 15)) h
def Mc:Prop:=
 o_ G (f_ 139 (r 21) 1) h fun g h=>o_ G (l_ 137 g) h fun j h=>o_ G (f_ 139 (r 21) 0) h fun s h=>o_ G (l_ 3 s) h fun u h=>
 c_ G 70 #[r 19,j,u] h fun w h=>
 K .normal (u6 r 195 (r 19) 196 g 197 j 198 s 199 u 200 w) h
def Hl:Prop:=
 o_ G (f_ 26 (r 6) 14) h fun g h=>o_ G (l_ 3 g) h fun j h=>
 y_ G (xEq .eql 3 (.tmp 0) (.tmp 0) (r 20) j) h fun s h=>
 (fun q=>cond s
 (K (.exit 0) (upd q 15 (.int .i64 7)) h)
 (Mc G K q h))
 (u4 r 191 (r 20) 192 g 193 j 194 s)
def Hm:Prop:=
 y_ G (xNil (r 23)) h fun g ha=>o_ G (f_ 146 g 3) ha fun j ha=>
 y_ G (x_ 4 j (.bool true)) ha fun s ha=>o_ G (z1_ (r 20) (1:Int)) ha fun s ha=>
 dl P_ noHp noHp (xNil (r 19)) ha fun u hc=>
 p_ (f_ 134 u 7) hc fun w hc=>
 w_ G ha (l_ 130 w) hc fun z hc=>
 p_ (f_ 139 (r 21) 1) hc fun C hc=>
 p_ (f_ 137 C 0) hc fun D hc=>
 w_ G ha (l_ 3 D) hc fun E hc=>
 w_ G ha (Instr.lookup 130 z E false) hc fun F ha=>o_ G (Instr.alloc 30 true (.tuple #[])) ha fun I ha=>
 y_ G (x_ 30 I F) ha fun J ha=>o_ G (l_ 30 I) ha fun J ha=>o_ G (f_ 45 (r 11) 0) ha fun L ha=>o_ G (l_ 30 L) ha fun M ha=>
 y_ G (xEq .eql 30 (.tmp 0) (.tmp 0) J M) ha fun N ha=>g_ N false (o_ G (f_ 45 (r 11) 1) ha) ha fun O ha=>g_ N false (o_ G (l_ 4 O) ha) ha fun P ha=>g_ N false (fun K1=>K1 P ha) ha fun Q ha=>g_ Q true (o_ G (f_ 30 I 0) ha) ha fun U ha=>g_ Q true (o_ G (l_ 28 U) ha) ha fun V ha=>g_ Q true (o_ G (f_ 45 (r 11) 0) ha) ha fun W ha=>g_ Q true (o_ G (f_ 30 W 0) ha) ha fun Y ha=>g_ Q true (o_ G (l_ 28 Y) ha) ha fun Z ha=>g_ Q true (opH P_ G (xEq .eql 28 (.tmp 0) (.tmp 0) V Z) ha) ha fun aa ha=>g_ N false (opH P_ G (dh Q aa (.bool false)) ha) ha fun ab ha=>
 y_ G (dh N (.bool true) ab) ha fun ac ha=>
 ∃hc:Hp,hc.le ha/\
 g_ ac true (fun K1=>K1 (r 19) ha) ha fun ae ha=>g_ ac true (w_ G hc (l_ 30 I) ha) ha fun af ha=>g_ ac true (fun K1=>c_ G 66 #[ae,af] ha fun v h'=>hc.le h'/\K1 v h') ha fun ag h=>g_ ac true (p_ (f_ 139 (r 21) 1) h) h fun ah h=>g_ ac true (p_ (f_ 137 ah 1) h) h fun ai h=>g_ ac true (w_ G hc (l_ 3 ai) h) h fun aj h=>g_ ac true (p_ (i_ 142 ag aj) h) h fun ak h=>g_ ac true (p_ (f_ 151 ak 1) h) h fun al h=>g_ ac true (w_ G hc (l_ 3 al) h) h fun am h=>g_ ac true (dl P_ G hc (xEq .eql 3 (.tmp 0) (.const .nilFunc) am (.int .i64 4611686018427387904)) h) h fun an h=>
 dl P_ noHp noHp (dh ac an (.bool false)) h fun ao h=>
 cond ao
 (o_ G (f_ 139 (r 21) 1) h fun ap ha=>o_ G (l_ 137 ap) ha fun aq ha=>
 c_ G 69 #[r 19,aq] ha fun ar ha=>
 K .ret (upd (u10 (u10 (u10 (u10 (u10 r 145 (r 23) 146 g 147 j 148 (r 20) 149 s 20 s 150 (r 19) 151 u 152 w 153 z) 154 C 155 D 156 E 157 F 24 I 158 J 159 L 160 M 161 N 162 N) 163 O 164 P 165 Q 166 U 167 V 168 W 169 Y 170 Z 171 aa 172 ab) 173 ac 25 ac 174 ac 175 ac 176 ae 177 af 178 ag 179 ah 180 ai 181 aj) 182 ak 183 al 184 am 185 an 186 ao 187 (r 19) 188 ap 189 aq 190 ar 12 ar) 13 (.int .i64 0)) ha)
 (Hl G K (u5 (u10 (u10 (u10 (u10 r 145 (r 23) 146 g 147 j 148 (r 20) 149 s 20 s 150 (r 19) 151 u 152 w 153 z) 154 C 155 D 156 E 157 F 24 I 158 J 159 L 160 M 161 N 162 N) 163 O 164 P 165 Q 166 U 167 V 168 W 169 Y 170 Z 171 aa 172 ab) 173 ac 25 ac 174 ac 175 ac 176 ae 177 af 178 ag 179 ah 180 ai 181 aj) 182 ak 183 al 184 am 185 an 186 ao) h)
def Qv:Prop:=
 dl P_ noHp noHp (xNil (r 19)) h fun g h'=>
 p_ (f_ 134 g 8) h' fun j h'=>
 w_ G h (l_ 131 j) h' fun s h'=>
 p_ (f_ 139 (r 21) 1) h' fun u h'=>
 w_ G h (l_ 137 u) h' fun w h'=>
 w_ G h (Instr.lookup 131 s w false) h' fun z h=>
 dl P_ noHp noHp (xNil z) h fun C h'=>
 p_ (f_ 146 C 3) h' fun D h'=>
 w_ G h (l_ 4 D) h' fun E h'=>g_ E false (fun K1=>K1 z h') h' fun F h'=>g_ E false (dl P_ noHp noHp (xNil F) h') h' fun I h'=>g_ E false (p_ (f_ 146 I 2) h') h' fun J h'=>g_ E false (w_ G h (l_ 3 J) h') h' fun L h'=>g_ E false (p_ (f_ 139 (r 21) 0) h') h' fun M h'=>g_ E false (w_ G h (l_ 3 M) h') h' fun N h'=>g_ E false (dl P_ G h (xEq .neq 3 (.tmp 0) (.tmp 0) L N) h') h' fun O h=>
 dl P_ noHp noHp (dh E (.bool true) O) h fun P h=>
 (fun q=>cond P
 (K .normal q h)
 (Hm G K q h))
 (upd (u10 (u10 r 125 (r 19) 126 g 127 j 128 s 129 u 130 w 131 z 23 z 132 z 133 C) 134 D 135 E 136 E 137 F 138 I 139 J 140 L 141 M 142 N 143 O) 144 P)
def Zd (r:Rg) (h:Hp) (K:EK):Prop:=
 y_ G (xNil (r 19)) h fun g h=>o_ G (f_ 134 g 9) h fun j h=>o_ G (l_ 132 j) h fun s h=>
 c_ G 68 #[s] h fun u h=>o_ G (Instr.extract u 0) h fun w h=>o_ G (Instr.extract u 1) h fun z h=>o_ G (Instr.alloc 139 true (.tuple #[])) h fun C h=>
 y_ G (x_ 139 C w) h fun D h=>o_ G (Op.unary .not z) h fun D h=>
 (fun q=>cond D
 (K (.exit 0) q h)
 (Qv G K q h))
 (u2 (u10 r 116 (r 19) 117 g 118 j 119 s 120 u 115 u 121 w 122 z 21 C 22 z) 123 z 124 D)
def aT2:Prop:=
 o_ G (l_ 30 (r 9)) h fun g h=>o_ G (Instr.build 146 #[]) h fun j h=>
 c_ G 67 #[r 19,g,r 4,j] h fun s h=>
 du (Zd G) (u7 r 110 (r 19) 111 g 112 (r 4) 113 j 114 s 20 (.int .i64 0) 15 (.int .i64 6)) h (dc 0 (di (Hn G K) (xq K)))
def Ze:Prop:=
 o_ G (f_ 26 (r 6) 7) h fun g h=>o_ G (l_ 3 g) h fun j h=>o_ G (f_ 26 (r 6) 8) h fun s h=>o_ G (l_ 3 s) h fun u h=>o_ G (f_ 26 (r 6) 9) h fun w h=>o_ G (l_ 3 w) h fun z h=>
 c_ G 29 #[j,u,z] h fun C h=>o_ G (Instr.extract C 0) h fun D h=>o_ G (Instr.extract C 1) h fun E h=>o_ G (l_ 26 (r 6)) h fun F h=>o_ G (Instr.makeMap 128 none) h fun I h=>o_ G (Instr.makeMap 129 none) h fun J h=>o_ G (Instr.makeMap 130 none) h fun L h=>o_ G (Instr.makeMap 131 none) h fun M h=>o_ G (Instr.build 134 #[(0,F),(1,(r 14)),(2,D),(3,(r 1)),(4,(r 2)),(5,I),(6,J),(7,L),(8,M),(9,(.pointer none))]) h fun N h=>o_ G (Instr.box 134 N) h fun O h=>
 y_ G (callFunc 63 #[(.func (.func 64) #[] #[])]) h fun P h=>
 y_ G (xNil O) h fun Q h=>o_ G (f_ 134 Q 9) h fun U h=>
 y_ G (x_ 132 U P) h fun V h=>o_ G (l_ 30 (r 9)) h fun V h=>
 c_ G 66 #[O,V] h fun W h=>
 c_ G 65 #[W,r 4] h fun Y h=>o_ G (z2_ Y (0:Int)) h fun Z h=>
 (fun q=>cond Z
 (K .ret (u2 q 12 (.slice none 0 0) 13 (.int .i64 18)) h)
 (aT2 G K q h))
 (u4 (u10 (u10 (u10 r 80 g 81 j 82 s 83 u 84 w 85 z 86 C 79 C 87 D 88 E) 17 D 18 E 89 F 90 (r 14) 91 D 92 (r 1) 93 (r 2) 94 I 95 J 96 L) 97 M 98 N 99 O 19 O 100 O 101 P 102 Q 103 U 104 O 105 V) 106 W 107 (r 4) 108 Y 109 Z)
def S6:Prop:=
 ∃ha:Hp,ha.le h/\
 dl P_ G ha (xEq .eql 34 (.tmp 0) (.const .nilFunc) (r 1) (.pointer none)) h fun g hc=>g_ g false (fun K1=>K1 (r 1) hc) hc fun j hc=>g_ g false (fun K1=>c_ G 26 #[j] hc fun v h'=>ha.le h'/\K1 v h') hc fun s h=>g_ g false (p_ (f_ 26 (r 6) 0) h) h fun u h=>g_ g false (w_ G ha (l_ 3 u) h) h fun w h=>g_ g false (p_ (f_ 26 (r 6) 1) h) h fun z h=>g_ g false (w_ G ha (l_ 3 z) h) h fun C h=>g_ g false (p_ (z4_ w C) h) h fun D h=>g_ g false (dl P_ G ha (xEq .neq 3 (.tmp 0) (.tmp 0) s D) h) h fun E h=>
 dl P_ noHp noHp (dh g (.bool true) E) h fun F h=>g_ F false (fun K1=>K1 (r 2) h) h fun I h=>g_ F false (p_ (z2_ I (0:Int)) h) h fun J h=>
 dl P_ noHp noHp (dh F (.bool true) J) h fun L h=>g_ L false (fun K1=>K1 (r 4) h) h fun M h=>g_ L false (p_ (z2_ M (0:Int)) h) h fun N h=>
 dl P_ noHp noHp (dh L (.bool true) N) h fun O h=>g_ O false (fun K1=>K1 (r 4) h) h fun P h=>g_ O false (p_ (z5_ P (4611686018427387904:Int)) h) h fun Q h=>
 dl P_ noHp noHp (dh O (.bool true) Q) h fun U h=>g_ U false (fun K1=>K1 (r 14) h) h fun V h=>g_ U false (w_ G ha (l_ 30 (r 9)) h) h fun W h=>g_ U false (c_ G 61 #[V,W] h) h fun Y h=>g_ U false (p_ (Op.unary .not Y) h) h fun Z h=>
 dl P_ noHp noHp (dh U (.bool true) Z) h fun aa h=>g_ aa false (fun K1=>K1 (r 16) h) h fun ab h=>g_ aa false (p_ (Op.unary .not ab) h) h fun ac h=>
 dl P_ noHp noHp (dh aa (.bool true) ac) h fun ae h=>
 (fun q=>cond ae
 (K .ret (u2 q 12 (.slice none 0 0) 13 (.int .i64 1)) h)
 (Ze G K q h))
 (u4 (u10 (u10 (u10 r 45 (r 1) 46 g 47 g 48 j 49 s 50 u 51 w 52 z 53 C 54 D) 55 E 56 F 57 F 58 I 59 J 60 L 61 L 62 M 63 N 64 O) 65 O 66 P 67 Q 68 U 69 U 70 V 71 W 72 Y 73 Z 74 aa) 75 aa 76 ab 77 ac 78 ae)
def aT3:Prop:=
 o_ G (f_ 45 (r 11) 0) h fun g h=>o_ G (l_ 30 g) h fun j h=>
 c_ G 61 #[r 14,j] h fun s h=>o_ G (f_ 45 (r 11) 1) h fun u h=>o_ G (l_ 4 u) h fun w h=>
 cond w
 (o_ G (f_ 45 (r 11) 0) h fun z h'=>o_ G (f_ 30 z 0) h' fun C h'=>o_ G (l_ 28 C) h' fun D h'=>
 c_ G 62 #[r 14,D] h' fun E h'=>
 S6 G K (u3 (u10 r 34 (r 14) 35 g 36 j 37 s 16 s 38 u 39 w 40 (r 14) 41 z 42 C) 43 D 44 E 16 E) h')
 (S6 G K (u7 r 34 (r 14) 35 g 36 j 37 s 16 s 38 u 39 w) h)
def S27:Prop:=
 o_ G (Instr.box 26 (r 0)) h fun g h=>o_ G (Instr.box 30 (r 3)) h fun j h=>o_ G (Instr.box 45 (r 5)) h fun s h=>o_ G (l_ 26 g) h fun u h=>
 c_ G 37 #[u] h fun w h=>o_ G (Instr.extract w 0) h fun z h=>o_ G (Instr.extract w 1) h fun C h=>
 y_ G (xEq .neq 35 (.tmp 0) (.const .nilFunc) C (.int .i64 0)) h fun D h=>
 (fun q=>cond D
 (K .ret (u3 q 33 C 12 (.slice none 0 0) 13 C) h)
 (aT3 G K q h))
 (u4 (u10 r 6 g 9 j 11 s 12 (.slice none 0 0) 13 (.int .i64 0) 27 u 28 w 26 w 29 z 30 C) 14 z 15 C 31 C 32 D)
theorem enter27:Ent 202 27 [.tmp 12,.tmp 13] S27:=ent_ (m:=md27) (c:=(Tryz.f27.body.getD .skip)) (fun _ _ _ _=>by kernel_rfl) Tryz.func27 rfl rfl rfl
def md120:Nat->Hint
 |3=>mh false [0,0,0,0,0,0,48,112,0,0,768,1792,4083,8179,16383,32767] [n_,n_,n_,n_,n_,n_,n_,m_,n_,n_,n_,m_,n_,.store,n_,.store] (fs 16) false
 |_=>m0_
def Nf:Prop:=
 o_ G (z1_ (r 2) (1:Int)) h fun g h=>o_ G (z3_ (r 3) (1:Int)) h fun j h=>
 K .normal (u6 r 10 (r 2) 11 g 12 (r 3) 13 j 2 g 3 j) h
def Ng:Prop:=
 p_ (i_ 40 (r 0) (r 3)) h fun g h'=>
 w_ G h (l_ 48 g) h' fun j h'=>
 p_ (i_ 40 (r 0) (r 2)) h' fun s h'=>
 w_ G h (l_ 48 s) h' fun u h=>
 p_ (i_ 40 (r 0) (r 2)) h fun w h=>
 y_ G (x_ 48 w j) h fun z h=>
 p_ (i_ 40 (r 0) (r 3)) h fun z h=>
 y_ G (x_ 48 z u) h fun C h=>
 Nf G K (u4 (u10 r 14 (r 0) 15 (r 2) 16 (r 0) 17 (r 3) 18 (r 0) 19 (r 3) 20 g 21 j 22 (r 0) 23 (r 2)) 24 s 25 u 26 w 27 z) h
def ak0 (r:Rg) (h:Hp) (K:EK):Prop:=
 o_ G (z2_ (r 2) (r 3)) h fun g h=>
 cond g
 (Ng G K (u3 r 7 (r 2) 8 (r 3) 9 g) h)
 (K (.exit 0) (u3 r 7 (r 2) 8 (r 3) 9 g) h)
def S120:Prop:=
 o_ G (k_ 40 (r 0)) h fun g h=>o_ G (z3_ g (1:Int)) h fun j h=>
 du (ak0 G) (u5 r 4 (r 0) 5 g 6 j 2 (.int .i64 0) 3 j) h (dc 0 K)
theorem aJ4:Ent 28 120 [] S120:=ent_ (m:=md120) (c:=(Tryz.f120.body.getD .skip)) (fun _ _ _ _=>by kernel_rfl) Tryz.func120 rfl rfl rfl
end
end Go.Proofs.YtfflipnhffknnaaGreatDoor
end
section
namespace Go.Proofs.YtfflipnhffknnaaGreatDoor
open Go Go.HL Go.Proofs.Resv Go.Proofs.Srch
def bRtL:=jq bC (jq (jq (jq (jq @al151 @Yy) (jq @Pp @cf72)) (jq (jq @Sf @aD7) (jq @Se @Wa))) (jq (jq (jq @Cv @Fp) (jq @Dx @Lb)) (jq (jq @ld151 @ld3) (jq @ld3p (jq @ln142 @Xf)))))
def dr (C:Conf) (m:Move):Int:=if m.k=1 then Hu C.un C.ac C.sp m.n else if m.k=2 then C.tu else if m.k=3\/m.k=4 then C.ho else 0
theorem X3 {G h a:Hp} {R:List Hp} {v:Value} {C:Conf} {kp:Nat} {m:Move} (hv:CV G h v C) (k:KP a kp C.un C.ac C.sp) (s:Sep (a::R) h) (hn:Bd m.n):
 bn P_ G 30 #[v,.pointer (some ⟨kp,0,none⟩),E7 m] h (fun u h'=>u = .int .i64 (dr C m)/\∃a',KP a' kp C.un C.ac C.sp/\Sep (a'::R) h'/\Dis G h'):=by
 obtain ⟨ab,cb,ap,cp,ar,cr,az,cs,rfl,ca⟩:=hv;refine bn.assume fun d=>enter30 (by simp) ?_;unfold S30;simp only [bRtL];intro x hx gx y hy gy;have s1:=((s.new (o := .cells #[C.w,C.h,C.ht,.slice ab C.bl.length cb,.slice ap C.po.length cp,.slice ar C.ro.length cr,.slice az C.st.length cs,C.un,C.ac,C.sp,C.tu,C.ho,C.qu,C.re,C.bu,.bool C.back] 26 (0,0)) hx).new (o:=jy m) hy);have d1:=(d.set (o := .cells #[C.w,C.h,C.ht,.slice ab C.bl.length cb,.slice ap C.po.length cp,.slice ar C.ro.length cr,.slice az C.st.length cs,C.un,C.ac,C.sp,C.tu,C.ho,C.qu,C.re,C.bu,.bool C.back] 26 (0,0)) gx).set (o:=jy m) gy;generalize Hp.set (Hp.set h x _) y _=h1 at s1 d1 ⊢;have cx:∀k,bf G h1 ⟨x,k,none⟩=_:=fun k=>bm (bj (s1.at 1 rfl bh));have cy:∀k,bf G h1 ⟨y,k,none⟩=_:=fun k=>bm (bj (s1.at 0 rfl bh));have out:∀u:Int,u=dr C m->(Value.int .i64 u = .int .i64 (dr C m)/\∃a',KP a' kp C.un C.ac C.sp/\Sep (a'::R) h1/\Dis G h1):=fun u e=>⟨by rw [e],a,k,s1.drop.drop,d1⟩;try simp (disch:=first|decide|omega) only [bRtL,Nat.reduceAdd,Nat.reduceMul,cy]
 by_cases h1:m.k=1
 . rw [show (m.k==1)=true by simpa using h1];try simp only [bRtL,cy]
   refine (am3 k (s1.drop.drop) hn).mono ?_;rintro _ h2 ⟨rfl,a',k',s2,d2⟩;try simp (disch:=first|decide|omega) only [bRtL,Nat.reduceAdd,Nat.reduceMul]
   exact ⟨by unfold dr;rw [ak_ h1],a',k',s2,d2⟩
 . rw [show (m.k==1)=false by simpa using h1];try simp only [bRtL,cy]
   by_cases h2:m.k=2
   . rw [show (m.k==2)=true by simpa using h2];try simp only [bRtL,cx]
     exact out _ (by unfold dr;rw [ah_ h1,ak_ h2])
   . rw [show (m.k==2)=false by simpa using h2];try simp only [bRtL,cy]
     by_cases h3:m.k=3
     . rw [show (m.k==3)=true by simpa using h3];try simp only [bRtL]
       unfold S5;try simp (disch:=decide) only [bRtL,cx]
       exact out _ (by unfold dr;rw [ah_ h1,ah_ h2,ak_ (.inl h3)])
     . rw [show (m.k==3)=false by simpa using h3];try simp only [bRtL]
       unfold S5;by_cases h4:m.k=4
       . rw [show (m.k==4)=true by simpa using h4];try simp (disch:=decide) only [bRtL,cx]
         exact out _ (by unfold dr;rw [ah_ h1,ah_ h2,ak_ (.inr h4)])
       . rw [show (m.k==4)=false by simpa using h4];try simp (disch:=decide) only [bRtL]
         unfold aS9;try simp only [bRtL]
         exact out _ (by unfold dr;rw [ah_ h1,ah_ h2,ah_ (by omega)])
def nx:Cod Sp:=⟨2,fun x=>[.int .i64 x.1,.int .i64 x.2],fun _=>rfl,fun _ v hv=>by simp at hv;rcases hv with rfl|rfl<;>rfl⟩
theorem eospan:iu P_ 151 nx.n 16:=eo151
theorem Sees.span {G h:Hp} {sa:Option Addr} {cap n:Nat} {L:List Sp} (s:Sees nx G h (.slice sa n cap) L) {i:Nat} {x:Sp} (hx:L[i]?=some x):
 ∃b o,sa=some ⟨b,o,none⟩/\bf G h ⟨b,o+i*2,none⟩=some (.int .i64 x.1)/\bf G h ⟨b,o+i*2+1,none⟩=some (.int .i64 x.2):=by
 obtain ⟨s',cap',e,_,hc⟩:=s;cases e;rcases hc with rfl|⟨b,o,rfl,hc⟩
 . simp at hx
 . exact ⟨b,o,rfl,hc i x hx 0 (by decide),hc i x hx 1 (by decide)⟩
theorem both_at {A B:List Sp} {i j:Nat} {x y:Sp} (hx:A[i]?=some x) (hy:B[j]?=some y):rj (A.drop i) (B.drop j)=capB x y++(if x.2<y.2 then rj (A.drop (i+1)) (B.drop j)else rj (A.drop i) (B.drop (j+1))):=by obtain ⟨hi,rfl⟩:=ad_.1 hx;obtain ⟨hj,rfl⟩:=ad_.1 hy;rw [br_ hi,br_ hj,rj,<- br_ hi,<- br_ hj]
theorem Hc {G h:Hp} {va vb:Value} {A B:List Sp} (sA:Sees nx G h va A) (sB:Sees nx G h vb B) (hlen:A.length+B.length<=1000000000):
 bn P_ G 146 #[va,vb] h (fun u h'=>∃ip,Slc nx 151 ip u (rj A B)/\Sep [ip,h] h'/\Dis G h'):=by
 obtain ⟨a1,c1,rfl,_⟩:=id sA;obtain ⟨a2,c2,rfl,_⟩:=id sB;obtain ⟨W,hW⟩:∃W,W=rj A B:=⟨_,rfl⟩;rw [<- hW];have hWl:W.length<=1000000000:=by have:=F0 _ A B (aj_ _);rw [hW];omega
 refine bn.assume fun d=>aH2 (by simp) ?_;unfold S146
 refine dt (fun m r h'=>∃(i j:Nat) (ip:Hp) (O:List Sp) (v:Value),m=(A.length-i)+(B.length-j)/\i<=A.length/\j<=B.length/\r 0 = .slice a1 A.length c1/\r 1 = .slice a2 B.length c2/\r 5=v/\r 6 = .int .i64 i/\r 7 = .int .i64 j/\
  Slc nx 151 ip v O/\Sep [ip,h] h'/\Dis G h'/\O++rj (A.drop i) (B.drop j)=W) ?_ (m:=A.length+B.length)
  ⟨0,0,noHp,[],.slice none 0 0,rfl,by omega,by omega,by simp (disch:=decide) only [bRtL],by simp (disch:=decide) only [bRtL],by simp (disch:=decide) only [bRtL],by simp (disch:=decide) only [bRtL];rfl,by simp only [bRtL];rfl,Slc.nil,Sep.one.none,d,by simp [hW]⟩
 rintro m r h' ⟨i,j,ip,O,v,rfl,hi,hj,g0,g1,g5,g6,g7,sl,s,d',hO⟩ X hX;unfold ag4;simp only [bRtL,g0,g1,g6,g7]
 have fin:rj (A.drop i) (B.drop j)=[]->∀(r':Rg),r' 5=v->Js G (retK P_ G [.tmp 4] fun u h'=>∃ip,Slc nx 151 ip u W/\Sep [ip,h] h'/\Dis G h') r' h':=fun e r' g=>by
  unfold Js;try simp only [bRtL,g]
  rw [e,av_]at hO;rw [<- hO];exact ⟨ip,sl,s,d'⟩
 by_cases hi2:i<A.length
 . rw [js (show (i:Int)<(A.length:Int)by omega)];simp only [bRtL,g1,g7];by_cases hj2:j<B.length
   . rw [js (show (j:Int)<(B.length:Int)by omega)];simp only [bRtL];obtain ⟨x,hx⟩:∃x,A[i]?=some x:=⟨_,aa_ hi2⟩;obtain ⟨y,hy⟩:∃y,B[j]?=some y:=⟨_,aa_ hj2⟩;rw [both_at hx hy]at hO;obtain ⟨b1,o1,rfl,x1,x2⟩:=Sees.span (sA.up (s.in 1 rfl) d') hx;obtain ⟨b2,o2,rfl,y1,y2⟩:=Sees.span (sB.up (s.in 1 rfl) d') hy;unfold Mo;simp -implicitDefEqProofs (maxSteps:=2000000) (disch:=first|decide|with_reducible exact aA_ rfl|exact b8|exact bw|omega|rfl|(simp;done)|fail) only [bRtL,g0,g1,g6,g7,G3 (ac_ i) (show (i:Int)<(A.length:Int)by omega),G3 (ac_ j) (show (j:Int)<(B.length:Int)by omega),x1,x2,y1,y2,max2p,min2p];intro z hz gz;have s1:=s.past (o := .cells #[.int .i64 (max x.1 y.1),.int .i64 (min x.2 y.2)] 151 (0,0)) hz;have d1:=d'.set (o := .cells #[.int .i64 (max x.1 y.1),.int .i64 (min x.2 y.2)] 151 (0,0)) gz;have hzs:(h'.set z (.cells #[.int .i64 (max x.1 y.1),.int .i64 (min x.2 y.2)] 151 (0,0))) z=some (.cells #[.int .i64 (max x.1 y.1),.int .i64 (min x.2 y.2)] 151 (0,0)):=bh
     have k4:∀(r':Rg) (h4 ip':Hp) (v':Value),r' 0=r 0->r' 1=r 1->r' 6=r 6->r' 7=r 7->r' 5=v'->Slc nx 151 ip' v' (O++capB x y)->Sep [ip',h] h4->Dis G h4->
      Aa G (di X (dc 0 (di (Js G (retK P_ G [.tmp 4] fun u h'=>∃ip,Slc nx 151 ip u W/\Sep [ip,h] h'/\Dis G h')) (retK P_ G [.tmp 4] fun u h'=>∃ip,Slc nx 151 ip u W/\Sep [ip,h] h'/\Dis G h')))) r' h4:=by
      intro r' h4 ip' v' e0 e1 e6 e7 e5 sl' s4 d4;obtain ⟨q1,p1,f1,u1,u2⟩:=Sees.span (sA.up (s4.in 1 rfl) d4) hx;obtain ⟨q2,p2,f2,w1,w2⟩:=Sees.span (sB.up (s4.in 1 rfl) d4) hy;cases f1;cases f2;rw [g0]at e0;rw [g1]at e1;rw [g6]at e6;rw [g7]at e7;unfold Aa;simp (disch:=first|decide|omega) only [bRtL,e0,e1,e6,e7,G3 (ac_ i) (show (i:Int)<(A.length:Int)by omega),G3 (ac_ j) (show (j:Int)<(B.length:Int)by omega),u2,w2];refine df (fun hlt=>?_) (fun hge=>?_)
      . rw [ak_ hlt]at hO;try simp (disch:=first|decide|omega) only [bRtL,Nat.reduceAdd,Nat.reduceMul,e6]
        refine hX ((A.length-(i+1))+(B.length-j)) _ _ (by omega) ⟨i+1,j,ip',O++capB x y,v',rfl,by omega,by omega,by simp (disch:=decide) only [bRtL,e0],by simp (disch:=decide) only [bRtL,e1],by simp (disch:=decide) only [bRtL,e5],by simp only [bRtL];rfl,by simp (disch:=decide) only [bRtL,e7],sl',s4,d4,by rw [aC_];exact hO⟩
      . rw [ah_ hge]at hO;try simp (disch:=first|decide|omega) only [bRtL,Nat.reduceAdd,Nat.reduceMul,e7]
        refine hX ((A.length-i)+(B.length-(j+1))) _ _ (by omega) ⟨i,j+1,ip',O++capB x y,v',rfl,by omega,by omega,by simp (disch:=decide) only [bRtL,e0],by simp (disch:=decide) only [bRtL,e1],by simp (disch:=decide) only [bRtL,e5],by simp (disch:=decide) only [bRtL,e6],by simp only [bRtL];rfl,sl',s4,d4,by rw [aC_];exact hO⟩
     generalize Hp.set h' z _=h3 at s1 d1 hzs ⊢;refine df (fun hlt=>?_) (fun hge=>?_)
     . intro q hq gq;have s2:=s1.past (o := .cells #[.int .i64 (max x.1 y.1),.int .i64 (min x.2 y.2)] 151 (0,0)) hq;have d2:=d1.set (o := .cells #[.int .i64 (max x.1 y.1),.int .i64 (min x.2 y.2)] 151 (0,0)) gq;have hqs:(h3.set q (.cells #[.int .i64 (max x.1 y.1),.int .i64 (min x.2 y.2)] 151 (0,0))) q=some (.cells #[.int .i64 (max x.1 y.1),.int .i64 (min x.2 y.2)] 151 (0,0)):=bh;generalize Hp.set h3 q _=h4 at s2 d2 hqs ⊢;rw [g5];have hcap:capB x y=[(max x.1 y.1,min x.2 y.2)]:=by unfold capB;rw [ak_ hlt]
       have hOl:O.length+1<=1000000000:=by have:=congrArg List.length hO;rw [hcap]at this;simp only [ae_,an_]at this;omega
       refine tc nx (by decide) (M:=[(max x.1 y.1,min x.2 y.2)]) Zj eospan (by decide) s2 d2 sl (Sees.row hqs (by simp [nx,Cod.rows]) (by simp)) (by simp only [an_,a3_];omega) ?_;intro v' ip' h5 sl' s5 d5;refine k4 _ h5 ip' v' (by simp (disch:=decide) only [bRtL]) (by simp (disch:=decide) only [bRtL]) (by simp (disch:=decide) only [bRtL]) (by simp (disch:=decide) only [bRtL]) (by simp only [bRtL]) (by rw [hcap];exact sl') s5 d5
     . have hcap:capB x y=[]:=by unfold capB;rw [ah_ hge]
       refine k4 _ h3 ip v (by simp (disch:=decide) only [bRtL]) (by simp (disch:=decide) only [bRtL]) (by simp (disch:=decide) only [bRtL]) (by simp (disch:=decide) only [bRtL]) (by simp (disch:=decide) only [bRtL,g5]) (by rw [hcap,av_];exact sl) s1 d1
   . have hj3:j=B.length:=by omega
     rw [kc (show ¬(j:Int)<(B.length:Int)by omega)];simp only [bRtL];exact fin (by rw [hj3,List.drop_length];cases A.drop i<;>simp [rj]) _ (by simp (disch:=decide) only [bRtL,g5])
 . have hi3:i=A.length:=by omega
   rw [kc (show ¬(i:Int)<(A.length:Int)by omega)];simp only [bRtL];exact fin (by rw [hi3,List.drop_length];simp [rj]) _ (by simp (disch:=decide) only [bRtL,g5])
end Go.Proofs.YtfflipnhffknnaaGreatDoor
end
section
namespace Go.Proofs.YtfflipnhffknnaaGreatDoor
open Go Go.HL
section
variable (G:Hp) (K:EK) (r:Rg) (h:Hp)
def md24:Nat->Hint
 |_=>m0_
def aT5:Prop:=
 o_ G (Instr.makeSlice 98 (r 0) (r 0)) h fun g h=>o_ G (Instr.build 124 #[(0,g)]) h fun j h=>o_ G (Instr.box 124 j) h fun s h=>
 K .ret (u6 r 10 (r 0) 11 g 12 j 13 s 2 s 3 (.int .i64 0)) h
def S24:Prop:=
 o_ G (z2_ (r 0) (1:Int)) h fun g h=>g_ g false (fun K1=>K1 (r 0) h) h fun j h=>g_ g false (o_ G (z6_ j (256:Int)) h) h fun s h=>
 y_ G (dh g (.bool true) s) h fun u h=>
 (fun q=>cond u
 (K .ret (u2 q 2 (.pointer none) 3 (.int .i64 1)) h)
 (aT5 G K q h))
 (u8 r 2 (.pointer none) 3 (.int .i64 0) 4 (r 0) 5 g 6 g 7 j 8 s 9 u)
theorem enter24:Ent 14 24 [.tmp 2,.tmp 3] S24:=ent_ (m:=md24) (c:=(Tryz.f24.body.getD .skip)) (fun _ _ _ _=>by kernel_rfl) Tryz.func24 rfl rfl rfl
def md50:Nat->Hint
 |_=>m0_
def aQ4 (G:Hp) (K:EK) (r:Rg) (h:Hp):Prop:=
 K .ret (upd r 6 (.int .i64 0)) h
def Qe:Prop:=
 o_ G (z1_ (r 67) (1:Int)) h fun g h=>
 K .normal (u2 r 80 g 67 g) h
def Qf:Prop:=
 o_ G (i_ 71 (r 65) (r 67)) h fun g h=>o_ G (l_ 75 g) h fun j h=>o_ G (Instr.alloc 75 true (.tuple #[])) h fun s h=>
 y_ G (x_ 75 s j) h fun u h=>o_ G (f_ 75 s 0) h fun u h=>o_ G (l_ 3 u) h fun w h=>o_ G (f_ 75 s 1) h fun z h=>o_ G (l_ 3 z) h fun C h=>o_ G (f_ 75 s 2) h fun D h=>o_ G (l_ 3 D) h fun E h=>
 c_ G 105 #[r 0,r 1,w,C,E] h fun F h=>
 Qe G K (u2 (u10 r 69 g 70 j 12 s 71 (r 0) 72 (r 1) 73 u 74 w 75 z 76 C 77 D) 78 E 79 F) h
def aQ3 (r:Rg) (h:Hp) (K:EK):Prop:=
 o_ G (z2_ (r 67) (r 66)) h fun g h=>
 cond g
 (Qf G K (upd r 68 g) h)
 (K (.exit 4) (upd r 68 g) h)
def aQ5:Prop:=
 o_ G (k_ 71 (r 2)) h fun g h=>
 du (aQ3 G) (u3 r 65 (r 2) 66 g 67 (.int .i64 0)) h (dc 4 (di (aQ4 G K) K))
def Lz:Prop:=
 o_ G (z1_ (r 50) (1:Int)) h fun g h=>
 K .normal (u2 r 64 g 50 g) h
def Qd:Prop:=
 o_ G (i_ 71 (r 48) (r 50)) h fun g h=>o_ G (l_ 75 g) h fun j h=>o_ G (Instr.alloc 75 true (.tuple #[])) h fun s h=>
 y_ G (x_ 75 s j) h fun u h=>o_ G (f_ 75 s 0) h fun u h=>o_ G (l_ 3 u) h fun w h=>o_ G (f_ 75 s 1) h fun z h=>o_ G (l_ 3 z) h fun C h=>o_ G (f_ 75 s 2) h fun D h=>o_ G (l_ 3 D) h fun E h=>
 c_ G 104 #[r 0,r 1,w,C,E] h fun F h=>o_ G (Op.unary .not F) h fun I h=>
 (fun q=>cond I
 (K .ret (upd q 6 (.int .i64 18)) h)
 (Lz G K q h))
 (u3 (u10 r 52 g 53 j 10 s 54 (r 0) 55 (r 1) 56 u 57 w 58 z 59 C 60 D) 61 E 62 F 63 I)
def aQ2 (r:Rg) (h:Hp) (K:EK):Prop:=
 o_ G (z2_ (r 50) (r 49)) h fun g h=>
 cond g
 (Qd G K (upd r 51 g) h)
 (K (.exit 2) (upd r 51 g) h)
def aQ6:Prop:=
 o_ G (k_ 71 (r 2)) h fun g h=>
 du (aQ2 G) (u3 r 48 (r 2) 49 g 50 (.int .i64 0)) h (dc 2 (di (aQ5 G K) K))
def B7:Prop:=
 o_ G (z1_ (r 21) (1:Int)) h fun g h=>
 K .normal (u2 r 47 g 21 g) h
def Ix:Prop:=
 o_ G (i_ 71 (r 19) (r 21)) h fun g h=>o_ G (l_ 75 g) h fun j h=>o_ G (Instr.alloc 75 true (.tuple #[])) h fun s h=>
 y_ G (x_ 75 s j) h fun u h=>o_ G (f_ 75 s 0) h fun u h=>o_ G (l_ 3 u) h fun w h=>
 c_ G 103 #[r 0,w] h fun z h=>o_ G (Op.unary .not z) h fun C h=>g_ C false (o_ G (f_ 75 s 1) h) h fun D h=>g_ C false (o_ G (l_ 3 D) h) h fun E h=>g_ C false (o_ G (z2_ E (0:Int)) h) h fun F h=>
 y_ G (dh C (.bool true) F) h fun I h=>g_ I false (o_ G (f_ 75 s 1) h) h fun J h=>g_ I false (o_ G (l_ 3 J) h) h fun L h=>g_ I false (o_ G (f_ 75 s 2) h) h fun M h=>g_ I false (o_ G (l_ 3 M) h) h fun N h=>g_ I false (o_ G (z5_ L N) h) h fun O h=>
 y_ G (dh I (.bool true) O) h fun P h=>g_ P false (o_ G (f_ 75 s 2) h) h fun Q h=>g_ P false (o_ G (l_ 3 Q) h) h fun U h=>g_ P false (o_ G (z6_ U (4611686018427387904:Int)) h) h fun V h=>
 y_ G (dh P (.bool true) V) h fun W h=>
 (fun q=>cond W
 (K .ret (upd q 6 (.int .i64 1)) h)
 (B7 G K q h))
 (u5 (u10 (u10 r 23 g 24 j 8 s 25 (r 0) 26 u 27 w 28 z 29 C 30 C 31 D) 32 E 33 F 34 I 35 I 36 J 37 L 38 M 39 N 40 O 41 P) 42 P 43 Q 44 U 45 V 46 W)
def ae5 (r:Rg) (h:Hp) (K:EK):Prop:=
 o_ G (z2_ (r 21) (r 20)) h fun g h=>
 cond g
 (Ix G K (upd r 22 g) h)
 (K (.exit 0) (upd r 22 g) h)
def aQ7:Prop:=
 o_ G (k_ 71 (r 2)) h fun g h=>
 du (ae5 G) (u3 r 19 (r 2) 20 g 21 (.int .i64 0)) h (dc 0 (di (aQ6 G K) K))
def S50:Prop:=
 y_ G (xEq .eql 34 (.tmp 0) (.const .nilFunc) (r 0) (.pointer none)) h fun g h=>g_ g false (fun K1=>K1 (r 1) h) h fun j h=>g_ g false (o_ G (z2_ j (0:Int)) h) h fun s h=>
 y_ G (dh g (.bool true) s) h fun u h=>
 (fun q=>cond u
 (K .ret (upd q 6 (.int .i64 1)) h)
 (aQ7 G K q h))
 (u7 r 6 (.int .i64 0) 13 (r 0) 14 g 15 g 16 j 17 s 18 u)
theorem enter50:Ent 81 50 [.tmp 6] S50:=ent_ (m:=md50) (c:=(Tryz.f50.body.getD .skip)) (fun _ _ _ _=>by kernel_rfl) Tryz.func50 rfl rfl rfl
def md145:Nat->Hint
 |_=>m0_
def S145:Prop:=
 o_ G (Instr.box 34 (r 0)) h fun g h=>o_ G (Instr.box 3 (r 1)) h fun j h=>o_ G (Instr.box 3 (r 2)) h fun s h=>
 K .ret (u6 r 3 g 4 j 5 s 6 .nilFunc 7 (.func (.func 164) #[] #[g,j,s]) 6 (.func (.func 164) #[] #[g,j,s])) h
theorem aH3:Ent 8 145 [.tmp 6] S145:=ent_ (m:=md145) (c:=(Tryz.f145.body.getD .skip)) (fun _ _ _ _=>by kernel_rfl) Tryz.func145 rfl rfl rfl
def md26:Nat->Hint
 |_=>m0_
def aT4:Prop:=
 y_ G (xNil (r 0)) h fun g h=>o_ G (f_ 124 g 0) h fun j h=>o_ G (l_ 98 j) h fun s h=>o_ G (k_ 98 s) h fun u h=>
 K .ret (u6 r 5 (r 0) 6 g 7 j 8 s 9 u 2 u) h
def S26:Prop:=
 y_ G (xEq .eql 34 (.tmp 0) (.const .nilFunc) (r 0) (.pointer none)) h fun g h=>
 cond g
 (K .ret (u4 r 2 (.int .i64 0) 3 (r 0) 4 g 2 (.int .i64 0)) h)
 (aT4 G K (u3 r 2 (.int .i64 0) 3 (r 0) 4 g) h)
theorem enter26:Ent 10 26 [.tmp 2] S26:=ent_ (m:=md26) (c:=(Tryz.f26.body.getD .skip)) (fun _ _ _ _=>by kernel_rfl) Tryz.func26 rfl rfl rfl
def md103:Nat->Hint
 |_=>m0_
def S103:Prop:=
 y_ G (xEq .neq 34 (.tmp 0) (.const .nilFunc) (r 0) (.pointer none)) h fun g h=>g_ g true (fun K1=>K1 (r 1) h) h fun j h=>g_ g true (o_ G (z5_ j (0:Int)) h) h fun s h=>
 y_ G (dh g s (.bool false)) h fun u h=>g_ u true (fun K1=>K1 (r 1) h) h fun w h=>g_ u true (fun K1=>K1 (r 0) h) h fun z h=>g_ u true (opH P_ G (xNil z) h) h fun C h=>g_ u true (o_ G (f_ 124 C 0) h) h fun D h=>g_ u true (o_ G (l_ 98 D) h) h fun E h=>g_ u true (o_ G (k_ 98 E) h) h fun F h=>g_ u true (o_ G (z2_ w F) h) h fun I h=>
 y_ G (dh u I (.bool false)) h fun J h=>
 K .ret (u7 (u10 r 4 (.bool false) 5 (r 0) 6 g 7 g 8 j 9 s 10 u 11 u 12 w 13 z) 14 C 15 D 16 E 17 F 18 I 19 J 4 J) h
theorem aK7:Ent 20 103 [.tmp 4] S103:=ent_ (m:=md103) (c:=(Tryz.f103.body.getD .skip)) (fun _ _ _ _=>by kernel_rfl) Tryz.func103 rfl rfl rfl
def md104:Nat->Hint
 |_=>m0_
def Tz (G:Hp) (K:EK) (r:Rg) (h:Hp):Prop:=
 K .ret (upd r 10 (.bool true)) h
def El:Prop:=
 o_ G (z1_ (r 21) (1:Int)) h fun g h=>
 K .normal (u2 r 41 g 21 g) h
def Nr:Prop:=
 o_ G (i_ 99 (r 19) (r 21)) h fun g h=>o_ G (l_ 203 g) h fun j h=>o_ G (Instr.alloc 203 true (.tuple #[])) h fun s h=>
 y_ G (x_ 203 s j) h fun u h=>o_ G (f_ 203 s 2) h fun u h=>o_ G (l_ 3 u) h fun w h=>
 y_ G (xEq .neq 3 (.tmp 0) (.tmp 0) w (r 1)) h fun z h=>g_ z true (o_ G (f_ 203 s 0) h) h fun C h=>g_ z true (o_ G (l_ 3 C) h) h fun D h=>g_ z true (fun K1=>K1 (r 4) h) h fun E h=>g_ z true (o_ G (z2_ D E) h) h fun F h=>
 y_ G (dh z F (.bool false)) h fun I h=>g_ I true (fun K1=>K1 (r 3) h) h fun J h=>g_ I true (o_ G (f_ 203 s 1) h) h fun L h=>g_ I true (o_ G (l_ 3 L) h) h fun M h=>g_ I true (o_ G (z2_ J M) h) h fun N h=>
 y_ G (dh I N (.bool false)) h fun O h=>
 (fun q=>cond O
 (K .ret (upd q 10 (.bool false)) h)
 (El G K q h))
 (u9 (u10 r 23 g 24 j 12 s 25 u 26 w 27 (r 1) 28 z 29 z 30 C 31 D) 32 E 33 F 34 I 35 I 36 J 37 L 38 M 39 N 40 O)
def al5 (r:Rg) (h:Hp) (K:EK):Prop:=
 o_ G (z2_ (r 21) (r 20)) h fun g h=>
 cond g
 (Nr G K (upd r 22 g) h)
 (K (.exit 0) (upd r 22 g) h)
def S104:Prop:=
 y_ G (xNil (r 0)) h fun g h=>o_ G (f_ 124 g 0) h fun j h=>o_ G (l_ 98 j) h fun s h=>o_ G (i_ 98 s (r 2)) h fun u h=>o_ G (l_ 99 u) h fun w h=>o_ G (k_ 99 w) h fun z h=>
 du (al5 G) (u10 r 10 (.bool false) 13 (r 0) 14 g 15 j 16 s 17 (r 2) 18 u 19 w 20 z 21 (.int .i64 0)) h (dc 0 (di (Tz G K) K))
theorem aK6:Ent 42 104 [.tmp 10] S104:=ent_ (m:=md104) (c:=(Tryz.f104.body.getD .skip)) (fun _ _ _ _=>by kernel_rfl) Tryz.func104 rfl rfl rfl
def md105:Nat->Hint
 |5=>mh false [0,0,2,7,0,0,32,112,15,511] [n_,n_,m_,n_,n_,n_,m_,n_,n_,n_] (fs 10) false
 |9=>mh false [0,1,3,7,0,0,0,0,0,0,896,1920,4064,8191,16383] [n_,n_,n_,m_,n_,n_,n_,n_,n_,n_,n_,.alloc,e_,n_,.store] (fs 12++[true]++fs 2) true
 |_=>m0_
def al4:Prop:=
 y_ G (callFunc 142 #[r 10,r 3,(.func (.func 143) #[] #[])]) h fun g h=>o_ G (Instr.extract g 0) h fun j h=>o_ G (Instr.extract g 1) h fun s h=>
 ∃h':Hp,h'.le h/\
 dl P_ noHp noHp (xNil (r 0)) h fun u h=>
 p_ (f_ 124 u 0) h fun w h=>
 w_ G h' (l_ 98 w) h fun z h=>
 p_ (Instr.build 203 #[(0,(r 3)),(1,(r 4)),(2,(r 1))]) h fun C h=>o_ G (Instr.buildSlice 99 1 #[(0,C)]) h fun D h=>
 c_ G 144 #[r 10,j,D] h fun E h=>h'.le h/\
 p_ (i_ 98 z (r 2)) h fun F h=>
 y_ G (x_ 99 F E) h fun I h=>
 K .normal (u2 (u10 (u10 r 57 (r 10) 58 (r 3) 59 g 56 g 60 j 61 s 13 j 14 s 62 (r 0) 63 u) 64 w 65 z 66 (r 2) 67 (r 10) 68 j 69 (r 3) 70 (r 4) 71 (r 1) 72 C 73 D) 74 E 75 F) h
def Ad:Prop:=
 o_ G (z1_ (r 23) (1:Int)) h fun g h=>
 K .normal (u2 r 55 g 23 g) h
def Ek:Prop:=
 o_ G (l_ 203 (r 12)) h fun g h=>o_ G (Instr.buildSlice 99 1 #[(0,g)]) h fun j h=>o_ G (Builtin.append_ #[99,99] 99 #[r 10,j]) h fun s h=>
 Ad G K (u5 r 51 (r 10) 52 g 53 j 54 s 10 s) h
def Nq:Prop:=
 o_ G (i_ 99 (r 21) (r 23)) h fun g h=>o_ G (l_ 203 g) h fun j h=>o_ G (Instr.alloc 203 true (.tuple #[])) h fun s h=>
 y_ G (x_ 203 s j) h fun u h=>o_ G (f_ 203 s 2) h fun u h=>o_ G (l_ 3 u) h fun w h=>
 y_ G (xEq .eql 3 (.tmp 0) (.tmp 0) w (r 1)) h fun z h=>g_ z true (o_ G (f_ 203 s 0) h) h fun C h=>g_ z true (o_ G (l_ 3 C) h) h fun D h=>g_ z true (fun K1=>K1 (r 4) h) h fun E h=>g_ z true (o_ G (z7_ D E) h) h fun F h=>
 y_ G (dh z F (.bool false)) h fun I h=>g_ I true (fun K1=>K1 (r 3) h) h fun J h=>g_ I true (o_ G (f_ 203 s 1) h) h fun L h=>g_ I true (o_ G (l_ 3 L) h) h fun M h=>g_ I true (o_ G (z7_ J M) h) h fun N h=>
 y_ G (dh I N (.bool false)) h fun O h=>
 cond O
 (p_ (f_ 203 s 0) h fun P h'=>
 w_ G h (l_ 3 P) h' fun Q h'=>
 p_ (Builtin.min_ #[3,3] 3 #[r 3,Q]) h' fun U h'=>
 p_ (f_ 203 s 1) h' fun V h'=>
 w_ G h (l_ 3 V) h' fun W h'=>
 p_ (Builtin.max_ #[3,3] 3 #[r 4,W]) h' fun Y h'=>
 Ad G K (u9 (u10 (u10 r 25 g 26 j 12 s 27 u 28 w 29 (r 1) 30 z 31 z 32 C 33 D) 34 E 35 F 36 I 37 I 38 J 39 L 40 M 41 N 42 O 43 (r 3)) 44 P 45 Q 46 U 47 (r 4) 48 V 49 W 50 Y 3 U 4 Y) h')
 (Ek G K (u9 (u10 r 25 g 26 j 12 s 27 u 28 w 29 (r 1) 30 z 31 z 32 C 33 D) 34 E 35 F 36 I 37 I 38 J 39 L 40 M 41 N 42 O) h)
def al3 (r:Rg) (h:Hp) (K:EK):Prop:=
 o_ G (z2_ (r 23) (r 22)) h fun g h=>
 cond g
 (Nq G K (upd r 24 g) h)
 (K (.exit 0) (upd r 24 g) h)
def S105:Prop:=
 y_ G (xNil (r 0)) h fun g h=>o_ G (f_ 124 g 0) h fun j h=>o_ G (l_ 98 j) h fun s h=>o_ G (i_ 98 s (r 2)) h fun u h=>o_ G (l_ 99 u) h fun w h=>o_ G (k_ 99 w) h fun z h=>
 du (al3 G) (u10 r 10 (.slice none 0 0) 15 (r 0) 16 g 17 j 18 s 19 (r 2) 20 u 21 w 22 z 23 (.int .i64 0)) h (dc 0 (di (al4 G K) (xq K)))
theorem aK5:Ent 76 105 [] S105:=ent_ (m:=md105) (c:=(Tryz.f105.body.getD .skip)) (fun _ _ _ _=>by kernel_rfl) Tryz.func105 rfl rfl rfl
def md106:Nat->Hint
 |_=>m0_
def al2:Prop:=
 o_ G (k_ 99 (r 0)) h fun g h=>o_ G (Instr.makeSlice 99 g g) h fun j h=>o_ G (Builtin.copy_ #[99,99] 3 #[j,r 0]) h fun s h=>
 K .ret (u9 r 7 (r 0) 8 g 9 j 3 j 10 j 11 (r 0) 12 s 13 j 2 j) h
def S106:Prop:=
 o_ G (k_ 99 (r 0)) h fun g h=>
 y_ G (xEq .eql 3 (.tmp 0) (.const .nilFunc) g (.int .i64 0)) h fun j h=>
 (fun q=>cond j
 (K .ret (upd q 2 (.slice none 0 0)) h)
 (al2 G K q h))
 (u4 r 2 (.slice none 0 0) 4 (r 0) 5 g 6 j)
theorem aK4:Ent 14 106 [.tmp 2] S106:=ent_ (m:=md106) (c:=(Tryz.f106.body.getD .skip)) (fun _ _ _ _=>by kernel_rfl) Tryz.func106 rfl rfl rfl
def md164:Nat->Hint
 |2=>mh false [0,1,3,7,0,31,63,127,0] [m_,n_,n_,m_,m_,n_,m_,m_,n_] (fs 9) false
 |_=>m0_
def Te:Prop:=
 o_ G (z2_ (r 5) (4611686018427387904:Int)) h fun g h=>
 cond g
 (opH P_ G (jh (r 0) #[r 5,(.int .i64 4611686018427387904)]) h fun j h'=>
 K .normal (u5 r 43 (r 5) 44 g 45 (r 0) 46 (r 5) 47 j) h')
 (K .normal (u2 r 43 (r 5) 44 g) h)
def te:Prop:=
 o_ G (z1_ (r 20) (1:Int)) h fun g h=>
 K .normal (u2 r 42 g 20 g) h
def wb:Prop:=
 o_ G (f_ 203 (r 7) 1) h fun g h=>o_ G (l_ 3 g) h fun j h=>
 te G K (u3 r 40 g 41 j 5 j) h
def Ea:Prop:=
 o_ G (f_ 203 (r 7) 0) h fun g h=>o_ G (l_ 3 g) h fun j h=>o_ G (z6_ j (r 5)) h fun s h=>g_ s true (fun K1=>K1 (r 0) h) h fun u h=>g_ s true (fun K1=>K1 (r 5) h) h fun w h=>g_ s true (o_ G (f_ 203 (r 7) 0) h) h fun z h=>g_ s true (o_ G (l_ 3 z) h) h fun C h=>g_ s true (opH P_ G (jh u #[w,C]) h) h fun D h=>g_ s true (o_ G (Op.unary .not D) h) h fun E h=>
 y_ G (dh s E (.bool false)) h fun F h=>
 (fun q=>cond F
 (K .ret q h)
 (wb G K q h))
 (u2 (u10 r 28 g 29 j 30 (r 5) 31 s 32 s 33 u 34 w 35 z 36 C 37 D) 38 E 39 F)
def Eb:Prop:=
 o_ G (i_ 99 (r 18) (r 20)) h fun g h=>o_ G (l_ 203 g) h fun j h=>o_ G (Instr.alloc 203 true (.tuple #[])) h fun s h=>
 y_ G (x_ 203 s j) h fun u h=>o_ G (f_ 203 s 2) h fun u h=>o_ G (l_ 3 u) h fun w h=>o_ G (l_ 3 (r 3)) h fun z h=>
 y_ G (xEq .eql 3 (.tmp 0) (.tmp 0) w z) h fun C h=>
 (fun q=>cond C
 (te G K q h)
 (Ea G K q h))
 (u7 r 22 g 23 j 7 s 24 u 25 w 26 z 27 C)
def Td (r:Rg) (h:Hp) (K:EK):Prop:=
 o_ G (z2_ (r 20) (r 19)) h fun g h=>
 cond g
 (Eb G K (upd r 21 g) h)
 (K (.exit 0) (upd r 21 g) h)
def Tf:Prop:=
 w_ G h (l_ 34 (r 1)) h fun g h'=>
 dl P_ noHp noHp (xNil g) h' fun j h'=>
 p_ (f_ 124 j 0) h' fun s h'=>
 w_ G h (l_ 98 s) h' fun u h'=>
 w_ G h (l_ 3 (r 2)) h' fun w h'=>
 p_ (i_ 98 u w) h' fun z h'=>
 w_ G h (l_ 99 z) h' fun C h'=>
 w_ G h (k_ 99 C) h' fun D h=>
 du (Td G) (u10 r 5 (.int .i64 0) 12 g 13 j 14 s 15 u 16 w 17 z 18 C 19 D 20 (.int .i64 0)) h (dc 0 (di (Te G K) (xq K)))
def S164:Prop:=
 o_ G (l_ 34 (r 1)) h fun g h=>o_ G (l_ 3 (r 2)) h fun j h=>
 c_ G 103 #[g,j] h fun s h=>o_ G (Op.unary .not s) h fun u h=>
 cond u
 (K .ret (u4 r 8 g 9 j 10 s 11 u) h)
 (Tf G K (u4 r 8 g 9 j 10 s 11 u) h)
theorem Wh:Ent 48 164 [] S164:=ent_ (m:=md164) (c:=(Tryz.f164.body.getD .skip)) (fun _ _ _ _=>by kernel_rfl) Tryz.func164 rfl rfl rfl
def md77:Nat->Hint
 |_=>m0_
def aP1:Prop:=
 o_ G (i_ 110 (r 5) (.int .i64 0)) h fun g h=>o_ G (l_ 3 g) h fun j h=>o_ G (i_ 110 (r 5) (.int .i64 1)) h fun s h=>o_ G (l_ 3 s) h fun u h=>o_ G (z1_ j u) h fun w h=>
 K .ret (u6 r 15 g 16 j 17 s 18 u 19 w 4 w) h
def S77:Prop:=
 c_ G 126 #[r 0,r 1] h fun g h=>o_ G (Instr.alloc 110 true (.tuple #[])) h fun j h=>
 y_ G (x_ 110 j g) h fun s h=>o_ G (i_ 110 j (.int .i64 0)) h fun s h=>o_ G (l_ 3 s) h fun u h=>o_ G (i_ 110 j (.int .i64 1)) h fun w h=>o_ G (l_ 3 w) h fun z h=>o_ G (z3_ (4611686018427387904:Int) z) h fun C h=>o_ G (z6_ u C) h fun D h=>
 (fun q=>cond D
 (K .ret (upd q 4 (.int .i64 4611686018427387904)) h)
 (aP1 G K q h))
 (upd (u10 r 4 (.int .i64 0) 6 (r 0) 7 (r 1) 8 g 5 j 9 s 10 u 11 w 12 z 13 C) 14 D)
theorem enter77:Ent 20 77 [.tmp 4] S77:=ent_ (m:=md77) (c:=(Tryz.f77.body.getD .skip)) (fun _ _ _ _=>by kernel_rfl) Tryz.func77 rfl rfl rfl
def md142:Nat->Hint
 |_=>m0_
def ag8:Prop:=
 o_ G (z2_ (r 9) (r 8)) h fun g h=>g_ g true (fun K1=>K1 (r 2) h) h fun j h=>g_ g true (fun K1=>K1 (r 0) h) h fun s h=>g_ g true (fun K1=>K1 (r 9) h) h fun u h=>g_ g true (o_ G (i_ 99 s u) h) h fun w h=>g_ g true (o_ G (l_ 203 w) h) h fun z h=>g_ g true (fun K1=>K1 (r 1) h) h fun C h=>g_ g true (opH P_ G (jh j #[z,C]) h) h fun D h=>g_ g true (opH P_ G (xEq .eql 3 (.tmp 0) (.const .nilFunc) D (.int .i64 0)) h) h fun E h=>
 y_ G (dh g E (.bool false)) h fun F h=>
 K .ret (u6 (u10 r 35 (r 9) 36 (r 9) 37 (r 8) 38 g 39 g 40 j 41 s 42 u 43 w 44 z) 45 C 46 D 47 E 48 F 6 (r 9) 7 F) h
def Mp:Prop:=
 o_ G (z1_ (r 9) (r 10)) h fun g h=>o_ G (convert 3 272 g) h fun j h=>o_ G (binOp .shr 272 j (.int .u64 1)) h fun s h=>o_ G (convert 272 3 s) h fun u h=>o_ G (i_ 99 (r 0) u) h fun w h=>o_ G (l_ 203 w) h fun z h=>
 y_ G (jh (r 2) #[z,r 1]) h fun C h=>o_ G (z2_ C (0:Int)) h fun D h=>
 cond D
 (o_ G (z1_ u (1:Int)) h fun E h'=>
 K .normal (u8 (u10 r 18 (r 9) 19 (r 10) 20 g 21 j 22 s 23 u 11 u 24 (r 2) 25 (r 0) 26 u) 27 w 28 z 29 (r 1) 30 C 31 D 32 u 33 E 9 E) h')
 (K .normal (u7 (u10 r 18 (r 9) 19 (r 10) 20 g 21 j 22 s 23 u 11 u 24 (r 2) 25 (r 0) 26 u) 27 w 28 z 29 (r 1) 30 C 31 D 34 u 10 u) h)
def ag7 (r:Rg) (h:Hp) (K:EK):Prop:=
 o_ G (z2_ (r 9) (r 10)) h fun g h=>
 cond g
 (Mp G K (u3 r 15 (r 9) 16 (r 10) 17 g) h)
 (K (.exit 0) (u3 r 15 (r 9) 16 (r 10) 17 g) h)
def S142:Prop:=
 o_ G (k_ 99 (r 0)) h fun g h=>
 du (ag7 G) (u8 r 6 (.int .i64 0) 7 (.bool false) 12 (r 0) 13 g 8 g 14 g 9 (.int .i64 0) 10 g) h (dc 0 (di (ag8 G K) K))
theorem aH6:Ent 49 142 [.tmp 6,.tmp 7] S142:=ent_ (m:=md142) (c:=(Tryz.f142.body.getD .skip)) (fun _ _ _ _=>by kernel_rfl) Tryz.func142 rfl rfl rfl
def md143:Nat->Hint
 |_=>m0_
def S143:Prop:=
 o_ G (Instr.box 203 (r 0)) h fun g h=>o_ G (f_ 203 g 0) h fun j h=>o_ G (l_ 3 j) h fun s h=>o_ G (z3_ s (r 1)) h fun u h=>
 K .ret (u7 r 2 g 4 (.int .i64 0) 5 j 6 s 7 (r 1) 8 u 4 u) h
theorem aH5:Ent 9 143 [.tmp 4] S143:=ent_ (m:=md143) (c:=(Tryz.f143.body.getD .skip)) (fun _ _ _ _=>by kernel_rfl) Tryz.func143 rfl rfl rfl
def md144:Nat->Hint
 |11=>mh false [0,0,0,6,15,0,0,96,255] [n_,n_,n_,n_,n_,n_,n_,n_,e_] (fs 9) false
 |15=>mh false [0,0,0,6,15,0,0,96,255] [n_,n_,n_,n_,n_,n_,n_,n_,e_] (fs 9) false
 |_=>m0_
def S144_k4:Prop:=
 o_ G (Instr.sliceAt 99 (r 0) (some (r 8)) none none) h fun g h=>o_ G (Builtin.copy_ #[99,99] 3 #[g,r 2]) h fun j h=>o_ G (Instr.sliceAt 99 (r 0) (some (r 1)) none none) h fun s h=>
 c_ G 163 #[s,r 7] h fun u h=>
 K .ret (u2 (u10 r 84 (r 0) 85 (r 8) 86 g 87 (r 2) 88 j 89 (r 0) 90 (r 1) 91 s 92 (r 7) 93 u) 94 (r 0) 6 (r 0)) h
def ag5:Prop:=
 o_ G (z1_ (r 8) (r 7)) h fun g h=>o_ G (Instr.sliceAt 99 (r 0) none (some g) none) h fun j h=>o_ G (z1_ (r 1) (r 7)) h fun s h=>o_ G (Instr.sliceAt 99 j (some s) none none) h fun u h=>
 y_ G (callFunc 162 #[r 2,u]) h fun w h=>o_ G (Op.unary .not w) h fun z h=>
 cond z
 (p_ (z1_ (r 1) (r 7)) h fun C h'=>
 p_ (Instr.sliceAt 99 j (some C) none none) h' fun D h'=>
 p_ (Instr.sliceAt 99 j (some (r 1)) none none) h' fun E h'=>o_ G (Builtin.copy_ #[99,99] 3 #[D,E]) h' fun F h'=>o_ G (Instr.sliceAt 99 j (some (r 1)) none none) h' fun I h'=>o_ G (Builtin.copy_ #[99,99] 3 #[I,r 2]) h' fun J h'=>
 K .ret (u10 (u10 (u10 r 56 (r 0) 57 (r 8) 58 (r 7) 59 g 60 j 0 j 61 (r 2) 62 j 63 (r 1) 64 (r 7)) 65 s 66 u 67 w 68 z 69 j 70 (r 1) 71 (r 7) 72 C 73 D 74 j) 75 (r 1) 76 E 77 F 78 j 79 (r 1) 80 I 81 (r 2) 82 J 83 j 6 j) h')
 (S144_k4 G K (u4 (u10 r 56 (r 0) 57 (r 8) 58 (r 7) 59 g 60 j 0 j 61 (r 2) 62 j 63 (r 1) 64 (r 7)) 65 s 66 u 67 w 68 z) h)
def ag6:Prop:=
 o_ G (z1_ (r 8) (r 7)) h fun g h=>o_ G (Builtin.cap_ #[99] 3 #[r 0]) h fun j h=>o_ G (z6_ g j) h fun s h=>
 cond s
 (o_ G (Instr.sliceAt 99 (r 0) none (some (r 1)) none) h fun u h'=>o_ G (z1_ (r 8) (r 7)) h' fun w h'=>o_ G (z3_ w (r 1)) h' fun z h'=>o_ G (Builtin.append_ #[99,3] 99 #[u,z]) h' fun C h'=>o_ G (Instr.sliceAt 99 C (some (r 1)) none none) h' fun D h'=>o_ G (Builtin.copy_ #[99,99] 3 #[D,r 2]) h' fun E h'=>
 p_ (z1_ (r 1) (r 7)) h' fun F h'=>
 p_ (Instr.sliceAt 99 C (some F) none none) h' fun I h'=>
 p_ (Instr.sliceAt 99 (r 0) (some (r 1)) none none) h' fun J h'=>o_ G (Builtin.copy_ #[99,99] 3 #[I,J]) h' fun L h'=>
 K .ret (u2 (u10 (u10 (u10 r 26 (r 8) 27 (r 7) 28 g 29 (r 0) 30 j 31 s 32 (r 0) 33 (r 1) 34 u 35 (r 8)) 36 (r 7) 37 w 38 (r 1) 39 z 40 C 9 C 41 C 42 (r 1) 43 D 44 (r 2)) 45 E 46 C 47 (r 1) 48 (r 7) 49 F 50 I 51 (r 0) 52 (r 1) 53 J 54 L) 55 C 6 C) h')
 (ag5 G K (u6 r 26 (r 8) 27 (r 7) 28 g 29 (r 0) 30 j 31 s) h)
def Tk:Prop:=
 o_ G (k_ 99 (r 0)) h fun g h=>
 y_ G (xEq .eql 3 (.tmp 0) (.tmp 0) (r 1) g) h fun j h=>
 cond j
 (o_ G (Builtin.append_ #[99,99] 99 #[r 0,r 2]) h fun s h'=>
 K .ret (u10 r 18 (r 0) 19 g 8 g 20 (r 1) 21 g 22 j 23 (r 0) 24 (r 2) 25 s 6 s) h')
 (ag6 G K (u6 r 18 (r 0) 19 g 8 g 20 (r 1) 21 g 22 j) h)
def S144:Prop:=
 o_ G (Instr.sliceAt 99 (r 0) (some (r 1)) none none) h fun g h=>o_ G (k_ 99 (r 2)) h fun j h=>
 y_ G (xEq .eql 3 (.tmp 0) (.const .nilFunc) j (.int .i64 0)) h fun s h=>
 (fun q=>cond s
 (K .ret (u2 q 17 (r 0) 6 (r 0)) h)
 (Tk G K q h))
 (u9 r 6 (.slice none 0 0) 10 (r 0) 11 (r 1) 12 g 13 (r 2) 14 j 7 j 15 j 16 s)
theorem aH4:Ent 95 144 [.tmp 6] S144:=ent_ (m:=md144) (c:=(Tryz.f144.body.getD .skip)) (fun _ _ _ _=>by kernel_rfl) Tryz.func144 rfl rfl rfl
def md126:Nat->Hint
 |_=>m0_
def S126:Prop:=
 o_ G (Instr.alloc 110 true (.tuple #[])) h fun g h=>
 c_ G 154 #[r 0] h fun j h=>
 c_ G 154 #[r 1] h fun s h=>o_ G (Instr.build 110 #[(0,j),(1,s)]) h fun u h=>
 y_ G (x_ 110 g u) h fun w h=>
 K .ret (u6 r 4 g 5 (r 0) 6 j 7 (r 1) 8 s 9 u) h
theorem aI8:Ent 10 126 [.cell 4 110] S126:=ent_ (m:=md126) (c:=(Tryz.f126.body.getD .skip)) (fun _ _ _ _=>by kernel_rfl) Tryz.func126 rfl rfl rfl
def md154:Nat->Hint
 |_=>m0_
def S154:Prop:=
 o_ G (Builtin.min_ #[3,3] 3 #[r 0,(.int .i64 4611686018427387904)]) h fun g h=>o_ G (Builtin.max_ #[3,3] 3 #[(.int .i64 0),g]) h fun j h=>
 K .ret (u5 r 2 (.int .i64 0) 3 (r 0) 4 g 5 j 2 j) h
theorem aG5:Ent 6 154 [.tmp 2] S154:=ent_ (m:=md154) (c:=(Tryz.f154.body.getD .skip)) (fun _ _ _ _=>by kernel_rfl) Tryz.func154 rfl rfl rfl
end
end Go.Proofs.YtfflipnhffknnaaGreatDoor
end

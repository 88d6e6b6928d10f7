/- Texts of the proof, one behind the other. -/
import Derived.Test.YtfflipnhffknnaaGreatDoorBM5
import Derived.Test.YtfflipnhffknnaaGreatDoorBM3
import Derived.Test.YtfflipnhffknnaaGreatDoorBM4
import Derived.Test.YtfflipnhffknnaaGreatDoorBM1
import Derived.Test.YtfflipnhffknnaaGreatDoorBH3
import Derived.Test.YtfflipnhffknnaaGreatDoorBM2
set_option linter.unusedSimpArgs false
set_option linter.unusedVariables false
set_option maxRecDepth 100000
set_option linter.unusedSectionVars false
set_option maxHeartbeats 8000000
set_option linter.defProp false
section
namespace Go.Proofs.YtfflipnhffknnaaGreatDoor
open Go Go.HL
def yy:=jq bC (jq (jq @Vn @ld48p) (jq @ln40 (jq @mx @jw)))
def ux {α:Type} (L M:List α) (i:Nat):Prop:=M.length=L.length/\∀p:Nat,p<L.length->M[p]?=if p<i\/L.length-i<=p then L[L.length-1-p]? else L[p]?
theorem ux.zero {α:Type} {L:List α}:ux L L 0:=⟨rfl,fun p hp=>by rw [ah_ (by omega)]⟩
theorem ux.all {α:Type} {L M:List α} {i:Nat} (f:ux L M i) (h:L.length<=2*i+1):M=L.reverse:=by
 refine bg_ fun p=>?_;by_cases hp:p<L.length
 . rw [f.2 p hp,List.getElem?_reverse hp];split
   . rfl
   . congr 1;omega
 . rw [a4_ (by rw [f.1];omega),a4_ (by simp;omega)]
theorem ux.next {α:Type} {L M:List α} {i:Nat} {x y:α} (f:ux L M i) (h:2*i+1<L.length) (hx:M[i]?=some x) (hy:M[L.length-1-i]?=some y):ux L ((M.set i y).set (L.length-1-i) x) (i+1):=by
 refine ⟨by rw [aX_,aX_,f.1],fun p hp=>?_⟩;have e1:L[i]?=some x:=by rw [<- hx,f.2 i (by omega),ah_ (by omega)]
 have e2:L[L.length-1-i]?=some y:=by rw [<- hy,f.2 _ (by omega),ah_ (by omega)]
 by_cases h1:p=L.length-1-i
 . subst h1;rw [aB_ (by rw [aX_,f.1];omega),ak_ (by omega),show L.length-1-(L.length-1-i)=i by omega,e1]
 . rw [ax_ (by omega)];by_cases h2:p=i
   . subst h2;rw [aB_ (by rw [f.1];omega),ak_ (by omega),e2]
   . rw [ax_ (by omega),f.2 p hp];by_cases h3:p<i\/L.length-i<=p
     . rw [ak_ h3,ak_ (by omega)]
     . rw [ah_ h3,ah_ (by omega)]
theorem Sees.mvx {G h:Hp} {sa:Option Addr} {cap n:Nat} {L:List Move} (s:Sees jg G h (.slice sa n cap) L) {i:Nat} {m:Move} (hx:L[i]?=some m):
 ∃b o,sa=some ⟨b,o,none⟩/\bf G h ⟨b,o+i*11,none⟩=some (.int .i64 m.k)/\bf G h ⟨b,o+i*11+1,none⟩=some (.int .i64 m.d)/\bf G h ⟨b,o+i*11+2,none⟩=some (.int .i64 m.n)/\bf G h ⟨b,o+i*11+3,none⟩=some (.int .i64 m.f.x)/\bf G h ⟨b,o+i*11+4,none⟩=some (.int .i64 m.f.y)/\bf G h ⟨b,o+i*11+5,none⟩=some (.bool m.f.d)/\bf G h ⟨b,o+i*11+6,none⟩=some (.int .i64 m.t.x)/\bf G h ⟨b,o+i*11+7,none⟩=some (.int .i64 m.t.y)/\bf G h ⟨b,o+i*11+8,none⟩=some (.bool m.t.d)/\bf G h ⟨b,o+i*11+9,none⟩=some (.int .i64 m.a)/\bf G h ⟨b,o+i*11+10,none⟩=some (.int .i64 m.e):=by
 obtain ⟨s',cap',e,_,hc⟩:=s;cases e;rcases hc with rfl|⟨b,o,rfl,hc⟩
 . simp at hx
 . have e2:=fun j hj=>hc i m hx j hj;exact ⟨b,o,rfl,e2 0 (by decide),e2 1 (by decide),e2 2 (by decide),e2 3 (by decide),e2 4 (by decide),e2 5 (by decide),e2 6 (by decide),e2 7 (by decide),e2 8 (by decide),e2 9 (by decide),e2 10 (by decide)⟩
theorem Zn {G h:Hp} {b i:Nat} {M:List Move} {t:List Value} {j:Move} {K:Unit->Hp->Prop} (hb:h b=some (.cells (jg.rows M++t).toArray 48 (0,0))) (hi:i<M.length):
 wpH P_ G (Instr.storeAt 48 (.pointer (some ⟨b,i*11,none⟩)) (E7 j)) h K=K () (h.set b (.cells (jg.rows (M.set i j)++t).toArray 48 (0,0))):=by rw [vd (n:=11) sz48 hb rfl (by rw [ae_,jg.rows_length,show jg.n=11 from rfl];omega) (by intro v hv;simp [Value.cells]at hv;rcases hv with rfl|rfl|rfl|rfl|rfl|rfl|rfl|rfl|rfl|rfl|rfl<;>rfl)];have:=jg.rows_put (t:=t) (x:=j) hi;rw [<- this];rfl
theorem ao3 {G h a:Hp} {R:List Hp} {v:Value} {L:List Move} (s:HL.Sep (a::R) h) (o:Slc jg 48 a v L) (hL:L.length<=1000000):bn P_ G 120 #[v] h (fun u h'=>∃a',Slc jg 48 a' v L.reverse/\HL.Sep (a'::R) h'/\Dis G h'):=by
 refine bn.assume fun d=>aJ4 (by simp) ?_;unfold S120;obtain ⟨sa,cap,rfl,_⟩:=o.len (by decide);simp (disch:=first|decide|omega) only [yy];generalize hKK:retK P_ G _ _=KK
 refine dt (fun m q h3=>∃(i:Nat) (a:Hp) (M:List Move),m=L.length-i/\2*i<=L.length+1/\q 0 = .slice sa L.length cap/\q 2 = .int .i64 i/\q 3 = .int .i64 ((L.length:Int)-1-i)/\Slc jg 48 a (.slice sa L.length cap) M/\ux L M i/\HL.Sep (a::R) h3/\Dis G h3) ?_
  (m:=L.length) ⟨0,a,L,rfl,by omega,by simp (disch:=decide) only [yy],by simp (disch:=decide) only [yy]<;>rfl,by simp only [yy];simp,o,ux.zero,s,d⟩
 clear s o d;rintro m q h3 ⟨i,a,M,rfl,hi,q0,q2,q3,o,fl,s3,d3⟩ X HX;unfold ak0;simp only [yy,q2,q3];refine df (fun hlt=>?_) (fun hge=>?_);rotate_left
 . try simp (disch:=first|decide|omega) only [yy,Nat.reduceAdd,Nat.reduceMul]
   rw [<- hKK];try simp only [yy]
   rw [fl.all (by omega)]at o;exact ⟨a,o,s3,d3⟩
 have hij:2*i+1<L.length:=by omega
 obtain ⟨j,ej⟩:∃j:Nat,j=L.length-1-i:=⟨_,rfl⟩;have ejn:(L.length:Int)-1-(i:Int)=(j:Int):=by omega
 rw [ejn]at q3;have hil:(i:Int)<L.length:=by omega
 have hjl:(j:Int)<L.length:=by omega
 obtain ⟨x,hx⟩:∃x,M[i]?=some x:=⟨_,aa_ (by rw [fl.1];omega)⟩;obtain ⟨y,hy⟩:∃y,M[j]?=some y:=⟨_,aa_ (by rw [fl.1];omega)⟩;have sv:=o.sees (G:=G) (by decide) (s3.in 0 rfl);obtain ⟨b,of,rfl,x0,x1,x2,x3,x4,x5,x6,x7,x8,x9,x10⟩:=Sees.mvx sv hx;obtain ⟨b',of',e',y0,y1,y2,y3,y4,y5,y6,y7,y8,y9,y10⟩:=Sees.mvx sv hy;cases e';obtain ⟨ob,o'⟩:=o;cases ob with
 |none=>exact absurd o'.2 (fun e=>by rw [e]at hx;simp at hx)
 |some ob=>
 obtain ⟨cap',t,e9,hb,hbl⟩:=o';rw [fl.1]at e9;simp only [Value.slice.injEq,Option.some.injEq,Addr.mk.injEq,and_true,true_and]at e9;obtain ⟨⟨rfl,rfl⟩,rfl⟩:=e9;rw [a1_]at x0 x1 x2 x3 x4 x5 x6 x7 x8 x9 x10 y0 y1 y2 y3 y4 y5 y6 y7 y8 y9 y10;have hb3:=s3.at 0 rfl hb;unfold Ng;simp (disch:=first|decide|omega) only [yy,q0,q2,q3,ix40 (ac_ i) hil,ix40 (ac_ j) hjl,aP_,x0,x1,x2,x3,x4,x5,x6,x7,x8,x9,x10,y0,y1,y2,y3,y4,y5,y6,y7,y8,y9,y10];rw [Zn (j:=y) hb3 (by rw [fl.1];omega)];have s4:=s3.put (o := .cells (jg.rows (M.set i y)++t).toArray 48 (0,0)) hb;have d4:=d3.set (o := .cells (jg.rows (M.set i y)++t).toArray 48 (0,0)) (d3 _ _ hb3);generalize Hp.set h3 b _=h4 at s4 d4 ⊢;try simp (disch:=first|decide|omega) only [yy,Nat.reduceAdd,Nat.reduceMul,q0,q3,ix40 (ac_ j) hjl,aP_]
 rw [Zn (j:=x) (s4.at 0 rfl bh) (by rw [aX_,fl.1];omega)];have s5:=s4.put (o := .cells (jg.rows ((M.set i y).set j x)++t).toArray 48 (0,0)) bh;rw [set_set]at s5;have d5:=d4.set (o := .cells (jg.rows ((M.set i y).set j x)++t).toArray 48 (0,0)) (d4 _ _ (s4.at 0 rfl bh));generalize Hp.set h4 b _=h5 at s5 d5 ⊢;have fn:=fl.next hij hx (by rw [<- ej];exact hy)
 rw [<- ej]at fn;unfold Nf;simp (disch:=first|decide|omega) only [yy,q2,q3];refine HX (L.length-(i+1)) _ _ (by omega) ⟨i+1,_,_,rfl,by omega,by simp (disch:=decide) only [yy,q0],by simp (disch:=decide) only [yy]<;>rfl,by simp only [yy]<;>(congr 1;omega),⟨some b,cap,t,by rw [fn.1],bh,?_⟩,fn,s5,d5⟩;rw [<- hbl,ae_,ae_,jg.rows_length,jg.rows_length,aX_,aX_]
end Go.Proofs.YtfflipnhffknnaaGreatDoor
end
section
namespace Go.Proofs.YtfflipnhffknnaaGreatDoor
open Go Go.HL Go.Proofs.Resv Go.Proofs.Srch
def vx:=jq bC (jq (jq (jq @bne_self_eq_false.{0} (jq @Wx @cf120)) (jq @Lf (jq @aE0 @fa146_1))) (jq (jq @Dx (jq @X0 @Xz)) (jq (jq @ld3 @ld48) (jq @li @jc))))
theorem Ye:∀(n:Nat) (L:List Nat),L.Nodup->(∀x∈L,x<n)->L.length<=n
 |0,L,_,h=>by
  cases L with
  |nil=>simp
  |cons x L=>exact absurd (h x (.head _)) (by omega)
 |n+1,L,hn,h=>by
  by_cases hm:n∈L
  . have h1:=Ye n (L.erase n) (hn.erase n) (fun x hx=>by
     have h2:=h x (List.mem_of_mem_erase hx);have h3:x≠n:=(List.Nodup.mem_erase_iff hn).1 hx |>.1
     omega)
    rw [List.length_erase_of_mem hm]at h1;have:=List.length_pos_of_mem hm;omega
  . have:=Ye n L hn (fun x hx=>by
     have h2:=h x hx;have h3:x≠n:=fun e=>hm (e▸hx)
     omega)
    omega
theorem Rj {w k:Nat} {f:Nat->Nat->Int} {p:Pose} (h:eu w k f p=true) (hw:w<=16) (hk:k<=16):0<=numP w k p/\numP w k p<512:=by obtain ⟨e1,_,_,e4⟩:=yf (zp h);have:w*k<=16*16:=bw_ hw hk;unfold numP;rw [e1];split<;>omega
theorem Xe {q:Par} {p0:Pose} {t0 lo:Int} {z:Move} {S:SS} (v:Inv q.E p0 t0 z lo S) (gt:i7 q.T) (fw:Few q.T 100) (hw:q.w<=16) (hk:q.k<=16):S.length<=110000:=by
 have hsl:∀x∈S,x.i<204:=fun x hx=>by have h1:=(ad_.1 (v.at_ x hx).1).1;have h2:(q.E.spans x.p).length=(ly q.T q.r ((dj x.p).map (numI q.w q.k))).length:=rfl;have h3:=Fh gt fw q.r ((dj x.p).map (numI q.w q.k));rw [bq_,show (dj x.p).length=2 from rfl]at h3;omega
 have h1:=Ye (512*204) (S.map fun x=>(numP q.w q.k x.p).toNat*204+x.i) ?_ ?_
 . rw [bq_]at h1;omega
 . refine List.Pairwise.map _ ?_ (aT_.2 fun i j hi hj hij=>?_) (R:=fun x y:St Pose Move=>x∈S/\y∈S/\¬(x.p=y.p/\x.i=y.i))
   . rintro x y ⟨hx,hy,hne⟩ e;have b1:=Rj (v.ok x hx) hw hk;have b2:=Rj (v.ok y hy) hw hk;have c1:=hsl x hx;have c2:=hsl y hy;refine hne ⟨ye (v.ok x hx) (v.ok y hy) ?_,?_⟩<;>omega
   . exact ⟨cn_ hi,cn_ hj,aT_.1 v.keys i j hi hj hij⟩
 . intro n hn;obtain ⟨x,hx,rfl⟩:=ba_.1 hn;have b1:=Rj (v.ok x hx) hw hk;have c1:=hsl x hx;omega
theorem am0 {q:Par} {p:Pose} {y:WayT} (h:y∈q.E.ways p):y.1.k≠0:=by
 obtain ⟨i,hi⟩:=bn_ h;obtain ⟨m,hm,rfl⟩:=Jh hi;show m.k≠0;obtain ⟨_,⟨d,n,_,_,_,_,rfl⟩|⟨_,rfl⟩⟩:=Cm hm
 . show (1:Int)≠0;decide
 . show (2:Int)≠0;decide
theorem Rp {l:List (Nat × St Pose Move)}:(o0 l).length<=l.length:=by
 induction l with
 |nil=>simp [o0]
 |cons x l ih=>
  cases l with
  |nil=>simp [o0]
  |cons y l=>simp only [o0,an_]at ih ⊢;omega
theorem Ou {G h a ae ah:Hp} {R:List Hp} {q:Par} {sp kp ms mw mp mt hp:Nat} {c:Cs} {S:SS} {L:List Go.Proofs.Wt.It} {n t0 lo:Int} {p0:Pose} {z:Move} {x:St Pose Move} {k:Nat}
 (ss:Srs q a ae ah ms mw mp mt hp c S L n) (bg:Bg G q sp kp ms mw mp mt hp) (v:Inv q.E p0 t0 z lo S) (hz:z.k=0) (hx:S[k]?=some x) (s:HL.Sep (a::ae::ah::R) h):
 bn P_ G 69 #[.pointer (some ⟨sp,0,none⟩),ndV (yh q.w q.k x)] h (fun u h'=>∃ip,Slc jg 48 ip u (path S S.length k [])/\(path S S.length k []).length<=110000/\HL.Sep (ip::a::ae::ah::R) h'/\Dis G h'):=by
 obtain ⟨ab,cb,ap,cp,ar,cr,az,cs,gp,tp,hbg⟩:=id bg.ex;refine bn.assume fun d=>enter69 (by simp) ?_;obtain ⟨_,_,gs,_⟩:=hbg h d;have hS:∀x∈S,eu q.w q.k q.f x.p=true:=v.ok;have hSl:=Xe v bg.gt bg.fw gs.w2 gs.k2;obtain ⟨l,hch,hll⟩:=Pm v hx;have hpath:=Kq hch S.length [] hll;rw [av_]at hpath;rw [hpath];have hml:=Rp (l:=l);obtain ⟨o,E,bb,km,sb,se⟩:=id ss.st;unfold S69;simp only [yh];simp only [vx];intro xn hxn gxn;have s1:=s.past (o := .cells #[(numP q.w q.k x.p),(x.i:Int)] 137 (0,0)) hxn;have d1:=d.set (o := .cells #[(numP q.w q.k x.p),(x.i:Int)] 137 (0,0)) gxn;have hns:(h.set xn (.cells #[(numP q.w q.k x.p),(x.i:Int)] 137 (0,0))) xn=some (.cells #[(numP q.w q.k x.p),(x.i:Int)] 137 (0,0)):=bh;generalize Hp.set h xn _=h1 at s1 d1 hns ⊢;have cn1:∀k,bf G h1 ⟨xn,k,none⟩=_:=fun k=>bm (bj hns);have b1:=yx (hbg h1 d1).2.1;have hmt:h1 mt=some o:=(s1.pick 1 rfl rfl).open sb |>.at 0 rfl bh
 have look:∀{h':Hp} {k':Nat} {x':St Pose Move},HL.look G h' mt=some o->S[k']?=some x'->∃e,E[k']?=some e/\bb e.2=some (rl (ji q.w q.k S x'.b) x'.mv x'.a x'.dn)/\∀K,pw P_ G h' (Instr.lookup 131 (.map (some mt)) (.agg #[(numP q.w q.k x'.p),(x'.i:Int)]) false) K=K (.pointer (some ⟨e.2,0,none⟩)):=by
  intro h' k' x' hm hx';have hk:=aA1 v hx';rcases se.get (f:=q.f) hS (hS _ (ab_ hx')) (i:=x'.i)with ⟨h0,_⟩|⟨j,e,y,h1,h2,h3,h4,h5⟩
  . rw [hk]at h0;cases h0
  . rw [hk]at h1;cases h1;rw [hx']at h3;cases h3;refine ⟨e,h2,h5,fun K=>?_⟩;have:=H7 (K:=K) Ro unmt zerot hm km (k:=(numP q.w q.k x'.p,(x'.i:Int)));rw [h4,bs_]at this;exact this
 obtain ⟨e0,he0,hb0,lk0⟩:=look (bj hmt) hx;try simp only [vx,b1.mt,cn1,lk0]
 have kind:∀{k':Nat} {x':St Pose Move},S[k']?=some x'->(x'.b<0->x'.mv.k=0)/\(0<=x'.b->x'.mv.k≠0):=by
  intro k' x' hx';rcases v.by_ x' (ab_ hx')with ⟨h1,_,_,h2⟩|⟨y,h1,_,_,_,⟨w,hw,_,_,_,_,_,_,_,_,hm⟩⟩
  . exact ⟨fun _=>by rw [h2];exact hz,fun h=>by omega⟩
  . refine ⟨fun h=>by omega,fun _=>?_⟩;rw [hm];exact am0 hw
 generalize hKK:dc 0 _=KK
 refine dt (fun m r' h'=>∃(k':Nat) (x':St Pose Move) (l':List (Nat × St Pose Move)) (e':Nd × Nat) (ip:Hp) (M:List Move),m=l'.length/\Gr S k' l'/\S[k']?=some x'/\bb e'.2=some (rl (ji q.w q.k S x'.b) x'.mv x'.a x'.dn)/\Slc jg 48 ip (r' 5) M/\M++o0 l'=o0 l/\r' 0 = .pointer (some ⟨sp,0,none⟩)/\r' 6 = .pointer (some ⟨e'.2,0,none⟩)/\HL.Sep (ip::a::ae::ah::R) h'/\Dis G h') ?_ (m:=l.length)
  ⟨k,x,l,e0,noHp,[],rfl,hch,hx,hb0,by simp (disch:=decide) only [vx];exact Slc.nil,rfl,by simp (disch:=decide) only [vx],by simp only [vx],s1.none,d1⟩
 rintro m r1 h2 ⟨k',x',l',e',ip,M,rfl,hc',hx',hbe,om,hM,e0',e6,s2,d2⟩ X hX;unfold aP7;have hbe2:h2 e'.2=some (rl (ji q.w q.k S x'.b) x'.mv x'.a x'.dn):=(s2.pick 2 rfl rfl).open sb |>.at 1 rfl hbe
 have ce2:∀k,bf G h2 ⟨e'.2,k,none⟩=_:=fun k=>bm (bj hbe2);simp only [stpL]at ce2;simp only [vx,e6,ce2];have hMl:M.length<=110000:=by have:=congrArg List.length hM;rw [ae_]at this;omega
 cases hc' with
 |start h0 hb=>
  rename_i x'';rw [hx']at h0;cases h0;have hk0:=(kind hx').1 hb;try simp only [vx,hk0,decide_true,bW_]
  rw [<- hKK];show Y7 G _ _ _;unfold Y7;simp (disch:=decide) only [vx];rw [show o0 [(k',x')]=[]from rfl,av_]at hM;subst hM;refine (ao3 s2 om (by omega)).mono ?_;rintro _ h3 ⟨ip3,om3,s3,d3⟩;try simp (disch:=first|decide|omega) only [vx,Nat.reduceAdd,Nat.reduceMul]
  exact ⟨ip3,om3,by rw [List.length_reverse];omega,s3,d3⟩
 |@step _ j x'' l'' h0 hb hc2=>
  rw [hx']at h0;cases h0;have hk0:=(kind hx').2 (by omega);try simp only [vx,show (x'.mv.k != 0)=true from by simpa using hk0]
  unfold Qc;try simp (disch:=decide) only [vx,Nat.reduceAdd,e6,ce2]
  intro b hb' gb;have s3:=s2.past (o := .cells #[x'.mv.k,x'.mv.d,x'.mv.n,x'.mv.f.x,x'.mv.f.y,.bool x'.mv.f.d,x'.mv.t.x,x'.mv.t.y,.bool x'.mv.t.d,x'.mv.a,x'.mv.e] 48 (0,0)) hb';have d3:=d2.set (o := .cells #[x'.mv.k,x'.mv.d,x'.mv.n,x'.mv.f.x,x'.mv.f.y,.bool x'.mv.f.d,x'.mv.t.x,x'.mv.t.y,.bool x'.mv.t.d,x'.mv.a,x'.mv.e] 48 (0,0)) gb;have hbs:(h2.set b (.cells #[x'.mv.k,x'.mv.d,x'.mv.n,x'.mv.f.x,x'.mv.f.y,.bool x'.mv.f.d,x'.mv.t.x,x'.mv.t.y,.bool x'.mv.t.d,x'.mv.a,x'.mv.e] 48 (0,0))) b=_:=bh;generalize Hp.set h2 b _=h3 at s3 d3 hbs ⊢;refine fh jg (by decide) un40 eomove (by decide) (by decide) (M:=[x'.mv]) s3 d3 om (Sees.row (c:=jg) (L:=[x'.mv]) hbs rfl (aj_ _)) (by simp;omega) fun v4 a4 h4 o4 s4 d4=>?_;obtain ⟨y,hy⟩:∃y,S[j]?=some y:=by cases hc2<;>exact ⟨_,by assumption⟩
  obtain ⟨e1,he1,hb1,lk1⟩:=look (h':=h4) (bj ((s4.pick 2 rfl rfl).open sb |>.at 0 rfl bh)) hy;have hbe4:h4 e'.2=some (rl (ji q.w q.k S x'.b) x'.mv x'.a x'.dn):=(s4.pick 2 rfl rfl).open sb |>.at 1 rfl hbe
  have hfr:ji q.w q.k S x'.b=yh q.w q.k y:=by unfold ji;rw [ah_ (by omega),hb,aP_,hy]
  rw [hfr]at hbe4;have ce4:∀k,bf G h4 ⟨e'.2,k,none⟩=_:=fun k=>bm (bj hbe4);simp only [stpL,yh]at ce4;have b4:=yx (hbg h4 d4).2.1;unfold Qb;try simp (disch:=decide) only [vx,e0',e6,b4.mt,ce4,lk1]
  refine hX l''.length _ _ (by simp) ⟨j,y,l'',e1,a4,M++[x'.mv],rfl,hc2,hy,hb1,by simp (disch:=decide) only [vx];exact o4,?_,by simp (disch:=decide) only [vx,e0'],by simp only [vx],s4,d4⟩;rw [<- hM,aC_];congr 1;cases hc2<;>rfl
def bRtS:=jq bC (jq (jq (jq (jq (jq @bz_ @al139) (jq @al30 (jq @cf66 @cf68))) (jq (jq @cf69 (jq @cf70 @eq28)) (jq @eq30 (jq @Lg @Lf)))) (jq (jq (jq @ac3 @Wc) (jq @Wb (jq @ac2 @aE2))) (jq (jq @ac1 (jq @aE1 @aD9)) (jq @ac0 (jq @aD8 @Wa))))) (jq (jq (jq (jq @Fo @vq) (jq @aC0 (jq @aB9 @G3))) (jq (jq @X1 (jq @X0 @ld132)) (jq @ld137 (jq @Xz @ld28)))) (jq (jq (jq @ld3 (jq @ld30 @rz)) (jq @ld3p (jq @ld4 @ld4p))) (jq (jq @li (jq @jc @nq)) (jq @zd (jq @aw0 @Ax))))))
theorem StE.look {w k:Nat} {f:Nat->Nat->Int} {b:Hp} {E:List (Nd × Nat)} {S:SS} (s:StE w k b E S) (hS:∀x∈S,eu w k f x.p=true) {j:Nat} {x:St Pose Move} (hx:S[j]?=some x) (hk:Srch.key S x.p x.i=some j):
 ∃e,E[j]?=some e/\b e.2=some (rl (ji w k S x.b) x.mv x.a x.dn)/\kget (E.map entV) (numP w k x.p,(x.i:Int))=some (.pointer (some ⟨e.2,0,none⟩)):=by
 rcases s.get (f:=f) hS (hS _ (ab_ hx)) (i:=x.i)with ⟨h0,_⟩|⟨j',e,y,h1,h2,h3,h4,h5⟩
 . rw [hk]at h0;cases h0
 . rw [hk]at h1;cases h1;rw [hx]at h3;cases h3;exact ⟨e,h2,h5,h4⟩
theorem StE.done {w k:Nat} {b:Hp} {E:List (Nd × Nat)} {S:SS} (s:StE w k b E S) {j:Nat} {x:St Pose Move} {e:Nd × Nat} (hx:S[j]?=some x) (he:E[j]?=some e):
 StE w k (b.set e.2 (rl (ji w k S x.b) x.mv x.a true)) E (take S j x):=by
 have hjS:j<S.length:=(ad_.1 hx).1;have e3:({ x with dn:=true }:St Pose Move).p=x.p:=rfl;have e4:({ x with dn:=true }:St Pose Move).i=x.i:=rfl;refine ⟨by unfold take;rw [aX_];exact s.len,s.nod,fun i e' y he' hy=>?_⟩;unfold take at hy ⊢;by_cases hij:j=i
 . subst hij;rw [aB_ hjS]at hy;rw [he]at he';cases he';cases hy;refine ⟨(s.cel j e x he hx).1,?_⟩;rw [bh,Fg (y:={ x with dn:=true }) hx e3 e4]
 . rw [ax_ hij]at hy;obtain ⟨h1,h2⟩:=s.cel i e' y he' hy
   have hne:e'.2≠e.2:=fun h=>by
    have hl1:=(ad_.1 he).1;have hl2:=(ad_.1 he').1;have a1:(E.map (·.2))[j]?=some e.2:=by rw [aO_,he];rfl
    have a2:(E.map (·.2))[i]?=some e'.2:=by rw [aO_,he'];rfl
    rw [h,<- a1]at a2;exact hij ((List.getElem?_inj (by simpa using hl1) s.nod).1 a2.symm)
   rw [ci hne,Fg (y:={ x with dn:=true }) hx e3 e4];exact ⟨h1,h2⟩
def outL:Res Move->List Move
 | .ok l=>l
 | .no _=>[]
def outE:Res Move->Int
 | .ok _=>0
 | .no e=>e
structure Fz (G B:Hp) (q:Par) (sp kp ms mw mp mt hp xc xg:Nat) (gp:Pose) (any:Bool):Prop where
 bg:∀A h,HL.Sep [A,B] h->Dis G h->Bg (HL.under G h A) q sp kp ms mw mp mt hp
 rd:∃g tp,∀h,B.le h->Dis G h->BC G h sp g kp tp q.r ms mw mp mt hp
 gt:i7 q.T
 fw:Few q.T 100
 w2:q.w<=16
 k2:q.k<=16
 bud:∀h,B.le h->Dis G h->bf G h ⟨xc,14,none⟩=some (.int .i64 q.C.bu)
 aim:B xg=some (.cells #[gp.x,gp.y,.bool gp.d,.bool any] 45 (0,0))
def nf (gp:Pose) (any:Bool) (p:Pose) (s:Sp):Bool:=((p.x==gp.x&&p.y==gp.y&&p.d==gp.d)||(any&&(p.x==gp.x&&p.y==gp.y)))&&(s.2==FV)
theorem Ul {P M:Type} [DecidableEq P] {E:Env P M} {goal:P->Sp->Bool} {n:Nat} {S:List (St P M)} {k:Nat} {x:St P M} (h:least E S=some (k,x)) (hg:goal x.p x.s=true):run E goal (n+1) S = .ok (path (take S k x) S.length k []):=by
 conv=>lhs;unfold run
 rw [h];simp only [hg,if_true]
theorem run_on {P M:Type} [DecidableEq P] {E:Env P M} {goal:P->Sp->Bool} {n:Nat} {S:List (St P M)} {k:Nat} {x:St P M} (h:least E S=some (k,x)) (hg:goal x.p x.s=false):run E goal (n+1) S=run E goal n (Bq E { x with dn:=true } k (take S k x)):=by
 conv=>lhs;unfold run
 rw [h];simp [hg]
def OutR (G:Hp) (B:Hp) (W:Res Move) (u:Value) (h':Hp):Prop:=∃ip vs,u = .tuple #[vs,(outE W)]/\Slc jg 48 ip vs (outL W)/\(outL W).length<=110000/\HL.Sep [ip,B] h'/\Dis G h'
theorem Ur {G h A B a ae ah ak:Hp} {q:Par} {sp kp ms mw mp mt hp xc xg:Nat} {gp:Pose} {any:Bool} {c:Cs} {S:SS} {L:List Go.Proofs.Wt.It} {n t0 lo:Int} {p0:Pose} {z:Move} {N:Nat}
 (fz:Fz G B q sp kp ms mw mp mt hp xc xg gp any) (ok:rt q.E) (ht0:0<=t0) (hN:(N:Int)=q.C.bu) (hN1:1<=N) (hN2:N<=4000) (hz:z.k=0)
 (ss:Srs q a ae ah ms mw mp mt hp c S L n) (kpk:KP ak kp q.C.un q.C.ac q.C.sp) (v:Inv q.E p0 t0 z lo S) (hn:n<=1)
 (sA:HL.Sep [a,ae,ah,ak] A) (s:HL.Sep [A,B] h) (d:Dis G h) (r:Rg) (g19:r 19 = .pointer (some ⟨sp,0,none⟩)) (g6:r 6 = .pointer (some ⟨xc,0,none⟩)) (g11:r 11 = .pointer (some ⟨xg,0,none⟩)) (g20:r 20 = .int .i64 0) (g15:r 15 = .int .i64 6) {Q:Value->Hp->Prop} (HQ:∀u h',OutR G B (run q.E (nf gp any) N S) u h'->Q u h'):
 du (Zd G) r h (dc 0 (di (Hn G (retK P_ G [.tmp 12,.tmp 13] Q)) (xq (retK P_ G [.tmp 12,.tmp 13] Q)))):=by
 obtain ⟨g,tp,hrd⟩:=fz.rd;generalize hW:run q.E (nf gp any) N S=W at HQ;generalize hKR:retK P_ G [.tmp 12,.tmp 13] Q=KR;generalize hKK:dc 0 _=KK
 refine dt (fun m r' h'=>∃(i:Nat) (S':SS) (A' a' ae' ah' ak':Hp) (c':Cs) (L':List Go.Proofs.Wt.It) (n' lo':Int),m=(N-i)*40000000000+L'.length/\i<N/\run q.E (nf gp any) (N-i) S'=W/\Srs q a' ae' ah' ms mw mp mt hp c' S' L' n'/\KP ak' kp q.C.un q.C.ac q.C.sp/\Inv q.E p0 t0 z lo' S'/\n'<=1+i*2000000/\
  HL.Sep [a',ae',ah',ak'] A'/\HL.Sep [A',B] h'/\Dis G h'/\r' 19 = .pointer (some ⟨sp,0,none⟩)/\r' 6 = .pointer (some ⟨xc,0,none⟩)/\r' 11 = .pointer (some ⟨xg,0,none⟩)/\r' 20 = .int .i64 i/\r' 15 = .int .i64 6) ?_ (m:=N*40000000000+L.length)
  ⟨0,S,A,a,ae,ah,ak,c,L,n,lo,by simp,by omega,hW,ss,kpk,v,by omega,sA,s,d,g19,g6,g11,g20,g15⟩
 clear ss kpk v sA s d g19 g6 g11 g20 g15 hW;rintro m r1 h1 ⟨i,S1,A1,a1,ae1,ah1,ak1,c1,L1,n1,lo1,rfl,hi,hW,ss,kpk,v,hn1,sA,s,d,e19,e6,e11,e20,e15⟩ X hX;have b1:=hrd h1 (s.in 1 rfl) d;unfold Zd;simp only [bRtS,e19,b1.hp];obtain ⟨N',hN'⟩:∃N',N-i=N'+1:=⟨N-i-1,by omega⟩;have sAh:HL.Sep [ah1,a1,ae1,ak1] A1:=sA.sel [2,0,1,3] (by decide) rfl;have hLn:=ss.ln;cases L1 with
 |nil=>
  refine (Hw.aA3 ss.hp (HL.Sep.open (R:=[B]) s sAh)).mono ?_;rintro _ h2 ⟨rfl,rfl⟩;simp only [Hw.pkV];try simp (disch:=first|decide|exact b8|exact bw|omega|rfl) only [bRtS]
  intro xw hxw gxw;have s2:=s.past (o := .cells #[(0:Int),(0:Int),(0:Int)] 139 (0,0)) hxw;have d2:=d.set (o := .cells #[(0:Int),(0:Int),(0:Int)] 139 (0,0)) gxw;generalize Hp.set h2 xw _=h3 at s2 d2 ⊢;rw [<- hKK];show Hn G KR _ _;unfold Hn;have hr:W = .no 6:=by rw [<- hW,hN'];unfold run;rw [ax7 ss.qi]
  rw [<- hKR];simp (disch:=decide) only [bRtS,e15];exact HQ _ _ ⟨noHp,_,by rw [hr];rfl,by rw [hr];exact Slc.nil,by rw [hr];simp [outL],(s2.drop).none,d2⟩
 |cons w L1=>
  obtain ⟨wk,wm,ws,wn⟩:=w;obtain ⟨hok',hperm,hmin⟩:=Go.Proofs.Wt.pop_ok ss.ok;obtain ⟨k,x,hxk,em,es,hstale,hfresh⟩:=popQ ok v ss.qi hmin (L':=Go.Proofs.Wt.popL (⟨wk,wm,ws,wn⟩::L1)) (List.Perm.cons_inv hperm).symm;have em':wm=numP q.w q.k x.p:=em.symm;have es':ws=(x.i:Int):=es.symm;subst em' es';have hxm:=ab_ hxk;have hpl:=Go.Proofs.Wt.Be (⟨wk,numP q.w q.k x.p,(x.i:Int),wn⟩::L1);simp only [an_]at hpl hLn;refine (Sep.on s (Hw.hpop (G:=HL.under G h1 A1) ss.hp sAh (by omega))).mono ?_;rintro _ h2 ⟨A2,⟨rfl,ah2,hp2,sA2,dA2⟩,s2,d2⟩;have sA2:HL.Sep [ah2,a1,ae1,ak1] A2:=sA2;simp only [Hw.pkV];try simp (disch:=first|decide|exact b8|exact bw|omega|rfl) only [bRtS]
  intro xw hxw gxw;have s3:=s2.new (o := .cells #[wk,(numP q.w q.k x.p),(x.i:Int)] 139 (0,0)) hxw;have d3:=d2.set (o := .cells #[wk,(numP q.w q.k x.p),(x.i:Int)] 139 (0,0)) gxw;generalize how:Obj.cells #[wk,(numP q.w q.k x.p),(x.i:Int)] 139 (0,0)=ow at s3 d3 ⊢;generalize Hp.set h2 xw _=h3 at s3 d3 ⊢;have s3:HL.Sep [A2,B,noHp.set xw ow] h3:=s3.sel [1,2,0] (by decide) rfl;have cw3:∀k,bf G h3 ⟨xw,k,none⟩=_:=fun k=>bm (bj ((s3.at 2 rfl bh).trans (by rw [how])));have b3:=hrd h3 (s3.in 1 rfl) d3;obtain ⟨o,E,bb,km,sb,se⟩:=id ss.st;have sAe:HL.Sep [ae1,a1,ah2,ak1] A2:=sA2.sel [2,1,0,3] (by decide) rfl;have sAo:HL.Sep [noHp.set mt o,bb,a1,ah2,ak1] A2:=HL.Sep.open (L:=[noHp.set mt o,bb]) (R:=[a1,ah2,ak1]) sAe sb
  have hmt3:h3 mt=some o:=(s3.in 0 rfl) _ _ (sAo.at 0 rfl bh);obtain ⟨e,he,hbe,hkg⟩:=se.look (f:=q.f) v.ok hxk (aA1 v hxk);have hbe3:h3 e.2=some (rl (ji q.w q.k S1 x.b) x.mv x.a x.dn):=(s3.in 0 rfl) _ _ (sAo.at 1 rfl hbe);have ce3:∀k,bf G h3 ⟨e.2,k,none⟩=_:=fun k=>bm (bj hbe3);simp only [stpL]at ce3;have lk3:∀K,pw P_ G h3 (Instr.lookup 131 (.map (some mt)) (.agg #[(numP q.w q.k x.p),(x.i:Int)]) false) K=K (.pointer (some ⟨e.2,0,none⟩)):=by intro K;have:=H7 (G:=G) (K:=K) Ro unmt zerot (bj hmt3) km (k:=(numP q.w q.k x.p,(x.i:Int)));rw [hkg,bs_]at this;exact this
  unfold Qv;try simp (disch:=decide) only [bRtS,Nat.reduceAdd,e19,b3.mt,cw3,lk3,ce3]
  have stale:(x.dn=true\/x.a≠wk)->∀r':Rg,r' 19 = .pointer (some ⟨sp,0,none⟩)->r' 6 = .pointer (some ⟨xc,0,none⟩)->r' 11 = .pointer (some ⟨xg,0,none⟩)->r' 20 = .int .i64 i->r' 15 = .int .i64 6->X r' h3:=by
   intro hs r' w19 w6 w11 w20 w15
   exact hX ((N-i)*40000000000+(Go.Proofs.Wt.popL (⟨wk,numP q.w q.k x.p,(x.i:Int),wn⟩::L1)).length) _ _ (by rw [hpl];simp only [an_];omega)
    ⟨i,S1,A2,a1,ae1,ah2,ak1,c1,_,n1,lo1,rfl,hi,hW,⟨ss.ch,ss.st,hp2,hok',hstale hs,ss.kept,ss.n0,by rw [hpl];omega⟩,kpk,v,hn1,sA2.sel [1,2,0,3] (by decide) rfl,s3.sel [0,1] (by decide) rfl,d3,w19,w6,w11,w20,w15⟩
  cases hdn:x.dn with
  |true=>
   try simp only [bRtS,fq]
   exact stale (.inl hdn) _ (by simp (disch:=omega) only [bo,e19]) (by simp (disch:=omega) only [bo,e6]) (by simp (disch:=omega) only [bo,e11]) (by simp (disch:=omega) only [bo,e20]) (by simp (disch:=omega) only [bo,e15])
  |false=>
  try simp only [bRtS,ce3,cw3]
  by_cases hxa:x.a=wk;rotate_left
  . try simp only [bRtS,show (x.a != wk)=true from by simpa using hxa]
    exact stale (.inr hxa) _ (by simp (disch:=omega) only [bo,e19]) (by simp (disch:=omega) only [bo,e6]) (by simp (disch:=omega) only [bo,e11]) (by simp (disch:=omega) only [bo,e20]) (by simp (disch:=omega) only [bo,e15])
  subst hxa;try simp only [bRtS,show (x.a != x.a)=false from by simp]
  obtain ⟨hle,hq2⟩:=hfresh hdn rfl;obtain ⟨v2,hx2⟩:=J3 v hle
  suffices k8:∀r':Rg,r' 19 = .pointer (some ⟨sp,0,none⟩)->r' 6 = .pointer (some ⟨xc,0,none⟩)->r' 11 = .pointer (some ⟨xg,0,none⟩)->r' 20 = .int .i64 i->r' 15 = .int .i64 6->r' 21 = .pointer (some ⟨xw,0,none⟩)->r' 23 = .pointer (some ⟨e.2,0,none⟩)->Hm G (di X KK) r' h3 from
   k8 _ (by simp (disch:=omega) only [bo,e19]) (by simp (disch:=omega) only [bo,e6]) (by simp (disch:=omega) only [bo,e11]) (by simp (disch:=omega) only [bo,e20]) (by simp (disch:=omega) only [bo,e15]) (by simp (disch:=decide) only [bRtS]) (by simp (disch:=decide) only [bRtS])
  clear stale;intro r2 f19 f6 f11 f20 f15 f21 f23;unfold Hm;simp (disch:=decide) only [bRtS,f23];rw [ec sz4 rfl hbe3 (by simp [stpL])];have hset:(stpL (ji q.w q.k S1 x.b) x.mv x.a x.dn).set 14 (.bool true)=stpL (ji q.w q.k S1 x.b) x.mv x.a true:=rfl;rw [hset];have s4:=s3.put (o:=rl (ji q.w q.k S1 x.b) x.mv x.a true) (sAo.at 1 rfl hbe);have d4:=d3.set (o:=rl (ji q.w q.k S1 x.b) x.mv x.a true) (d3 _ _ hbe3);have sA4:=(HL.Sep.sel (L':=[bb,noHp.set mt o,a1,ah2,ak1]) sAo [1,0,2,3,4] (by decide) rfl).put (o:=rl (ji q.w q.k S1 x.b) x.mv x.a true) hbe;have se4:=se.done hxk he;generalize bb.set e.2 _=bb4 at sA4 se4;generalize A2.set e.2 _=A4 at s4 sA4;generalize Hp.set h3 e.2 _=h4 at s4 d4 ⊢;obtain ⟨ae4,sA5,t5⟩:=HL.Sep.pack [noHp.set mt o,bb4] (R:=[a1,ah2,ak1]) (sA4.sel [1,0,2,3,4] (by decide) rfl);have sA5:HL.Sep [a1,ae4,ah2,ak1] A4:=sA5.sel [1,0,2,3] (by decide) rfl
  have ss4:Srs q a1 ae4 ah2 ms mw mp mt hp c1 (take S1 k x) (Go.Proofs.Wt.popL (⟨x.a,numP q.w q.k x.p,(x.i:Int),wn⟩::L1)) n1:=⟨ss.ch,⟨o,E,bb4,km,t5,se4⟩,hp2,hok',hq2,fun y hy=>by
   obtain ⟨j,hj⟩:=bn_ hy;unfold take at hj;by_cases hkj:k=j
   . subst hkj;rw [aB_ (ad_.1 hxk).1]at hj;cases hj;exact ss.kept x hxm
   . rw [ax_ hkj]at hj
     exact ss.kept y (ab_ hj),ss.n0,by rw [hpl];omega⟩
  obtain ⟨o1,o2,o3,m1,m2,m3,sa⟩:=id ss.ch.sep;have sA6:HL.Sep [noHp.set ms o1,noHp.set mw o2,noHp.set mp o3,c1.P,ae4,ah2,ak1] A4:=HL.Sep.open (L:=[noHp.set ms o1,noHp.set mw o2,noHp.set mp o3,c1.P]) (R:=[ae4,ah2,ak1]) sA5 sa
  have hmp:h4 mp=some o3:=(s4.in 0 rfl) _ _ (sA6.at 2 rfl bh);have b4:=hrd h4 (s4.in 1 rfl) d4;obtain ⟨hk1,hk3⟩:=ss.kept x hxm;have cw4:∀k,bf G h4 ⟨xw,k,none⟩=_:=fun k=>bm (bj ((s4.at 2 rfl bh).trans (by rw [how])));try simp -implicitDefEqProofs (maxSteps:=2000000) (disch:=first|decide|with_reducible exact aA_ rfl|exact b8|exact bw|omega|rfl|(simp;done)|fail) only [bRtS,Nat.reduceAdd,f20,f19,b4.mp,f21,cw4]
  rw [H8 unmp un3r zerop (bj hmp) m3,hk3,bs_];intro xp hxp gxp;try simp (disch:=first|decide|exact b8|exact bw|omega|rfl) only [bRtS]
  have s5:=s4.new (o := .cells #[x.p.x,x.p.y,.bool x.p.d] 30 (0,0)) hxp;have d5:=d4.set (o := .cells #[x.p.x,x.p.y,.bool x.p.d] 30 (0,0)) gxp;generalize hop:Obj.cells #[x.p.x,x.p.y,.bool x.p.d] 30 (0,0)=op at s5 d5 ⊢;generalize Hp.set h4 xp _=h5 at s5 d5 ⊢;have s5:HL.Sep [A4,B,noHp.set xw ow,noHp.set xp op] h5:=s5.sel [1,2,3,0] (by decide) rfl;have cp5:∀k,bf G h5 ⟨xp,k,none⟩=_:=fun k=>bm (bj ((s5.at 3 rfl bh).trans (by rw [hop])));have cw5:∀k,bf G h5 ⟨xw,k,none⟩=_:=fun k=>bm (bj ((s5.at 2 rfl bh).trans (by rw [how])));have cg5:∀k,bf G h5 ⟨xg,k,none⟩=_:=fun k=>bm (bj (s5.at 1 rfl fz.aim));have hA0:0<=x.a:=by obtain ⟨z1,z2,_⟩:=v.at_ x hxm;have:=(ok.pos _ _ (ab_ z1)).1;omega
  have k9:nf gp any x.p x.s=false->∀(r':Rg) (h' A' a':Hp) (c':Cs),Srs q a' ae4 ah2 ms mw mp mt hp c' (take S1 k x) (Go.Proofs.Wt.popL (⟨x.a,numP q.w q.k x.p,(x.i:Int),wn⟩::L1)) n1->HL.Sep [a',ae4,ah2,ak1] A'->HL.Sep [A',B,noHp.set xw ow] h'->Dis G h'->r' 19 = .pointer (some ⟨sp,0,none⟩)->r' 6 = .pointer (some ⟨xc,0,none⟩)->r' 11 = .pointer (some ⟨xg,0,none⟩)->r' 20 = .int .i64 ((i:Int)+1)->r' 15 = .int .i64 6->r' 21 = .pointer (some ⟨xw,0,none⟩)->Hl G (di X KK) r' h':=by
   intro hg r' h' A' a' c' ss' sA' s' d' w19 w6 w11 w20 w15 w21;have hrun:W=run q.E (nf gp any) N' (Bq q.E { x with dn:=true } k (take S1 k x)):=by rw [<- hW,hN',run_on hle hg]
   have cb:=fz.bud h' (s'.in 1 rfl) d';unfold Hl;try simp only [bRtS,w6,w20,cb]
   by_cases hb:(i:Int)+1=q.C.bu
   . try simp only [bRtS,show ((i:Int)+1==q.C.bu)=true from by simpa using hb]
     rw [<- hKK];show Hn G KR _ _;unfold Hn;have hN0:N'=0:=by omega
     subst hN0;rw [<- hKR];simp (disch:=decide) only [bRtS];exact HQ _ _ ⟨noHp,_,by rw [hrun];rfl,by rw [hrun];exact Slc.nil,by rw [hrun];simp [run,outL],(s'.sel [1] (by decide) rfl).none,d'⟩
   . try simp only [bRtS,show ((i:Int)+1==q.C.bu)=false from by simpa using hb]
     unfold Mc;have cw':∀k,bf G h' ⟨xw,k,none⟩=_:=fun k=>bm (bj ((s'.at 2 rfl bh).trans (by rw [how])));try simp (disch:=decide) only [bRtS,Nat.reduceAdd,w19,w21,cw']
     have bg:=fz.bg A' h' (s'.sel [0,1] (by decide) rfl) d';refine (Sep.on s' (ar4 (G:=HL.under G h' A') (R:=[]) (x:={ x with dn:=true }) ss' kpk bg ok v2 hx2 rfl hA0 (by omega) sA')).mono ?_;rintro _ h7 ⟨A7,⟨a7,ae7,ah7,ak7,c7,L7,n7,ss7,kp7,_,m1,m2,sA7,_⟩,s7,d7⟩;try simp (disch:=first|decide|omega) only [bRtS,Nat.reduceAdd,Nat.reduceMul]
     have v7:=(Jz ok (k:=k) (x:={ x with dn:=true }) rfl hA0 (v.ok x hxm) (q.E.ways x.p) (fun _ h=>h) v2 hx2).1;have ln7:=ss7.ln;refine hX ((N-(i+1))*40000000000+L7.length) _ _ (by omega) ⟨i+1,_,A7,a7,ae7,ah7,ak7,c7,L7,n7,x.a,rfl,by omega,?_,ss7,kp7,v7,by omega,sA7,s7.sel [0,1] (by decide) rfl,d7,by simp (disch:=omega) only [bo,w19],by simp (disch:=omega) only [bo,w6],by simp (disch:=omega) only [bo,w11],by simp (disch:=omega) only [bo,w20];rfl,by simp (disch:=omega) only [bo,w15]⟩;rw [show N-(i+1)=N' by omega];exact hrun.symm
  try simp only [bRtS,cp5,f11,cg5]
  have sJ:HL.Sep [noHp.set xp op,noHp.set xw ow,c1.P] h5:=HL.Sep.sel (HL.Sep.open (R:=[B,noHp.set xw ow,noHp.set xp op]) s5 sA6) [9,8,3] (by decide) rfl;cases hD:(x.p.x==gp.x&&x.p.y==gp.y&&x.p.d==gp.d)with
  |true=>
   try simp only [bRtS,Nat.reduceAdd,fq]
   obtain ⟨q9,l1,l2,l3,l4⟩:=join3 (R:=[]) sJ;have lq2:q9.le h5:=l4 h5 (s5.in 3 rfl) (s5.in 2 rfl) ((sA6.in 3 rfl).trans (s5.in 0 rfl));have cq:∀k,bf G q9 ⟨xp,k,none⟩=_:=fun k=>bm (bj ((l1 _ _ bh).trans (by rw [hop])));have cqn:∀k,bf G q9 ⟨xw,k,none⟩=_:=fun k=>bm (bj ((l2 _ _ bh).trans (by rw [how])));refine ⟨q9,lq2,?_⟩;try simp only [bRtS,cq,f19,fq]
   refine (Sep.on s5 (nn (G:=HL.under G h5 A4) (R:=[ae4,ah2,ak1]) ss4.ch (fz.bg A4 h5 (s5.sel [0,1] (by decide) rfl) d5) sA5 (v.ok x hxm))).mono ?_;rintro u h6 ⟨A6,⟨a6,c6,ch6,cl6,e2,hu,hu3,sA7,_⟩,s6,d6⟩;refine ⟨l4 h6 (s6.in 3 rfl) (s6.in 2 rfl) (cl6.p.trans (ch6.pool.trans ((sA7.in 0 rfl).trans (s6.in 0 rfl)))),?_⟩;obtain ⟨u0,hu0⟩:=b2_.1 hk1;have huu:=cl6.l1 _ _ hu0;rw [hu]at huu;cases huu;have slu:=ss.ch.look1 (v.ok x hxm) hu0;obtain ⟨sv,cv,rfl,_⟩:=slu.len (by decide);have hsi':(mu q.w q.k q.T q.r x.p)[x.i]?=some x.s:=(v.at_ x hxm).1;obtain ⟨b,o,rfl,z1,z2⟩:=Sees.span (slu.see (G:=G) (by decide) l3) hsi';have hlti:(x.i:Int)<((mu q.w q.k q.T q.r x.p).length:Int):=Int.ofNat_lt.2 (ad_.1 hsi').1;try simp (disch:=first|decide|omega) only [bRtS,cqn,Vq (ac_ x.i) hlti,z1,z2,fq]
   have ss6:Srs q a6 ae4 ah2 ms mw mp mt hp c6 (take S1 k x) (Go.Proofs.Wt.popL (⟨x.a,numP q.w q.k x.p,(x.i:Int),wn⟩::L1)) n1:=⟨ch6,ss4.st,ss4.hp,ss4.ok,ss4.qi,ss4.kept.le cl6,ss4.n0,ss4.ln⟩;by_cases hfv:x.s.2=4611686018427387904
   . have hg:nf gp any x.p x.s=true:=by unfold nf FV;rw [hfv];rw [hD];rfl
     try simp only [bRtS,show (x.s.2==4611686018427387904)=true from by simpa using hfv]
     have cw6:∀k,bf G h6 ⟨xw,k,none⟩=_:=fun k=>bm (bj ((s6.at 2 rfl bh).trans (by rw [how])));try simp only [bRtS,f21,f19,cw6]
     refine (Sep.on s6 (Ou (G:=HL.under G h6 A6) (R:=[ak1]) ss6 (fz.bg A6 h6 (s6.sel [0,1] (by decide) rfl) d6) v2 hz hx2 sA7)).mono ?_;rintro u h8 ⟨A8,⟨ip,sl8,hl8,sA8,_⟩,s8,d8⟩;have hrun:W = .ok (path (take S1 k x) S1.length k []):=by rw [<- hW,hN',Ul hle hg]
     have hlen:(take S1 k x).length=S1.length:=by unfold take;rw [aX_]
     rw [hlen]at sl8 hl8;rw [<- hKK,<- hKR];try simp (disch:=decide) only [bRtS]
     exact HQ _ _ ⟨ip,_,by rw [hrun];rfl,by rw [hrun];exact sl8,by rw [hrun];exact hl8,(s8.cut (sA8.in 0 rfl)).sel [0,1] (by decide) rfl,d8⟩
   . try simp only [bRtS,show (x.s.2==4611686018427387904)=false from by simpa using hfv]
     exact k9 (by unfold nf FV;rw [show (x.s.2==4611686018427387904)=false from by simpa using hfv,Bool.and_false]) _ h6 A6 a6 c6 ss6 sA7 (s6.sel [0,1,2] (by decide) rfl) d6 (by simp (disch:=omega) only [bo,f19]) (by simp (disch:=omega) only [bo,f6]) (by simp (disch:=omega) only [bo,f11]) (by simp (disch:=decide) only [bRtS]) (by simp (disch:=omega) only [bo,f15]) (by simp (disch:=omega) only [bo,f21])
  |false=>
   try simp only [bRtS,cg5]
   cases hany:any with
   |false=>
    try simp only [bRtS,fq]
    refine ⟨h5,Hp.le.refl _,?_⟩;try simp (disch:=first|decide|omega) only [bRtS,Nat.reduceAdd,Nat.reduceMul,fq]
    exact k9 (by unfold nf;rw [hD,hany];rfl) _ h5 A4 a1 c1 ss4 sA5 (s5.sel [0,1,2] (by decide) rfl) d5 (by simp (disch:=omega) only [bo,f19]) (by simp (disch:=omega) only [bo,f6]) (by simp (disch:=omega) only [bo,f11]) (by simp (disch:=decide) only [bRtS]) (by simp (disch:=omega) only [bo,f15]) (by simp (disch:=omega) only [bo,f21])
   |true=>
    try simp only [bRtS,cp5,cg5,f11]
    cases hC:(x.p.x==gp.x&&x.p.y==gp.y)with
    |true=>
     try simp only [bRtS,Nat.reduceAdd]
     obtain ⟨q9,l1,l2,l3,l4⟩:=join3 (R:=[]) sJ;have lq2:q9.le h5:=l4 h5 (s5.in 3 rfl) (s5.in 2 rfl) ((sA6.in 3 rfl).trans (s5.in 0 rfl));have cq:∀k,bf G q9 ⟨xp,k,none⟩=_:=fun k=>bm (bj ((l1 _ _ bh).trans (by rw [hop])));have cqn:∀k,bf G q9 ⟨xw,k,none⟩=_:=fun k=>bm (bj ((l2 _ _ bh).trans (by rw [how])));refine ⟨q9,lq2,?_⟩;try simp only [bRtS,cq,f19,fq]
     refine (Sep.on s5 (nn (G:=HL.under G h5 A4) (R:=[ae4,ah2,ak1]) ss4.ch (fz.bg A4 h5 (s5.sel [0,1] (by decide) rfl) d5) sA5 (v.ok x hxm))).mono ?_;rintro u h6 ⟨A6,⟨a6,c6,ch6,cl6,e2,hu,hu3,sA7,_⟩,s6,d6⟩;refine ⟨l4 h6 (s6.in 3 rfl) (s6.in 2 rfl) (cl6.p.trans (ch6.pool.trans ((sA7.in 0 rfl).trans (s6.in 0 rfl)))),?_⟩;obtain ⟨u0,hu0⟩:=b2_.1 hk1;have huu:=cl6.l1 _ _ hu0;rw [hu]at huu;cases huu;have slu:=ss.ch.look1 (v.ok x hxm) hu0;obtain ⟨sv,cv,rfl,_⟩:=slu.len (by decide);have hsi':(mu q.w q.k q.T q.r x.p)[x.i]?=some x.s:=(v.at_ x hxm).1;obtain ⟨b,o,rfl,z1,z2⟩:=Sees.span (slu.see (G:=G) (by decide) l3) hsi';have hlti:(x.i:Int)<((mu q.w q.k q.T q.r x.p).length:Int):=Int.ofNat_lt.2 (ad_.1 hsi').1;try simp (disch:=first|decide|omega) only [bRtS,cqn,Vq (ac_ x.i) hlti,z1,z2,fq]
     have ss6:Srs q a6 ae4 ah2 ms mw mp mt hp c6 (take S1 k x) (Go.Proofs.Wt.popL (⟨x.a,numP q.w q.k x.p,(x.i:Int),wn⟩::L1)) n1:=⟨ch6,ss4.st,ss4.hp,ss4.ok,ss4.qi,ss4.kept.le cl6,ss4.n0,ss4.ln⟩;by_cases hfv:x.s.2=4611686018427387904
     . have hg:nf gp any x.p x.s=true:=by unfold nf FV;rw [hfv];rw [hD,hany,hC];rfl
       try simp only [bRtS,show (x.s.2==4611686018427387904)=true from by simpa using hfv]
       have cw6:∀k,bf G h6 ⟨xw,k,none⟩=_:=fun k=>bm (bj ((s6.at 2 rfl bh).trans (by rw [how])));try simp only [bRtS,f21,f19,cw6]
       refine (Sep.on s6 (Ou (G:=HL.under G h6 A6) (R:=[ak1]) ss6 (fz.bg A6 h6 (s6.sel [0,1] (by decide) rfl) d6) v2 hz hx2 sA7)).mono ?_;rintro u h8 ⟨A8,⟨ip,sl8,hl8,sA8,_⟩,s8,d8⟩;have hrun:W = .ok (path (take S1 k x) S1.length k []):=by rw [<- hW,hN',Ul hle hg]
       have hlen:(take S1 k x).length=S1.length:=by unfold take;rw [aX_]
       rw [hlen]at sl8 hl8;rw [<- hKK,<- hKR];try simp (disch:=decide) only [bRtS]
       exact HQ _ _ ⟨ip,_,by rw [hrun];rfl,by rw [hrun];exact sl8,by rw [hrun];exact hl8,(s8.cut (sA8.in 0 rfl)).sel [0,1] (by decide) rfl,d8⟩
     . try simp only [bRtS,show (x.s.2==4611686018427387904)=false from by simpa using hfv]
       exact k9 (by unfold nf FV;rw [show (x.s.2==4611686018427387904)=false from by simpa using hfv,Bool.and_false]) _ h6 A6 a6 c6 ss6 sA7 (s6.sel [0,1,2] (by decide) rfl) d6 (by simp (disch:=omega) only [bo,f19]) (by simp (disch:=omega) only [bo,f6]) (by simp (disch:=omega) only [bo,f11]) (by simp (disch:=decide) only [bRtS]) (by simp (disch:=omega) only [bo,f15]) (by simp (disch:=omega) only [bo,f21])
    |false=>
     try simp only [bRtS]
     refine ⟨h5,Hp.le.refl _,?_⟩;try simp (disch:=first|decide|omega) only [bRtS,Nat.reduceAdd,Nat.reduceMul,fq]
     exact k9 (by unfold nf;rw [hD,hany,hC];rfl) _ h5 A4 a1 c1 ss4 sA5 (s5.sel [0,1,2] (by decide) rfl) d5 (by simp (disch:=omega) only [bo,f19]) (by simp (disch:=omega) only [bo,f6]) (by simp (disch:=omega) only [bo,f11]) (by simp (disch:=decide) only [bRtS]) (by simp (disch:=omega) only [bo,f15]) (by simp (disch:=omega) only [bo,f21])
theorem aw2 {C:Conf} (mk:dx C):(1<=C.un/\C.un<=1000)/\(1<=C.ac/\C.ac<=1000)/\(1<=C.sp/\C.sp<=1000)/\(1<=C.tu/\C.tu<=1000)/\(1<=C.ho/\C.ho<=1000):=by have h:=mk.six;simp only [al_,aK_,or_false,forall_eq_or_imp,forall_eq,cj,ag_,aw_]at h;omega
theorem Bn {C:Conf} (mk:dx C) {w k:Nat} {f:Nat->Nat->Int} {p:Pose} {m:Move} (h:m∈ml w k f p):1<=dr C m/\dr C m<=16000:=by
 obtain ⟨⟨a1,a2⟩,_,_,⟨b1,b2⟩,_⟩:=aw2 mk;obtain ⟨_,⟨d,n,_,n1,n2,_,rfl⟩|⟨_,rfl⟩⟩:=Cm h
 . obtain ⟨_,t2,t3⟩:=time_bd (A:=C.ac) (V:=C.sp) (n:=(n:Int)) a1 a2;have e:dr C (ym p d n)=Hu C.un C.ac C.sp n:=by unfold dr;exact ak_ rfl
   rw [e];exact ⟨t3 (by omega) (by omega),t2⟩
 . have e:dr C (jv p)=C.tu:=by unfold dr;rw [ah_ (by show ¬((2:Int)=1);decide)];exact ak_ rfl
   rw [e];omega
theorem am2 {w k:Nat} {f:Nat->Nat->Int} {p:Pose} (h:wayB w k f (jv p)=true):eu w k f (Av p)=true:=by unfold wayB at h;simp only [ag_]at h;obtain ⟨_,h⟩:=h;rw [ah_ (by show ¬((2:Int)=1);decide),show (jv p).k=2 from rfl,ak_ (rfl:(2:Int)=2)]at h;simp only [ag_,az_]at h;obtain ⟨_,h,_⟩:=h;have h1:∀c∈gj (p.x,p.y),qe w k f c=true:=h;unfold eu;rw [ag_];refine ⟨h1 _ (by simp [gj,Av]),h1 _ ?_⟩;unfold east Av;cases p.d<;>simp [gj]
theorem aF3 {q:Par} (mk:dx q.C) (gt:i7 q.T):rt q.E:=by
 refine ⟨fun p y hy=>?_,fun p s hs=>?_,fun p hp y hy=>?_,fun p p' hp hp' e=>ye (f:=q.f) hp hp' e⟩
 . obtain ⟨i,hi⟩:=bn_ hy;obtain ⟨m,hm,rfl⟩:=Jh hi;have:=Bn mk hm;exact ⟨this.1,Int.le_trans this.2 (by decide)⟩
 . have hr:Ris (q.E.spans p):=rn gt q.r _;exact hr.bd s hs
 . obtain ⟨i,hi⟩:=bn_ hy;obtain ⟨m,hm,rfl⟩:=Jh hi;show eu q.w q.k q.f m.t=true;obtain ⟨_,⟨d,n,_,_,_,ho,rfl⟩|⟨hb,rfl⟩⟩:=Cm hm
   . exact ho
   . exact am2 hb
end Go.Proofs.YtfflipnhffknnaaGreatDoor
end
section
namespace Go.Proofs.YtfflipnhffknnaaGreatDoor
open Go Go.HL
theorem ca_nil {G h:Hp} {C:Conf} (h1:C.bl=[]) (h2:C.po=[]) (h3:C.ro=[]) (h4:C.st=[]):CA G h C none 0 none 0 none 0 none 0:=by obtain ⟨w,hh,ht,bl,po,ro,st,un,ac,sp,tu,ho,qu,re,bu,back⟩:=C;subst h1 h2 h3 h4;exact ⟨Slc.nil.sees (e:=28) (a:=noHp) (by decide) (fun _ _ e=>by cases e),Slc.nil.sees (e:=28) (a:=noHp) (by decide) (fun _ _ e=>by cases e),Slc.nil.sees (e:=30) (a:=noHp) (by decide) (fun _ _ e=>by cases e),[],Slc.nil.sees (e:=95) (a:=noHp) (by decide) (fun _ _ e=>by cases e),by simp⟩
theorem may_nil {C:Conf} (h1:C.bl=[]) (h2:C.po=[]) (h3:C.ro=[]) (h4:C.st=[]):al9 C↔qj C=true:=by refine ⟨fun m=>m.nums,fun n=>⟨n,by simp [h2],by simp [h3],by simp [h1],by simp [h1],by simp [h2],by simp [h3],by simp [h3],?_⟩⟩;exact ⟨by simp [h4],by simp [h4],by simp [h4],by simp [h4],by simp [h4],by simp [h4]⟩
theorem Sees.move {G h:Hp} {sa:Option Addr} {cap n:Nat} {L:List Move} (s:Sees jg G h (.slice sa n cap) L) {i:Nat} {x:Move} (hx:L[i]?=some x):
 ∃b o,sa=some ⟨b,o,none⟩/\∀j,j<11->bf G h ⟨b,o+i*11+j,none⟩=(jg.enc x)[j]?:=by obtain ⟨b,o,c,e1,e2⟩:=s.get hx;simp only [Value.slice.injEq]at e1;exact ⟨b,o,e1.1,e2⟩
end Go.Proofs.YtfflipnhffknnaaGreatDoor
end
section
namespace Go.Proofs.YtfflipnhffknnaaGreatDoor
open Go Go.HL Go.Proofs.Resv Go.Proofs.Srch
def bRtT:=jq bC (jq (jq (jq (jq @wc @bd146_) (jq @cf29 @cf63)) (jq (jq @cf65 @cf66) (jq @cf67 @ac3))) (jq (jq (jq @Ha @Sa) (jq @R9 @ld26)) (jq (jq @ld3 @ld30) (jq @li @nq))))
def zM:Move:=⟨0,0,0,⟨0,0,false⟩,⟨0,0,false⟩,0,0⟩
theorem kb_of {C:Conf} (mk:dx C):KB C.un C.ac C.sp:=by obtain ⟨⟨a1,a2⟩,⟨b1,b2⟩,⟨c1,c2⟩,_,_⟩:=aw2 mk;exact ⟨a1,a2,b1,b2,c1,c2⟩
theorem mkmapR {T:TypeId} {G h:Hp} {K:VK}:wpH P_ G (Instr.makeMap T none) h K=∀x,h x=none->G x=none->K (.map (some x)) (h.set x (.map #[] 0)):=by simp [Instr.makeMap,bind,Sem.bind,pure,wpH,newObj]
theorem find_k3 {G h ga B0:Hp} {C:Conf} {T:Tb} {ab:Option Addr} {cb:Nat} {ap:Option Addr} {cp:Nat} {ar:Option Addr} {cr:Nat} {az:Option Addr} {cs:Nat} {xc xp xg tp gb kb w k:Nat} {f:Nat->Nat->Int} {p gp:Pose} {rb t:Int} {any:Bool}
 (st:lg G) (mk:dx C) (hbu:C.bu<=4000) (gt:i7 T) (fw:Few T 100) (go:GO ga gb kb w k f) (ca:CA G B0 C ab cb ap cp ar cr az cs) (ts:Rv.TSee G B0 tp T) (hpf:eu w k f p=true) (ht0:0<=t) (ht1:t<FV)
 (bc:B0 xc=some (.cells #[C.w,C.h,C.ht,.slice ab C.bl.length cb,.slice ap C.po.length cp,.slice ar C.ro.length cr,.slice az C.st.length cs,C.un,C.ac,C.sp,C.tu,C.ho,C.qu,C.re,C.bu,.bool C.back] 26 (0,0)))
 (bp:B0 xp=some (.cells #[p.x,p.y,.bool p.d] 30 (0,0))) (bgl:B0 xg=some (.cells #[gp.x,gp.y,.bool gp.d,.bool any] 45 (0,0)))
 (s:HL.Sep [ga,B0] h) (d:Dis G h) (r:Rg) (g1:r 1 = .pointer (some ⟨tp,0,none⟩)) (g2:r 2 = .int .i64 rb) (g4:r 4 = .int .i64 t) (g6:r 6 = .pointer (some ⟨xc,0,none⟩)) (g9:r 9 = .pointer (some ⟨xp,0,none⟩)) (g11:r 11 = .pointer (some ⟨xg,0,none⟩)) (g14:r 14 = .pointer (some ⟨gb,0,none⟩)) {Q:Value->Hp->Prop} (HQ:∀u h',OutR G B0 (find (envE C w k f T rb) (nf gp any) p t zM C.bu.toNat) u h'->Q u h'):
 Ze G (retK P_ G [.tmp 12,.tmp 13] Q) r h:=by
 generalize hq:(⟨C,w,k,f,T,rb⟩:Par)=q;have hE:envE C w k f T rb=q.E:=by rw [<- hq];rfl
 rw [hE]at HQ;generalize hW:find q.E (nf gp any) p t zM C.bu.toNat=W at HQ;generalize hKR:retK P_ G [.tmp 12,.tmp 13] Q=KR;unfold Ze;have cc:∀k,bf G h ⟨xc,k,none⟩=_:=fun k=>bm (bj (s.at 1 rfl bc));simp only [bRtT,g6,cc];refine (aA0 (U:=C.un) (A:=C.ac) (V:=C.sp)).mono ?_;rintro _ h1 (⟨_,ak,kp,rfl,kpk,s1,d1⟩|⟨hno,_⟩);rotate_left
 . exact absurd (kb_of mk) hno
 have s1:HL.Sep [ak,ga,B0] h1:=HL.Sep.open (L:=[ga,B0]) (R:=[ak]) (s1.swap) s |>.sel [2,0,1] (by decide) rfl
 have cc1:∀k,bf G h1 ⟨xc,k,none⟩=_:=fun k=>bm (bj (s1.at 2 rfl bc));try simp only [bRtT,g6,cc1]
 simp only [mkmapR];intro ms hms gms mw hmw gmw mp hmp gmp mt hmt gmt;have s2:=((((s1.new (o := .map #[] 0) hms).new (o := .map #[] 0) hmw).new (o := .map #[] 0) hmp).new (o := .map #[] 0) hmt);have d2:=((((d1.set (o := .map #[] 0) gms).set (o := .map #[] 0) gmw).set (o := .map #[] 0) gmp).set (o := .map #[] 0) gmt);generalize Hp.set (Hp.set (Hp.set (Hp.set h1 ms _) mw _) mp _) mt _=h2 at s2 d2 ⊢;try simp only [bRtT,g14,g1,g2]
 intro sp hsp gsp;have s3:=s2.new (o := .cells ((qq C (.slice ab C.bl.length cb) (.slice ap C.po.length cp) (.slice ar C.ro.length cr) (.slice az C.st.length cs) (.pointer (some ⟨gb,0,none⟩)) kp tp rb ms mw mp mt 0).set 24 (.pointer none)).toArray 134 (0,0)) hsp;have d3:=d2.set (o := .cells ((qq C (.slice ab C.bl.length cb) (.slice ap C.po.length cp) (.slice ar C.ro.length cr) (.slice az C.st.length cs) (.pointer (some ⟨gb,0,none⟩)) kp tp rb ms mw mp mt 0).set 24 (.pointer none)).toArray 134 (0,0)) gsp;simp only [qq,b5_,bh_]at s3 d3;generalize hos:Obj.cells (List.toArray [.int .i64 C.w,_,_,_,_,_,_,_,_,_,_,_,_,_,_,_,_,_,_,_,_,_,_,_,_]) 134 (0,0)=os at s3 d3 ⊢;generalize Hp.set h2 sp _=h3 at s3 d3 ⊢;refine (Hw.yi (G:=G) (h:=h3)).mono ?_;rintro _ _ ⟨hp,rfl,hhp,ghp,rfl⟩;have s4:=s3.new (o := .cells #[.func (.func 64) #[] #[],.slice none 0 0,(0:Int)] 218 (0,0)) hhp;have d4:=d3.set (o := .cells #[.func (.func 64) #[] #[],.slice none 0 0,(0:Int)] 218 (0,0)) ghp;generalize hoh:Obj.cells #[.func (.func 64) #[] #[],.slice none 0 0,(0:Int)] 218 (0,0)=oh at s4 d4 ⊢;generalize Hp.set h3 hp oh=h4 at s4 d4 ⊢;try simp (disch:=first|decide|omega) only [bRtT,Nat.reduceAdd,Nat.reduceMul]
 have hs4:h4 sp=some os:=s4.at 1 rfl bh;subst hos;rw [ec sz132 rfl hs4 (by simp)];have s5:=(s4.pick 1 rfl rfl).put (o := .cells (qq C (.slice ab C.bl.length cb) (.slice ap C.po.length cp) (.slice ar C.ro.length cr) (.slice az C.st.length cs) (.pointer (some ⟨gb,0,none⟩)) kp tp rb ms mw mp mt hp).toArray 134 (0,0)) bh;rw [set_set]at s5;have d5:=d4.set (o := .cells (qq C (.slice ab C.bl.length cb) (.slice ap C.po.length cp) (.slice ar C.ro.length cr) (.slice az C.st.length cs) (.pointer (some ⟨gb,0,none⟩)) kp tp rb ms mw mp mt hp).toArray 134 (0,0)) (d4 _ _ hs4);simp only [b5_,bh_];generalize hos:Obj.cells (qq C (.slice ab C.bl.length cb) (.slice ap C.po.length cp) (.slice ar C.ro.length cr) (.slice az C.st.length cs) (.pointer (some ⟨gb,0,none⟩)) kp tp rb ms mw mp mt hp).toArray 134 (0,0)=os at s5 d5;have hos':=hos;simp only [qq]at hos';rw [hos'];generalize Hp.set h4 sp _=h5 at s5 d5 ⊢;have s6:=s5.none.none.sel [7,6,5,0,4,1,3,8,2,9,10] (by decide) rfl;clear s1 s2 s3 s4 s5 d1 d2 d3 d4 hs4 cc cc1;obtain ⟨a,s7,ta⟩:=HL.Sep.pack [noHp.set ms (.map #[] 0),noHp.set mw (.map #[] 0),noHp.set mp (.map #[] 0),noHp] s6;obtain ⟨ae,s8,tae⟩:=HL.Sep.pack [noHp.set mt (.map #[] 0),noHp] (R:=[a,noHp.set hp oh,ak,noHp.set sp os,ga,B0]) (s7.sel [1,2,0,3,4,5,6,7] (by decide) rfl);obtain ⟨A,s9,tA⟩:=HL.Sep.pack [a,ae,noHp.set hp oh,ak] (R:=[noHp.set sp os,ga,B0]) (s8.sel [1,0,2,3,4,5,6] (by decide) rfl);obtain ⟨B,s10,tB⟩:=HL.Sep.pack [noHp.set sp os,ga,B0] (R:=[A]) (s9.sel [1,2,3,0] (by decide) rfl);have s11:HL.Sep [A,B] h5:=s10.swap;have lB0:B0.le B:=tB.in 2 rfl;have dB:Dis G B:=fun x o hx=>d5 x o (s10.in 0 rfl x o hx);have hsB:B sp=some os:=tB.at 0 rfl bh;have bgA:∀A' h',HL.Sep [A',B] h'->Dis G h'->Bg (HL.under G h' A') q sp kp ms mw mp mt hp:=by intro A' h' s' d';subst hq;refine Bg.of (tp:=tp) (gp:=gb) s' d' (ca.up lB0 dB) (fun j hj=>?_) ((go.le (tB.in 1 rfl)).gs) (ts.up lB0 dB) st gt fw;rw [bm (bj (hsB.trans (by rw [<- hos])))]
 have cB:∀h',B.le h'->Dis G h'->BC G h' sp (.pointer (some ⟨gb,0,none⟩)) kp tp q.r ms mw mp mt hp:=by intro h' l' d';subst hq;exact yx (C:=C) (vb := .slice ab C.bl.length cb) (vp := .slice ap C.po.length cp) (vr := .slice ar C.ro.length cr) (vz := .slice az C.st.length cs) fun j hj=>by rw [bm (bj ((l' _ _ hsB).trans (by rw [<- hos])))]
 have hC:q.C=C:=by rw [<- hq]
 have fz:Fz G B q sp kp ms mw mp mt hp xc xg gp any:=⟨bgA,⟨_,_,cB⟩,by rw [<- hq];exact gt,by rw [<- hq];exact fw,by rw [<- hq];exact go.w2,by rw [<- hq];exact go.k2,fun h' l' d'=>by rw [bm (bj (l' _ _ (lB0 _ _ bc))),hC];rfl,lB0 _ _ bgl⟩;have c0:Ch q a ms mw mp ⟨[],[],[],noHp⟩:=⟨⟨_,_,_,⟨#[],0,rfl,rfl⟩,⟨#[],0,rfl,rfl⟩,⟨#[],0,rfl,rfl⟩,ta⟩,fun n v h=>by simp [mget]at h,fun n v h=>by simp [mget]at h,fun n v h=>by simp [mget]at h⟩;have hpq:eu q.w q.k q.f p=true:=by rw [<- hq];exact hpf
 have cp5:∀k,bf G h5 ⟨xp,k,none⟩=_:=fun k=>bm (bj ((s11.in 1 rfl) _ _ (lB0 _ _ bp)));try simp only [bRtT,g9,cp5]
 refine (Sep.on s11 (nn (G:=HL.under G h5 A) (R:=[ae,noHp.set hp oh,ak]) c0 (bgA A h5 s11 d5) tA hpq)).mono ?_;rintro u h6 ⟨A6,⟨a6,c6,ch6,cl6,e2,hu,hu3,sA6,_⟩,s12,d6⟩;have slu:=ch6.look1 hpq hu;rw [g4];refine (Ic (t:=t) (slu.see (G:=G) (by decide) (ch6.pool.trans ((sA6.in 0 rfl).trans (s12.in 0 rfl)))) (by have:=Oi (q:=q) fz.gt fz.fw p;omega)).mono ?_;rintro _ h6 ⟨rfl,rfl⟩;try simp only [bRtT,g4]
 have hsp:q.E.spans p=mu q.w q.k q.T q.r p:=rfl;cases hi:inside (mu q.w q.k q.T q.r p) t with
 |none=>
  have hw:W = .no 18:=by rw [<- hW];unfold find;rw [hsp,hi]
  rw [show insI (mu q.w q.k q.T q.r p) t = -1 from by unfold insI;rw [hi]];rw [<- hKR];try simp (disch:=decide) only [bRtT]
  exact HQ _ _ ⟨noHp,_,by rw [hw];rfl,by rw [hw];exact Slc.nil,by rw [hw];simp [outL],((s12.drop).cut lB0).none,d6⟩
 |some i0=>
  rw [show insI (mu q.w q.k q.T q.r p) t=(i0:Int)from by unfold insI;rw [hi]];try simp only [bRtT,show decide ((i0:Int)<0)=false from ai_ (by omega)]
  unfold aT2;have cp6:∀k,bf G h6 ⟨xp,k,none⟩=_:=fun k=>bm (bj ((s12.in 1 rfl) _ _ (lB0 _ _ bp)));try simp (disch:=decide) only [bRtT,g9,cp6,g4]
  have ss0:Srs q a6 ae (noHp.set hp oh) ms mw mp mt hp c6 [] [] 0:=
   { ch:=ch6,st:=⟨.map #[] 0,[],noHp,KMap.empty,tae,⟨rfl,List.nodup_nil,fun i e x h=>by simp at h⟩⟩,hp:=⟨none,_,bh.trans (by rw [<- hoh]),⟨rfl,rfl⟩⟩,
     ok:=fun j h1 h2=>absurd h2 (by simp),qi:=⟨(fun w hw=>nomatch hw),(fun x hx=>nomatch hx)⟩,kept:=(fun x hx=>nomatch hx),n0:=aS_ _,ln:=aS_ _ }
  have v0:Inv q.E p t zM t []:=⟨List.Pairwise.nil,(fun x hx=>nomatch hx),(fun x hx=>nomatch hx),(fun x hx=>nomatch hx),(fun x hx=>nomatch hx),(fun x hx=>nomatch hx)⟩;have ok:rt q.E:=aF3 (by rw [hC];exact mk) fz.gt;have sA7:HL.Sep [a6,ae,noHp.set hp oh,ak] A6:=sA6;have hr:=Kl (G:=HL.under G h6 A6) (R:=[ak]) (p:=p) (t:=t) (m:=zM) (b := -1) (lo:=t) (t0:=t) (p0:=p) (z:=zM) ss0 (bgA A6 h6 s12 d6) v0 (aS_ _) hpq (by omega) (.inl (by decide)) sA7;have hf:ji q.w q.k [] (-1)=(0,0):=by unfold ji;rw [ak_ (by decide)]
  rw [hf]at hr;simp only [zM]at hr;refine (Sep.on s12 hr).mono ?_;rintro _ h7 ⟨A7,⟨a7,ae7,ah7,c7,L7,n7,ss7,_,_,m1,m2,sA8,_⟩,s13,d7⟩;have v7:Inv q.E p t zM t (note q.E [] p t zM (-1)):=Ks v0 (aS_ _) hpq (.inl ⟨rfl,rfl,rfl,rfl⟩);have hb:=mk.bu;unfold cj at hb;simp only [ag_,aw_]at hb;try simp (disch:=first|decide|omega) only [bRtT,Nat.reduceAdd,Nat.reduceMul]
  subst hKR;have hkq:KP ak kp q.C.un q.C.ac q.C.sp:=by rw [hC];exact kpk
  have ss7':Srs q a7 ae7 ah7 ms mw mp mt hp _ (note q.E [] p t zM (-1)) L7 n7:=ss7;refine Ur (N:=C.bu.toNat) (t0:=t) fz ok ht0 (by rw [hC];omega) (by omega) (by omega) rfl ss7' hkq v7 (by omega) sA8 s13 d7 _ (by simp (disch:=decide) only [bRtT]) (by simp (disch:=omega) only [bo,g6]) (by simp (disch:=omega) only [bo,g11]) (by simp (disch:=decide) only [bRtT]) (by simp only [bRtT]) ?_;intro u h' ho;have hw:W=run q.E (nf gp any) C.bu.toNat (note q.E [] p t zM (-1)):=by rw [<- hW];unfold find;rw [hsp,hi]
  have ho':OutR G B W u h':=by rw [hw];exact ho
  obtain ⟨ip,vs,e1,e2,e3,e4,e5⟩:=ho';exact HQ _ _ ⟨ip,vs,e1,e2,e3,(e4.swap.cut lB0).swap,e5⟩
def i4:=jq bC (jq (jq (jq (jq @Lp @yu) (jq @bne_self_eq_false.{0} (jq @cf26 @cf37))) (jq (jq @cf61 @cf62) (jq @eq34np (jq @eq34sp @ab7)))) (jq (jq (jq @ab4 @vq) (jq @aC0 (jq @aB9 @ld26))) (jq (jq @ld28 (jq @ld30 @rz)) (jq @ld3p (jq @ld4 @nq)))))
def aimB (C:Conf) (gp:Pose) (any:Bool):Bool:=if any=true then qe (wC C) (kC C) (f3C C) (gp.x,gp.y)else eu (wC C) (kC C) (f3C C) gp
def nt (C:Conf) (To:Option Tb) (rb:Int) (p:Pose) (t:Int) (gp:Pose) (any:Bool):Res Move:=match To with
 |none => .no 1
 |some T=>if (T.length:Int)≠C.w*C.h\/rb<0\/t<0\/t>=FV\/eu (wC C) (kC C) (f3C C) p=false\/aimB C gp any=false then .no 1
  else find (envE C (wC C) (kC C) (f3C C) T rb) (nf gp any) p t zM C.bu.toNat
def FindR (G h:Hp) (C:Conf) (To:Option Tb) (rb:Int) (p:Pose) (t:Int) (gp:Pose) (any:Bool) (u:Value) (h':Hp):Prop:=
 ∃W,OutR G h W u h'/\((¬dx C/\W = .no 5)\/(dx C/\W=nt C To rb p t gp any))
def TabV (G h:Hp) (vt:Value):Option Tb->Prop
 |none=>vt = .pointer none
 |some T=>∃tp,vt = .pointer (some ⟨tp,0,none⟩)/\Rv.TSee G h tp T/\i7 T/\Few T 100
theorem Ph {G h:Hp} {C:Conf} {v vt:Value} {To:Option Tb} {p gp:Pose} {rb t:Int} {any:Bool} (hv:CV G h v C) (st:lg G) (hro:∀p∈C.ro,PB p) (hsl:C.st.length<=100000000000000) (hbu:dx C->C.bu<=4000)
 (tv:TabV G h vt To) (hp:PB p) (hgp:PB gp):
 bn P_ G 27 #[v,vt,rb,mq p,t,.agg #[gp.x,gp.y,.bool gp.d,.bool any]] h (FindR G h C To rb p t gp any):=by
 obtain ⟨ab,cb,ap,cp,ar,cr,az,cs,rfl,ca⟩:=hv;refine bn.assume fun d=>enter27 (by simp) ?_;unfold S27;simp (disch:=decide) only [i4];intro xc hxc gxc xp hxp gxp xg hxg gxg;have s1:=((HL.Sep.one (h:=h)).past (o := .cells #[C.w,C.h,C.ht,.slice ab C.bl.length cb,.slice ap C.po.length cp,.slice ar C.ro.length cr,.slice az C.st.length cs,C.un,C.ac,C.sp,C.tu,C.ho,C.qu,C.re,C.bu,.bool C.back] 26 (0,0)) hxc);generalize e1:Hp.set h xc _=h1 at*;obtain ⟨l1,d1,bc1⟩:=boxed e1 hxc d gxc;generalize e2:Hp.set h1 xp _=h2 at*;obtain ⟨l2,d2,bp2⟩:=boxed e2 hxp d1 gxp;generalize e3:Hp.set h2 xg _=h3 at*;obtain ⟨l3,d3,bg3⟩:=boxed e3 hxg d2 gxg;have bc3:=l3 _ _ (l2 _ _ bc1);have bp3:=l3 _ _ bp2;have L:=l1.trans (l2.trans l3);have cc:∀j,bf G h3 ⟨xc,j,none⟩=_:=fun j=>bm (bj bc3);have cg:∀j,bf G h3 ⟨xg,j,none⟩=_:=fun j=>bm (bj bg3);clear s1;try simp only [i4,cc]
 refine (yi (ca.up L d3).cv st hro hsl).mono ?_;rintro _ h4 ⟨l4,d4,⟨mk,ga,gb,kb,rfl,go,s4⟩|⟨hno,rfl⟩⟩;rotate_left
 . try simp only [i4]
   exact ⟨.no 5,⟨noHp,_,rfl,Slc.nil,by simp [outL],(HL.Sep.one.none.swap.cut (L.trans l4)).swap,d4⟩,.inl ⟨hno,rfl⟩⟩
 try simp only [i4]
 have gs:=go.gs (G:=G);have gs4:=gs.up (s4.in 0 rfl) d4;have cg4:∀j,bf G h4 ⟨xg,j,none⟩=_:=fun j=>bm (bj (s4.at 1 rfl bg3));unfold aT3;try simp (disch:=decide) only [i4,cg4]
 have out1:nt C To rb p t gp any = .no 1->FindR G h C To rb p t gp any (.tuple #[.slice none 0 0,(1:Int)]) h4:=fun e=>
  ⟨.no 1,⟨noHp,_,rfl,Slc.nil,by simp [outL],(HL.Sep.one.none.swap.cut (L.trans l4)).swap,d4⟩,.inr ⟨mk,e.symm⟩⟩
 have cc4:∀j,bf G h4 ⟨xc,j,none⟩=_:=fun j=>bm (bj (s4.at 1 rfl bc3));have cp4:∀j,bf G h4 ⟨xp,j,none⟩=_:=fun j=>bm (bj (s4.at 1 rfl bp3));generalize hKR:retK P_ G [.tmp 12,.tmp 13] (FindR G h C To rb p t gp any)=KR
 suffices k2:∀r':Rg,r' 1=vt->r' 2 = .int .i64 rb->r' 4 = .int .i64 t->r' 6 = .pointer (some ⟨xc,0,none⟩)->r' 9 = .pointer (some ⟨xp,0,none⟩)->r' 11 = .pointer (some ⟨xg,0,none⟩)->r' 14 = .pointer (some ⟨gb,0,none⟩)->r' 16 = .bool (aimB C gp any)->S6 G KR r' h4 by
  refine (p8 gs4 st hgp).mono ?_;rintro _ h5 ⟨rfl,rfl⟩;try simp only [i4,cg4]
  cases hany:any with
  |true=>
   try simp only [i4,cg4]
   refine (Ck (c:=(gp.x,gp.y)) gs4).mono ?_;rintro _ h6 ⟨rfl,rfl⟩;exact k2 _ (by simp (disch:=decide) only [i4]) (by simp (disch:=decide) only [i4]) (by simp (disch:=decide) only [i4]) (by simp (disch:=decide) only [i4]) (by simp (disch:=decide) only [i4]) (by simp (disch:=decide) only [i4]) (by simp (disch:=decide) only [i4]) (by simp only [i4];simp [aimB,hany])
  |false=>
   try simp only [i4]
   exact k2 _ (by simp (disch:=decide) only [i4]) (by simp (disch:=decide) only [i4]) (by simp (disch:=decide) only [i4]) (by simp (disch:=decide) only [i4]) (by simp (disch:=decide) only [i4]) (by simp (disch:=decide) only [i4]) (by simp (disch:=decide) only [i4]) (by simp (disch:=decide) only [i4];simp [aimB,hany])
 intro r1 f1 f2 f4 f6 f9 f11 f14 f16;unfold S6;refine ⟨h4,Hp.le.refl _,?_⟩;try simp only [i4,f1]
 cases To with
 |none=>
  rw [show vt = .pointer none from tv];try simp only [i4,fq]
  rw [<- hKR];try simp (disch:=decide) only [i4]
  exact out1 rfl
 |some T=>
  obtain ⟨tp,rfl,ts,gt,fw⟩:=tv;try simp only [i4]
  refine (Rv.qy (ts.up (L.trans l4) d4)).mono ?_;rintro _ h5 ⟨rfl,rfl⟩;refine ⟨Hp.le.refl _,?_⟩;try simp only [i4,f6,cc4]
  have hw:IntKind.i64.wrap (C.w*C.h)=C.w*C.h:=by have a1:=gs.w1;have a2:=gs.w2;have a3:=gs.k1;have a4:=gs.k2;unfold wC at a1 a2;unfold kC at a3 a4;have b1:0<=C.w*C.h:=Int.mul_nonneg (by omega) (by omega);have b2:C.w*C.h<=16*16:=bx_ (by omega) (by omega) (by omega) (by omega);exact ng (by omega) (by omega)
  rw [hw];by_cases q1:(T.length:Int)=C.w*C.h;rotate_left
  . try simp only [i4,show ((T.length:Int) != C.w*C.h)=true from by simpa using q1,fq]
    rw [<- hKR];try simp (disch:=decide) only [i4]
    exact out1 (by unfold nt;exact ak_ (.inl q1))
  try simp only [i4,show ((T.length:Int) != C.w*C.h)=false from by simpa using q1,f2]
  by_cases q2:rb<0
  . try simp only [i4,js q2,fq]
    rw [<- hKR];try simp (disch:=decide) only [i4]
    exact out1 (by unfold nt;exact ak_ (.inr (.inl q2)))
  try simp only [i4,kc q2,f4]
  by_cases q3:t<0
  . try simp only [i4,js q3,fq]
    rw [<- hKR];try simp (disch:=decide) only [i4]
    exact out1 (by unfold nt;exact ak_ (.inr (.inr (.inl q3))))
  try simp only [i4,kc q3,f4]
  by_cases q4:t>=4611686018427387904
  . try simp only [i4,js q4,fq]
    rw [<- hKR];try simp (disch:=decide) only [i4]
    exact out1 (by unfold nt;exact ak_ (.inr (.inr (.inr (.inl q4)))))
  try simp only [i4,kc q4,f14,f9,cp4]
  refine (p8 gs4 st hp).mono ?_;rintro _ h6 ⟨rfl,rfl⟩;cases q5:eu (wC C) (kC C) (f3C C) p with
  |false=>
   try simp only [i4,fq]
   rw [<- hKR];try simp (disch:=decide) only [i4]
   exact out1 (by unfold nt;exact ak_ (.inr (.inr (.inr (.inr (.inl q5))))))
  |true=>
  try simp only [i4,f16]
  cases q6:aimB C gp any with
  |false=>
   try simp only [i4,q6]
   rw [<- hKR];try simp (disch:=decide) only [i4]
   exact out1 (by unfold nt;exact ak_ (.inr (.inr (.inr (.inr (.inr q6))))))
  |true=>
  try simp only [i4,q6]
  rw [<- hKR]
  have hfw:nt C (some T) rb p t gp any=find (envE C (wC C) (kC C) (f3C C) T rb) (nf gp any) p t zM C.bu.toNat:=by
   unfold nt;refine ah_ ?_;rintro (h|h|h|h|h|h)
   . exact h q1
   . exact q2 h
   . exact q3 h
   . exact q4 h
   . rw [q5]at h;cases h
   . rw [q6]at h;cases h
  refine find_k3 (T:=T) (rb:=rb) (p:=p) (gp:=gp) (any:=any) (t:=t) st mk (hbu mk) gt fw go (ca.up L d3) (ts.up L d3) q5 (by omega) (by unfold FV;omega) bc3 bp3 bg3 s4 d4 _ (by simp (disch:=omega) only [bo,f1]) (by simp (disch:=omega) only [bo,f2]) (by simp (disch:=omega) only [bo,f4]) (by simp (disch:=omega) only [bo,f6]) (by simp (disch:=omega) only [bo,f9]) (by simp (disch:=omega) only [bo,f11]) (by simp (disch:=omega) only [bo,f14]) ?_;rintro u h' ⟨ip,vs,e1,e2,e3,e4,e5⟩;exact ⟨_,⟨ip,vs,e1,e2,e3,(e4.swap.cut L).swap,e5⟩,.inr ⟨mk,hfw.symm⟩⟩
end Go.Proofs.YtfflipnhffknnaaGreatDoor
end
section
namespace Go.Proofs.YtfflipnhffknnaaGreatDoor
open Go Go.HL
section
variable (G:Hp) (K:EK) (r:Rg) (h:Hp)
def md13:Nat->Hint
 |8=>mh false [0,1,0,0,0,0,0,64,255,511,1023,1023,2047,8191] [m_,e_,n_,n_,m_,n_,m_,n_,e_,n_,n_,n_,n_,n_] ([false]++[true]++fs 12) false
 |40=>mh false [0,1,3,0,0,0,48,112,0,496,1023,2047] [n_,n_,m_,n_,n_,n_,n_,m_,m_,m_,n_,.store] (fs 12) false
 |49=>mh false [0,0,3,7,0,31,63,127,255,255,1023,2047,4095,255,8447,32767,65535,131071,262143,262143,262143,262143,262143,6553599,14942207,31719423,262143,262143,201588735,536870911,1073741823] [n_,n_,n_,m_,n_,n_,m_,n_,n_,n_,n_,n_,m_,n_,m_,m_,n_,n_,m_,n_,n_,n_,n_,n_,m_,e_,n_,n_,n_,e_,n_] (fs 25++[true]++fs 5) false
 |_=>m0_
def Tp:Prop:=
 opH P_ G (xEq .eql 35 (.tmp 0) (.const .nilFunc) (r 17) (.int .i64 6)) h fun g h=>g_ g true (c_ G 23 #[] h) h fun j h=>
 opH P_ G (dh g j (.bool false)) h fun s h=>
 K .ret (u6 r 240 (r 17) 241 g 242 g 243 j 244 s 12 s) h
def B9:Prop:=
 o_ G (z1_ (r 28) (1:Int)) h fun g h=>
 K .normal (u3 r 179 (r 28) 180 g 28 g) h
def uh:Prop:=
 o_ G (z1_ (r 29) (1:Int)) h fun g h=>
 K .normal (u3 r 197 (r 29) 198 g 29 g) h
def Au:Prop:=
 p_ (i_ 89 (r 25) (r 28)) h fun g ha=>
 w_ G h (l_ 90 g) ha fun j ha=>
 p_ (i_ 90 j (r 29)) ha fun s ha=>
 w_ G h (l_ 4 s) ha fun u ha=>g_ u true (fun K1=>K1 (r 18) ha) ha fun w ha=>g_ u true (fun K1=>K1 (r 29) ha) ha fun z ha=>g_ u true (p_ (i_ 23 w z) ha) ha fun C ha=>g_ u true (p_ (f_ 30 C 0) ha) ha fun D ha=>g_ u true (w_ G h (l_ 28 D) ha) ha fun E ha=>g_ u true (p_ (f_ 30 (r 11) 0) ha) ha fun F ha=>g_ u true (w_ G h (l_ 28 F) ha) ha fun I ha=>g_ u true (dl P_ G h (xEq .eql 28 (.tmp 0) (.tmp 0) E I) ha) ha fun J ha=>
 dl P_ noHp noHp (dh u J (.bool false)) ha fun L ha=>g_ L true (w_ G h (l_ 26 (r 6)) ha) ha fun M ha=>g_ L true (fun K1=>K1 (r 14) ha) ha fun N ha=>g_ L true (fun K1=>K1 (r 2) ha) ha fun O ha=>g_ L true (fun K1=>K1 (r 18) ha) ha fun P ha=>g_ L true (fun K1=>K1 (r 29) ha) ha fun Q ha=>g_ L true (p_ (i_ 23 P Q) ha) ha fun U ha=>g_ L true (w_ G h (l_ 30 U) ha) ha fun V ha=>g_ L true (fun K1=>c_ G 40 #[V] ha fun v h'=>h.le h'/\K1 v h') ha fun W h=>g_ L true (fun K1=>K1 (r 4) h) h fun Y h=>g_ L true (fun K1=>K1 (r 28) h) h fun Z h=>g_ L true (p_ (z1_ Y Z) h) h fun aa h=>g_ L true (c_ G 47 #[M,N,O,W,aa,(.int .i64 4611686018427387904)] h) h fun ab h=>
 dl P_ noHp noHp (dh L ab (.bool false)) h fun ac h=>
 cond ac
 (opH P_ G (xEq .eql 35 (.tmp 0) (.const .nilFunc) (r 17) (.int .i64 0)) h fun ae ha=>g_ ae true (fun K1=>K1 (r 28) ha) ha fun af ha=>g_ ae true (fun K1=>K1 (r 24) ha) ha fun ag ha=>g_ ae true (opH P_ G (xEq .eql 3 (.tmp 0) (.tmp 0) af ag) ha) ha fun ah ha=>
 opH P_ G (dh ae ah (.bool false)) ha fun ai ha=>g_ ai true (c_ G 23 #[] ha) ha fun aj ha=>
 opH P_ G (dh ai aj (.bool false)) ha fun ak ha=>
 K .ret (u2 (u10 (u10 (u10 (u10 r 199 (r 25) 200 (r 28) 201 g 202 j 203 (r 29) 204 s 205 u 206 u 207 w 208 z) 209 C 210 D 211 E 212 F 213 I 214 J 215 L 216 L 217 M 218 N) 219 O 220 P 221 Q 222 U 223 V 224 W 225 Y 226 Z 227 aa 228 ab) 229 ac 230 (r 17) 231 ae 232 ae 233 af 234 ag 235 ah 236 ai 237 ai 238 aj) 239 ak 12 ak) ha)
 (uh G K (upd (u10 (u10 (u10 r 199 (r 25) 200 (r 28) 201 g 202 j 203 (r 29) 204 s 205 u 206 u 207 w 208 z) 209 C 210 D 211 E 212 F 213 I 214 J 215 L 216 L 217 M 218 N) 219 O 220 P 221 Q 222 U 223 V 224 W 225 Y 226 Z 227 aa 228 ab) 229 ac) h)
def Ja (r:Rg) (h:Hp) (K:EK):Prop:=
 o_ G (k_ 23 (r 18)) h fun g h=>o_ G (z2_ (r 29) g) h fun j h=>
 (fun q=>cond j
 (Au G K q h)
 (K (.exit 12) q h))
 (u4 r 193 (r 29) 194 (r 18) 195 g 196 j)
def ud:Prop:=
 du (Ja G) (upd r 29 (.int .i64 0)) h (dc 12 (dc 11 (di (B9 G K) K)))
def Jb:Prop:=
 o_ G (z6_ (r 28) (0:Int)) h fun g h=>
 cond g
 (o_ G (l_ 26 (r 6)) h fun j h'=>o_ G (z1_ (r 4) (r 28)) h' fun s h'=>
 c_ G 49 #[j,r 14,r 2,r 25,r 18,s,r 4] h' fun u h'=>
 ud G K (u2 (u10 r 181 (r 28) 182 g 183 j 184 (r 14) 185 (r 2) 186 (r 25) 187 (r 18) 188 (r 4) 189 (r 28) 190 s) 191 (r 4) 192 u) h')
 (ud G K (u2 r 181 (r 28) 182 g) h)
def ah6 (r:Rg) (h:Hp) (K:EK):Prop:=
 o_ G (z7_ (r 28) (r 24)) h fun g h=>
 cond g
 (Jb G K (u3 r 176 (r 28) 177 (r 24) 178 g) h)
 (K (.exit 10) (u3 r 176 (r 28) 177 (r 24) 178 g) h)
def Tl:Prop:=
 du (ah6 G) (upd r 28 (.int .i64 0)) h (dc 10 (di (Tp G K) K))
def I8:Prop:=
 o_ G (z1_ (r 27) (1:Int)) h fun g h=>
 K .normal (u3 r 163 (r 27) 164 g 27 g) h
def I9:Prop:=
 p_ (i_ 89 (r 25) (.int .i64 0)) h fun g h'=>
 w_ G h (l_ 90 g) h' fun j h'=>
 p_ (i_ 23 (r 18) (r 27)) h' fun s h'=>
 w_ G h (l_ 30 s) h' fun u h'=>
 w_ G h (l_ 30 (r 9)) h' fun w h'=>
 dl P_ G h (xEq .eql 30 (.tmp 0) (.tmp 0) u w) h' fun z h=>
 p_ (i_ 90 j (r 27)) h fun C h=>
 opH P_ G (x_ 4 C z) h fun D h=>
 I8 G K (upd (u10 r 165 (r 25) 166 g 167 j 168 (r 27) 169 (r 18) 170 (r 27) 171 s 172 u 173 w 174 z) 175 C) h
def ah5 (r:Rg) (h:Hp) (K:EK):Prop:=
 o_ G (k_ 23 (r 18)) h fun g h=>o_ G (z2_ (r 27) g) h fun j h=>
 (fun q=>cond j
 (I9 G K q h)
 (K (.exit 8) q h))
 (u4 r 159 (r 27) 160 (r 18) 161 g 162 j)
def Tm:Prop:=
 du (ah5 G) (upd r 27 (.int .i64 0)) h (dc 8 (di (Tl G K) K))
def I6:Prop:=
 o_ G (z1_ (r 26) (1:Int)) h fun g h=>
 K .normal (u3 r 151 (r 26) 152 g 26 g) h
def I7:Prop:=
 o_ G (k_ 23 (r 18)) h fun g h=>o_ G (Instr.makeSlice 90 g g) h fun j h=>o_ G (i_ 89 (r 25) (r 26)) h fun s h=>
 opH P_ G (x_ 90 s j) h fun u h=>
 I6 G K (u6 r 153 (r 25) 154 (r 26) 155 (r 18) 156 g 157 j 158 s) h
def ah0 (r:Rg) (h:Hp) (K:EK):Prop:=
 o_ G (z7_ (r 26) (r 24)) h fun g h=>
 cond g
 (I7 G K (u3 r 148 (r 26) 149 (r 24) 150 g) h)
 (K (.exit 6) (u3 r 148 (r 26) 149 (r 24) 150 g) h)
def Hq:Prop:=
 o_ G (z1_ (r 24) (1:Int)) h fun g h=>o_ G (Instr.makeSlice 89 g g) h fun j h=>
 du (ah0 G) (u5 r 145 (r 24) 146 g 147 j 25 j 26 (.int .i64 0)) h (dc 6 (di (Tm G K) K))
def aT7:Prop:=
 o_ G (z3_ (r 23) (r 4)) h fun g h=>
 opH P_ G (xEq .neq 35 (.tmp 0) (.const .nilFunc) (r 17) (.int .i64 0)) h fun j h=>
 (fun q=>cond j
 (Hq G K (upd q 24 (.int .i64 60)) h)
 (Hq G K q h))
 (u6 r 140 (r 23) 141 (r 4) 142 g 24 g 143 (r 17) 144 j)
def Tn:Prop:=
 o_ G (z1_ (r 4) (250:Int)) h fun g h=>o_ G (z6_ (r 23) g) h fun j h=>
 cond j
 (c_ G 23 #[] h fun s h'=>
 K .ret (u6 r 135 (r 23) 136 (r 4) 137 g 138 j 139 s 12 s) h')
 (aT7 G K (u4 r 135 (r 23) 136 (r 4) 137 g 138 j) h)
def Zf:Prop:=
 o_ G (k_ 40 (r 16)) h fun g h=>o_ G (z6_ g (0:Int)) h fun j h=>
 cond j
 (o_ G (k_ 40 (r 16)) h fun s h'=>o_ G (z3_ s (1:Int)) h' fun u h'=>o_ G (i_ 40 (r 16) u) h' fun w h'=>o_ G (f_ 48 w 6) h' fun z h'=>o_ G (l_ 3 z) h' fun C h'=>
 Tn G K (u3 (u10 r 124 (r 4) 23 (r 4) 125 (r 16) 126 g 127 j 128 (r 16) 129 (r 16) 130 s 131 u 132 w) 133 z 134 C 23 C) h')
 (Tn G K (u5 r 124 (r 4) 23 (r 4) 125 (r 16) 126 g 127 j) h)
def xf:Prop:=
 o_ G (z1_ (r 19) (1:Int)) h fun g h=>
 K .normal (u3 r 99 (r 19) 100 g 19 g) h
def qs:Prop:=
 o_ G (z1_ (r 20) (1:Int)) h fun g h=>
 K .normal (u3 r 105 (r 20) 106 g 20 g) h
def nk:Prop:=
 o_ G (z1_ (r 21) (1:Int)) h fun g h=>
 K .normal (u3 r 109 (r 21) 110 g 21 g) h
def um:Prop:=
 o_ G (Instr.build 28 #[(0,(r 20)),(1,(r 19))]) h fun g h=>
 opH P_ G (xEq .eql 3 (.tmp 0) (.const .nilFunc) (r 21) (.int .i64 1)) h fun j h=>o_ G (Instr.build 30 #[(0,g),(1,j)]) h fun s h=>o_ G (Instr.alloc 30 true (.tuple #[])) h fun u h=>
 opH P_ G (x_ 30 u s) h fun w h=>o_ G (l_ 26 (r 6)) h fun w h=>o_ G (l_ 30 u) h fun z h=>
 c_ G 22 #[w,z] h fun C h=>
 cond C
 (o_ G (l_ 30 u) h fun D h'=>o_ G (Instr.buildSlice 23 1 #[(0,D)]) h' fun E h'=>o_ G (Builtin.append_ #[23,23] 23 #[r 18,E]) h' fun F h'=>
 nk G K (u5 (u10 r 111 (r 20) 112 (r 19) 113 g 114 (r 21) 115 j 116 s 22 u 117 w 118 z 119 C) 120 (r 18) 121 D 122 E 123 F 18 F) h')
 (nk G K (u10 r 111 (r 20) 112 (r 19) 113 g 114 (r 21) 115 j 116 s 22 u 117 w 118 z 119 C) h)
def ug (r:Rg) (h:Hp) (K:EK):Prop:=
 o_ G (z2_ (r 21) (2:Int)) h fun g h=>
 cond g
 (um G K (u2 r 107 (r 21) 108 g) h)
 (K (.exit 4) (u2 r 107 (r 21) 108 g) h)
def As:Prop:=
 du (ug G) (upd r 21 (.int .i64 0)) h (dc 4 (dc 3 (di (qs G K) K)))
def B8 (r:Rg) (h:Hp) (K:EK):Prop:=
 o_ G (f_ 26 (r 6) 0) h fun g h=>o_ G (l_ 3 g) h fun j h=>o_ G (z2_ (r 20) j) h fun s h=>
 (fun q=>cond s
 (As G K q h)
 (K (.exit 2) q h))
 (u4 r 101 (r 20) 102 g 103 j 104 s)
def I5:Prop:=
 du (B8 G) (upd r 20 (.int .i64 0)) h (dc 2 (dc 1 (di (xf G K) K)))
def ag9 (r:Rg) (h:Hp) (K:EK):Prop:=
 o_ G (f_ 26 (r 6) 1) h fun g h=>o_ G (l_ 3 g) h fun j h=>o_ G (z2_ (r 19) j) h fun s h=>
 cond s
 (I5 G K (u4 r 95 (r 19) 96 g 97 j 98 s) h)
 (K (.exit 0) (u4 r 95 (r 19) 96 g 97 j 98 s) h)
def Mq:Prop:=
 du (ag9 G) (u2 r 18 (.slice none 0 0) 19 (.int .i64 0)) h (dc 0 (di (Zf G K) K))
def aT8:Prop:=
 c_ G 25 #[r 4,(.int .i64 100)] h fun g h=>
 w_ G h (l_ 26 (r 6)) h fun j h'=>
 c_ G 28 #[j] h' fun s h'=>h.le h'/\
 w_ G h (l_ 30 (r 9)) h' fun u h'=>
 w_ G h (l_ 30 (r 11)) h' fun w h=>
 p_ (Instr.build 45 #[(0,w),(1,(.bool true))]) h fun z h=>
 c_ G 27 #[s,r 13,r 2,u,g,z] h fun C h=>
 p_ (Instr.extract C 0) h fun D h=>
 p_ (Instr.extract C 1) h fun E h=>
 opH P_ G (xEq .eql 35 (.tmp 0) (.const .nilFunc) E (.int .i64 1)) h fun F h=>g_ F false (fun K1=>K1 E h) h fun I h=>g_ F false (opH P_ G (xEq .eql 35 (.tmp 0) (.const .nilFunc) I (.int .i64 18)) h) h fun J h=>
 opH P_ G (dh F (.bool true) J) h fun L h=>g_ L false (fun K1=>K1 E h) h fun M h=>g_ L false (opH P_ G (xEq .eql 35 (.tmp 0) (.const .nilFunc) M (.int .i64 7)) h) h fun N h=>
 opH P_ G (dh L (.bool true) N) h fun O h=>
 cond O
 (c_ G 23 #[] h fun P h'=>
 K .ret (u9 (u10 (u10 r 70 (r 4) 71 g 4 g 73 j 74 s 75 (r 13) 76 (r 2) 77 u 78 g 79 w) 80 z 81 C 72 C 82 D 83 E 16 D 17 E 84 E 85 F 86 F) 87 I 88 J 89 L 90 L 91 M 92 N 93 O 94 P 12 P) h')
 (Mq G K (u7 (u10 (u10 r 70 (r 4) 71 g 4 g 73 j 74 s 75 (r 13) 76 (r 2) 77 u 78 g 79 w) 80 z 81 C 72 C 82 D 83 E 16 D 17 E 84 E 85 F 86 F) 87 I 88 J 89 L 90 L 91 M 92 N 93 O) h)
def aT9:Prop:=
 o_ G (f_ 26 (r 6) 7) h fun g h=>o_ G (l_ 3 g) h fun j h=>o_ G (Builtin.min_ #[3,3] 3 #[j,(.int .i64 6)]) h fun s h=>o_ G (f_ 26 (r 6) 7) h fun u h=>
 opH P_ G (x_ 3 u s) h fun w h=>o_ G (l_ 26 (r 6)) h fun w h=>
 c_ G 42 #[w,r 1] h fun z h=>o_ G (Instr.extract z 0) h fun C h=>o_ G (Instr.extract z 1) h fun D h=>o_ G (Instr.extract z 2) h fun E h=>o_ G (Op.unary .not E) h fun F h=>
 (fun q=>cond F
 (K .ret (upd q 12 (.bool false)) h)
 (aT8 G K q h))
 (u6 (u10 r 57 g 58 j 59 s 60 u 62 w 63 (r 1) 64 z 61 z 65 C 66 D) 67 E 13 C 14 D 15 E 68 E 69 F)
def S13:Prop:=
 o_ G (Instr.box 26 (r 0)) h fun g h=>o_ G (Instr.box 30 (r 3)) h fun j h=>o_ G (Instr.box 30 (r 5)) h fun s h=>o_ G (l_ 26 g) h fun u h=>
 c_ G 21 #[u] h fun w h=>o_ G (Op.unary .not w) h fun z h=>g_ z false (o_ G (f_ 26 g 0) h) h fun C h=>g_ z false (o_ G (l_ 3 C) h) h fun D h=>g_ z false (o_ G (f_ 26 g 1) h) h fun E h=>g_ z false (o_ G (l_ 3 E) h) h fun F h=>g_ z false (o_ G (z4_ D F) h) h fun I h=>g_ z false (o_ G (z6_ I (9:Int)) h) h fun J h=>
 opH P_ G (dh z (.bool true) J) h fun L h=>g_ L false (o_ G (f_ 26 g 7) h) h fun M h=>g_ L false (o_ G (l_ 3 M) h) h fun N h=>g_ L false (o_ G (z6_ N (12:Int)) h) h fun O h=>
 opH P_ G (dh L (.bool true) O) h fun P h=>g_ P false (o_ G (f_ 26 g 10) h) h fun Q h=>g_ P false (o_ G (l_ 3 Q) h) h fun U h=>g_ P false (o_ G (z6_ U (6:Int)) h) h fun V h=>
 opH P_ G (dh P (.bool true) V) h fun W h=>g_ W false (o_ G (f_ 26 g 14) h) h fun Y h=>g_ W false (o_ G (l_ 3 Y) h) h fun Z h=>g_ W false (o_ G (z2_ Z (400:Int)) h) h fun aa h=>
 opH P_ G (dh W (.bool true) aa) h fun ab h=>
 cond ab
 (c_ G 23 #[] h fun ac h'=>
 K .ret (u2 (u10 (u10 (u10 r 6 g 9 j 11 s 12 (.bool false) 30 u 31 w 32 z 33 z 34 C 35 D) 36 E 37 F 38 I 39 J 40 L 41 L 42 M 43 N 44 O 45 P) 46 P 47 Q 48 U 49 V 50 W 51 W 52 Y 53 Z 54 aa 55 ab) 56 ac 12 ac) h')
 (aT9 G K (u10 (u10 (u10 r 6 g 9 j 11 s 12 (.bool false) 30 u 31 w 32 z 33 z 34 C 35 D) 36 E 37 F 38 I 39 J 40 L 41 L 42 M 43 N 44 O 45 P) 46 P 47 Q 48 U 49 V 50 W 51 W 52 Y 53 Z 54 aa 55 ab) h)
theorem enter13:Ent 245 13 [.tmp 12] S13:=ent_ (m:=md13) (c:=(Tryz.f13.body.getD .skip)) (fun _ _ _ _=>by kernel_rfl) Tryz.func13 rfl rfl rfl
def md23:Nat->Hint
 |_=>m0_
def aT6:Prop:=
 o_ G (l_ 26 (r 1)) h fun g h=>o_ G (Instr.build 30 #[]) h fun j h=>o_ G (Instr.build 28 #[(0,(.int .i64 1))]) h fun s h=>o_ G (Instr.build 30 #[(0,s)]) h fun u h=>o_ G (Instr.build 45 #[(0,u)]) h fun w h=>
 c_ G 27 #[g,r 2,(.int .i64 0),j,(.int .i64 5),w] h fun z h=>o_ G (Instr.extract z 0) h fun C h=>o_ G (Instr.extract z 1) h fun D h=>
 opH P_ G (xEq .eql 35 (.tmp 0) (.const .nilFunc) D (.int .i64 0)) h fun E h=>g_ E true (fun K1=>K1 C h) h fun F h=>g_ E true (o_ G (k_ 40 F) h) h fun I h=>g_ E true (opH P_ G (xEq .eql 3 (.tmp 0) (.const .nilFunc) I (.int .i64 1)) h) h fun J h=>
 opH P_ G (dh E J (.bool false)) h fun L h=>g_ L true (fun K1=>K1 C h) h fun M h=>g_ L true (o_ G (i_ 40 M (.int .i64 0)) h) h fun N h=>g_ L true (o_ G (f_ 48 N 0) h) h fun O h=>g_ L true (o_ G (l_ 3 O) h) h fun P h=>g_ L true (opH P_ G (xEq .eql 3 (.tmp 0) (.const .nilFunc) P (.int .i64 1)) h) h fun Q h=>
 opH P_ G (dh L Q (.bool false)) h fun U h=>g_ U true (fun K1=>K1 C h) h fun V h=>g_ U true (o_ G (i_ 40 V (.int .i64 0)) h) h fun W h=>g_ U true (o_ G (f_ 48 W 1) h) h fun Y h=>g_ U true (o_ G (l_ 3 Y) h) h fun Z h=>g_ U true (opH P_ G (xEq .eql 3 (.tmp 0) (.const .nilFunc) Z (.int .i64 1)) h) h fun aa h=>
 opH P_ G (dh U aa (.bool false)) h fun ab h=>g_ ab true (fun K1=>K1 C h) h fun ac h=>g_ ab true (o_ G (i_ 40 ac (.int .i64 0)) h) h fun ae h=>g_ ab true (o_ G (f_ 48 ae 2) h) h fun af h=>g_ ab true (o_ G (l_ 3 af) h) h fun ag h=>g_ ab true (opH P_ G (xEq .eql 3 (.tmp 0) (.const .nilFunc) ag (.int .i64 1)) h) h fun ah h=>
 opH P_ G (dh ab ah (.bool false)) h fun ai h=>g_ ai true (fun K1=>K1 C h) h fun aj h=>g_ ai true (o_ G (i_ 40 aj (.int .i64 0)) h) h fun ak h=>g_ ai true (o_ G (f_ 48 ak 5) h) h fun al h=>g_ ai true (o_ G (l_ 3 al) h) h fun am h=>g_ ai true (opH P_ G (xEq .eql 3 (.tmp 0) (.const .nilFunc) am (.int .i64 5)) h) h fun an h=>
 opH P_ G (dh ai an (.bool false)) h fun ao h=>g_ ao true (fun K1=>K1 C h) h fun ap h=>g_ ao true (o_ G (i_ 40 ap (.int .i64 0)) h) h fun aq h=>g_ ao true (o_ G (f_ 48 aq 6) h) h fun ar h=>g_ ao true (o_ G (l_ 3 ar) h) h fun au h=>g_ ao true (opH P_ G (xEq .eql 3 (.tmp 0) (.const .nilFunc) au (.int .i64 9)) h) h fun av h=>
 opH P_ G (dh ao av (.bool false)) h fun aw h=>
 K .ret (u5 (u10 (u10 (u10 (u10 (u10 r 18 g 19 (r 2) 20 j 21 s 22 u 23 w 24 z 17 z 25 C 26 D) 4 C 5 D 27 D 28 E 29 E 30 F 31 I 32 J 33 L 34 L) 35 M 36 N 37 O 38 P 39 Q 40 U 41 U 42 V 43 W 44 Y) 45 Z 46 aa 47 ab 48 ab 49 ac 50 ae 51 af 52 ag 53 ah 54 ai) 55 ai 56 aj 57 ak 58 al 59 am 60 an 61 ao 62 ao 63 ap 64 aq) 65 ar 66 au 67 av 68 aw 0 aw) h
def S23:Prop:=
 o_ G (Instr.build 26 #[(0,(.int .i64 3)),(1,(.int .i64 1)),(2,(.int .i64 1)),(7,(.int .i64 10)),(8,(.int .i64 2)),(9,(.int .i64 4)),(10,(.int .i64 1)),(11,(.int .i64 1)),(12,(.int .i64 1)),(13,(.int .i64 1)),(14,(.int .i64 100))]) h fun g h=>o_ G (Instr.alloc 26 true (.tuple #[])) h fun j h=>
 opH P_ G (x_ 26 j g) h fun s h=>
 c_ G 24 #[(.int .i64 3)] h fun s h=>o_ G (Instr.extract s 0) h fun u h=>o_ G (Instr.extract s 1) h fun w h=>
 opH P_ G (xEq .neq 35 (.tmp 0) (.const .nilFunc) w (.int .i64 0)) h fun z h=>g_ z false (fun K1=>K1 u h) h fun C h=>g_ z false (opH P_ G (xEq .eql 34 (.tmp 0) (.const .nilFunc) C (.pointer none)) h) h fun D h=>
 opH P_ G (dh z (.bool true) D) h fun E h=>
 (fun q=>cond E
 (K .ret (upd q 0 (.bool false)) h)
 (aT6 G K q h))
 (u5 (u10 r 0 (.bool false) 6 g 1 j 8 s 7 s 9 u 10 w 2 u 3 w 11 w) 12 z 13 z 14 C 15 D 16 E)
theorem enter23:Ent 69 23 [.tmp 0] S23:=ent_ (m:=md23) (c:=(Tryz.f23.body.getD .skip)) (fun _ _ _ _=>by kernel_rfl) Tryz.func23 rfl rfl rfl
def md42:Nat->Hint
 |_=>m0_
def Za (G:Hp) (K:EK) (r:Rg) (h:Hp):Prop:=
 K .ret (u5 r 89 (r 7) 90 (r 9) 4 (r 7) 5 (r 9) 6 (.bool true)) h
def Qo:Prop:=
 o_ G (z1_ (r 10) (1:Int)) h fun g h=>
 K .normal (u3 r 43 (r 10) 44 g 10 g) h
def Qp:Prop:=
 o_ G (i_ 77 (r 1) (r 10)) h fun g h=>o_ G (l_ 97 g) h fun j h=>o_ G (Instr.alloc 97 true (.tuple #[])) h fun s h=>
 opH P_ G (x_ 97 s j) h fun u h=>o_ G (f_ 97 s 0) h fun u h=>o_ G (l_ 3 u) h fun w h=>
 c_ G 25 #[w,(.int .i64 5)] h fun z h=>o_ G (f_ 97 s 0) h fun C h=>
 opH P_ G (x_ 3 C z) h fun D h=>o_ G (f_ 97 s 1) h fun D h=>o_ G (l_ 3 D) h fun E h=>o_ G (f_ 26 (r 2) 0) h fun F h=>o_ G (l_ 3 F) h fun I h=>o_ G (f_ 26 (r 2) 1) h fun J h=>o_ G (l_ 3 J) h fun L h=>o_ G (z4_ I L) h fun M h=>
 c_ G 25 #[E,M] h fun N h=>o_ G (f_ 97 s 1) h fun O h=>
 opH P_ G (x_ 3 O N) h fun P h=>o_ G (f_ 97 s 0) h fun P h=>o_ G (l_ 3 P) h fun Q h=>o_ G (f_ 97 s 1) h fun U h=>o_ G (l_ 3 U) h fun V h=>o_ G (f_ 97 s 2) h fun W h=>o_ G (l_ 3 W) h fun Y h=>o_ G (f_ 97 s 3) h fun Z h=>o_ G (l_ 3 Z) h fun aa h=>o_ G (Instr.build 75 #[(0,V),(1,Y),(2,aa)]) h fun ab h=>o_ G (Instr.buildSlice 71 1 #[(0,ab)]) h fun ac h=>
 c_ G 50 #[r 7,Q,ac] h fun ae h=>o_ G (f_ 97 s 0) h fun af h=>o_ G (l_ 3 af) h fun ag h=>o_ G (f_ 97 s 1) h fun ah h=>o_ G (l_ 3 ah) h fun ai h=>o_ G (f_ 97 s 2) h fun aj h=>o_ G (l_ 3 aj) h fun ak h=>o_ G (f_ 97 s 3) h fun al h=>o_ G (l_ 3 al) h fun am h=>o_ G (Instr.build 186 #[(0,ai),(1,ak),(2,am)]) h fun an h=>o_ G (Instr.buildSlice 114 1 #[(0,an)]) h fun ao h=>
 c_ G 92 #[r 9,ag,ao] h fun ap h=>
 opH P_ G (xEq .neq 35 (.tmp 0) (.tmp 0) ae ap) h fun aq h=>
 (fun q=>cond aq
 (K .ret (u3 q 4 (.pointer none) 5 (.pointer none) 6 (.bool false)) h)
 (Qo G K q h))
 (u7 (u10 (u10 (u10 (u10 r 45 (r 1) 46 (r 10) 47 g 48 j 11 s 49 u 50 w 51 z 52 C 53 D) 54 E 55 F 56 I 57 J 58 L 59 M 60 N 61 O 62 (r 7) 63 P) 64 Q 65 U 66 V 67 W 68 Y 69 Z 70 aa 71 ab 72 ac 73 ae) 12 ae 74 (r 9) 75 af 76 ag 77 ah 78 ai 79 aj 80 ak 81 al 82 am) 83 an 84 ao 85 ap 13 ap 86 ae 87 ap 88 aq)
def aR9 (r:Rg) (h:Hp) (K:EK):Prop:=
 o_ G (k_ 77 (r 1)) h fun g h=>o_ G (z2_ (r 10) g) h fun j h=>g_ j true (fun K1=>K1 (r 10) h) h fun s h=>g_ j true (o_ G (z2_ s (40:Int)) h) h fun u h=>
 opH P_ G (dh j u (.bool false)) h fun w h=>
 (fun q=>cond w
 (Qp G K q h)
 (K (.exit 0) q h))
 (u8 r 35 (r 10) 36 (r 1) 37 g 38 j 39 j 40 s 41 u 42 w)
def aS0:Prop:=
 du (aR9 G) (upd r 10 (.int .i64 0)) h (dc 0 (di (Za G K) K))
def S42:Prop:=
 o_ G (Instr.box 26 (r 0)) h fun g h=>o_ G (f_ 26 g 0) h fun j h=>o_ G (l_ 3 j) h fun s h=>o_ G (f_ 26 g 1) h fun u h=>o_ G (l_ 3 u) h fun w h=>o_ G (z4_ s w) h fun z h=>
 c_ G 24 #[z] h fun C h=>o_ G (Instr.extract C 0) h fun D h=>o_ G (Instr.extract C 1) h fun E h=>o_ G (f_ 26 g 0) h fun F h=>o_ G (l_ 3 F) h fun I h=>o_ G (f_ 26 g 1) h fun J h=>o_ G (l_ 3 J) h fun L h=>o_ G (z4_ I L) h fun M h=>
 c_ G 91 #[M] h fun N h=>
 opH P_ G (xEq .neq 35 (.tmp 0) (.const .nilFunc) E (.int .i64 0)) h fun O h=>g_ O false (fun K1=>K1 D h) h fun P h=>g_ O false (opH P_ G (xEq .eql 34 (.tmp 0) (.const .nilFunc) P (.pointer none)) h) h fun Q h=>
 opH P_ G (dh O (.bool true) Q) h fun U h=>
 (fun q=>cond U
 (K .ret (u3 q 4 (.pointer none) 5 (.pointer none) 6 (.bool false)) h)
 (aS0 G K q h))
 (u8 (u10 (u10 r 2 g 4 (.pointer none) 5 (.pointer none) 6 (.bool false) 15 j 16 s 17 u 18 w 19 z 20 C) 14 C 21 D 22 E 7 D 8 E 23 F 24 I 25 J 26 L 27 M) 28 N 9 N 29 E 30 O 31 O 32 P 33 Q 34 U)
theorem enter42:Ent 91 42 [.tmp 4,.tmp 5,.tmp 6] S42:=ent_ (m:=md42) (c:=(Tryz.f42.body.getD .skip)) (fun _ _ _ _=>by kernel_rfl) Tryz.func42 rfl rfl rfl
def md47:Nat->Hint
 |4=>mh false [0,0,0,0,12,28,62,127,255] [n_,m_,n_,n_,n_,m_,e_,e_,n_] (fs 9) false
 |_=>m0_
def Sz (G:Hp) (K:EK) (r:Rg) (h:Hp):Prop:=
 K .ret (upd r 12 (.bool true)) h
def Hk:Prop:=
 o_ G (z1_ (r 13) (1:Int)) h fun g h=>
 K .normal (u3 r 20 (r 13) 21 g 13 g) h
def zz:Prop:=
 o_ G (z1_ (r 15) (1:Int)) h fun g h=>
 K .normal (u3 r 34 (r 15) 35 g 15 g) h
def Gh:Prop:=
 o_ G (i_ 99 (r 14) (r 15)) h fun g h=>o_ G (f_ 203 g 2) h fun j h=>o_ G (l_ 3 j) h fun s h=>
 opH P_ G (xEq .neq 3 (.tmp 0) (.tmp 0) s (r 2)) h fun u h=>g_ u true (fun K1=>K1 (r 14) h) h fun w h=>g_ u true (fun K1=>K1 (r 15) h) h fun z h=>g_ u true (o_ G (i_ 99 w z) h) h fun C h=>g_ u true (o_ G (f_ 203 C 0) h) h fun D h=>g_ u true (o_ G (l_ 3 D) h) h fun E h=>g_ u true (fun K1=>K1 (r 5) h) h fun F h=>g_ u true (o_ G (z2_ E F) h) h fun I h=>
 opH P_ G (dh u I (.bool false)) h fun J h=>g_ J true (fun K1=>K1 (r 4) h) h fun L h=>g_ J true (fun K1=>K1 (r 14) h) h fun M h=>g_ J true (fun K1=>K1 (r 15) h) h fun N h=>g_ J true (o_ G (i_ 99 M N) h) h fun O h=>g_ J true (o_ G (f_ 203 O 1) h) h fun P h=>g_ J true (o_ G (l_ 3 P) h) h fun Q h=>g_ J true (o_ G (z2_ L Q) h) h fun U h=>
 opH P_ G (dh J U (.bool false)) h fun V h=>
 (fun q=>cond V
 (K .ret (upd q 12 (.bool false)) h)
 (zz G K q h))
 (u5 (u10 (u10 r 36 (r 14) 37 (r 15) 38 g 39 j 40 s 41 (r 2) 42 u 43 u 44 w 45 z) 46 C 47 D 48 E 49 F 50 I 51 J 52 J 53 L 54 M 55 N) 56 O 57 P 58 Q 59 U 60 V)
def Qk (r:Rg) (h:Hp) (K:EK):Prop:=
 o_ G (k_ 99 (r 14)) h fun g h=>o_ G (z2_ (r 15) g) h fun j h=>
 cond j
 (Gh G K (u4 r 30 (r 15) 31 (r 14) 32 g 33 j) h)
 (K (.exit 2) (u4 r 30 (r 15) 31 (r 14) 32 g 33 j) h)
def Ql:Prop:=
 w_ G h (l_ 26 (r 6)) h fun g h'=>
 p_ (i_ 22 (r 3) (r 13)) h' fun j h'=>
 w_ G h (l_ 28 j) h' fun s h=>
 c_ G 41 #[g,s] h fun u h=>
 c_ G 101 #[r 1,u] h fun w h=>
 du (Qk G) (u10 r 22 (r 1) 23 g 24 (r 3) 25 (r 13) 26 j 27 s 28 u 29 w 14 w 15 (.int .i64 0)) h (dc 2 (dc 1 (di (Hk G K) K)))
def aR1 (r:Rg) (h:Hp) (K:EK):Prop:=
 o_ G (k_ 22 (r 3)) h fun g h=>o_ G (z2_ (r 13) g) h fun j h=>
 cond j
 (Ql G K (u4 r 16 (r 13) 17 (r 3) 18 g 19 j) h)
 (K (.exit 0) (u4 r 16 (r 13) 17 (r 3) 18 g 19 j) h)
def S47:Prop:=
 o_ G (Instr.box 26 (r 0)) h fun g h=>
 du (aR1 G) (u3 r 6 g 12 (.bool false) 13 (.int .i64 0)) h (dc 0 (di (Sz G K) K))
theorem enter47:Ent 61 47 [.tmp 12] S47:=ent_ (m:=md47) (c:=(Tryz.f47.body.getD .skip)) (fun _ _ _ _=>by kernel_rfl) Tryz.func47 rfl rfl rfl
def md49:Nat->Hint
 |4=>mh false [0,0,3,7,15,15,47,15,239,511,1023,15,4095,8191,16383,32767,65535,65535,65535,65535,65535,1638399,3735551,7929855,65535,16842751,65535,67174399,268435455,536870911] [n_,n_,n_,n_,n_,n_,n_,n_,n_,n_,m_,n_,n_,m_,n_,n_,m_,n_,n_,n_,n_,n_,m_,e_,n_,n_,n_,n_,e_,n_] (fs 23++[true]++fs 6) false
 |9=>mh false [0,0,0,6,14,31,63] [m_,n_,n_,n_,m_,e_,n_] (fs 7) false
 |13=>mh false [0,0,0,6,14,31,63] [m_,n_,n_,n_,m_,e_,n_] (fs 7) false
 |14=>mh true [0,0,3,0,15,31,63,63,63,447,63,1983,4095,8191,63,32767,65535,131071,262143,524287,1048575,1048575,1048575,1048575,1048575,1048575,51380223,118489087,261095423,1048575,1048575,1611661311,1048575,8589934591,17179869183,34359738367,68719476735,137438953471,137438953471,137438953471,137438953471,137438953471,3435973836799,7834020347903,16630113370111,34222299414527,137438953471,137438953471,140874927308799,562949953421311,1125899906842623,2251799813685247] [n_,n_,n_,n_,n_,n_,n_,n_,n_,n_,n_,n_,n_,m_,n_,n_,m_,n_,n_,n_,m_,n_,n_,m_,n_,n_,n_,m_,e_,n_,n_,n_,n_,e_,n_,n_,n_,m_,n_,n_,n_,n_,n_,n_,m_,e_,n_,n_,n_,e_,n_,n_] (fs 28++[true]++fs 4++[true]++fs 11++[true]++fs 6) false
 |18=>mh false [0,0,3,7,0,0,48,112,240,511] [n_,n_,n_,m_,n_,n_,n_,n_,m_,m_] (fs 10) false
 |_=>m0_
def C0:Prop:=
 o_ G (z1_ (r 15) (1:Int)) h fun g h=>
 K .normal (u3 r 68 (r 15) 69 g 15 g) h
def qc:Prop:=
 o_ G (z1_ (r 17) (1:Int)) h fun g h=>
 K .normal (u3 r 80 (r 17) 81 g 17 g) h
def qb:Prop:=
 o_ G (z1_ (r 19) (1:Int)) h fun g h=>
 K .normal (u3 r 144 (r 19) 145 g 19 g) h
def za:Prop:=
 p_ (i_ 23 (r 4) (r 19)) h fun g h'=>
 w_ G h (l_ 30 g) h' fun j h'=>
 p_ (i_ 40 (r 16) (r 17)) h' fun s h'=>
 p_ (f_ 48 s 4) h' fun u h'=>
 w_ G h (l_ 30 u) h' fun w h'=>
 dl P_ G h (xEq .eql 30 (.tmp 0) (.tmp 0) j w) h' fun z h=>
 cond z
 (o_ G (z3_ (r 5) (r 6)) h fun C h'=>o_ G (i_ 89 (r 3) C) h' fun D h'=>o_ G (l_ 90 D) h' fun E h'=>o_ G (i_ 90 E (r 19)) h' fun F h'=>
 opH P_ G (x_ 4 F (.bool true)) h' fun I h'=>
 qb G K (u8 (u10 r 146 (r 4) 147 (r 19) 148 g 149 j 150 (r 16) 151 (r 17) 152 s 153 u 154 w 155 z) 156 (r 3) 157 (r 5) 158 (r 6) 159 C 160 D 161 E 162 (r 19) 163 F) h')
 (qb G K (u10 r 146 (r 4) 147 (r 19) 148 g 149 j 150 (r 16) 151 (r 17) 152 s 153 u 154 w 155 z) h)
def Ge (r:Rg) (h:Hp) (K:EK):Prop:=
 o_ G (k_ 23 (r 4)) h fun g h=>o_ G (z2_ (r 19) g) h fun j h=>
 (fun q=>cond j
 (za G K q h)
 (K (.exit 6) q h))
 (u4 r 140 (r 19) 141 (r 4) 142 g 143 j)
def zy:Prop:=
 du (Ge G) (upd r 19 (.int .i64 0)) h (dc 6 (dc 5 (di (qc G K) K)))
def Gf:Prop:=
 w_ G h (l_ 26 (r 7)) h fun g ha=>
 p_ (i_ 40 (r 16) (r 17)) ha fun j ha=>
 w_ G h (l_ 48 j) ha fun s ha=>
 c_ G 46 #[g,s] ha fun u ha=>
 p_ (z3_ (r 5) u) ha fun w hc=>
 p_ (z2_ w (r 6)) hc fun z hc=>g_ z false (fun K1=>K1 (r 3) hc) hc fun C hc=>g_ z false (fun K1=>K1 (r 5) hc) hc fun D hc=>g_ z false (fun K1=>K1 u hc) hc fun E hc=>g_ z false (p_ (z3_ D E) hc) hc fun F hc=>g_ z false (fun K1=>K1 (r 6) hc) hc fun I hc=>g_ z false (p_ (z3_ F I) hc) hc fun J hc=>g_ z false (p_ (i_ 89 C J) hc) hc fun L hc=>g_ z false (w_ G ha (l_ 90 L) hc) hc fun M hc=>g_ z false (fun K1=>K1 (r 15) hc) hc fun N hc=>g_ z false (p_ (i_ 90 M N) hc) hc fun O hc=>g_ z false (w_ G ha (l_ 4 O) hc) hc fun P hc=>g_ z false (p_ (Op.unary .not P) hc) hc fun Q hc=>
 dl P_ noHp noHp (dh z (.bool true) Q) hc fun U hc=>g_ U false (w_ G ha (l_ 26 (r 7)) hc) hc fun V hc=>g_ U false (fun K1=>K1 (r 1) hc) hc fun W hc=>g_ U false (fun K1=>K1 (r 2) hc) hc fun Y hc=>g_ U false (w_ G ha (l_ 26 (r 7)) hc) hc fun Z hc=>g_ U false (fun K1=>K1 (r 16) hc) hc fun aa hc=>g_ U false (fun K1=>K1 (r 17) hc) hc fun ab hc=>g_ U false (p_ (i_ 40 aa ab) hc) hc fun ac hc=>g_ U false (w_ G ha (l_ 48 ac) hc) hc fun ae hc=>g_ U false (fun K1=>c_ G 48 #[Z,ae] hc fun v h'=>ha.le h'/\K1 v h') hc fun af hc=>g_ U false (fun K1=>K1 (r 5) hc) hc fun ag hc=>g_ U false (fun K1=>K1 u hc) hc fun ah hc=>g_ U false (p_ (z3_ ag ah) hc) hc fun ai hc=>g_ U false (fun K1=>K1 (r 5) hc) hc fun aj hc=>g_ U false (fun K1=>c_ G 47 #[V,W,Y,af,ai,aj] hc fun v h'=>ha.le h'/\K1 v h') hc fun ak hc=>g_ U false (p_ (Op.unary .not ak) hc) hc fun al hc=>
 dl P_ noHp noHp (dh U (.bool true) al) hc fun am hc=>g_ am false (w_ G ha (l_ 26 (r 7)) hc) hc fun an hc=>g_ am false (fun K1=>K1 (r 1) hc) hc fun ao hc=>g_ am false (fun K1=>K1 (r 2) hc) hc fun ap hc=>g_ am false (fun K1=>K1 (r 16) hc) hc fun aq hc=>g_ am false (fun K1=>K1 (r 17) hc) hc fun ar hc=>g_ am false (p_ (i_ 40 aq ar) hc) hc fun au hc=>g_ am false (p_ (f_ 48 au 4) hc) hc fun av hc=>g_ am false (w_ G ha (l_ 30 av) hc) hc fun aw hc=>g_ am false (fun K1=>c_ G 40 #[aw] hc fun v h'=>ha.le h'/\K1 v h') hc fun ax h=>g_ am false (fun K1=>K1 (r 5) h) h fun ay h=>g_ am false (fun K1=>K1 (r 5) h) h fun az h=>g_ am false (p_ (z1_ az (1:Int)) h) h fun ba h=>g_ am false (c_ G 47 #[an,ao,ap,ax,ay,ba] h) h fun bb h=>g_ am false (p_ (Op.unary .not bb) h) h fun bc h=>
 dl P_ noHp noHp (dh am (.bool true) bc) h fun bd h=>
 (fun q=>cond bd
 (qc G K q h)
 (zy G K q h))
 (u9 (u10 (u10 (u10 (u10 (u10 r 82 g 83 (r 16) 84 (r 17) 85 j 86 s 87 u 18 u 88 (r 5) 89 u 90 w) 91 (r 6) 92 z 93 z 94 C 95 D 96 E 97 F 98 I 99 J 100 L) 101 M 102 N 103 O 104 P 105 Q 106 U 107 U 108 V 109 W 110 Y) 111 Z 112 aa 113 ab 114 ac 115 ae 116 af 117 ag 118 ah 119 ai 120 aj) 121 ak 122 al 123 am 124 am 125 an 126 ao 127 ap 128 aq 129 ar 130 au) 131 av 132 aw 133 ax 134 ay 135 az 136 ba 137 bb 138 bc 139 bd)
def Hi (r:Rg) (h:Hp) (K:EK):Prop:=
 o_ G (k_ 40 (r 16)) h fun g h=>o_ G (z2_ (r 17) g) h fun j h=>
 cond j
 (Gf G K (u4 r 76 (r 17) 77 (r 16) 78 g 79 j) h)
 (K (.exit 4) (u4 r 76 (r 17) 77 (r 16) 78 g 79 j) h)
def Qg:Prop:=
 w_ G h (l_ 26 (r 7)) h fun g h'=>
 p_ (i_ 23 (r 4) (r 15)) h' fun j h'=>
 w_ G h (l_ 30 j) h' fun s h=>
 c_ G 102 #[g,s] h fun u h=>
 du (Hi G) (u8 r 70 g 71 (r 4) 72 (r 15) 73 j 74 s 75 u 16 u 17 (.int .i64 0)) h (dc 4 (dc 3 (di (C0 G K) K)))
def aQ8 (r:Rg) (h:Hp) (K:EK):Prop:=
 o_ G (k_ 23 (r 4)) h fun g h=>o_ G (z2_ (r 15) g) h fun j h=>
 cond j
 (Qg G K (u4 r 64 (r 15) 65 (r 4) 66 g 67 j) h)
 (K (.exit 2) (u4 r 64 (r 15) 65 (r 4) 66 g 67 j) h)
def L0:Prop:=
 du (aQ8 G) (upd r 15 (.int .i64 0)) h (dc 2 K)
def xe:Prop:=
 o_ G (z1_ (r 14) (1:Int)) h fun g h=>
 K .normal (u3 r 24 (r 14) 25 g 14 g) h
def Iy:Prop:=
 p_ (z6_ (r 5) (r 6)) h fun g ha=>g_ g true (fun K1=>K1 (r 3) ha) ha fun j ha=>g_ g true (fun K1=>K1 (r 5) ha) ha fun s ha=>g_ g true (p_ (z3_ s (1:Int)) ha) ha fun u ha=>g_ g true (fun K1=>K1 (r 6) ha) ha fun w ha=>g_ g true (p_ (z3_ u w) ha) ha fun z ha=>g_ g true (p_ (i_ 89 j z) ha) ha fun C ha=>g_ g true (w_ G h (l_ 90 C) ha) ha fun D ha=>g_ g true (fun K1=>K1 (r 14) ha) ha fun E ha=>g_ g true (p_ (i_ 90 D E) ha) ha fun F ha=>g_ g true (w_ G h (l_ 4 F) ha) ha fun I ha=>
 dl P_ noHp noHp (dh g I (.bool false)) ha fun J ha=>g_ J true (w_ G h (l_ 26 (r 7)) ha) ha fun L ha=>g_ J true (fun K1=>K1 (r 1) ha) ha fun M ha=>g_ J true (fun K1=>K1 (r 2) ha) ha fun N ha=>g_ J true (fun K1=>K1 (r 4) ha) ha fun O ha=>g_ J true (fun K1=>K1 (r 14) ha) ha fun P ha=>g_ J true (p_ (i_ 23 O P) ha) ha fun Q ha=>g_ J true (w_ G h (l_ 30 Q) ha) ha fun U ha=>g_ J true (fun K1=>c_ G 40 #[U] ha fun v h'=>h.le h'/\K1 v h') ha fun V h=>g_ J true (fun K1=>K1 (r 5) h) h fun W h=>g_ J true (p_ (z3_ W (1:Int)) h) h fun Y h=>g_ J true (fun K1=>K1 (r 5) h) h fun Z h=>g_ J true (p_ (z1_ Z (1:Int)) h) h fun aa h=>g_ J true (c_ G 47 #[L,M,N,V,Y,aa] h) h fun ab h=>
 dl P_ noHp noHp (dh J ab (.bool false)) h fun ac h=>
 cond ac
 (o_ G (z3_ (r 5) (r 6)) h fun ae ha=>o_ G (i_ 89 (r 3) ae) ha fun af ha=>o_ G (l_ 90 af) ha fun ag ha=>o_ G (i_ 90 ag (r 14)) ha fun ah ha=>
 opH P_ G (x_ 4 ah (.bool true)) ha fun ai ha=>
 xe G K (u8 (u10 (u10 (u10 r 26 (r 5) 27 (r 6) 28 g 29 g 30 j 31 s 32 u 33 w 34 z 35 C) 36 D 37 E 38 F 39 I 40 J 41 J 42 L 43 M 44 N 45 O) 46 P 47 Q 48 U 49 V 50 W 51 Y 52 Z 53 aa 54 ab 55 ac) 56 (r 3) 57 (r 5) 58 (r 6) 59 ae 60 af 61 ag 62 (r 14) 63 ah) ha)
 (xe G K (u10 (u10 (u10 r 26 (r 5) 27 (r 6) 28 g 29 g 30 j 31 s 32 u 33 w 34 z 35 C) 36 D 37 E 38 F 39 I 40 J 41 J 42 L 43 M 44 N 45 O) 46 P 47 Q 48 U 49 V 50 W 51 Y 52 Z 53 aa 54 ab 55 ac) h)
def Sy (r:Rg) (h:Hp) (K:EK):Prop:=
 o_ G (k_ 23 (r 4)) h fun g h=>o_ G (z2_ (r 14) g) h fun j h=>
 cond j
 (Iy G K (u4 r 20 (r 14) 21 (r 4) 22 g 23 j) h)
 (K (.exit 0) (u4 r 20 (r 14) 21 (r 4) 22 g 23 j) h)
def S49:Prop:=
 o_ G (Instr.box 26 (r 0)) h fun g h=>
 du (Sy G) (u2 r 7 g 14 (.int .i64 0)) h (dc 0 (di (L0 G K) K))
theorem enter49:Ent 164 49 [] S49:=ent_ (m:=md49) (c:=(Tryz.f49.body.getD .skip)) (fun _ _ _ _=>by kernel_rfl) Tryz.func49 rfl rfl rfl
end
end Go.Proofs.YtfflipnhffknnaaGreatDoor
end
section
namespace Go.Proofs.YtfflipnhffknnaaGreatDoor
open Go Go.HL Go.Proofs.Resv Go.Proofs.Srch
def Pr:=jq bC (jq (jq (jq (jq @an_.{0} @a3_.{0}) (jq @al26 (jq @ru @bd28_0))) (jq (jq @bd30_ (jq @bd30_0 @bd45_0)) (jq @beq_self_eq_true.{0} (jq @bne_self_eq_false.{0} @cf24)))) (jq (jq (jq @cf27 (jq @ac8 @Dx)) (jq @R8 (jq @Lb @aB7))) (jq (jq @Yg (jq @ld26 @ld3)) (jq @ln40 (jq @st26w @true_and)))))
theorem Du {n:Nat}:i7 (List.replicate n []):=fun L hL=>by rw [(List.mem_replicate.1 hL).2];exact Resv.Good.nil
theorem aB6 {n b:Nat}:Few (List.replicate n []) b:=fun L hL=>by rw [(List.mem_replicate.1 hL).2];exact au_ _
def C12:Conf:=⟨3,1,1,[],[],[],[],10,2,4,1,1,1,1,100,false⟩
def W12:Res Move:=nt C12 (some [[],[],[]]) 0 ⟨0,0,false⟩ 5 ⟨1,0,false⟩ false
theorem w12:outE W12=0/\outL W12=[⟨1,1,1,⟨0,0,false⟩,⟨1,0,false⟩,5,9⟩]:=by decide +kernel
theorem made12:dx C12:=by rw [E9,may_nil rfl rfl rfl rfl];rfl
theorem Jq {G h:Hp} (st:lg G):bn P_ G 23 #[] h (fun u h'=>u = .bool true/\h'=h):=by
 refine bn.assume fun d=>quietly (enter23 (by simp) ?_);unfold S23;simp (disch:=first|decide|exact b8|exact bw|omega|rfl) only [Pr];intro xc hxc gxc;generalize e1:Hp.set h xc _=h1 at*;obtain ⟨l1,d1,bc1⟩:=boxed e1 hxc d gxc;try simp (disch:=first|decide|omega) only [Pr,Nat.reduceAdd,Nat.reduceMul]
 refine (Rv.yi (G:=G) (h:=h1) (n:=3) (by decide) (by decide)).mono ?_;rintro _ h2 ⟨ta,tp,rfl,tab,s2,d2⟩;try simp only [Pr]
 unfold aT6;have cc2:∀k,bf G h2 ⟨xc,k,none⟩=_:=fun k=>bm (bj (s2.at 1 rfl bc1));try simp (disch:=decide) only [Pr,cc2]
 have hpb:∀x:Int,0<=x->x<=1->Bd x:=fun x h1 h2=>⟨by omega,by omega⟩
 have hf:=Ph (G:=G) (h:=h2) (C:=C12) (v:=Wo C12 none 0 none 0 none 0 none 0) (vt := .pointer (some ⟨tp,0,none⟩)) (To:=some [[],[],[]]) (p:=⟨0,0,false⟩) (gp:=⟨1,0,false⟩) (rb:=0) (t:=5) (any:=false) (ca_nil rfl rfl rfl rfl).cv st (by intro p hp;cases hp) (by decide) (fun _=>by decide)
  ⟨tp,rfl,tab.see (s2.in 0 rfl),Du (n:=3),aB6 (n:=3)⟩ ⟨hpb 0 (by decide) (by decide),hpb 0 (by decide) (by decide)⟩ ⟨hpb 1 (by decide) (by decide),hpb 0 (by decide) (by decide)⟩
 simp only [C12,Wo,mq,a3_]at hf;refine hf.mono ?_;rintro _ h3 ⟨W,⟨ip,vs,rfl,sl,_,s3,d3⟩,⟨hno,_⟩|⟨_,rfl⟩⟩
 . exact absurd made12 hno
 have w1:outE W12=0:=w12.1;have w2:outL W12=[⟨1,1,1,⟨0,0,false⟩,⟨1,0,false⟩,5,9⟩]:=w12.2;unfold W12 C12 at w1 w2;rw [w2]at sl;rw [w1];obtain ⟨sa,cap,rfl,_⟩:=sl.len (by decide);obtain ⟨b,o,rfl,x0,x1,x2,x3,x4,x5,x6,x7,x8,x9,x10⟩:=Sees.mvx (sl.see (G:=G) (by decide) (s3.in 0 rfl)) (i:=0) rfl;simp only [bH_,bc_]at x0 x1 x2 x3 x4 x5 x6 x7 x8 x9 x10;try simp only [Pr,ix40 (by decide:(0:Int)<=0) (by decide:(0:Int)<(1:Nat)),ca_,bH_,an_,a3_,x0,x1,x2,x3,x4,x5,x6,x7,x8,x9,x10]
 have hone:(((1:Nat):Int)==1)=true:=rfl;try simp only [Pr,hone,a1_,ix40 (by decide:(0:Int)<=0) (by decide:(0:Int)<(1:Nat)),ca_,bH_,bc_,x0,x1,x2,x3,x4,x5,x6,x7,x8,x9,x10]
 exact l1.trans ((s2.in 1 rfl).trans (s3.in 1 rfl))
end Go.Proofs.YtfflipnhffknnaaGreatDoor
end
section
namespace Go.Proofs.YtfflipnhffknnaaGreatDoor
open Go Go.HL
def bRpY:=jq bC (jq (jq (jq (jq @al26 @Yw) (jq @aM0 (jq @cf122 @cf71))) (jq (jq @Le @V7) (jq @Ld (jq @Sc @Lc)))) (jq (jq (jq @Yi @Rw) (jq @ld22 (jq @ld23 @ld24))) (jq (jq @ld26 @yp) (jq @ln24 (jq @A9 @yc)))))
theorem eoraw:iu P_ 234 rawC.n 40:=⟨by kernel_rfl,by kernel_rfl,by kernel_rfl⟩
theorem eopose:iu P_ 30 lk.n 24:=⟨by kernel_rfl,by kernel_rfl,by kernel_rfl⟩
def Room (n bytes:Nat):Prop:=(2*n+192)*bytes<=281474976710656
theorem N7 {G h:Hp} {v:Value} {L:List Int} (sv:Sees icC G h v L) (hl:Room L.length 8):bn P_ G 122 #[v] h (fun u h'=>∃ip,Slc icC 3 ip u L/\Sep [ip,h] h'/\Dis G h'):=by
 refine bn.assume fun d=>aJ2 (by simp) ?_;unfold S122;simp only [bRpY];refine tc icC (by decide) Ht eoint (by decide) (Sep.one (h:=h)).none d Slc.nil sv (by simpa [Room]using hl) fun v' a' h' o' s' d'=>?_;try simp (disch:=first|decide|omega) only [bRpY,Nat.reduceAdd,Nat.reduceMul]
 exact ⟨a',o',s',d'⟩
def Rel (pb:Hp) (raws:List Raw) (st:List (Cell × List Int)):Prop:=∀(i:Nat) (r:Raw) (s:Cell × List Int),raws[i]?=some r->st[i]?=some s->(r.x,r.y)=s.1/\r.n=s.2.length/\Slc icC 3 pb (.slice r.a s.2.length r.c) s.2
def StkO (pz:Hp) (v:Value) (st:List (Cell × List Int)):Prop:=∃raws pr pb,Slc rawC 234 pr v raws/\Sep [pr,pb] pz/\raws.length=st.length/\Rel pb raws st
theorem Rel.le {pb pb':Hp} {raws:List Raw} {st:List (Cell × List Int)} (r:Rel pb raws st) (l:pb.le pb'):Rel pb' raws st:=fun i x s h1 h2=>let ⟨a,b,c⟩:=r i x s h1 h2;⟨a,b,c.le l⟩
theorem Jf {G h:Hp} {C:Conf} {ab:Option Addr} {cb:Nat} {ap:Option Addr} {cp:Nat} {ar:Option Addr} {cr:Nat} {az:Option Addr} {cs:Nat} (ca:CA G h C ab cb ap cp ar cr az cs)
 (hst:Room C.st.length 40) (hb:∀s∈C.st,Room s.2.length 8):bn P_ G 71 #[.slice az C.st.length cs] h (fun u h'=>∃pz,StkO pz u C.st/\Sep [pz,h] h'/\Dis G h'):=by
 refine bn.assume fun d=>enter71 (by simp) ?_;unfold S71;have hlb:C.st.length<=7036874417664:=by unfold Room at hst;omega
 refine dt (fun m r h3=>∃(i:Nat) (raws:List Raw) (pr pb:Hp) (v:Value),m=C.st.length-i/\i<=C.st.length/\r 0 = .slice az C.st.length cs/\r 3=v/\r 4 = .int .i64 i/\Slc rawC 234 pr v raws/\raws.length=i/\Rel pb raws C.st/\Sep [pr,pb,h] h3/\Dis G h3) ?_
  (m:=C.st.length) ⟨0,[],noHp,noHp,_,rfl,au_ _,by simp (disch:=decide) only [bRpY],by simp (disch:=decide) only [bRpY],by simp only [bRpY]<;>rfl,Slc.nil,rfl,fun i r s h1=>by simp at h1,(Sep.one.none).none,d⟩
 rintro m r h3 ⟨i,raws,pr,pb,v,rfl,hi,g0,g3,g4,o,hlen,rel,s3,d3⟩ X HX;unfold aP5;simp only [bRpY,g0,g4];refine df (fun hlt=>?_) (fun hge=>?_);rotate_left
 . obtain rfl:i=C.st.length:=by omega
   try simp (disch:=first|decide|omega) only [bRpY,Nat.reduceAdd,Nat.reduceMul]
   unfold aP6;try simp (disch:=decide) only [bRpY,g3]
   obtain ⟨pz,s4,t4⟩:=s3.pack2;exact ⟨pz,⟨raws,pr,pb,o,t4,hlen,rel⟩,s4,d3⟩
 have hlt':i<C.st.length:=by omega
 obtain ⟨s,hs⟩:∃s,C.st[i]?=some s:=⟨_,aa_ hlt'⟩;have ca3:=ca.up (s3.in 2 rfl) d3;obtain ⟨b,ofs,a,c,rfl,z0,z1,z2,sv⟩:=ca3.stk hs;unfold P8;refine ⟨h3,Hp.le.refl _,?_⟩;try simp (disch:=decide) only [bRpY,g0,g4,Vo (ac_ i) hlt,z0,z1,z2]
 refine (N7 sv (hb s (ab_ hs))).mono ?_;rintro u h4 ⟨ip,o4,s4,d4⟩;refine ⟨s4.in 1 rfl,?_⟩;obtain ⟨sa,cap,rfl,hcap⟩:=o4.len (by decide);try simp only [bRpY]
 intro x hx gx;have s5:Sep [ip,pr,pb,h] h4:=by have:=s4.split s3;simpa using this
 let rw0:Raw:=⟨s.1.1,s.1.2,sa,s.2.length,cap⟩
 have s6:Sep [pr,ip,pb,h] (h4.set x (.cells #[s.1.1,s.1.2,.slice sa s.2.length cap] 234 (0,0))):=(s5.past hx).pick 1 rfl rfl;have d6:Dis G (h4.set x (.cells #[s.1.1,s.1.2,.slice sa s.2.length cap] 234 (0,0))):=d4.set gx;have b6:(h4.set x (.cells #[s.1.1,s.1.2,.slice sa s.2.length cap] 234 (0,0))) x=some (.cells #[s.1.1,s.1.2,.slice sa s.2.length cap] 234 (0,0)):=bh;generalize Hp.set h4 x _=h6 at s6 d6 b6 ⊢;rw [g3]
 refine tc rawC (by decide) un24 eoraw (by decide) (M:=[rw0]) s6 d6 o (Sees.row (c:=rawC) (L:=[rw0]) b6 rfl (aj_ _)) (by
  unfold Room at hst;refine bo_ (aU_ _ ?_) hst;rw [hlen,a2_]
  omega) fun v7 pr7 h7 o7 s7 d7=>?_
 have s7':Sep [ip,pb,pr7,h] h7:=(s7.pick 2 rfl rfl).pick 2 rfl rfl;obtain ⟨pb7,s8,t8⟩:=s7'.pack2;unfold P7;try simp (disch:=first|decide|omega) only [bRpY,g4]
 refine HX (C.st.length-(i+1)) _ _ (by omega) ⟨i+1,raws++[rw0],pr7,pb7,v7,rfl,hlt',by simp (disch:=decide) only [bRpY,g0],by simp (disch:=decide) only [bRpY],by simp only [bRpY]<;>rfl,o7,by simp [hlen],?_,s8.pick 1 rfl rfl,d7⟩;intro j r' s' hr' hs';by_cases hj:j<i
 . rw [aq_ (by omega)]at hr';exact (rel.le (t8.in 1 rfl)) j r' s' hr' hs'
 . have hj2:j<(raws++[rw0]).length:=(ad_.1 hr').1;obtain rfl:j=i:=by simp at hj2;omega
   rw [aF_ (by omega),hlen,Nat.sub_self]at hr';cases hr';rw [hs]at hs';cases hs';exact ⟨rfl,rfl,o4.le (t8.in 0 rfl)⟩
abbrev mn (C:Conf) (vb vp vr vz:Value):Obj := .cells #[C.w,C.h,C.ht,vb,vp,vr,vz,C.un,C.ac,C.sp,C.tu,C.ho,C.qu,C.re,C.bu,.bool C.back] 26 (0,0)
abbrev confA (C:Conf) (vb vp vr vz:Value):Value := .agg #[C.w,C.h,C.ht,vb,vp,vr,vz,C.un,C.ac,C.sp,C.tu,C.ho,C.qu,C.re,C.bu,.bool C.back]
theorem store26 {G h:Hp} {y:Nat} {C:Conf} {D:Conf} {v1 v2 v3 v4:Value} {a1 a2 a3 a4:Option Addr} {n1 n2 n3 n4 c1 c2 c3 c4:Nat} {K:Unit->Hp->Prop} (hb:h y=some (mn D v1 v2 v3 v4)):
 wpH P_ G (Instr.storeAt 26 (.pointer (some ⟨y,0,none⟩)) (confA C (.slice a1 n1 c1) (.slice a2 n2 c2) (.slice a3 n3 c3) (.slice a4 n4 c4))) h K=K () (h.set y (mn C (.slice a1 n1 c1) (.slice a2 n2 c2) (.slice a3 n3 c3) (.slice a4 n4 c4))):=by
 conv=>lhs;rw [<- Az hb]
 exact st26w
structure Fit0 (C:Conf):Prop where
 bl:Room C.bl.length 16
 po:Room C.po.length 16
 ro:Room C.ro.length 24
 st:Room C.st.length 40
 bins:∀s∈C.st,Room s.2.length 8
def Cz:Conf:=⟨0,0,0,[],[],[],[],0,0,0,0,0,0,0,0,false⟩
abbrev nilV:Value := .slice none 0 0
structure CO (h:Hp) (C:Conf) (u:Value) (h' pb pp pr pz:Hp) (vb vp vr vz:Value):Prop where
 v:u=confA C vb vp vr vz
 bl:Slc dy 28 pb vb C.bl
 po:Slc dy 28 pp vp C.po
 ro:Slc lk 30 pr vr C.ro
 st:StkO pz vz C.st
 sep:Sep [pb,pp,pr,pz,h] h'
def CopyR (G h:Hp) (C:Conf) (u:Value) (h':Hp):Prop:=(∃pb pp pr pz vb vp vr vz,CO h C u h' pb pp pr pz vb vp vr vz)/\Dis G h'
theorem N8 {G h:Hp} {v:Value} {C:Conf} (hv:CV G h v C) (fit:Fit0 C):bn P_ G 28 #[v] h (CopyR G h C):=by
 obtain ⟨ab,cb,ap,cp,ar,cr,az,cs,rfl,ca⟩:=hv;refine bn.assume fun d=>enter28 (by simp) ?_;unfold S28;simp (disch:=decide) only [bRpY];intro x hx gx y hy gy;have exy:=ju hy;have s2:Sep [noHp,noHp.set x (mn C (.slice ab C.bl.length cb) (.slice ap C.po.length cp) (.slice ar C.ro.length cr) (.slice az C.st.length cs)),noHp.set y (mn Cz nilV nilV nilV nilV),h] _:=(((Sep.one (h:=h)).new (o:=mn C (.slice ab C.bl.length cb) (.slice ap C.po.length cp) (.slice ar C.ro.length cr) (.slice az C.st.length cs)) hx).new (o:=mn Cz nilV nilV nilV nilV) hy).swap.none;have d2:=(d.set (o:=mn C (.slice ab C.bl.length cb) (.slice ap C.po.length cp) (.slice ar C.ro.length cr) (.slice az C.st.length cs)) gx).set (o:=mn Cz nilV nilV nilV nilV) gy;unfold Cz at s2 d2;generalize Hp.set (Hp.set h x _) y _=h2 at s2 d2 ⊢;have cx:∀j,bf G h2 ⟨x,j,none⟩=_:=fun j=>bm (bj (s2.at 1 rfl bh));have ca2:=ca.up (s2.in 3 rfl) d2;try simp only [bRpY,cx]
 refine tc dy (by decide) un22 eocell (by decide) s2 d2 Slc.nil ca2.bl (by simpa [Room]using fit.bl) fun vb pb h3 ob s3 d3=>?_;obtain ⟨sb,cpb,rfl,_⟩:=ob.len (by decide);rw [a8_]at ob;have hx3:=s3.at 1 rfl bh;try simp (disch:=first|decide|omega) only [bRpY,Nat.reduceAdd,Nat.reduceMul]
 rw [ec sz22 rfl hx3 (by simp)];have s4:Sep [noHp,noHp.set x (mn C (.slice sb C.bl.length cpb) (.slice ap C.po.length cp) (.slice ar C.ro.length cr) (.slice az C.st.length cs)),pb,noHp.set y (mn ⟨0,0,0,[],[],[],[],0,0,0,0,0,0,0,0,false⟩ nilV nilV nilV nilV),h] (h3.set x (mn C (.slice sb C.bl.length cpb) (.slice ap C.po.length cp) (.slice ar C.ro.length cr) (.slice az C.st.length cs))):=by have:=(s3.pick 1 rfl rfl).put (o:=mn C (.slice sb C.bl.length cpb) (.slice ap C.po.length cp) (.slice ar C.ro.length cr) (.slice az C.st.length cs)) bh;rw [set_set]at this;exact this.none
 have d4:Dis G (h3.set x (mn C (.slice sb C.bl.length cpb) (.slice ap C.po.length cp) (.slice ar C.ro.length cr) (.slice az C.st.length cs))):=d3.set gx;try simp only [bRpY,a8_]
 generalize Hp.set h3 x _=h4 at s4 d4 ⊢;refine tc dy (by decide) un22 eocell (by decide) s4 d4 Slc.nil (ca.up (s4.in 4 rfl) d4).po (by simpa [Room]using fit.po) fun vp pp h5 op s5 d5=>?_;obtain ⟨sp,cpp,rfl,_⟩:=op.len (by decide);rw [a8_]at op;have hx5:=s5.at 1 rfl bh;try simp (disch:=first|decide|omega) only [bRpY,Nat.reduceAdd,Nat.reduceMul]
 rw [ec sz22 rfl hx5 (by simp)];have s6:Sep [noHp,noHp.set x (mn C (.slice sb C.bl.length cpb) (.slice sp C.po.length cpp) (.slice ar C.ro.length cr) (.slice az C.st.length cs)),pp,pb,noHp.set y (mn ⟨0,0,0,[],[],[],[],0,0,0,0,0,0,0,0,false⟩ nilV nilV nilV nilV),h] (h5.set x (mn C (.slice sb C.bl.length cpb) (.slice sp C.po.length cpp) (.slice ar C.ro.length cr) (.slice az C.st.length cs))):=by have:=(s5.pick 1 rfl rfl).put (o:=mn C (.slice sb C.bl.length cpb) (.slice sp C.po.length cpp) (.slice ar C.ro.length cr) (.slice az C.st.length cs)) bh;rw [set_set]at this;exact this.none
 have d6:Dis G (h5.set x (mn C (.slice sb C.bl.length cpb) (.slice sp C.po.length cpp) (.slice ar C.ro.length cr) (.slice az C.st.length cs))):=d5.set gx;try simp only [bRpY,a8_]
 generalize Hp.set h5 x _=h6 at s6 d6 ⊢;refine tc lk (by decide) un23 eopose (by decide) s6 d6 Slc.nil (ca.up (s6.in 5 rfl) d6).ro (by simpa [Room]using fit.ro) fun vr pr h7 or s7 d7=>?_;obtain ⟨sr,cpr,rfl,_⟩:=or.len (by decide);rw [a8_]at or;have hx7:=s7.at 1 rfl bh;try simp (disch:=first|decide|omega) only [bRpY,Nat.reduceAdd,Nat.reduceMul]
 rw [ec sz23 rfl hx7 (by simp)];have s8:Sep [noHp.set x (mn C (.slice sb C.bl.length cpb) (.slice sp C.po.length cpp) (.slice sr C.ro.length cpr) (.slice az C.st.length cs)),pr,pp,pb,noHp.set y (mn ⟨0,0,0,[],[],[],[],0,0,0,0,0,0,0,0,false⟩ nilV nilV nilV nilV),h] (h7.set x (mn C (.slice sb C.bl.length cpb) (.slice sp C.po.length cpp) (.slice sr C.ro.length cpr) (.slice az C.st.length cs))):=by have:=(s7.pick 1 rfl rfl).put (o:=mn C (.slice sb C.bl.length cpb) (.slice sp C.po.length cpp) (.slice sr C.ro.length cpr) (.slice az C.st.length cs)) bh;rw [set_set]at this;exact this
 have d8:Dis G (h7.set x (mn C (.slice sb C.bl.length cpb) (.slice sp C.po.length cpp) (.slice sr C.ro.length cpr) (.slice az C.st.length cs))):=d7.set gx;try simp only [bRpY,a8_]
 generalize Hp.set h7 x _=h8 at s8 d8 ⊢;refine (Jf (ca.up (s8.in 5 rfl) d8) fit.st fit.bins).mono ?_;rintro vz h9 ⟨pz,oz,s9,d9⟩;have s9':Sep [pz,noHp.set x (mn C (.slice sb C.bl.length cpb) (.slice sp C.po.length cpp) (.slice sr C.ro.length cpr) (.slice az C.st.length cs)),pr,pp,pb,noHp.set y (mn ⟨0,0,0,[],[],[],[],0,0,0,0,0,0,0,0,false⟩ nilV nilV nilV nilV),h] h9:=by have:=s9.split s8;simpa using this
 obtain ⟨sz,cpz,rfl⟩:∃sz cpz,vz = .slice sz C.st.length cpz:=by obtain ⟨raws,_,_,o,_,e,_⟩:=oz;obtain ⟨a,b,e2,_⟩:=o.len (by decide);exact ⟨a,b,by rw [e2,e]⟩
 have hx9:=s9'.at 1 rfl bh;try simp (disch:=first|decide|omega) only [bRpY,Nat.reduceAdd,Nat.reduceMul]
 rw [ec sz24 rfl hx9 (by simp)];have s10:Sep [noHp.set x (mn C (.slice sb C.bl.length cpb) (.slice sp C.po.length cpp) (.slice sr C.ro.length cpr) (.slice sz C.st.length cpz)),pz,pr,pp,pb,noHp.set y (mn ⟨0,0,0,[],[],[],[],0,0,0,0,0,0,0,0,false⟩ nilV nilV nilV nilV),h] (h9.set x (mn C (.slice sb C.bl.length cpb) (.slice sp C.po.length cpp) (.slice sr C.ro.length cpr) (.slice sz C.st.length cpz))):=by have:=(s9'.pick 1 rfl rfl).put (o:=mn C (.slice sb C.bl.length cpb) (.slice sp C.po.length cpp) (.slice sr C.ro.length cpr) (.slice sz C.st.length cpz)) bh;rw [set_set]at this;exact this
 have d10:Dis G (h9.set x (mn C (.slice sb C.bl.length cpb) (.slice sp C.po.length cpp) (.slice sr C.ro.length cpr) (.slice sz C.st.length cpz))):=d9.set gx;try simp only [bRpY]
 generalize Hp.set h9 x _=h10 at s10 d10 ⊢;have hy10:=s10.at 5 rfl bh;rw [store26 hy10];try simp only [bRpY]
 refine ⟨⟨pb,pp,pr,pz,_,_,_,_,rfl,ob,op,or,oz,?_⟩,d10.set gy⟩;have s11:=((s10.pick 5 rfl rfl).put (o:=mn C (.slice sb C.bl.length cpb) (.slice sp C.po.length cpp) (.slice sr C.ro.length cpr) (.slice sz C.st.length cpz)) bh).drop.drop;have s12:Sep [pz,pr,pp,pb,h] _:=s11;exact ((s12.pick 1 rfl rfl).pick 2 rfl rfl).pick 3 rfl rfl
theorem StkO.len {pz:Hp} {v:Value} {st:List (Cell × List Int)} (o:StkO pz v st):∃sz cpz,v = .slice sz st.length cpz:=by obtain ⟨raws,_,_,o,_,e,_⟩:=o;obtain ⟨a,b,e2,_⟩:=o.len (by decide);exact ⟨a,b,by rw [e2,e]⟩
theorem CO.cv {G h h' h2 pb pp pr pz:Hp} {C:Conf} {u vb vp vr vz:Value} (c:CO h C u h' pb pp pr pz vb vp vr vz) (l:h'.le h2):CV G h2 u C:=by obtain ⟨rfl,ob,op,or,oz,s⟩:=c;obtain ⟨sb,cb,rfl,_⟩:=ob.len (by decide);obtain ⟨sp,cp,rfl,_⟩:=op.len (by decide);obtain ⟨sr,cr,rfl,_⟩:=or.len (by decide);obtain ⟨sz,cz,rfl⟩:=oz.len;refine ⟨sb,cb,sp,cp,sr,cr,sz,cz,rfl,ob.sees (by decide) ((s.in 0 rfl).trans l),op.sees (by decide) ((s.in 1 rfl).trans l),or.sees (by decide) ((s.in 2 rfl).trans l),?_⟩;obtain ⟨raws,pr',pb',o,t,e,rel⟩:=oz;refine ⟨raws,o.sees (by decide) (((t.in 0 rfl).trans (s.in 3 rfl)).trans l),fun i r x h1 h2=>?_⟩;obtain ⟨a,b,c⟩:=rel i r x h1 h2;exact ⟨a,b,c.sees (by decide) (((t.in 1 rfl).trans (s.in 3 rfl)).trans l)⟩
end Go.Proofs.YtfflipnhffknnaaGreatDoor
end
section
namespace Go.Proofs.YtfflipnhffknnaaGreatDoor
open Go Go.HL Go.Proofs.Resv Go.Proofs.Srch
def C9:=jq bC (jq (jq (jq @pd (jq @cf38 @zq)) (jq @Bv (jq @Cv @Fp))) (jq (jq @Fo (jq @Lc @Ha)) (jq (jq @ld23 @ld26) (jq @ld3 @ln23))))
structure SmO (C:Conf):Prop where
 w:C.w<=6
 h:C.h<=6
 bu:C.bu<=4000
 un:C.un<=100
 tu:C.tu<=200
 ho:C.ho<=200
 ro:C.ro.length<=4
 may:al9 C
theorem small12 {G h:Hp} {v:Value} {C:Conf} (hv:CV G h v C):bn P_ G 21 #[v] h (fun u h'=>(∃b,u = .bool b/\(b=true->SmO C))/\h'=h):=by
 have hv0:=hv;obtain ⟨ab,cb,ap,cp,ar,cr,az,cs,rfl,ca⟩:=hv;refine bn.assume fun d=>quietly (enter21 (by simp) ?_);unfold S21;simp only [C9];intro x hx gx;generalize e1:Hp.set h x _=h1;obtain ⟨l1,d1,b1⟩:=boxed e1 hx d gx;have cx:∀j,bf G h1 ⟨x,j,none⟩=_:=fun j=>bm (bj b1);by_cases g1:C.w<=6;rotate_left
 . try simp only [C9,cx,ai_ g1,fq]
   exact ⟨⟨false,rfl,by simp⟩,l1⟩
 by_cases g2:C.h<=6;rotate_left
 . try simp only [C9,cx,af_ g1,ai_ g2,fq]
   exact ⟨⟨false,rfl,by simp⟩,l1⟩
 by_cases g3:C.bu<=4000;rotate_left
 . try simp only [C9,cx,af_ g1,af_ g2,ai_ g3,fq]
   exact ⟨⟨false,rfl,by simp⟩,l1⟩
 by_cases g4:C.un<=100;rotate_left
 . try simp only [C9,cx,af_ g1,af_ g2,af_ g3,ai_ g4,fq]
   exact ⟨⟨false,rfl,by simp⟩,l1⟩
 by_cases g5:C.tu<=200;rotate_left
 . try simp only [C9,cx,af_ g1,af_ g2,af_ g3,af_ g4,ai_ g5,fq]
   exact ⟨⟨false,rfl,by simp⟩,l1⟩
 by_cases g6:C.ho<=200;rotate_left
 . try simp only [C9,cx,af_ g1,af_ g2,af_ g3,af_ g4,af_ g5,ai_ g6,fq]
   exact ⟨⟨false,rfl,by simp⟩,l1⟩
 by_cases g7:((C.ro.length:Nat):Int)<=4;rotate_left
 . try simp only [C9,cx,af_ g1,af_ g2,af_ g3,af_ g4,af_ g5,af_ g6,ai_ g7,fq]
   exact ⟨⟨false,rfl,by simp⟩,l1⟩
 try simp only [C9,cx,af_ g1,af_ g2,af_ g3,af_ g4,af_ g5,af_ g6,af_ g7]
 refine (ao1 (hv0.up l1 d1)).mono ?_;rintro _ h1 ⟨⟨b,rfl,hb⟩,rfl⟩;try simp (disch:=first|decide|omega) only [C9,Nat.reduceAdd,Nat.reduceMul]
 exact ⟨⟨b,rfl,fun e=>⟨g1,g2,g3,g4,g5,g6,by omega,hb.1 e⟩⟩,l1⟩
end Go.Proofs.YtfflipnhffknnaaGreatDoor
end
section
namespace Go.Proofs.Srch
open Go.Proofs.Resv
section
variable {P M:Type} [DecidableEq P] {E:Env P M}
structure Flat (E:Env P M) (D:Int):Prop where
 sp:∀p,E.ok p->E.spans p=[(0,FV)]
 wy:∀p,E.ok p->∀w∈E.ways p,w.2.2.2=[(0,FV)]/\1<=w.2.2.1/\w.2.2.1<=D/\E.ok w.2.1
theorem av7 {a d:Int} (h0:0<=a) (hd:0<=d) (h:a+d<FV):sumI a d=a+d:=by unfold sumI cutI FV at*;rw [ah_ (by omega)];omega
theorem Zl {a d:Int} (h0:0<=a) (hd:0<=d) (h:sumI a d<FV):sumI a d=a+d:=by
 unfold sumI cutI FV at*;split at h
 . omega
 . rw [ah_ (by assumption)];omega
section
variable {by_:Int} {shM:M->M}
def Low (E:Env P M) (B:Int) (S:List (St P M)):Prop:=∀x∈S,x.s=(0,FV)/\E.ok x.p/\0<=x.a/\x.a<=B
theorem Low.up {B B':Int} {S:List (St P M)} (l:Low E B S) (h:B<=B'):Low E B' S:=fun x hx=>let ⟨a,b,c,d⟩:=l x hx;⟨a,b,c,Int.le_trans d h⟩
end
inductive Rch (E:Env P M) (p0:P):P->Int->Prop where
 |start:Rch E p0 p0 0
 |step {p:P} {n:Int} {w:M × P × Int × List Sp} (h:Rch E p0 p n) (hw:w∈E.ways p):Rch E p0 w.2.1 (n+w.2.2.1)
theorem Rch.ok {D:Int} (fl:Flat E D) {p0 p:P} {n:Int} (h:Rch E p0 p n) (ho:E.ok p0):E.ok p/\0<=n:=by
 induction h with
 |start=>exact ⟨ho,aS_ _⟩
 |step h hw ih=>obtain ⟨_,e2,_,e4⟩:=fl.wy _ ih.1 _ hw;exact ⟨e4,by omega⟩
theorem Rch.pre {p0 p1:P} {w:M × P × Int × List Sp} (hw:w∈E.ways p0) (e:w.2.1=p1):∀{p:P} {n:Int},Rch E p1 p n->Rch E p0 p (w.2.2.1+n)
 |_,_,.start=>by subst e;have:=Rch.step (.start (E:=E) (p0:=p0)) hw;rw [Int.zero_add]at this;rw [Int.add_zero];exact this
 |_,_,.step h hv=>by have:=Rch.step (Rch.pre hw e h) hv;rw [<- Int.add_assoc];exact this
inductive Wk (E:Env P M) (p0:P) (t0:Int):List M->P->Nat->Int->Prop where
 |nil {i:Nat} (h:inside (E.spans p0) t0=some i):Wk E p0 t0 [] p0 i t0
 |snoc {l:List M} {p:P} {i j:Nat} {a:Int} {s0 s:Sp} {w:M × P × Int × List Sp} (h:Wk E p0 t0 l p i a) (h0:(E.spans p)[i]?=some s0) (ha1:s0.1<=a) (ha2:a<s0.2) (hw:w∈E.ways p) (hs:s∈w.2.2.2) (h1:s0.1<=s.1) (h2:s.2<=s0.2)
  (he:sumI (max a s.1) w.2.2.1<=s.2) (he2:sumI (max a s.1) w.2.2.1<FV) (hj:inside (E.spans w.2.1) (sumI (max a s.1) w.2.2.1)=some j):Wk E p0 t0 (l++[E.stamp w.1 (max a s.1) (sumI (max a s.1) w.2.2.1)]) w.2.1 j (sumI (max a s.1) w.2.2.1)
theorem Yp {S:List (St P M)} {k:Nat} {l:List (Nat × St P M)} (c:Gr S k l):∃x l',S[k]?=some x/\l=(k,x)::l':=by
 cases c with
 |start h hb=>exact ⟨_,_,h,rfl⟩
 |step h hb c=>exact ⟨_,_,h,rfl⟩
theorem aL8 (r:En E) {p0:P} {t0 lo:Int} {z:M} {S:List (St P M)} (v:Inv E p0 t0 z lo S) {k:Nat} {l:List (Nat × St P M)} (c:Gr S k l):∀{x:St P M},S[k]?=some x->Wk E p0 t0 (o0 l).reverse x.p x.i x.a:=by
 induction c with
 |@start k x h hb=>
  intro x' h';rw [h]at h';cases h';have hxm:=ab_ h;obtain ⟨a1,a2,a3⟩:=v.at_ x hxm;rcases v.by_ x hxm with ⟨_,e1,e2,_⟩|⟨y,h0,_⟩
  . have hin:=Cp (r.ris x.p) a1 a2 a3;rw [e1,e2]at hin ⊢;exact .nil hin
  . omega
 |@step k j x l h hb c ih=>
  intro x' h';rw [h]at h';cases h';have hxm:=ab_ h;obtain ⟨a1,a2,a3⟩:=v.at_ x hxm;rcases v.by_ x hxm with ⟨e,_⟩|⟨y,h0,hy,hd,hlt,w,hw,s,hs,l1,l2,l3,l4,l5,l6,l7⟩
  . omega
  . rw [show x.b.toNat=j by omega]at hy;obtain ⟨b1,b2,b3⟩:=v.at_ y (ab_ hy);have ih:=ih hy;have hin:=Cp (r.ris x.p) a1 a2 a3;have:=Wk.snoc ih b1 b2 b3 hw hs l1 l2 (by rw [<- l4];exact l5) (by rw [<- l4];exact l6) (j:=x.i) (by rw [<- l4,<- l3];exact hin);rw [<- l4,<- l3,<- l7]at this;have e:(o0 ((k,x)::l)).reverse=(o0 l).reverse++[x.mv]:=by obtain ⟨x1,l',_,rfl⟩:=Yp c;show (x.mv::o0 ((j,x1)::l')).reverse=_;rw [List.reverse_cons]
    rw [e];exact this
theorem path_wk (r:En E) {p0:P} {t0 lo:Int} {z:M} {S:List (St P M)} (v:Inv E p0 t0 z lo S) {k:Nat} {x:St P M} (hk:S[k]?=some x):Wk E p0 t0 (path S S.length k []) x.p x.i x.a:=by obtain ⟨l,c,hl⟩:=Pm v hk;rw [Kq c _ _ hl,av_];exact aL8 r v c hk
end
theorem Dv {r:Int}:∀{L:List Slot} {a x y:Int},Resv.Good L->0<=a->a<=x->x<y->y<=FV->(∀s∈L,s.r≠r->y<=s.f\/s.t<=x)->∃g∈ic r L a,g.1<=x/\y<=g.2
 |[],a,x,y,_,h0,h1,h2,h3,_=>by unfold ic;rw [ak_ (by omega)];exact ⟨_,.head _,h1,h3⟩
 |s::L,a,x,y,g,h0,h1,h2,h3,h=>by
  have ok:=g.ok s (.head _);obtain ⟨o1,o2,o3,o4⟩:=ok;unfold ic;by_cases hr:s.r=r
  . rw [ak_ hr];exact Dv g.tail h0 h1 h2 h3 fun u hu=>h u (.tail _ hu)
  . rw [ah_ hr];rcases h s (.head _) hr with h4|h4
    . rw [ak_ (by omega)];exact ⟨_,.head _,h1,h4⟩
    . obtain ⟨u,hu,e⟩:=Dv (r:=r) g.tail (a:=s.t) (by omega) h4 h2 h3 fun u hu=>h u (.tail _ hu);split
      . exact ⟨u,.tail _ hu,e⟩
      . exact ⟨u,hu,e⟩
theorem aA8 {T:Tb} (g:i7 T) {r n a b:Int} (hn:inT T.length n=true) (h0:0<=a) (h1:a<b) (h2:b<=FV) (hf:l8 (rowT T n) r a b=true):∃u∈o8 T r n,u.1<=a/\b<=u.2:=by unfold o8;rw [ak_ hn];exact Dv (sf g n) (aS_ _) h0 h1 h2 (Br.1 hf)
theorem ar3 {T:Tb} (g:i7 T) {r n a b:Int} {u:Sp} (hu:u∈o8 T r n) (h1:u.1<=a) (h2:b<=u.2):inT T.length n=true/\l8 (rowT T n) r a b=true:=by
 unfold o8 at hu;split at hu
 . rename_i hn;refine ⟨hn,Br.2 fun s hs hr=>?_⟩;have gr:=sf g n;obtain ⟨_,h3⟩:=Pd (r:=r) gr (aS_ 0) (by decide) (fun s hs => .inl (gr.ok s hs).1);rcases (h3 u hu).2.2.2.2.2 s hs hr with h4|h4<;>omega
 . cases hu
theorem V1 {T:Tb} {r:Int}:∀(N:List Int) (l:List Sp) (s:Sp),s∈N.foldl (fun l n=>tw l (o8 T r n)) l->(∃u∈l,u.1<=s.1/\s.2<=u.2)/\∀n∈N,∃u∈o8 T r n,u.1<=s.1/\s.2<=u.2
 |[],l,s,h=>⟨⟨s,h,aS_ _,aS_ _⟩,fun _ h=>by cases h⟩
 |n::N,l,s,h=>by
  rw [bU_]at h;obtain ⟨⟨u,hu,h1,h2⟩,h3⟩:=V1 N _ s h;obtain ⟨x,hx,y,hy,rfl,_⟩:=E8.1 hu;simp only at h1 h2;refine ⟨⟨x,hx,by omega,by omega⟩,fun m hm=>?_⟩;rcases al_.1 hm with rfl|hm
  . exact ⟨y,hy,by omega,by omega⟩
  . exact h3 m hm
theorem V4 {T:Tb} {r a b:Int} (hab:a<b):∀(N:List Int) (l:List Sp),(∃u∈l,u.1<=a/\b<=u.2)->(∀n∈N,∃u∈o8 T r n,u.1<=a/\b<=u.2)->∃s∈N.foldl (fun l n=>tw l (o8 T r n)) l,s.1<=a/\b<=s.2
 |[],l,h,_=>h
 |n::N,l,⟨u,hu,h1,h2⟩,h=>by obtain ⟨v,hv,h3,h4⟩:=h n (.head _);rw [bU_];exact V4 hab N _ ⟨(max u.1 v.1,min u.2 v.2),E8.2 ⟨u,hu,v,hv,rfl,by omega⟩,by simp only;omega,by simp only;omega⟩ fun m hm=>h m (.tail _ hm)
theorem Vz {T:Tb} {r:Int} {N:List Int} {s:Sp} (h:s∈ly T r N):∀n∈N,∃u∈o8 T r n,u.1<=s.1/\s.2<=u.2:=(V1 N _ s h).2
theorem V0 {T:Tb} {r a b:Int} {N:List Int} (h0:0<=a) (h1:a<b) (h2:b<=FV) (h:∀n∈N,∃u∈o8 T r n,u.1<=a/\b<=u.2):∃s∈ly T r N,s.1<=a/\b<=s.2:=
 V4 h1 N _ ⟨_,.head _,h0,h2⟩ h
theorem Pe {T:Tb} (g:i7 T) {r:Int} {N N':List Int} (hN:∀n∈N',n∈N) {s:Sp} (h:s∈ly T r N):∃s'∈ly T r N',s'.1<=s.1/\s.2<=s'.2:=by obtain ⟨b1,b2,b3⟩:=(rn g r N).bd s h;exact V0 b1 b2 b3 fun n hn=>Vz h n (hN n hn)
theorem sk {T:Tb} (g:i7 T) {r a b:Int} {N:List Int} {s:Sp} (h:s∈ly T r N) (h1:s.1<=a) (h2:b<=s.2):∀n∈N,inT T.length n=true/\l8 (rowT T n) r a b=true:=fun n hn=>by obtain ⟨u,hu,e1,e2⟩:=Vz h n hn;exact ar3 g hu (by omega) (by omega)
theorem W9 {T:Tb} (g:i7 T) {r a b:Int} {N:List Int} (h0:0<=a) (h1:a<b) (h2:b<=FV) (h:∀n∈N,inT T.length n=true/\l8 (rowT T n) r a b=true):∃s∈ly T r N,s.1<=a/\b<=s.2:=
 V0 h0 h1 h2 fun n hn=>aA8 g (h n hn).1 h0 h1 h2 (h n hn).2
def T3 (r:Int) (T U:Tb):Prop:=T.length=U.length/\∀n,others (rowT T n) r=others (rowT U n) r
theorem T3.trans {r:Int} {T U V:Tb} (a:T3 r T U) (b:T3 r U V):T3 r T V:=⟨a.1.trans b.1,fun n=>(a.2 n).trans (b.2 n)⟩
end Go.Proofs.Srch
end
section
namespace Go.Proofs.YtfflipnhffknnaaGreatDoor
open Go Go.HL
def ij:=jq bC (jq (jq (jq (jq @al48 @yv) (jq @Jg @D6)) (jq (jq @pd @ff) (jq @Wx (jq @cf22 @cf45)))) (jq (jq (jq @cf99 @vq) (jq @Dy (jq @ld26 @ld28))) (jq (jq @ld30 @rz) (jq @ld4 (jq @ld48 @Uc)))))
theorem H0 {α:Type} {ok:Nat->Bool} {mk:Nat->α}:∀{k n:Nat},(jm ok mk n k).length<=k
 |0,n=>aj_ _
 |k+1,n=>by
  unfold jm;split
  . have:=H0 (ok:=ok) (mk:=mk) (k:=k) (n:=n+1);simp only [an_];omega
  . simp
theorem Hb {α:Type} {D:Nat->List α} {b:Nat} (h:∀i,(D i).length<=b):∀{k i:Nat},(ka D i k).length<=k*b
 |0,i=>by simp [ka]
 |k+1,i=>by unfold ka;have:=Hb h (k:=k) (i:=i+1);have:=h i;rw [ae_,bD_];omega
theorem Ut {G h:Hp} {v:Value} {C:Conf} {p:Pose} (hv:CV G h v C) (hL:C.bl.length<=100000000000000):bn P_ G 102 #[v,mq p] h (fun u h'=>∃ip,Slc jg 48 ip u (jn C p)/\Sep [ip,h] h'/\Dis G h'):=by
 have hv0:=hv;obtain ⟨ab,cb,ap,cp,ar,cr,az,cs,rfl,ca⟩:=hv;refine bn.assume fun d=>aK8 (by simp) ?_;unfold S102;simp only [ij];intro x hx gx;generalize e1:Hp.set h x _=h1;obtain ⟨l1,d1,b1⟩:=boxed e1 hx d gx;intro y hy gy;generalize e2:Hp.set h1 y _=h2;obtain ⟨l2,d2,b2⟩:=boxed e2 hy d1 gy;have L:=l1.trans l2;have bx:=l2 _ _ b1;have cx:∀j,bf G h2 ⟨x,j,none⟩=_:=fun j=>bm (bj bx);have cy:∀j,bf G h2 ⟨y,j,none⟩=_:=fun j=>bm (bj b2);have hv2:=hv0.up L d2;try simp only [ij,cx,cy]
 refine (vi (p:=p) hv2 hL).mono ?_;rintro _ h2 ⟨rfl,rfl⟩;cases hf:fu C p with
 |false=>
  try simp only [ij]
  refine ⟨noHp,?_,(Sep.one.le L).none,d2⟩;unfold jn;rw [hf];exact Slc.nil
 |true=>
 try simp only [ij]
 unfold al7;generalize hT:ka (Kh C p) 0 4=T;have hlenT:T.length<=64:=by rw [<- hT];exact Hb (b:=16) (fun i=>H0)
 have box:∀{ip h3:Hp},Sep [ip,h2] h3->(∀j,bf G h3 ⟨x,j,none⟩=_)/\(∀j,bf G h3 ⟨y,j,none⟩=_):=fun s=>⟨fun j=>bm (bj (s.at 1 rfl bx)),fun j=>bm (bj (s.at 1 rfl b2))⟩
 refine dt (fun m r h3=>∃(i:Nat) (ip:Hp) (u:Value) (M:List Move),m=4-i/\i<=4/\r 2 = .pointer (some ⟨x,0,none⟩)/\r 3 = .pointer (some ⟨y,0,none⟩)/\r 5=u/\r 6 = .int .i64 i/\Slc jg 48 ip u M/\M++ka (Kh C p) i (4-i)=T/\Sep [ip,h2] h3/\Dis G h3) ?_
  (m:=4) ⟨0,noHp,_,[],rfl,by decide,by simp (disch:=decide) only [ij],by simp (disch:=decide) only [ij],by simp (disch:=decide) only [ij],by simp only [ij]<;>rfl,Slc.nil,hT,Sep.one.none,d2⟩
 rintro m r h3 ⟨i,ip,u,M,rfl,hi,g2,g3,g5,g6,o,hM,s3,d3⟩ X HX;unfold al6;simp only [ij,g6];refine df (fun hle=>?_) (fun hgt=>?_);rotate_left
 . obtain rfl:i=4:=by omega
   rw [show (4-4)=0 from rfl,show ka (Kh C p) 4 0=[]from rfl,av_]at hM;subst hM;try simp (disch:=first|decide|omega) only [ij,Nat.reduceAdd,Nat.reduceMul]
   unfold T1;obtain ⟨bx3,by3⟩:=box s3;try simp -implicitDefEqProofs (maxSteps:=2000000) (disch:=first|decide|with_reducible exact aA_ rfl|exact b8|exact bw|omega|rfl|(simp;done)|fail) only [ij,g2,g3,g5,by3]
   intro z hz gz;have s4:=s3.past (o:=jy (jv p)) hz;have d4:=d3.set (o:=jy (jv p)) gz;have hz4:(h3.set z (jy (jv p))) z=some (jy (jv p)):=bh;have e:(h3.set z (.cells #[(2:Int),(0:Int),(0:Int),p.x,p.y,.bool p.d,p.x,p.y,.bool !p.d,(0:Int),(0:Int)] 48 (0,0)))=h3.set z (jy (jv p)):=rfl;try simp (disch:=first|decide|omega) only [ij,Nat.reduceAdd,Nat.reduceMul]
   rw [e];generalize Hp.set h3 z _=h4 at s4 d4 hz4 ⊢;obtain ⟨bx4,by4⟩:=box s4;have cz4:∀j,bf G h4 ⟨z,j,none⟩=_:=fun j=>bm (bj hz4);try simp only [ij,bx4]
   refine (A5 (m:=jv p) (hv2.up (s4.in 1 rfl) d4) hL).mono ?_;rintro _ h4 ⟨rfl,rfl⟩;unfold jn;rw [hf,ak_ rfl,hT];cases hl:gf C (jv p)with
   |false=>
    try simp only [ij]
    unfold Jw;try simp (disch:=decide) only [ij,g5]
    exact ⟨ip,by rw [ah_ (by simp),av_];exact o,(s4.swap.cut L).swap,d4⟩
   |true=>
    try simp only [ij,cz4]
    intro b hb gb;have s5:=s4.past (o:=jy (jv p)) hb;have d5:=d4.set (o:=jy (jv p)) gb;have hb5:(h4.set b (jy (jv p))) b=some (jy (jv p)):=bh;have e:(h4.set b (.cells #[(2:Int),(0:Int),(0:Int),p.x,p.y,.bool p.d,p.x,p.y,.bool !p.d,(0:Int),(0:Int)] 48 (0,0)))=h4.set b (jy (jv p)):=rfl;try rw [e]
    generalize Hp.set h4 b _=h5 at s5 d5 hb5 ⊢;try simp (disch:=first|decide|omega) only [ij,Nat.reduceAdd,Nat.reduceMul,g5]
    refine fh jg (by decide) un40 eomove (by decide) (by decide) (M:=[jv p]) s5 d5 o (Sees.row (c:=jg) (L:=[jv p]) hb5 rfl (aj_ _)) (by simp;omega) fun v6 a6 h6 o6 s6 d6=>?_;try simp (disch:=first|decide|omega) only [ij,Nat.reduceAdd,Nat.reduceMul]
    unfold Jw;try simp only [ij]
    exact ⟨a6,o6,(s6.swap.cut L).swap,d6⟩
 have hlt':i<4:=by omega
 unfold Nt
 refine dt (fun m r2 h3=>∃(n:Nat) (ip:Hp) (u:Value) (M:List Move),m=17-n/\1<=n/\n<=17/\r2 2 = .pointer (some ⟨x,0,none⟩)/\r2 3 = .pointer (some ⟨y,0,none⟩)/\r2 5=u/\r2 6 = .int .i64 i/\r2 7 = .int .i64 n/\Slc jg 48 ip u M/\M++(jm (fun n=>gf C (mkR p i n)) (mkR p i) n (17-n)++ka (Kh C p) (i+1) (3-i))=T/\Sep [ip,h2] h3/\Dis G h3) ?_
  (m:=16) ⟨1,ip,u,M,rfl,by decide,by decide,by simp (disch:=decide) only [ij,g2],by simp (disch:=decide) only [ij,g3],by simp (disch:=decide) only [ij,g5],by simp (disch:=decide) only [ij,g6],by simp only [ij]<;>rfl,o,by rw [<- hM,show 4-i=(3-i)+1 by omega];rfl,s3,d3⟩
 rintro m r2 h3 ⟨n,ip,u,M,rfl,hn1,hn2,q2,q3,q5,q6,q7,o,hM,s3,d3⟩ X2 HX2
 have hlenM:M.length<=64:=by
  have:M.length<=T.length:=by rw [<- hM,ae_];omega
  omega
 have next:∀(r3:Rg) h5 (ip:Hp) (u:Value) (M:List Move),r3 2=r2 2->r3 3=r2 3->r3 5=u->r3 6=r2 6->Slc jg 48 ip u M->M++ka (Kh C p) (i+1) (3-i)=T->Sep [ip,h2] h5->Dis G h5->
  Em G (di X (dc 0 (di (T1 G (retK P_ G [.tmp 4] fun u h'=>∃ip,Slc jg 48 ip u (jn C p)/\Sep [ip,h] h'/\Dis G h')) (retK P_ G [.tmp 4] fun u h'=>∃ip,Slc jg 48 ip u (jn C p)/\Sep [ip,h] h'/\Dis G h')))) r3 h5:=by intro r3 h5 ip u M w2 w3 w5 w6 o5 hM5 s5 d5;unfold Em;have w6':=w6.trans q6;simp (disch:=first|decide|omega) only [ij,w6'];refine HX (4-(i+1)) _ _ (by omega) ⟨i+1,ip,u,M,rfl,hlt',by simp (disch:=decide) only [ij,w2,q2],by simp (disch:=decide) only [ij,w3,q3],by simp (disch:=decide) only [ij,w5],by simp only [ij]<;>rfl,o5,by rw [<- hM5,show 4-(i+1)=3-i by omega],s5,d5⟩
 unfold Ns;simp only [ij,q7];refine df (fun hle=>?_) (fun hgt=>?_);rotate_left
 . obtain rfl:n=17:=by omega
   try simp (disch:=first|decide|omega) only [ij,Nat.reduceAdd,Nat.reduceMul,ah_ (show ¬(2:Nat)=1 by decide)]
   exact next _ _ ip u M (by simp (disch:=decide) only [ij]) (by simp (disch:=decide) only [ij]) (by simp (disch:=decide) only [ij,q5]) (by simp (disch:=decide) only [ij]) o hM s3 d3
 have hn16:n<=16:=by omega
 have erun:jm (fun n=>gf C (mkR p i n)) (mkR p i) n (17-n)=if gf C (mkR p i n)=true then mkR p i n::jm (fun n=>gf C (mkR p i n)) (mkR p i) (n+1) (17-(n+1))else []:=by rw [show 17-n=(17-(n+1))+1 by omega];rfl
 rw [erun]at hM;obtain ⟨bx3,by3⟩:=box s3;unfold Dl;refine ⟨h3,Hp.le.refl _,?_⟩;try simp (disch:=decide) only [ij,q3,q6,q7,by3]
 refine (wg (p:=p) (dir:=(i:Int)) (n:=(n:Int))).mono ?_;rintro _ h3 ⟨rfl,rfl⟩;refine ⟨Hp.le.refl _,?_⟩;try simp (disch:=first|decide|exact b8|exact bw|omega|rfl) only [ij,q2,q6,q7]
 intro z hz gz;have s4:=s3.past (o:=jy (mkR p i n)) hz;have d4:=d3.set (o:=jy (mkR p i n)) gz;have hz4:(h3.set z (jy (mkR p i n))) z=some (jy (mkR p i n)):=bh;try simp (disch:=first|decide|omega) only [ij,Nat.reduceAdd,Nat.reduceMul]
 have e:(h3.set z (.cells #[(1:Int),(i:Int),(n:Int),p.x,p.y,.bool p.d,(dv p i n).x,(dv p i n).y,.bool (dv p i n).d,(0:Int),(0:Int)] 48 (0,0)))=h3.set z (jy (mkR p i n)):=rfl;rw [e];generalize Hp.set h3 z _=h4 at s4 d4 hz4 ⊢;obtain ⟨bx4,by4⟩:=box s4;have cz4:∀j,bf G h4 ⟨z,j,none⟩=_:=fun j=>bm (bj hz4);try simp only [ij,bx4,cz4]
 refine (A5 (m:=mkR p i n) (hv2.up (s4.in 1 rfl) d4) hL).mono ?_;rintro _ h4 ⟨rfl,rfl⟩;cases hl:gf C (mkR p i n)with
 |false=>
  rw [hl]at hM;try simp only [ij,ah_ (show ¬(2:Nat)=1 by decide)]
  exact next _ _ ip u M (by simp (disch:=decide) only [ij]) (by simp (disch:=decide) only [ij]) (by simp (disch:=decide) only [ij,q5]) (by simp (disch:=decide) only [ij]) o hM s4 d4
 |true=>
  rw [hl,ak_ rfl]at hM;try simp only [ij]
  unfold Cd;try simp (disch:=decide) only [ij,q5,cz4]
  intro b hb gb;have s5:=s4.past (o:=jy (mkR p i n)) hb;have d5:=d4.set (o:=jy (mkR p i n)) gb;have hb5:(h4.set b (jy (mkR p i n))) b=some (jy (mkR p i n)):=bh;generalize Hp.set h4 b _=h5 at s5 d5 hb5 ⊢;refine fh jg (by decide) un40 eomove (by decide) (by decide) (M:=[mkR p i n]) s5 d5 o (Sees.row (c:=jg) (L:=[mkR p i n]) hb5 rfl (aj_ _)) (by simp;omega) fun v6 a6 h6 o6 s6 d6=>?_;unfold Dk;try simp (disch:=first|decide|omega) only [ij,q7]
  refine HX2 (17-(n+1)) _ _ (by omega) ⟨n+1,a6,v6,M++[mkR p i n],rfl,by omega,by omega,by simp (disch:=decide) only [ij,q2],by simp (disch:=decide) only [ij,q3],by simp (disch:=decide) only [ij],by simp (disch:=decide) only [ij,q6],by simp only [ij]<;>rfl,o6,by rw [aC_];exact hM,s6,d6⟩
theorem E3 {α:Type} {p:Nat->Bool} {mk:Nat->α}:∀{k n:Nat},(i9 p mk n k).length<=k
 |0,n=>aj_ _
 |k+1,n=>by rw [Ci];have:=E3 (p:=p) (mk:=mk) (k:=k) (n:=n+1);split<;>(try simp only [an_])<;>omega
def gi:=jq bC (jq (jq (jq (jq @yw @kv) (jq @pd (jq @ff @aM2))) (jq (jq @cf100 @cf40) (jq @cf45 (jq @cf83 @cf99)))) (jq (jq (jq @zq @Bv) (jq @Dx (jq @R8 @Lb))) (jq (jq @Yh @ld26) (jq @ld3 (jq @ld30 @ld48)))))
def qh (m:Move):List Cell:=if m.k=1 then (List.range (m.n.toNat+1)).flatMap (fun (i:Nat)=>dj (dv m.f m.d i))else if m.k=2 then gj (m.f.x,m.f.y)else dj m.f
def gk (C:Conf) (m:Move):List Cell:=if gf C m=true then mr (wC C) (kC C) (qh m)else []
theorem J5 {w k:Nat} {W:List Cell} (hw:w<=16) (hk:k<=16):(mr w k W).length<=256:=by have:=Hb (D:=fun y=>i9 (fun x=>decide ((((x:Nat):Int),((y:Nat):Int))∈W)) (fun x=>(((x:Nat):Int),((y:Nat):Int))) 0 w) (b:=16) (fun i=>bo_ E3 hw) (k:=k) (i:=0);have h2:k*16<=16*16:=aU_ _ hk;unfold mr;omega
theorem Xk {G h hb:Hp} {C:Conf} {x:Nat} {av:Value} {A:List Cell} {r:Rg} {KK:EK} (d:Dis G h)
 (hx:∀hh,h.le hh->Dis G hh->bf G hh ⟨x,0,none⟩=some (.int .i64 C.w)/\bf G hh ⟨x,1,none⟩=some (.int .i64 C.h)) (ha:Sees dy G h av A) (hA:A.length<=100000) (ew:C.w=(wC C:Int)) (ek:C.h=(kC C:Int)) (w16:wC C<=16) (k16:kC C<=16)
 (g2:r 2 = .pointer (some ⟨x,0,none⟩)) (g5:r 5=av)
 (H:∀(r':Rg) (hh ip:Hp) (u:Value),Slc dy 28 ip u (mr (wC C) (kC C) A)->HL.Sep [ip,h] hh->Dis G hh->r' 7=u->Y9 G KK r' hh):Hj G KK r h:=by
 generalize hT:mr (wC C) (kC C) A=T at H;have hlenT:T.length<=256:=by rw [<- hT];exact J5 w16 k16
 unfold mr at hT;unfold Hj
 refine dt (fun m r h3=>∃(i:Nat) (ip:Hp) (u:Value) (M:List Cell),m=kC C-i/\i<=kC C/\r 2 = .pointer (some ⟨x,0,none⟩)/\r 5=av/\r 7=u/\r 8 = .int .i64 i/\Slc dy 28 ip u M/\M++ka (fun y=>i9 (fun x=>decide ((((x:Nat):Int),((y:Nat):Int))∈A)) (fun x=>(((x:Nat):Int),((y:Nat):Int))) 0 (wC C)) i (kC C-i)=T/\HL.Sep [ip,h] h3/\Dis G h3) ?_
  (m:=kC C) ⟨0,noHp,.slice none 0 0,[],rfl,au_ _,by simp (disch:=decide) only [gi,g2],by simp (disch:=decide) only [gi,g5],by simp (disch:=decide) only [gi],by simp only [gi]<;>rfl,Slc.nil,hT,Sep.one.none,d⟩
 rintro m r h3 ⟨i,ip,u,M,rfl,hi,q2,q5,q7,q8,o,hM,s3,d3⟩ X HX;have cx0:=(hx h3 (s3.in 1 rfl) d3).1;have cx1:=(hx h3 (s3.in 1 rfl) d3).2;unfold aQ9;simp only [gi,q2,q8,cx1,ek];refine df (fun hlt=>?_) (fun hge=>?_);rotate_left
 . obtain rfl:i=kC C:=by omega
   rw [Nat.sub_self]at hM;unfold ka at hM;rw [av_]at hM;subst hM;try simp (disch:=first|decide|omega) only [gi,Nat.reduceAdd,Nat.reduceMul]
   exact H _ _ ip u o s3 d3 (by simp (disch:=decide) only [gi,q7])
 have hlt':i<kC C:=by omega
 unfold Qj
 refine dt (fun m r2 h3=>∃(n:Nat) (ip:Hp) (u:Value) (M:List Cell),m=wC C-n/\n<=wC C/\r2 2 = .pointer (some ⟨x,0,none⟩)/\r2 5=av/\r2 7=u/\r2 8 = .int .i64 i/\r2 9 = .int .i64 n/\Slc dy 28 ip u M/\M++(i9 (fun x=>decide ((((x:Nat):Int),((i:Nat):Int))∈A)) (fun x=>(((x:Nat):Int),((i:Nat):Int))) n (wC C-n)++ka (fun y=>i9 (fun x=>decide ((((x:Nat):Int),((y:Nat):Int))∈A)) (fun x=>(((x:Nat):Int),((y:Nat):Int))) 0 (wC C)) (i+1) (kC C-(i+1)))=T/\HL.Sep [ip,h] h3/\Dis G h3) ?_
  (m:=wC C) ⟨0,ip,u,M,rfl,au_ _,by simp (disch:=decide) only [gi,q2],by simp (disch:=decide) only [gi,q5],by simp (disch:=decide) only [gi,q7],by simp (disch:=decide) only [gi,q8],by simp only [gi]<;>rfl,o,by rw [<- hM,show kC C-i=(kC C-(i+1))+1 by omega];rfl,s3,d3⟩
 clear q2 q5 q7 q8 o hM s3 d3 cx0 cx1;rintro m r2 h3 ⟨n,ip,u,M,rfl,hn,q2,q5,q7,q8,q9,o,hM,s3,d3⟩ X2 HX2;have cx0:=(hx h3 (s3.in 1 rfl) d3).1
 have hlenM:M.length<=256:=by
  have:M.length<=T.length:=by rw [<- hM,ae_];omega
  omega
 unfold Qh;simp only [gi,q2,q9,cx0,ew];refine df (fun hlt=>?_) (fun hge=>?_);rotate_left
 . obtain rfl:n=wC C:=by omega
   rw [Nat.sub_self,show ∀(p:Nat->Bool) (mk:Nat->Cell),i9 p mk (wC C) 0=[]from fun _ _=>rfl,a8_]at hM;try simp (disch:=first|decide|omega) only [gi,Nat.reduceAdd,Nat.reduceMul]
   unfold Qi;try simp (disch:=first|decide|omega) only [gi,q8]
   exact HX (kC C-(i+1)) _ _ (by omega) ⟨i+1,ip,u,M,rfl,hlt',by simp (disch:=decide) only [gi,q2],by simp (disch:=decide) only [gi,q5],by simp (disch:=decide) only [gi,q7],by simp only [gi]<;>rfl,o,hM,s3,d3⟩
 have hnw:n<wC C:=by omega
 rw [show wC C-n=(wC C-(n+1))+1 by omega,Ci]at hM;unfold Gg;try simp (disch:=decide) only [gi,q5,q8,q9]
 refine (qz (c:=((n:Int),(i:Int))) (ha.up (s3.in 1 rfl) d3) (by omega)).mono ?_;rintro _ h3 ⟨rfl,rfl⟩
 have next:∀(r3:Rg) (h5 ip:Hp) (u:Value) (M:List Cell),r3 2=r2 2->r3 5=r2 5->r3 7=u->r3 8=r2 8->r3 9=r2 9->Slc dy 28 ip u M->M++(i9 (fun x=>decide ((((x:Nat):Int),((i:Nat):Int))∈A)) (fun x=>(((x:Nat):Int),((i:Nat):Int))) (n+1) (wC C-(n+1))++ka (fun y=>i9 (fun x=>decide ((((x:Nat):Int),((y:Nat):Int))∈A)) (fun x=>(((x:Nat):Int),((y:Nat):Int))) 0 (wC C)) (i+1) (kC C-(i+1)))=T->HL.Sep [ip,h] h5->Dis G h5->
  ∀KK,uv G (di X2 KK) r3 h5:=by intro r3 h5 ip u M v2 v5 v7 v8 v9 o5 hM5 s5 d5 KK;unfold uv;have v9':=v9.trans q9;simp (disch:=first|decide|omega) only [gi,v9'];exact HX2 (wC C-(n+1)) _ _ (by omega) ⟨n+1,ip,u,M,rfl,hnw,by simp (disch:=decide) only [gi,v2,q2],by simp (disch:=decide) only [gi,v5,q5],by simp (disch:=decide) only [gi,v7],by simp (disch:=decide) only [gi,v8,q8],by simp only [gi]<;>rfl,o5,hM5,s5,d5⟩
 by_cases hb:((n:Int),(i:Int))∈A
 . have hc:((A.count ((n:Int),(i:Int)):Nat):Int)>0:=by have:=List.count_pos_iff.2 hb;omega
   rw [ak_ (af_ hb),b0_]at hM;try simp only [gi,af_ hc,q7,q8,q9]
   intro b hbb gb;have s5:=s3.past (o:=ad6 ((n:Int),(i:Int))) hbb;have d5:=d3.set (o:=ad6 ((n:Int),(i:Int))) gb;have hb5:(h3.set b (ad6 ((n:Int),(i:Int)))) b=some (ad6 ((n:Int),(i:Int))):=bh;generalize Hp.set h3 b _=h5 at s5 d5 hb5 ⊢;refine fh dy (by decide) un22 eocell (by decide) (by decide) (M:=[((n:Int),(i:Int))]) s5 d5 o (Sees.row (c:=dy) (L:=[((n:Int),(i:Int))]) hb5 rfl (aj_ _)) (by simp;omega) fun v6 a6 h6 o6 s6 d6=>?_;exact next _ _ a6 v6 (M++[((n:Int),(i:Int))]) (by simp (disch:=decide) only [gi]) (by simp (disch:=decide) only [gi]) (by simp only [gi]) (by simp (disch:=decide) only [gi]) (by simp (disch:=decide) only [gi]) o6 (by rw [aC_];exact hM) s6 d6 _
 . have hc:¬(((A.count ((n:Int),(i:Int)):Nat):Int)>0):=by have:=bp_.2 hb;omega
   rw [ah_ (by simpa using hb)]at hM;try simp only [gi,ai_ hc]
   exact next _ _ ip u M (by simp (disch:=decide) only [gi]) (by simp (disch:=decide) only [gi]) (by simp (disch:=decide) only [gi,q7]) (by simp (disch:=decide) only [gi]) (by simp (disch:=decide) only [gi]) o hM s3 d3 _
theorem Um {G h:Hp} {v:Value} {C:Conf} {m:Move} (hv:CV G h v C) (hL:C.bl.length<=100000000000000) (ew:C.w=(wC C:Int)) (ek:C.h=(kC C:Int)) (w16:wC C<=16) (k16:kC C<=16):bn P_ G 48 #[v,E7 m] h (fun u h'=>∃ip,Slc dy 28 ip u (gk C m)/\HL.Sep [ip,h] h'/\Dis G h'):=by
 have hv0:=hv;obtain ⟨ab,cb,ap,cp,ar,cr,az,cs,rfl,ca⟩:=hv;refine bn.assume fun d=>enter48 (by simp) ?_;unfold S48;simp only [gi];intro x hx gx;generalize e1:Hp.set h x _=h1;obtain ⟨l1,d1,b1⟩:=boxed e1 hx d gx;intro y hy gy;generalize e2:Hp.set h1 y _=h2;obtain ⟨l2,d2,b2⟩:=boxed e2 hy d1 gy;have cx:∀j,bf G h2 ⟨x,j,none⟩=_:=fun j=>bm (bj (l2 _ _ b1));have cy:∀j,bf G h2 ⟨y,j,none⟩=_:=fun j=>bm (bj b2);have l02:=l1.trans l2;try simp only [gi,cx,cy]
 refine (A5 (m:=m) (hv0.up l02 d2) hL).mono ?_;rintro _ h2 ⟨rfl,rfl⟩;cases hl:gf C m with
 |false=>
  try simp only [gi]
  refine ⟨noHp,?_,((Sep.one (h:=h2)).cut l02).none,d2⟩;unfold gk;rw [hl];exact Slc.nil
 |true=>
 try simp only [gi]
 unfold aR0;generalize hKK:retK P_ G _ _=KK
 have fin:∀(hh:Hp) (av:Value) (A:List Cell) (r:Rg),h2.le hh->Dis G hh->Sees dy G hh av A->A.length<=100000->A=qh m->r 2 = .pointer (some ⟨x,0,none⟩)->r 5=av->Hj G KK r hh:=by
  intro hh av A r l dd ha hA eA g2 g5;refine Xk (hb:=h) dd (fun h3 l3 d3=>?_) ha hA ew ek w16 k16 g2 g5 fun r' h3 ip u o s3 d3 g7=>?_
  . have b3:=l3 _ _ (l _ _ (l2 _ _ b1));exact ⟨bm (bj b3),bm (bj b3)⟩
  . unfold Y9;rw [<- hKK];try simp only [gi,g7]
    refine ⟨ip,?_,((s3.pick 1 rfl rfl).cut (l02.trans l)).pick 1 rfl rfl,d3⟩;unfold gk;rw [hl,ak_ rfl,<- eA];exact o
 have hlg:=hl;unfold gf at hlg;rw [ag_]at hlg;by_cases hk1:(m.k==1)=true
 . have ek1:m.k=1:=eq_of_beq hk1;rw [ak_ ek1,ag_]at hlg;have hn:=gh.1 hlg.2.1;have eA:qh m=(List.range (m.n.toNat+1)).flatMap (fun (i:Nat)=>dj (dv m.f m.d i)):=by unfold qh;rw [ak_ ek1]
   try simp (disch:=decide) only [gi,Nat.reduceAdd,cy,hk1]
   refine dt (fun mm r h3=>∃(i:Nat) (ip:Hp) (u:Value),mm=m.n.toNat+1-i/\i<=m.n.toNat+1/\r 2 = .pointer (some ⟨x,0,none⟩)/\r 3 = .pointer (some ⟨y,0,none⟩)/\r 5=u/\r 6 = .int .i64 i/\Slc dy 28 ip u ((List.range i).flatMap (fun (i:Nat)=>dj (dv m.f m.d i)))/\HL.Sep [ip,h2] h3/\Dis G h3) ?_
    (m:=m.n.toNat+1) ⟨0,noHp,.slice none 0 0,rfl,au_ _,by simp (disch:=decide) only [gi],by simp (disch:=decide) only [gi],by simp (disch:=decide) only [gi],by simp only [gi]<;>rfl,Slc.nil,Sep.one.none,d2⟩
   rintro mm r h3 ⟨i,ip,u,rfl,hi,q2,q3,q5,q6,o,s3,d3⟩ X HX;have l3:=s3.in 1 rfl;have cy3:∀j,bf G h3 ⟨y,j,none⟩=_:=fun j=>bm (bj (l3 _ _ b2));have hlen:=K7 (D:=fun (i:Nat)=>dj (dv m.f m.d i)) (fun i=>rfl) i;unfold ae6;simp only [gi,q3,q6,cy3];refine df (fun hlt=>?_) (fun hge=>?_)
   . unfold I0;try simp (disch:=decide) only [gi,Nat.reduceAdd,q3,q6,cy3]
     refine (wg (p:=m.f) (dir:=m.d) (n:=(i:Int))).mono ?_;rintro _ h3 ⟨rfl,rfl⟩;try simp (disch:=first|decide|omega) only [gi,Nat.reduceAdd,Nat.reduceMul]
     refine (ny (p:=dv m.f m.d i)).mono ?_;rintro _ _ ⟨b,rfl,hb,gb,rfl⟩;have s4:=s3.past (o := .cells #[(dv m.f m.d i).x,(dv m.f m.d i).y,(east (dv m.f m.d i)).1,(east (dv m.f m.d i)).2] 28 (0,0)) hb;have d4:=d3.set (o := .cells #[(dv m.f m.d i).x,(dv m.f m.d i).y,(east (dv m.f m.d i)).1,(east (dv m.f m.d i)).2] 28 (0,0)) gb;have b4:(h3.set b (.cells #[(dv m.f m.d i).x,(dv m.f m.d i).y,(east (dv m.f m.d i)).1,(east (dv m.f m.d i)).2] 28 (0,0))) b=_:=bh;generalize Hp.set h3 b _=h4 at s4 d4 b4 ⊢;try simp only [gi,q5]
     refine fh dy (by decide) un22 eocell (by decide) (by decide) (M:=dj (dv m.f m.d i)) s4 d4 o (Sees.row (c:=dy) (L:=dj (dv m.f m.d i)) b4 rfl (aj_ _)) (by rw [hlen,show (dj (dv m.f m.d i)).length=2 from rfl];omega) fun v5 a5 h5 o5 s5 d5=>?_;unfold Iz;try simp (disch:=first|decide|omega) only [gi,q6]
     exact HX (m.n.toNat+1-(i+1)) _ _ (by omega) ⟨i+1,a5,v5,rfl,by omega,by simp (disch:=decide) only [gi,q2],by simp (disch:=decide) only [gi,q3],by simp (disch:=decide) only [gi],by simp only [gi]<;>rfl,by rw [bO_,be_];simpa using o5,s5,d5⟩
   . obtain rfl:i=m.n.toNat+1:=by omega
     try simp (disch:=first|decide|omega) only [gi,Nat.reduceAdd,Nat.reduceMul]
     exact fin _ u _ _ l3 d3 (o.sees (by decide) (s3.in 0 rfl)) (by rw [hlen];omega) eA.symm (by simp (disch:=decide) only [gi,q2]) (by simp (disch:=decide) only [gi,q5])
 have hk1':(m.k==1)=false:=by simpa using hk1
 have nk1:¬m.k=1:=fun e=>hk1 (by rw [e];rfl);by_cases hk2:(m.k==2)=true
 . have ek2:m.k=2:=eq_of_beq hk2;try simp (disch:=decide) only [gi,Nat.reduceAdd,cy,hk1',hk2]
   refine (Eu (p:=m.f)).mono ?_;rintro _ h3 ⟨ip,sl,rfl,o,s3,d3⟩;try simp (disch:=first|decide|omega) only [gi,Nat.reduceAdd,Nat.reduceMul]
   exact fin _ _ (gj (m.f.x,m.f.y)) _ (s3.in 1 rfl) d3 (o.sees (by decide) (s3.in 0 rfl)) (by simp [gj]) (by unfold qh;rw [ah_ nk1,ak_ ek2]) (by simp (disch:=decide) only [gi]) (by simp only [gi])
 have hk2':(m.k==2)=false:=by simpa using hk2
 have nk2:¬m.k=2:=fun e=>hk2 (by rw [e];rfl);try simp (disch:=decide) only [gi,Nat.reduceAdd,cy,hk1',hk2']
 refine (ny (p:=m.f)).mono ?_;rintro _ _ ⟨b,rfl,hb,gb,rfl⟩;try simp (disch:=first|decide|omega) only [gi,Nat.reduceAdd,Nat.reduceMul]
 exact fin _ _ (dj m.f) _ (dw hb) (d2.set gb) (Sees.row (c:=dy) (L:=dj m.f) bh rfl (aj_ _)) (by simp [dj]) (by unfold qh;rw [ah_ nk1,ah_ nk2]) (by simp (disch:=decide) only [gi]) (by simp only [gi]<;>rfl)
theorem rway_eq {C:Conf} {m:Move} (hp:PB m.f) (hl:gf C m=true):qh m=wayL m:=by
 unfold qh wayL;by_cases h1:m.k=1
 . rw [ak_ h1,ak_ h1];unfold gf at hl;rw [ag_,ak_ h1]at hl;simp only [ag_]at hl;have hd:=gh.1 hl.2.2.1;congr 1;funext i;rw [xy hp hd]
 . rw [ah_ h1,ah_ h1]
theorem av4 {C:Conf} (mk:dx C) {m:Move} (hp:PB m.f):me (wC C) (kC C) (f3C C) m=gk C m:=by
 unfold me gk;rw [Vi mk hp];cases hl:gf C m with
 |false=>rfl
 |true=>rw [ak_ rfl,ak_ rfl,rway_eq hp hl]
section
variable {C:Conf}
theorem H5 {α:Type} {ok:Nat->Bool} {mk:Nat->α} {x:α}:∀{k n:Nat},x∈jm ok mk n k↔∃j,n<=j/\j<n+k/\x=mk j/\∀i,n<=i->i<=j->ok i=true
 |0,n=>by unfold jm;simp only [aK_,false_iff];rintro ⟨j,h1,h2,_⟩;omega
 |k+1,n=>by
  unfold jm;cases hb:ok n with
  |false=>simp only [aI_,if_false,aK_,false_iff];rintro ⟨j,h1,h2,_,h⟩;have:=h n (aj_ _) h1;rw [hb]at this;cases this
  |true=>
   simp only [if_true,al_];rw [H5];constructor
   . rintro (rfl|⟨j,h1,h2,rfl,h⟩)
     . exact ⟨n,aj_ _,by omega,rfl,fun i a b=>by obtain rfl:i=n:=by omega
                                                 exact hb⟩
     . exact ⟨j,by omega,by omega,rfl,fun i a b=>by
        by_cases hi:i=n
        . subst hi;exact hb
        . exact h i (by omega) b⟩
   . rintro ⟨j,h1,h2,rfl,h⟩;by_cases hj:j=n
     . subst hj;exact .inl rfl
     . exact .inr ⟨j,by omega,by omega,rfl,fun i a b=>h i (by omega) b⟩
theorem O0 {α:Type} {D:Nat->List α} {x:α}:∀{k i:Nat},x∈ka D i k↔∃j,i<=j/\j<i+k/\x∈D j
 |0,i=>by unfold ka;simp only [aK_,false_iff];rintro ⟨j,h1,h2,_⟩;omega
 |k+1,i=>by
  unfold ka;rw [ao_,O0];constructor
  . rintro (h|⟨j,h1,h2,h⟩)
    . exact ⟨i,aj_ _,by omega,h⟩
    . exact ⟨j,by omega,by omega,h⟩
  . rintro ⟨j,h1,h2,h⟩;by_cases hj:j=i
    . subst hj;exact .inl h
    . exact .inr ⟨j,by omega,by omega,h⟩
theorem az0 {p:Pose} {d:Nat} {x:Move} (h:x∈Kh C p d):∃n,1<=n/\n<17/\x=mkR p d n/\gf C x=true:=by obtain ⟨n,h1,h2,rfl,h3⟩:=H5.1 h;exact ⟨n,h1,by omega,rfl,h3 n h1 (aj_ _)⟩
theorem zl {m:Move} (h:gf C m=true):fu C m.f=true:=by unfold gf at h;exact (ag_ _ _▸h).1
end
section
variable {C:Conf}
def pf (m:Move):Move:=⟨m.k,if m.k=1 then (m.d+2).tmod 4 else m.d,m.n,m.t,m.f,m.a,m.e⟩
theorem E1 {p q:Pose} (h1:p.x=q.x) (h2:p.y=q.y) (h3:p.d=q.d):p=q:=by cases p;cases q;simp_all
theorem Jj (mk:dx C) {c:Cell} (h:oy C c=true):(0<=c.1/\c.1<wC C/\0<=c.2/\c.2<kC C)/\c.1<16/\c.2<16:=by obtain ⟨e1,e2,_,w2,_,k2⟩:=uy mk.laid.w mk.laid.h;unfold oy inB at h;simp only [ag_,aw_,ge_iff_le]at h;omega
theorem wr_s {x:Int} (h : -100<=x/\x<=100):wr x=x:=Ob (by unfold Bd;omega)
theorem vf {p:Pose} {d n:Int} (hx:0<=p.x/\p.x<16) (hy:0<=p.y/\p.y<16) (hn:0<=n/\n<=16):
 (dv p d n).x=(if d=1 then p.x+n else if d=3 then p.x-n else p.x)/\(dv p d n).y=(if d=0 then p.y-n else if d=2 then p.y+n else p.y)/\(dv p d n).d=p.d:=by unfold dv;rw [wr_s (x:=p.x+n) (by omega),wr_s (x:=p.x-n) (by omega),wr_s (x:=p.y-n) (by omega),wr_s (x:=p.y+n) (by omega)];exact ⟨rfl,rfl,rfl⟩
theorem Y0 {p:Pose} {d n i:Int} (hx:0<=p.x/\p.x<16) (hy:0<=p.y/\p.y<16) (hd:0<=d/\d<=3) (hn:0<=n/\n<=16) (hi:0<=i/\i<=n) (tx:0<=(dv p d n).x/\(dv p d n).x<16) (ty:0<=(dv p d n).y/\(dv p d n).y<16):
 dv (dv p d n) ((d+2).tmod 4) i=dv p d (n-i):=by
 obtain ⟨a1,a2,a3⟩:=vf (d:=(d+2).tmod 4) (n:=i) tx ty (by omega);obtain ⟨b1,b2,b3⟩:=vf (d:=d) (n:=n) hx hy hn;obtain ⟨c1,c2,c3⟩:=vf (d:=d) (n:=n-i) hx hy (by omega);have hd4:d=0\/d=1\/d=2\/d=3:=by omega
 refine E1 ?_ ?_ (by rw [a3,b3,c3])
 . rw [a1,b1,c1];rcases hd4 with rfl|rfl|rfl|rfl<;>simp [show ((0:Int)+2).tmod 4=2 from rfl,show ((1:Int)+2).tmod 4=3 from rfl,show ((2:Int)+2).tmod 4=0 from rfl,show ((3:Int)+2).tmod 4=1 from rfl]<;>omega
 . rw [a2,b2,c2];rcases hd4 with rfl|rfl|rfl|rfl<;>simp [show ((0:Int)+2).tmod 4=2 from rfl,show ((1:Int)+2).tmod 4=3 from rfl,show ((2:Int)+2).tmod 4=0 from rfl,show ((3:Int)+2).tmod 4=1 from rfl]<;>omega
theorem Q3 {w k:Nat} {W V:List Cell} (h:∀x,x∈W↔x∈V):mr w k W=mr w k V:=
 Ki (n:=numW w) uq uq fun x=>by rw [ra,ra,h]
theorem px {L:List Cell} {a b c:Cell} (ha:a∈L) (hb:b∈L) (hc:c∈L) (ab:a≠b) (ac:a≠c) (bc:b≠c):3<=L.length:=by
 match L,ha,hb,hc with
 |[],ha,_,_=>cases ha
 |[x],ha,hb,_=>simp at ha hb;exact absurd (ha.trans hb.symm) ab
 |[x,y],ha,hb,hc=>simp at ha hb hc;rcases ha with rfl|rfl<;>rcases hb with rfl|rfl<;>rcases hc with rfl|rfl<;>first|exact absurd rfl ab|exact absurd rfl ac|exact absurd rfl bc
 |x::y::z::L,_,_,_=>simp
theorem wv (mk:dx C) {p:Pose} (h:fu C p=true):(0<=p.x/\p.x<16)/\(0<=p.y/\p.y<16):=by unfold fu at h;rw [ag_]at h;have:=Jj mk h.1;simp only at this;omega
theorem Kg (mk:dx C) {m:Move} (hl:gf C m=true) (h1:m.k=1):1<=m.n/\m.n<=16/\(0<=m.d/\m.d<=3)/\m.t=dv m.f m.d m.n/\∀i:Int,0<=i->i<=m.n->fu C (dv m.f m.d i)=true:=by
 have hf:=zl hl;unfold gf at hl;rw [hf,aH_,ak_ h1]at hl;simp only [ag_,aw_,az_,aM_]at hl;obtain ⟨hn,hd,ht,hs⟩:=hl;obtain ⟨n1,n2⟩:=gh.1 hn;refine ⟨n1,n2,gh.1 hd,ht,fun i h0 hi=>?_⟩;by_cases hz:i=0
 . subst hz;obtain ⟨fx,fy⟩:=wv mk hf;obtain ⟨a1,a2,a3⟩:=vf (d:=m.d) (n:=0) fx fy (by omega);rw [show dv m.f m.d 0=m.f from E1 (by rw [a1];simp) (by rw [a2];simp) a3];exact hf
 . have:=hs (i-1).toNat (by omega);unfold vg at this;rw [show (((i-1).toNat:Nat):Int)+1=i by omega]at this;exact this
theorem aN1 (mk:dx C) {m:Move} (hl:gf C m=true) (h1:m.k=1):gf C (pf m)=true/\gk C m=gk C (pf m)/\fu C m.t=true/\3<=(gk C m).length:=by
 obtain ⟨n1,n2,hd,ht,hs⟩:=Kg mk hl h1;have hf:=zl hl;obtain ⟨fx,fy⟩:=wv mk hf;have hft:fu C m.t=true:=by rw [ht];exact hs m.n (by omega) (aS_ _)
 obtain ⟨tx,ty⟩:=wv mk hft;have hbs:∀i:Int,0<=i->i<=m.n->dv m.t ((m.d+2).tmod 4) i=dv m.f m.d (m.n-i):=fun i h0 hi=>by have tx':=tx;have ty':=ty;rw [ht]at tx' ty';rw [ht];exact Y0 fx fy hd (by omega) ⟨h0,hi⟩ tx' ty'
 have ed:(pf m).d=(m.d+2).tmod 4:=by unfold pf;simp only [ak_ h1]
 have hd':0<=(m.d+2).tmod 4/\(m.d+2).tmod 4<=3:=by
  have hd4:m.d=0\/m.d=1\/m.d=2\/m.d=3:=by omega
  rcases hd4 with e|e|e|e<;>rw [e]<;>decide
 have e0:dv m.f m.d (m.n-m.n)=m.f:=by rw [Int.sub_self];obtain ⟨a1,a2,a3⟩:=vf (d:=m.d) (n:=0) fx fy (by omega);exact E1 (by rw [a1];simp) (by rw [a2];simp) a3
 have hlb:gf C (pf m)=true:=by
  unfold gf;rw [ak_ (show (pf m).k=1 from h1),ed];simp only [ag_,aw_,az_,aM_];refine ⟨hft,gh.2 ⟨n1,n2⟩,gh.2 hd',?_,fun i hi=>?_⟩
  . show m.f=dv m.t ((m.d+2).tmod 4) m.n;rw [hbs m.n (by omega) (aS_ _),e0]
  . have hi':i<m.n.toNat:=hi;unfold vg;rw [ed];show fu C (dv m.t _ ((i:Int)+1))=true;rw [hbs _ (by omega) (by omega)];exact hs _ (by omega) (by omega)
 have mem1:∀x,x∈qh m↔∃i:Nat,i<=m.n.toNat/\x∈dj (dv m.f m.d i):=fun x=>by
  unfold qh;rw [ak_ h1,aY_];constructor
  . rintro ⟨i,hi,hx⟩;exact ⟨i,by have:=aM_.1 hi;omega,hx⟩
  . rintro ⟨i,hi,hx⟩;exact ⟨i,aM_.2 (by omega),hx⟩
 have mem2:∀x,x∈qh (pf m)↔∃i:Nat,i<=m.n.toNat/\x∈dj (dv m.t ((m.d+2).tmod 4) i):=fun x=>by
  unfold qh;rw [ak_ (show (pf m).k=1 from h1),ed,aY_];constructor
  . rintro ⟨i,hi,hx⟩;exact ⟨i,by have:i<m.n.toNat+1:=aM_.1 hi;omega,hx⟩
  . rintro ⟨i,hi,hx⟩;exact ⟨i,aM_.2 (show i<m.n.toNat+1 by omega),hx⟩
 refine ⟨hlb,?_,hft,?_⟩
 . unfold gk;rw [ak_ hl,ak_ hlb];refine Q3 fun x=>?_;rw [mem1,mem2];constructor
   . rintro ⟨i,hi,hx⟩;refine ⟨m.n.toNat-i,by omega,?_⟩;rw [hbs _ (by omega) (by omega),show m.n-((m.n.toNat-i:Nat):Int)=(i:Int)by omega];exact hx
   . rintro ⟨i,hi,hx⟩;refine ⟨m.n.toNat-i,by omega,?_⟩;rw [hbs _ (by omega) (by omega)]at hx;rw [show ((m.n.toNat-i:Nat):Int)=m.n-(i:Int)by omega];exact hx
 . unfold gk;rw [ak_ hl]
   have hin:∀(i:Nat) (x:Cell),i<=m.n.toNat->x∈dj (dv m.f m.d i)->x∈mr (wC C) (kC C) (qh m):=fun i x hi hx=>by
    rw [ra];have hfi:=hs i (by omega) (by omega);unfold fu at hfi;rw [ag_]at hfi;refine ⟨?_,(mem1 x).2 ⟨i,hi,hx⟩⟩;simp only [dj,al_,aK_,or_false]at hx;rcases hx with rfl|rfl
    . exact (Jj mk hfi.1).1
    . exact (Jj mk hfi.2).1
   have z0:dv m.f m.d ((0:Nat):Int)=m.f:=by obtain ⟨a1,a2,a3⟩:=vf (d:=m.d) (n:=((0:Nat):Int)) fx fy (by omega);exact E1 (by rw [a1];simp) (by rw [a2];simp) a3
   obtain ⟨a1,a2,a3⟩:=vf (d:=m.d) (n:=1) fx fy (by omega);have eA:east m.f=if m.f.d=true then (m.f.x,m.f.y+1)else (m.f.x+1,m.f.y):=by unfold east;rw [wr_s (by omega),wr_s (by omega)]
   have h1f:=hs 1 (by omega) (by omega);obtain ⟨sx,sy⟩:=wv mk h1f;have eB:east (dv m.f m.d 1)=if m.f.d=true then ((dv m.f m.d 1).x,(dv m.f m.d 1).y+1)else ((dv m.f m.d 1).x+1,(dv m.f m.d 1).y):=by unfold east;rw [wr_s (by omega),wr_s (by omega),a3]
   have c0:(m.f.x,m.f.y)∈mr (wC C) (kC C) (qh m):=hin 0 _ (by omega) (by rw [z0];exact .head _);have c1:east m.f∈mr (wC C) (kC C) (qh m):=hin 0 _ (by omega) (by rw [z0];exact .tail _ (.head _));have c2:((dv m.f m.d 1).x,(dv m.f m.d 1).y)∈mr (wC C) (kC C) (qh m):=hin 1 _ (by omega) (.head _);have c3:east (dv m.f m.d 1)∈mr (wC C) (kC C) (qh m):=hin 1 _ (by omega) (.tail _ (.head _));rw [eA]at c1;rw [eB]at c3;rw [a1,a2]at c2 c3;have hd4:m.d=0\/m.d=1\/m.d=2\/m.d=3:=by omega
   cases hdn:m.f.d with
   |false=>
    rw [hdn]at c1 c3;simp only [aI_,if_false]at c1 c3;rcases hd4 with e|e|e|e<;>simp only [e]at c2 c3
    . exact px c0 c1 c2 (by simp<;>omega) (by simp<;>omega) (by simp<;>omega)
    . exact px c0 c1 c3 (by simp<;>omega) (by simp<;>omega) (by simp<;>omega)
    . exact px c0 c1 c2 (by simp<;>omega) (by simp<;>omega) (by simp<;>omega)
    . exact px c0 c1 c2 (by simp<;>omega) (by simp<;>omega) (by simp<;>omega)
   |true=>
    rw [hdn]at c1 c3;simp only [if_true]at c1 c3;rcases hd4 with e|e|e|e<;>simp only [e]at c2 c3
    . exact px c0 c1 c2 (by simp<;>omega) (by simp<;>omega) (by simp<;>omega)
    . exact px c0 c1 c2 (by simp<;>omega) (by simp<;>omega) (by simp<;>omega)
    . exact px c0 c1 c3 (by simp<;>omega) (by simp<;>omega) (by simp<;>omega)
    . exact px c0 c1 c2 (by simp<;>omega) (by simp<;>omega) (by simp<;>omega)
theorem au7 (mk:dx C) {m:Move} (hl:gf C m=true) (h2:m.k=2):gf C (pf m)=true/\gk C m=gk C (pf m)/\fu C m.t=true/\3<=(gk C m).length:=by
 have h1:¬m.k=1:=by omega
 have hf:=zl hl;obtain ⟨fx,fy⟩:=wv mk hf;have hl0:=hl;unfold gf at hl0;rw [hf,aH_,ah_ h1,ak_ h2]at hl0;simp only [ag_,aw_,az_]at hl0;obtain ⟨hs,hn,hd,ht⟩:=hl0;have e1:gj (m.f.x,m.f.y)=[(m.f.x,m.f.y),(m.f.x+1,m.f.y),(m.f.x,m.f.y+1),(m.f.x+1,m.f.y+1)]:=by unfold gj;simp only;rw [wr_s (by omega),wr_s (by omega)]
 have hft:fu C m.t=true:=by
  rw [ht];unfold fu east Av;simp only [ag_];rw [e1]at hs;refine ⟨hs _ (.head _),?_⟩;cases hdn:m.f.d with
  |false=>simp only [bL_,if_true];rw [wr_s (by omega)];exact hs _ (.tail _ (.tail _ (.head _)))
  |true=>simp only [bW_,aI_,if_false];rw [wr_s (by omega)];exact hs _ (.tail _ (.head _))
 have etx:m.t.x=m.f.x/\m.t.y=m.f.y:=by rw [ht];exact ⟨rfl,rfl⟩
 have hlb:gf C (pf m)=true:=by
  unfold gf;rw [ah_ (show ¬(pf m).k=1 from h1),ak_ (show (pf m).k=2 from h2)];simp only [ag_,aw_,az_];refine ⟨hft,?_,hn,?_,?_⟩
  . show ∀x∈gj (m.t.x,m.t.y),_;rw [etx.1,etx.2];exact hs
  . show (if m.k=1 then _ else m.d)=0;rw [ah_ h1];exact hd
  . show m.f=Av m.t;rw [ht];unfold Av;simp
 refine ⟨hlb,?_,hft,?_⟩
 . unfold gk;rw [ak_ hl,ak_ hlb];unfold qh;rw [ah_ h1,ak_ h2,ah_ (show ¬(pf m).k=1 from h1),ak_ (show (pf m).k=2 from h2)];show _=mr _ _ (gj (m.t.x,m.t.y));rw [etx.1,etx.2]
 . unfold gk qh;rw [ak_ hl,ah_ h1,ak_ h2];have hin:∀x∈gj (m.f.x,m.f.y),x∈mr (wC C) (kC C) (gj (m.f.x,m.f.y)):=fun x hx=>by rw [ra];exact ⟨(Jj mk (hs x hx)).1,hx⟩
   rw [e1]at hin ⊢;exact px (hin _ (.head _)) (hin _ (.tail _ (.head _))) (hin _ (.tail _ (.tail _ (.head _)))) (by simp;omega) (by simp;omega) (by simp;omega)
theorem W1 (mk:dx C) {p:Pose} (hp:PB p) {m:Move} (h:m∈jn C p):m.f=p/\MB m/\MB (pf m)/\(m.k=1\/m.k=2)/\(m.k=1->0<=m.d/\m.d<=3)/\gf C m=true/\gf C (pf m)=true/\gk C m=gk C (pf m)/\fu C m.t=true/\3<=(gk C m).length:=by
 have key:m.f=p/\gf C m=true/\(m.k=1\/m.k=2):=by
  unfold jn at h;split at h
  . rcases ao_.1 h with h|h
    . obtain ⟨j,_,_,hj⟩:=O0.1 h;obtain ⟨n,_,_,e1,e2⟩:=az0 hj;exact ⟨by rw [e1];rfl,e2,.inl (by rw [e1];rfl)⟩
    . split at h
      . rename_i hl;simp at h;exact ⟨by rw [h];rfl,by rw [h];exact hl,.inr (by rw [h];rfl)⟩
      . cases h
  . cases h
 obtain ⟨ef,hl,hk⟩:=key
 have hall:gf C (pf m)=true/\gk C m=gk C (pf m)/\fu C m.t=true/\3<=(gk C m).length:=by
  rcases hk with hk|hk
  . exact aN1 mk hl hk
  . exact au7 mk hl hk
 have hn:Bd m.n:=by
  rcases hk with hk|hk
  . obtain ⟨n1,n2,_⟩:=Kg mk hl hk;unfold Bd;omega
  . have hl0:=hl;unfold gf at hl0;rw [ah_ (by omega),ak_ hk]at hl0;simp only [ag_,aw_]at hl0;rw [hl0.2.2.1];unfold Bd;omega
 obtain ⟨tx,ty⟩:=wv mk hall.2.2.1;refine ⟨ef,⟨hn,by rw [ef];exact hp⟩,⟨hn,⟨by show Bd m.t.x;unfold Bd;omega,by show Bd m.t.y;unfold Bd;omega⟩⟩,hk,fun hk1=>(Kg mk hl hk1).2.2.1,hl,hall.1,hall.2.1,hall.2.2.1,hall.2.2.2⟩
end
end Go.Proofs.YtfflipnhffknnaaGreatDoor
end
section
namespace Go.Proofs.YtfflipnhffknnaaGreatDoor
open Go Go.HL Go.Proofs.Resv Go.Proofs.Srch
section
abbrev envC (C:Conf) (T:Tb) (r:Int):Env Pose Move:=envE C (wC C) (kC C) (f3C C) T r
variable {C:Conf}
theorem Jp (mk:dx C) {T:Tb} (gt:i7 T) {r:Int}:rt (envC C T r):=aF3 (q:=⟨C,wC C,kC C,f3C C,T,r⟩) mk gt
theorem Eo {T:Tb} {r:Int} {p:Pose} {w:Move × Pose × Int × List Sp} (h:w∈(envC C T r).ways p):∃m∈ml (wC C) (kC C) (f3C C) p,w=wayE C (wC C) (kC C) (f3C C) T r m:=by obtain ⟨m,hm,rfl⟩:=ba_.1 h;exact ⟨m,hm,rfl⟩
theorem Fi (mk:dx C) {p:Pose} (h:fu C p=true):PB p:=by obtain ⟨a,b⟩:=wv mk h;exact ⟨by unfold Bd;omega,by unfold Bd;omega⟩
theorem Kt (mk:dx C) {p:Pose} {m:Move} (h:m∈ml (wC C) (kC C) (f3C C) p):fu C p=true/\m∈jn C p/\m.f=p/\MB m/\MB (pf m)/\(m.k=1\/m.k=2)/\(m.k=1->0<=m.d/\m.d<=3)/\gf C m=true/\gf C (pf m)=true/\gk C m=gk C (pf m)/\fu C m.t=true/\me (wC C) (kC C) (f3C C) m=gk C m:=by
 have hf:fu C p=true:=by
  unfold ml at h;split at h
  . rename_i h1;rw [qm mk]at h1;exact h1
  . cases h
 have hp:=Fi mk hf;rw [E6 mk hp]at h;obtain ⟨e1,e2,e3,e4,e5,e6,e7,e8,e9,_⟩:=W1 mk hp h;exact ⟨hf,h,e1,e2,e3,e4,e5,e6,e7,e8,e9,av4 mk (by rw [e1];exact hp)⟩
theorem wu (mk:dx C) {p:Pose} (h:fu C p=true):∀c∈dj p,inW (wC C) (kC C) c=true:=fun c hc=>(qx (by rw [qm mk];exact h) c hc).1
theorem Jy (mk:dx C):C.w=(wC C:Int)/\C.h=(kC C:Int)/\1<=wC C/\wC C<=16/\1<=kC C/\kC C<=16:=by have hb:=(E9.1 mk).nums;unfold qj at hb;simp only [ag_]at hb;exact uy (by simp_all) (by simp_all)
theorem wr16 {x:Int} (h:0<=x/\x<16):wr x=x:=Ob (by unfold Bd;omega)
theorem J6 (mk:dx C) {m:Move} (hl:gf C m=true) (hk:m.k=1\/m.k=2):∀c∈dj m.f,c∈gk C m:=by
 have hf:=zl hl;have hin:=wu mk hf;intro c hc;have h0:=jr.1 (hin c hc);unfold gk;rw [ak_ hl,ra];refine ⟨by omega,?_⟩;unfold qh;by_cases h1:m.k=1
 . rw [ak_ h1,aY_];refine ⟨0,by simp,?_⟩;have e:dv m.f m.d ((0:Nat):Int)=m.f:=by obtain ⟨ha,hb⟩:=wv mk hf;unfold dv;simp [wr16 ha,wr16 hb]
   rw [e];exact hc
 . have h2:m.k=2:=by omega
   rw [ah_ h1,ak_ h2];rcases al_.1 hc with rfl|hc
   . simp [gj]
   . rw [aE_]at hc;subst hc;unfold east gj;split<;>simp
theorem Dm (mk:dx C) {p:Pose} {m:Move} (h:m∈ml (wC C) (kC C) (f3C C) p):(∀c∈dj p,c∈me (wC C) (kC C) (f3C C) m)/\(∀c∈dj m.t,c∈me (wC C) (kC C) (f3C C) m)/\∀c∈me (wC C) (kC C) (f3C C) m,inW (wC C) (kC C) c=true:=by
 obtain ⟨hf,hr,e1,e2,e3,e4,e5,e6,e7,e8,e9,e10⟩:=Kt mk h;rw [e10];refine ⟨fun c hc=>J6 mk e6 e4 c (by rw [e1];exact hc),fun c hc=>?_,fun c hc=>?_⟩
 . rw [e8];exact J6 mk e7 (by unfold pf;exact e4) c hc
 . unfold gk at hc;rw [ak_ e6,ra]at hc;exact jr.2 (by omega)
theorem env_ris (mk:dx C) {T:Tb} (gt:i7 T) {r:Int}:En (envC C T r):=by
 refine ⟨fun p=>rn gt r _,fun p w hw=>?_,fun p w hw s hs=>?_⟩
 . obtain ⟨m,hm,rfl⟩:=Eo hw;exact rn gt r _
 . obtain ⟨m,hm,rfl⟩:=Eo hw;obtain ⟨_,h2,_⟩:=Dm mk hm;refine Pe gt (fun n hn=>?_) hs;obtain ⟨c,hc,rfl⟩:=ba_.1 hn;exact ba_.2 ⟨c,h2 c hc,rfl⟩
theorem in_T (mk:dx C) {n:Nat} (hn:(n:Int)=C.w*C.h) {c:Cell} (hc:inW (wC C) (kC C) c=true):inT n (numI (wC C) (kC C) c)=true:=by
 obtain ⟨e1,_,_,e4⟩:=yf hc;obtain ⟨h1,h2,_⟩:=Jy mk;rw [uu,e1];have:((wC C*kC C:Nat):Int)=C.w*C.h:=by rw [h1,h2];simp
 omega
end
section
variable {C:Conf}
inductive Out (C:Conf) (T:Tb) (r:Int) (p:Pose) (t:Int) (gp:Pose) (any:Bool):Res Move->Prop where
 |ok {l:List Move} {q:Pose} {i:Nat} {a:Int} {s:Sp} (w:Wk (envC C T r) p t l q i a) (hs:((envC C T r).spans q)[i]?=some s) (h1:s.1<=a) (h2:a<s.2) (g:nf gp any q s=true)
  (best:∀p' i' t' s',Rc (envC C T r) p t p' i' t'->((envC C T r).spans p')[i']?=some s'->nf gp any p' s'=true->a<=t'):Out C T r p t gp any (.ok l)
 |route (h:(inside ((envC C T r).spans p) t).isSome=true) (none:∀p' i' t' s',Rc (envC C T r) p t p' i' t'->((envC C T r).spans p')[i']?=some s'->nf gp any p' s'=false):Out C T r p t gp any (.no 6)
 |budget:Out C T r p t gp any (.no 7)
 |taken (h:inside ((envC C T r).spans p) t=none):Out C T r p t gp any (.no 18)
theorem Fj (mk:dx C) {T:Tb} (gt:i7 T) {r:Int} {p gp:Pose} {t:Int} {any:Bool} {n:Nat} (hp:eu (wC C) (kC C) (f3C C) p=true):Out C T r p t gp any (find (envC C T r) (nf gp any) p t zM n):=by
 have ris:=env_ris mk gt (r:=r);rcases aB5 (Jp mk gt (r:=r)) ris (goal:=nf gp any) (t0:=t) (z:=zM) (p0:=p) hp n with ⟨h,h2⟩|⟨h0,⟨lo',S',k,x,h1,v,hk,hg,hb⟩|⟨h1,h2⟩|h1⟩
 . rw [h];exact .taken h2
 . rw [h1];obtain ⟨a1,a2,a3⟩:=v.at_ x (ab_ hk);exact .ok (path_wk ris v hk) a1 a2 a3 hg hb
 . rw [h1];exact .route h0 h2
 . rw [h1];exact .budget
abbrev F5 (C:Conf) (T:Tb) (rb:Int) (p:Pose) (t:Int) (gp:Pose) (any:Bool):Prop:=(T.length:Int)≠C.w*C.h\/rb<0\/t<0\/t>=FV\/eu (wC C) (kC C) (f3C C) p=false\/aimB C gp any=false
theorem vo {T:Tb} {rb t:Int} {p gp:Pose} {any:Bool} (h:F5 C T rb p t gp any):nt C (some T) rb p t gp any = .no 1:=by unfold nt;exact ak_ h
theorem Fl {T:Tb} {rb t:Int} {p gp:Pose} {any:Bool} (h:¬F5 C T rb p t gp any):nt C (some T) rb p t gp any=find (envC C T rb) (nf gp any) p t zM C.bu.toNat:=by unfold nt;exact ah_ h
def shM (by_:Int) (m:Move):Move:={ m with a:=m.a+by_,e:=m.e+by_ }
theorem F4 {T:Tb} {rb t:Int} {p gp:Pose} {any:Bool} (h:¬F5 C T rb p t gp any):(T.length:Int)=C.w*C.h/\0<=rb/\0<=t/\t<FV/\eu (wC C) (kC C) (f3C C) p=true/\aimB C gp any=true:=by unfold F5 at h;simp only [not_or,Decidable.not_not,Bool.not_eq_false]at h;obtain ⟨a,b,c,d,e,f⟩:=h;exact ⟨a,by omega,by omega,by omega,e,f⟩
end
section
variable {C:Conf}
def Gq (C:Conf) (T:Tb) (r:Int) (L:List Cell) (a b:Int):Prop:=∀c∈L,inT T.length (numI (wC C) (kC C) c)=true/\l8 (rowT T (numI (wC C) (kC C) c)) r a b=true
def H3 (p:Pose) (l:List Move):Nat->Pose
 |0=>p
 |j+1=>(l.getD j zM).t
def nc (t:Int) (l:List Move):Nat->Int
 |0=>t
 |j+1=>(l.getD j zM).e
structure MvOk (C:Conf) (T:Tb) (r:Int) (P:Pose) (N:Int) (m:Move):Prop where
 k:m.k=1\/m.k=2
 nb:Bd m.n
 leg:gf C m=true
 f:m.f=P
 n0:0<=N
 at_:N<=m.a
 e:m.e=m.a+dr C m
 e2:m.a<m.e/\m.e<FV
 stand:Gq C T r (dj P) N m.a
 go:Gq C T r (gk C m) m.a m.e
 to:fu C m.t=true
theorem Oo {p:Pose} {l:List Move} {m:Move} {j:Nat} (h:j<=l.length):H3 p (l++[m]) j=H3 p l j:=by
 cases j with
 |zero=>rfl
 |succ j=>show ((l++[m]).getD j zM).t=(l.getD j zM).t;rw [aG_,aG_,aq_ (by omega)]
theorem Ow {t:Int} {l:List Move} {m:Move} {j:Nat} (h:j<=l.length):nc t (l++[m]) j=nc t l j:=by
 cases j with
 |zero=>rfl
 |succ j=>show ((l++[m]).getD j zM).e=(l.getD j zM).e;rw [aG_,aG_,aq_ (by omega)]
theorem W7 (mk:dx C) {T:Tb} (gt:i7 T) {r:Int} {p q:Pose} {t a:Int} {l:List Move} {i:Nat} (hp:fu C p=true) (ht:0<=t) (w:Wk (envC C T r) p t l q i a):
 (∀j m,l[j]?=some m->MvOk C T r (H3 p l j) (nc t l j) m)/\q=H3 p l l.length/\a=nc t l l.length/\fu C q=true/\0<=a:=by
 induction w with
 |nil h=>exact ⟨fun j m hm=>by simp at hm,rfl,rfl,hp,ht⟩
 |@snoc l q i j a s0 s w h h0 ha1 ha2 hw hs h1 h2 he he2 hj ih=>
  obtain ⟨ih1,rfl,rfl,ih4,ih5⟩:=ih;obtain ⟨m,hm,rfl⟩:=Eo hw;obtain ⟨hf,hr,e1,e2,e3,e4,e5,e6,e7,e8,e9,e10⟩:=Kt mk hm;obtain ⟨l1,l2⟩:=Bn mk hm;have es:=Zl (show 0<=max (nc t l l.length) s.1 by omega) (show 0<=dr C m by omega) he2;have e11:(l++[Aw m (max (nc t l l.length) s.1) (sumI (max (nc t l l.length) s.1) (dr C m))]).getD l.length zM=Aw m (max (nc t l l.length) s.1) (sumI (max (nc t l l.length) s.1) (dr C m)):=by rw [aG_,aF_ (aj_ _)];simp
  have hb:=(Jp mk gt (r:=r)).pos _ s0 (ab_ h0);have hsum:sumI (max (nc t l l.length) s.1) (dr C m)<=s.2:=he;have hsum2:sumI (max (nc t l l.length) s.1) (dr C m)<FV:=he2;refine ⟨fun j m' hm'=>?_,?_,?_,e9,?_⟩
  . by_cases hjl:j<l.length
    . rw [aq_ hjl]at hm';rw [Oo (by omega),Ow (by omega)];exact ih1 j m' hm'
    . have hjl':j=l.length:=by have:=(ad_.1 hm').1;simp at this;omega
      subst hjl';rw [Oo (aj_ _),Ow (aj_ _)];rw [aF_ (aj_ _)]at hm';simp at hm';subst hm';refine ⟨e4,e2.1,e6,e1,ih5,by show nc t l l.length<=max (nc t l l.length) s.1;omega,es,⟨?_,hsum2⟩,fun c hc=>?_,fun c hc=>?_,e9⟩
      . show max (nc t l l.length) s.1<sumI (max (nc t l l.length) s.1) (dr C m);omega
      . refine sk gt (ab_ h0) ha1 (show max (nc t l l.length) s.1<=s0.2 by omega) _ (ba_.2 ⟨c,hc,rfl⟩)
      . refine sk gt hs (show s.1<=max (nc t l l.length) s.1 by omega) hsum _ (ba_.2 ⟨c,?_,rfl⟩);rw [e10];exact hc
  . rw [ae_];exact (congrArg Move.t e11).symm
  . rw [ae_];exact (congrArg Move.e e11).symm
  . show 0<=sumI (max (nc t l l.length) s.1) (dr C m);omega
inductive TR (C:Conf) (T:Tb) (r:Int) (p0:Pose) (t0:Int):Pose->Int->Prop where
 |start:TR C T r p0 t0 p0 t0
 |stay {p:Pose} {t:Int} (h:TR C T r p0 t0 p t) (hf:Gq C T r (dj p) t (t+2)):TR C T r p0 t0 p (t+1)
 |move {p:Pose} {t:Int} {m:Move} (h:TR C T r p0 t0 p t) (hm:m∈jn C p) (h1:Gq C T r (gk C m) t (t+dr C m)) (h2:Gq C T r (dj m.t) (t+dr C m) (t+dr C m+1)):TR C T r p0 t0 m.t (t+dr C m)
theorem TR.fits (mk:dx C) {T:Tb} {r:Int} {p0 p:Pose} {t0 t:Int} (hp:fu C p0=true) (h:TR C T r p0 t0 p t):fu C p=true:=by
 induction h with
 |start=>exact hp
 |stay h hf ih=>exact ih
 |move h hm h1 h2 ih=>exact (W1 mk (Fi mk ih) hm).2.2.2.2.2.2.2.2.1
theorem Gq.span {T:Tb} (gt:i7 T) {r a b:Int} {L:List Cell} (h:Gq C T r L a b) (h0:0<=a) (h1:a<b) (h2:b<=FV):∃s∈ly T r (L.map (numI (wC C) (kC C))),s.1<=a/\b<=s.2:=
 W9 gt h0 h1 h2 fun n hn=>by obtain ⟨c,hc,rfl⟩:=ba_.1 hn;exact h c hc
theorem Es {T:Tb} (gt:i7 T) {r:Int} {N:List Int} {s:Sp} (h:s∈ly T r N):∃i:Nat,(ly T r N)[i]?=some s:=bn_ h
theorem tr_rc (mk:dx C) {T:Tb} (gt:i7 T) {r:Int} {p0 p:Pose} {t0 t:Int} (hp:fu C p0=true) (h0:0<=t0) (hin:(inside ((envC C T r).spans p0) t0).isSome=true) (h:TR C T r p0 t0 p t) (ht:t<FV-1):
 t0<=t/\∃i t' s,Rc (envC C T r) p0 t0 p i t'/\t'<=t/\((envC C T r).spans p)[i]?=some s/\s.1<=t/\t<s.2:=by
 induction h with
 |start=>obtain ⟨i,hi⟩:=b2_.1 hin;obtain ⟨s,hs,h1,h2,_⟩:=wo hi;exact ⟨aS_ _,i,t0,s,.start hi,aS_ _,hs,h1,h2⟩
 |@stay p t h hf ih=>obtain ⟨ht0,i,t',s,rc,h1,h2,h3,h4⟩:=ih (by omega);obtain ⟨u,hu,u1,u2⟩:=hf.span gt (by omega) (by omega) (by omega);obtain ⟨j,hj⟩:=Es gt hu;have:i=j:=Ji (rn gt r _) h2 hj h3 (Int.le_of_lt h4) u1 (by omega);subst this;have e:s=u:=Option.some.inj (h2.symm.trans hj);subst e;exact ⟨by omega,i,t',s,rc,by omega,h2,by omega,by omega⟩
 |@move p t m h hm f1 f2 ih=>
  have hf:=h.fits mk hp;have hm':m∈ml (wC C) (kC C) (f3C C) p:=by rw [E6 mk (Fi mk hf)];exact hm
  obtain ⟨l1,l2⟩:=Bn mk hm';obtain ⟨_,_,e1,e2,e3,e4,e5,e6,e7,e8,e9,e10⟩:=Kt mk hm';obtain ⟨ht0,i,t',s,rc,h1,h2,h3,h4⟩:=ih (by omega);rw [<- e10]at f1;obtain ⟨u,hu,u1,u2⟩:=f1.span gt (by omega) (by omega) (by omega);obtain ⟨v,hv,v1,v2⟩:=f2.span gt (by omega) (by omega) (by omega);obtain ⟨j,hj⟩:=Es gt hv
  obtain ⟨u',hu',u3,u4⟩:=Pe gt (N':=(dj p).map (numI (wC C) (kC C))) (fun n hn=>by
   obtain ⟨c,hc,rfl⟩:=ba_.1 hn
   exact ba_.2 ⟨c,(Dm mk hm').1 c hc,rfl⟩) hu
  obtain ⟨k,hk⟩:=Es gt hu';have:i=k:=Ji (rn gt r _) h2 hk h3 (Int.le_of_lt h4) (by omega) (by omega);subst this;have e:s=u':=Option.some.inj (h2.symm.trans hk);subst e;have es:=av7 (show 0<=t by omega) (show 0<=dr C m by omega) (by omega);have hin2:inside ((envC C T r).spans m.t) (t+dr C m)=some j:=Cp (rn gt r _) hj (by omega) (by omega);have hw:wayE C (wC C) (kC C) (f3C C) T r m∈(envC C T r).ways p:=ba_.2 ⟨m,hm',rfl⟩;have st:=Rc.step (b:=t) (s:=u) (j:=j) rc h2 hw hu u3 u4 h1 u1 (by show sumI t (dr C m)<=u.2;omega) (by show sumI t (dr C m)<FV;omega) (by show inside ((envC C T r).spans m.t) (sumI t (dr C m))=some j;rw [es];exact hin2);have st':Rc (envC C T r) p0 t0 m.t j (sumI t (dr C m)):=st;rw [es]at st';exact ⟨by omega,j,_,v,st',aS_ _,hj,by omega,by omega⟩
theorem wk_tr (mk:dx C) {T:Tb} (gt:i7 T) {r:Int} {p q:Pose} {t a:Int} {l:List Move} {i:Nat} (hp:fu C p=true) (ht:0<=t) (w:Wk (envC C T r) p t l q i a):TR C T r p t q a:=by
 induction w with
 |nil h=>exact .start
 |@snoc l q i j a s0 s w h h0 ha1 ha2 hw hs h1 h2 he he2 hj ih=>
  obtain ⟨_,_,_,hq,ha⟩:=W7 mk gt hp ht h;obtain ⟨m,hm,rfl⟩:=Eo hw;obtain ⟨hf,hr,e1,e2,e3,e4,e5,e6,e7,e8,e9,e10⟩:=Kt mk hm;obtain ⟨l1,l2⟩:=Bn mk hm;have es:=Zl (show 0<=max a s.1 by omega) (show 0<=dr C m by omega) he2;have hsum:sumI (max a s.1) (dr C m)<=s.2:=he
  have wait:∀n:Nat,a+n<s0.2->TR C T r p t q (a+n):=fun n=>by
   induction n with
   |zero=>intro _;simpa using ih
   |succ n ihn=>intro hn;have:=TR.stay (ihn (by omega)) (fun c hc=>sk gt (ab_ h0) (show s0.1<=a+(n:Int)by omega) (show a+(n:Int)+2<=s0.2 by omega) _ (ba_.2 ⟨c,hc,rfl⟩));rw [show a+((n+1:Nat):Int)=a+(n:Int)+1 by omega];exact this
  have h3:TR C T r p t q (max a s.1):=by have:=wait (max a s.1-a).toNat (by omega);rw [show a+(((max a s.1-a).toNat:Nat):Int)=max a s.1 by omega]at this;exact this
  obtain ⟨s',hs',g1,g2,_⟩:=wo hj;have g1':s'.1<=sumI (max a s.1) (dr C m):=g1;have g2':sumI (max a s.1) (dr C m)<s'.2:=g2;have:=TR.move h3 hr (fun c hc=>sk gt hs (by omega) (by omega) _ (ba_.2 ⟨c,by rw [e10];exact hc,rfl⟩)) (fun c hc=>sk gt (ab_ hs') (by omega) (by omega) _ (ba_.2 ⟨c,hc,rfl⟩));show TR C T r p t m.t (sumI (max a s.1) (dr C m));rw [es];exact this
theorem ar8 (mk:dx C) {T:Tb} (gt:i7 T) {rb t:Int} {p gp:Pose} {any:Bool} {l:List Move} (h:nt C (some T) rb p t gp any = .ok l):
 ((T.length:Int)=C.w*C.h/\0<=rb/\0<=t/\t<FV/\fu C p=true)/\(∀j m,l[j]?=some m->MvOk C T rb (H3 p l j) (nc t l j) m)/\∃s:Sp,s∈(envC C T rb).spans (H3 p l l.length)/\s.1<=nc t l l.length/\nc t l l.length<s.2/\nf gp any (H3 p l l.length) s=true/\fu C (H3 p l l.length)=true/\0<=nc t l l.length:=by
 have ha:¬F5 C T rb p t gp any:=fun ha=>by rw [vo ha]at h;cases h
 obtain ⟨c1,c2,c3,c4,c5,c6⟩:=F4 ha;have hf:fu C p=true:=by rw [<- qm mk];exact c5
 rw [Fl ha]at h;have o1:=Fj mk gt (r:=rb) (gp:=gp) (t:=t) (any:=any) (n:=C.bu.toNat) c5;rw [h]at o1;cases o1 with
 |ok w hs h1 h2 g best=>obtain ⟨w1,rfl,rfl,w4,w5⟩:=W7 mk gt hf c3 w;exact ⟨⟨c1,c2,c3,c4,hf⟩,w1,_,ab_ hs,h1,h2,g,w4,w5⟩
end
theorem Ug {C:Conf} (sm:SmO C):1<=C.w*C.h/\C.w*C.h<=36/\IntKind.i64.wrap (C.w*C.h)=(((C.w*C.h).toNat:Nat):Int)/\(((C.w*C.h).toNat:Nat):Int)=C.w*C.h:=by
 have hnb:1<=C.w/\1<=C.h:=by have hb:=sm.may.nums;unfold qj cj at hb;simp only [ag_,aw_]at hb;omega
 obtain ⟨hw1,hh1⟩:=hnb;have b2:C.w*C.h<=6*6:=bx_ sm.w sm.h (by omega) (by omega);have b1:1*1<=C.w*C.h:=bx_ hw1 hh1 (by omega) (by omega);refine ⟨by omega,by omega,?_,by omega⟩;rw [ng (by omega) (by omega)];omega
abbrev na (C:Conf) (ab:Option Addr) (cb:Nat) (ap:Option Addr) (cp:Nat) (ar:Option Addr) (cr:Nat) (az:Option Addr) (cs:Nat):Obj := .cells #[C.w,C.h,C.ht,.slice ab C.bl.length cb,.slice ap C.po.length cp,.slice ar C.ro.length cr,.slice az C.st.length cs,C.un,C.ac,C.sp,C.tu,C.ho,C.qu,C.re,C.bu,.bool C.back] 26 (0,0)
abbrev pq (p:Pose):Obj := .cells #[p.x,p.y,.bool p.d] 30 (0,0)
theorem TabV.up {G h h':Hp} {vt:Value} {To:Option Tb} (t:TabV G h vt To) (l:h.le h') (d:Dis G h'):TabV G h' vt To:=by
 cases To with
 |none=>exact t
 |some T=>obtain ⟨tp,e,ts,x⟩:=t;exact ⟨tp,e,ts.up l d,x⟩
structure FindO (G:Hp) (h:Hp) (W:Res Move) (u:Value) (h':Hp):Prop where
 ex:∃ip vs,u = .tuple #[vs,(outE W)]/\Slc jg 48 ip vs (outL W)/\(outL W).length<=110000/\HL.Sep [ip,h] h'/\Dis G h'
theorem ar7 {G h:Hp} {C:Conf} {v vt:Value} {To:Option Tb} {p gp:Pose} {rb t:Int} {any:Bool} (mk:dx C) (hv:CV G h v C) (st:lg G) (hro:∀p∈C.ro,PB p) (fit:Fit0 C) (hbu:C.bu<=4000)
 (tv:TabV G h vt To) (hp:PB p) (hgp:PB gp):
 bn P_ G 27 #[v,vt,rb,mq p,t,.agg #[gp.x,gp.y,.bool gp.d,.bool any]] h (FindO G h (nt C To rb p t gp any)):=by
 refine (Ph hv st hro (by have:=fit.st;unfold Room at this;omega) (fun _=>hbu) tv hp hgp).mono ?_;rintro u h' ⟨W,⟨ip,vs,e1,e2,e3,e4,e5⟩,⟨hno,_⟩|⟨_,rfl⟩⟩
 . exact absurd mk hno
 . exact ⟨ip,vs,e1,e2,e3,e4,e5⟩
theorem V6 {C:Conf} (mk:dx C) {T:Tb} (gt:i7 T) {rb t e:Int} {p gp:Pose} {any:Bool} (h:nt C (some T) rb p t gp any = .no e):e=1\/e=6\/e=7\/e=18:=by
 by_cases ha:F5 C T rb p t gp any
 . rw [vo ha]at h;cases h;exact .inl rfl
 . have c5:=(F4 ha).2.2.2.2.1;rw [Fl ha]at h;have o1:=Fj mk gt (r:=rb) (gp:=gp) (t:=t) (any:=any) (n:=C.bu.toNat) c5;rw [h]at o1;cases o1<;>simp
end Go.Proofs.YtfflipnhffknnaaGreatDoor
end

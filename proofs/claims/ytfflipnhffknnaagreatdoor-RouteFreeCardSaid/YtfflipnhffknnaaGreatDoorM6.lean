/- Texts of the proof, one behind the other. -/
import Derived.Test.YtfflipnhffknnaaGreatDoorM5
import Derived.Test.YtfflipnhffknnaaGreatDoorM3
import Derived.Test.YtfflipnhffknnaaGreatDoorM4
import Derived.Test.YtfflipnhffknnaaGreatDoorM1
import Derived.Test.YtfflipnhffknnaaGreatDoorH3
import Derived.Test.YtfflipnhffknnaaGreatDoorM2
set_option linter.unusedSimpArgs false
set_option linter.unusedVariables false
set_option maxRecDepth 100000
set_option linter.unusedSectionVars false
set_option maxHeartbeats 8000000
set_option linter.defProp false
section
namespace Go.Proofs.YtfflipnhffknnaaGreatDoor
open Go Go.HL
def tk:=jq bC (jq (jq @ix40p @ld48p) (jq @ln40 (jq @js @ic)))
def qj {α:Type} (L M:List α) (i:Nat):Prop:=M.length=L.length∧∀p:Nat,p<L.length→M[p]?=if p<i∨L.length-i≤p then L[L.length-1-p]? else L[p]?
theorem qj.zero {α:Type} {L:List α}:qj L L 0:=⟨rfl,fun p hp=>by rw [if_neg (by omega)]⟩
theorem qj.all {α:Type} {L M:List α} {i:Nat} (f:qj L M i) (h:L.length≤2*i+1):M=L.reverse:=by
 refine List.ext_getElem? fun p=>?_
 by_cases hp:p<L.length
 · rw [f.2 p hp,List.getElem?_reverse hp]
   split
   · rfl
   · congr 1
     omega
 · rw [List.getElem?_eq_none (by rw [f.1];omega),List.getElem?_eq_none (by simp;omega)]
theorem qj.next {α:Type} {L M:List α} {i:Nat} {x y:α} (f:qj L M i) (h:2*i+1<L.length) (hx:M[i]?=some x) (hy:M[L.length-1-i]?=some y):qj L ((M.set i y).set (L.length-1-i) x) (i+1):=by
 refine ⟨by rw [List.length_set,List.length_set,f.1],fun p hp=>?_⟩
 have e1:L[i]?=some x:=by rw [← hx,f.2 i (by omega),if_neg (by omega)]
 have e2:L[L.length-1-i]?=some y:=by rw [← hy,f.2 _ (by omega),if_neg (by omega)]
 by_cases h1:p=L.length-1-i
 · subst h1
   rw [List.getElem?_set_self (by rw [List.length_set,f.1];omega),if_pos (by omega),show L.length-1-(L.length-1-i)=i by omega,e1]
 · rw [List.getElem?_set_ne (by omega)]
   by_cases h2:p=i
   · subst h2
     rw [List.getElem?_set_self (by rw [f.1];omega),if_pos (by omega),e2]
   · rw [List.getElem?_set_ne (by omega),f.2 p hp]
     by_cases h3:p<i∨L.length-i≤p
     · rw [if_pos h3,if_pos (by omega)]
     · rw [if_neg h3,if_neg (by omega)]

theorem Sees.mvx {G h:Hp} {sa:Option Addr} {cap n:Nat} {L:List Move} (s:Sees lj G h (.slice sa n cap) L) {i:Nat} {m:Move} (hx:L[i]?=some m):
   ∃b o,sa=some ⟨b,o,none⟩∧aa G h ⟨b,o+i*11,none⟩=some (.int .i64 m.k)∧aa G h ⟨b,o+i*11+1,none⟩=some (.int .i64 m.d)∧aa G h ⟨b,o+i*11+2,none⟩=some (.int .i64 m.n)∧aa G h ⟨b,o+i*11+3,none⟩=some (.int .i64 m.f.x)∧aa G h ⟨b,o+i*11+4,none⟩=some (.int .i64 m.f.y)∧aa G h ⟨b,o+i*11+5,none⟩=some (.bool m.f.d)∧aa G h ⟨b,o+i*11+6,none⟩=some (.int .i64 m.t.x)∧aa G h ⟨b,o+i*11+7,none⟩=some (.int .i64 m.t.y)∧aa G h ⟨b,o+i*11+8,none⟩=some (.bool m.t.d)∧aa G h ⟨b,o+i*11+9,none⟩=some (.int .i64 m.a)∧aa G h ⟨b,o+i*11+10,none⟩=some (.int .i64 m.e):=by
 obtain ⟨s',cap',e,_,hc⟩:=s
 cases e
 rcases hc with rfl|⟨b,o,rfl,hc⟩
 · simp at hx
 · have e2:=fun j hj=>hc i m hx j hj
   exact ⟨b,o,rfl,e2 0 (by decide),e2 1 (by decide),e2 2 (by decide),e2 3 (by decide),e2 4 (by decide),e2 5 (by decide),e2 6 (by decide),e2 7 (by decide),e2 8 (by decide),e2 9 (by decide),e2 10 (by decide)⟩

theorem Ta {G h:Hp} {b i:Nat} {M:List Move} {t:List Value} {j:Move} {K:Unit→Hp→Prop} (hb:h b=some (.cells (lj.rows M++t).toArray 48 (0,0))) (hi:i<M.length):
   wpH P_ G (Instr.storeAt 48 (.pointer (some ⟨b,i*11,none⟩)) (A5 j)) h K=K () (h.set b (.cells (lj.rows (M.set i j)++t).toArray 48 (0,0))):=by
 rw [qm (n:=11) sz48 hb rfl (by rw [List.length_append,lj.rows_length,show lj.n=11 from rfl];omega) (by intro v hv;simp [Value.cells]at hv;rcases hv with rfl|rfl|rfl|rfl|rfl|rfl|rfl|rfl|rfl|rfl|rfl<;>rfl)]
 have:=lj.rows_put (t:=t) (x:=j) hi
 rw [← this]
 rfl

theorem W9 {G h a:Hp} {R:List Hp} {v:Value} {L:List Move} (s:HL.Sep (a::R) h) (o:Slc lj 48 a v L) (hL:L.length≤1000000):aj P_ G 120 #[v] h (fun u h'=>∃a',Slc lj 48 a' v L.reverse∧HL.Sep (a'::R) h'∧Dis G h'):=by
 refine aj.assume fun d=>aj4 (by simp) ?_
 unfold S120
 obtain ⟨sa,cap,rfl,_⟩:=o.len (by decide)
 simp (disch:=first|decide|omega) only [tk]
 generalize hKK:retK P_ G _ _=KK
 refine bv (fun m q h3=>∃(i:Nat) (a:Hp) (M:List Move),m=L.length-i∧2*i≤L.length+1∧q 0 = .slice sa L.length cap∧q 2 = .int .i64 i∧q 3 = .int .i64 ((L.length:Int)-1-i)∧Slc lj 48 a (.slice sa L.length cap) M∧qj L M i∧HL.Sep (a::R) h3∧Dis G h3) ?_
   (m:=L.length) ⟨0,a,L,rfl,by omega,by simp (disch:=decide) only [tk],by simp (disch:=decide) only [tk]<;>rfl,by simp only [tk];simp,o,qj.zero,s,d⟩
 clear s o d
 rintro m q h3 ⟨i,a,M,rfl,hi,q0,q2,q3,o,fl,s3,d3⟩ X HX
 unfold V7
 simp only [tk,q2,q3]
 refine ax (fun hlt=>?_) (fun hge=>?_)
 rotate_left
 · try simp (disch:=first|decide|omega) only [tk,Nat.reduceAdd,Nat.reduceMul]
   rw [← hKK]
   try simp only [tk]
   rw [fl.all (by omega)]at o
   exact ⟨a,o,s3,d3⟩
 have hij:2*i+1<L.length:=by omega
 obtain ⟨j,ej⟩:∃j:Nat,j=L.length-1-i:=⟨_,rfl⟩
 have ejn:(L.length:Int)-1-(i:Int)=(j:Int):=by omega
 rw [ejn]at q3
 have hil:(i:Int)<L.length:=by omega
 have hjl:(j:Int)<L.length:=by omega
 obtain ⟨x,hx⟩:∃x,M[i]?=some x:=⟨_,List.getElem?_eq_getElem (by rw [fl.1];omega)⟩
 obtain ⟨y,hy⟩:∃y,M[j]?=some y:=⟨_,List.getElem?_eq_getElem (by rw [fl.1];omega)⟩
 have sv:=o.sees (G:=G) (by decide) (s3.in 0 rfl)
 obtain ⟨b,of,rfl,x0,x1,x2,x3,x4,x5,x6,x7,x8,x9,x10⟩:=Sees.mvx sv hx
 obtain ⟨b',of',e',y0,y1,y2,y3,y4,y5,y6,y7,y8,y9,y10⟩:=Sees.mvx sv hy
 cases e'
 obtain ⟨ob,o'⟩:=o
 cases ob with
 |none=>exact absurd o'.2 (fun e=>by rw [e]at hx;simp at hx)
 |some ob=>
 obtain ⟨cap',t,e9,hb,hbl⟩:=o'
 rw [fl.1]at e9
 simp only [Value.slice.injEq,Option.some.injEq,Addr.mk.injEq,and_true,true_and]at e9
 obtain ⟨⟨rfl,rfl⟩,rfl⟩:=e9
 rw [Nat.zero_add]at x0 x1 x2 x3 x4 x5 x6 x7 x8 x9 x10 y0 y1 y2 y3 y4 y5 y6 y7 y8 y9 y10
 have hb3:=s3.at 0 rfl hb
 unfold Hv
 simp (disch:=first|decide|omega) only [tk,q0,q2,q3,ix40 (Int.natCast_nonneg i) hil,ix40 (Int.natCast_nonneg j) hjl,Int.toNat_natCast,x0,x1,x2,x3,x4,x5,x6,x7,x8,x9,x10,y0,y1,y2,y3,y4,y5,y6,y7,y8,y9,y10]
 rw [Ta (j:=y) hb3 (by rw [fl.1];omega)]
 have s4:=s3.put (o := .cells (lj.rows (M.set i y)++t).toArray 48 (0,0)) hb
 have d4:=d3.set (o := .cells (lj.rows (M.set i y)++t).toArray 48 (0,0)) (d3 _ _ hb3)
 generalize Hp.set h3 b _=h4 at s4 d4 ⊢
 try simp (disch:=first|decide|omega) only [tk,Nat.reduceAdd,Nat.reduceMul,q0,q3,ix40 (Int.natCast_nonneg j) hjl,Int.toNat_natCast]
 rw [Ta (j:=x) (s4.at 0 rfl af) (by rw [List.length_set,fl.1];omega)]
 have s5:=s4.put (o := .cells (lj.rows ((M.set i y).set j x)++t).toArray 48 (0,0)) af
 rw [set_set]at s5
 have d5:=d4.set (o := .cells (lj.rows ((M.set i y).set j x)++t).toArray 48 (0,0)) (d4 _ _ (s4.at 0 rfl af))
 generalize Hp.set h4 b _=h5 at s5 d5 ⊢
 have fn:=fl.next hij hx (by rw [← ej];exact hy)
 rw [← ej]at fn
 unfold Hu
 simp (disch:=first|decide|omega) only [tk,q2,q3]
 refine HX (L.length-(i+1)) _ _ (by omega) ⟨i+1,_,_,rfl,by omega,by simp (disch:=decide) only [tk,q0],by simp (disch:=decide) only [tk]<;>rfl,by simp only [tk]<;>(congr 1;omega),⟨some b,cap,t,by rw [fn.1],af,?_⟩,fn,s5,d5⟩
 rw [← hbl,List.length_append,List.length_append,lj.rows_length,lj.rows_length,List.length_set,List.length_set]
end Go.Proofs.YtfflipnhffknnaaGreatDoor
end

section
namespace Go.Proofs.YtfflipnhffknnaaGreatDoor
open Go Go.HL Go.Proofs.Resv Go.Proofs.Srch
def qy:=jq bC (jq (jq (jq @bne_self_eq_false.{0} (jq @am4 @cf120)) (jq @F4 (jq @ac8 @fa146_1))) (jq (jq @Fu (jq @Rn @Rm)) (jq (jq @ld3 @ld48) (jq @ix @fu))))
theorem R1:∀(n:Nat) (L:List Nat),L.Nodup→(∀x∈L,x<n)→L.length≤n
 |0,L,_,h=>by
   cases L with
   |nil=>simp
   |cons x L=>exact absurd (h x (.head _)) (by omega)
 |n+1,L,hn,h=>by
   by_cases hm:n∈L
   · have h1:=R1 n (L.erase n) (hn.erase n) (fun x hx=>by
       have h2:=h x (List.mem_of_mem_erase hx)
       have h3:x≠n:=(List.Nodup.mem_erase_iff hn).1 hx |>.1
       omega)
     rw [List.length_erase_of_mem hm]at h1
     have:=List.length_pos_of_mem hm
     omega
   · have:=R1 n L hn (fun x hx=>by
       have h2:=h x hx
       have h3:x≠n:=fun e=>hm (e▸hx)
       omega)
     omega

theorem Lu {w k:Nat} {f:Nat→Nat→Int} {p:Pose} (h:dh w k f p=true) (hw:w≤16) (hk:k≤16):0≤numP w k p∧numP w k p<512:=by
 obtain ⟨e1,_,_,e4⟩:=vx (ye h)
 have:w*k≤16*16:=Nat.mul_le_mul hw hk
 unfold numP
 rw [e1]
 split<;>omega

theorem Qt {q:Par} {p0:Pose} {t0 lo:Int} {z:Move} {S:SS} (v:Inv q.E p0 t0 z lo S) (gt:jj q.T) (fw:Few q.T 100) (hw:q.w≤16) (hk:q.k≤16):S.length≤110000:=by
 have hsl:∀x∈S,x.i<204:=fun x hx=>by
   have h1:=(List.getElem?_eq_some_iff.1 (v.at_ x hx).1).1
   have h2:(q.E.spans x.p).length=(gu q.T q.r ((bw x.p).map (numI q.w q.k))).length:=rfl
   have h3:=qs gt fw q.r ((bw x.p).map (numI q.w q.k))
   rw [List.length_map,show (bw x.p).length=2 from rfl]at h3
   omega
 have h1:=R1 (512*204) (S.map fun x=>(numP q.w q.k x.p).toNat*204+x.i) ?_ ?_
 · rw [List.length_map]at h1;omega
 · refine List.Pairwise.map _ ?_ (List.pairwise_iff_getElem.2 fun i j hi hj hij=>?_) (R:=fun x y:St Pose Move=>x∈S∧y∈S∧¬(x.p=y.p∧x.i=y.i))
   · rintro x y ⟨hx,hy,hne⟩ e
     have b1:=Lu (v.ok x hx) hw hk
     have b2:=Lu (v.ok y hy) hw hk
     have c1:=hsl x hx
     have c2:=hsl y hy
     refine hne ⟨si (v.ok x hx) (v.ok y hy) ?_,?_⟩<;>omega
   · exact ⟨List.getElem_mem hi,List.getElem_mem hj,List.pairwise_iff_getElem.1 v.keys i j hi hj hij⟩
 · intro n hn
   obtain ⟨x,hx,rfl⟩:=List.mem_map.1 hn
   have b1:=Lu (v.ok x hx) hw hk
   have c1:=hsl x hx
   omega

theorem Wq {q:Par} {p:Pose} {y:WayT} (h:y∈q.E.ways p):y.1.k≠0:=by
 obtain ⟨i,hi⟩:=List.getElem?_of_mem h
 obtain ⟨m,hm,rfl⟩:=Ee hi
 show m.k≠0
 obtain ⟨_,⟨d,n,_,_,_,_,rfl⟩|⟨_,rfl⟩⟩:=xy hm
 · show (1:Int)≠0;decide
 · show (2:Int)≠0;decide

theorem Lz {l:List (Nat × St Pose Move)}:(pg l).length≤l.length:=by
 induction l with
 |nil=>simp [pg]
 |cons x l ih=>
   cases l with
   |nil=>simp [pg]
   |cons y l=>simp only [pg,List.length_cons]at ih ⊢;omega

theorem Je {G h a ae ah:Hp} {R:List Hp} {q:Par} {sp kp ms mw mp mt hp:Nat} {c:Cs} {S:SS} {L:List Go.Proofs.Wt.It} {n t0 lo:Int} {p0:Pose} {z:Move} {x:St Pose Move} {k:Nat}
   (ss:Srs q a ae ah ms mw mp mt hp c S L n) (bg:Bg G q sp kp ms mw mp mt hp) (v:Inv q.E p0 t0 z lo S) (hz:z.k=0) (hx:S[k]?=some x) (s:HL.Sep (a::ae::ah::R) h):
   aj P_ G 69 #[.pointer (some ⟨sp,0,none⟩),ndV (sk q.w q.k x)] h (fun u h'=>∃ip,Slc lj 48 ip u (path S S.length k [])∧(path S S.length k []).length≤110000∧HL.Sep (ip::a::ae::ah::R) h'∧Dis G h'):=by
 obtain ⟨ab,cb,ap,cp,ar,cr,az,cs,gp,tp,hbg⟩:=id bg.ex
 refine aj.assume fun d=>enter69 (by simp) ?_
 obtain ⟨_,_,gs,_⟩:=hbg h d
 have hS:∀x∈S,dh q.w q.k q.f x.p=true:=v.ok
 have hSl:=Qt v bg.gt bg.fw gs.w2 gs.k2
 obtain ⟨l,hch,hll⟩:=Yc v hx
 have hpath:=Rc hch S.length [] hll
 rw [List.append_nil]at hpath
 rw [hpath]
 have hml:=Lz (l:=l)
 obtain ⟨o,E,bb,km,sb,se⟩:=id ss.st
 unfold S69
 simp only [sk]
 simp only [qy]
 intro xn hxn gxn
 have s1:=s.past (o := .cells #[.int .i64 (numP q.w q.k x.p),.int .i64 (x.i:Int)] 137 (0,0)) hxn
 have d1:=d.set (o := .cells #[.int .i64 (numP q.w q.k x.p),.int .i64 (x.i:Int)] 137 (0,0)) gxn
 have hns:(h.set xn (.cells #[.int .i64 (numP q.w q.k x.p),.int .i64 (x.i:Int)] 137 (0,0))) xn=some (.cells #[.int .i64 (numP q.w q.k x.p),.int .i64 (x.i:Int)] 137 (0,0)):=af
 generalize Hp.set h xn _=h1 at s1 d1 hns ⊢
 have cn1:∀k,aa G h1 ⟨xn,k,none⟩=_:=fun k=>ai (ag hns)
 have b1:=tj (hbg h1 d1).2.1
 have hmt:h1 mt=some o:=(s1.pick 1 rfl rfl).open sb |>.at 0 rfl af
 have look:∀{h':Hp} {k':Nat} {x':St Pose Move},HL.look G h' mt=some o→S[k']?=some x'→∃e,E[k']?=some e∧bb e.2=some (ny (gi q.w q.k S x'.b) x'.mv x'.a x'.dn)∧∀K,pw P_ G h' (Instr.lookup 131 (.map (some mt)) (.agg #[.int .i64 (numP q.w q.k x'.p),.int .i64 (x'.i:Int)]) false) K=K (.pointer (some ⟨e.2,0,none⟩)):=by
   intro h' k' x' hm hx'
   have hk:=Z0 v hx'
   rcases se.get (f:=q.f) hS (hS _ (List.mem_of_getElem? hx')) (i:=x'.i)with ⟨h0,_⟩|⟨j,e,y,h1,h2,h3,h4,h5⟩
   · rw [hk]at h0;cases h0
   · rw [hk]at h1
     cases h1
     rw [hx']at h3
     cases h3
     refine ⟨e,h2,h5,fun K=>?_⟩
     have:=Di (K:=K) Lx unmt zerot hm km (k:=(numP q.w q.k x'.p,(x'.i:Int)))
     rw [h4,Option.getD_some]at this
     exact this
 obtain ⟨e0,he0,hb0,lk0⟩:=look (ag hmt) hx
 try simp only [qy,b1.mt,cn1,lk0]
 have kind:∀{k':Nat} {x':St Pose Move},S[k']?=some x'→(x'.b<0→x'.mv.k=0)∧(0≤x'.b→x'.mv.k≠0):=by
   intro k' x' hx'
   rcases v.by_ x' (List.mem_of_getElem? hx')with ⟨h1,_,_,h2⟩|⟨y,h1,_,_,_,⟨w,hw,_,_,_,_,_,_,_,_,hm⟩⟩
   · exact ⟨fun _=>by rw [h2];exact hz,fun h=>by omega⟩
   · refine ⟨fun h=>by omega,fun _=>?_⟩
     rw [hm]
     exact Wq hw
 generalize hKK:bh 0 _=KK
 refine bv (fun m r' h'=>∃(k':Nat) (x':St Pose Move) (l':List (Nat × St Pose Move)) (e':Nd × Nat) (ip:Hp) (M:List Move),m=l'.length∧Ii S k' l'∧S[k']?=some x'∧bb e'.2=some (ny (gi q.w q.k S x'.b) x'.mv x'.a x'.dn)∧Slc lj 48 ip (r' 5) M∧M++pg l'=pg l∧r' 0 = .pointer (some ⟨sp,0,none⟩)∧r' 6 = .pointer (some ⟨e'.2,0,none⟩)∧HL.Sep (ip::a::ae::ah::R) h'∧Dis G h') ?_ (m:=l.length)
   ⟨k,x,l,e0,noHp,[],rfl,hch,hx,hb0,by simp (disch:=decide) only [qy];exact Slc.nil,rfl,by simp (disch:=decide) only [qy],by simp only [qy],s1.none,d1⟩
 rintro m r1 h2 ⟨k',x',l',e',ip,M,rfl,hc',hx',hbe,om,hM,e0',e6,s2,d2⟩ X hX
 unfold ap8
 have hbe2:h2 e'.2=some (ny (gi q.w q.k S x'.b) x'.mv x'.a x'.dn):=(s2.pick 2 rfl rfl).open sb |>.at 1 rfl hbe
 have ce2:∀k,aa G h2 ⟨e'.2,k,none⟩=_:=fun k=>ai (ag hbe2)
 simp only [stpL]at ce2
 simp only [qy,e6,ce2]
 have hMl:M.length≤110000:=by
   have:=congrArg List.length hM
   rw [List.length_append]at this
   omega
 cases hc' with
 |start h0 hb=>
   rename_i x''
   rw [hx']at h0
   cases h0
   have hk0:=(kind hx').1 hb
   try simp only [qy,hk0,decide_true,Bool.not_true]
   rw [← hKK]
   show Sq G _ _ _
   unfold Sq
   simp (disch:=decide) only [qy]
   rw [show pg [(k',x')]=[]from rfl,List.append_nil]at hM
   subst hM
   refine (W9 s2 om (by omega)).mono ?_
   rintro _ h3 ⟨ip3,om3,s3,d3⟩
   try simp (disch:=first|decide|omega) only [qy,Nat.reduceAdd,Nat.reduceMul]
   exact ⟨ip3,om3,by rw [List.length_reverse];omega,s3,d3⟩
 |@step _ j x'' l'' h0 hb hc2=>
   rw [hx']at h0
   cases h0
   have hk0:=(kind hx').2 (by omega)
   try simp only [qy,show (x'.mv.k != 0)=true from by simpa using hk0]
   unfold Ku
   try simp (disch:=decide) only [qy,Nat.reduceAdd,e6,ce2]
   intro b hb' gb
   have s3:=s2.past (o := .cells #[.int .i64 x'.mv.k,.int .i64 x'.mv.d,.int .i64 x'.mv.n,.int .i64 x'.mv.f.x,.int .i64 x'.mv.f.y,.bool x'.mv.f.d,.int .i64 x'.mv.t.x,.int .i64 x'.mv.t.y,.bool x'.mv.t.d,.int .i64 x'.mv.a,.int .i64 x'.mv.e] 48 (0,0)) hb'
   have d3:=d2.set (o := .cells #[.int .i64 x'.mv.k,.int .i64 x'.mv.d,.int .i64 x'.mv.n,.int .i64 x'.mv.f.x,.int .i64 x'.mv.f.y,.bool x'.mv.f.d,.int .i64 x'.mv.t.x,.int .i64 x'.mv.t.y,.bool x'.mv.t.d,.int .i64 x'.mv.a,.int .i64 x'.mv.e] 48 (0,0)) gb
   have hbs:(h2.set b (.cells #[.int .i64 x'.mv.k,.int .i64 x'.mv.d,.int .i64 x'.mv.n,.int .i64 x'.mv.f.x,.int .i64 x'.mv.f.y,.bool x'.mv.f.d,.int .i64 x'.mv.t.x,.int .i64 x'.mv.t.y,.bool x'.mv.t.d,.int .i64 x'.mv.a,.int .i64 x'.mv.e] 48 (0,0))) b=_:=af
   generalize Hp.set h2 b _=h3 at s3 d3 hbs ⊢
   refine dm lj (by decide) un40 eomove (by decide) (by decide) (M:=[x'.mv]) s3 d3 om (Sees.row (c:=lj) (L:=[x'.mv]) hbs rfl (Nat.le_refl _)) (by simp;omega) fun v4 a4 h4 o4 s4 d4=>?_
   obtain ⟨y,hy⟩:∃y,S[j]?=some y:=by cases hc2<;>exact ⟨_,by assumption⟩
   obtain ⟨e1,he1,hb1,lk1⟩:=look (h':=h4) (ag ((s4.pick 2 rfl rfl).open sb |>.at 0 rfl af)) hy
   have hbe4:h4 e'.2=some (ny (gi q.w q.k S x'.b) x'.mv x'.a x'.dn):=(s4.pick 2 rfl rfl).open sb |>.at 1 rfl hbe
   have hfr:gi q.w q.k S x'.b=sk q.w q.k y:=by
     unfold gi
     rw [if_neg (by omega),hb,Int.toNat_natCast,hy]
   rw [hfr]at hbe4
   have ce4:∀k,aa G h4 ⟨e'.2,k,none⟩=_:=fun k=>ai (ag hbe4)
   simp only [stpL,sk]at ce4
   have b4:=tj (hbg h4 d4).2.1
   unfold Kt
   try simp (disch:=decide) only [qy,e0',e6,b4.mt,ce4,lk1]
   refine hX l''.length _ _ (by simp) ⟨j,y,l'',e1,a4,M++[x'.mv],rfl,hc2,hy,hb1,by simp (disch:=decide) only [qy];exact o4,?_,by simp (disch:=decide) only [qy,e0'],by simp only [qy],s4,d4⟩
   rw [← hM,List.append_assoc]
   congr 1
   cases hc2<;>rfl
def bRtS:=jq bC (jq (jq (jq (jq (jq @Bool.and_true @al139) (jq @al30 (jq @cf66 @cf68))) (jq (jq @cf69 (jq @cf70 @eq28)) (jq @eq30 (jq @F5 @F4)))) (jq (jq (jq @Uj @Pv) (jq @Pu (jq @Ui @ad0))) (jq (jq @Uh (jq @ac9 @ac7)) (jq @Ug (jq @ac6 @Pt))))) (jq (jq (jq (jq @Eh @ud) (jq @aa8 (jq @aa7 @Cm))) (jq (jq @Ro (jq @Rn @ld132)) (jq @ld137 (jq @Rm @ld28)))) (jq (jq (jq @ld3 (jq @ld30 @Bb)) (jq @ld3p (jq @ld4 @ld4p))) (jq (jq @ix (jq @fu @kf)) (jq @tr (jq @Yz @yo))))))
theorem StE.look {w k:Nat} {f:Nat→Nat→Int} {b:Hp} {E:List (Nd × Nat)} {S:SS} (s:StE w k b E S) (hS:∀x∈S,dh w k f x.p=true) {j:Nat} {x:St Pose Move} (hx:S[j]?=some x) (hk:Srch.key S x.p x.i=some j):
   ∃e,E[j]?=some e∧b e.2=some (ny (gi w k S x.b) x.mv x.a x.dn)∧kget (E.map entV) (numP w k x.p,(x.i:Int))=some (.pointer (some ⟨e.2,0,none⟩)):=by
 rcases s.get (f:=f) hS (hS _ (List.mem_of_getElem? hx)) (i:=x.i)with ⟨h0,_⟩|⟨j',e,y,h1,h2,h3,h4,h5⟩
 · rw [hk]at h0;cases h0
 · rw [hk]at h1
   cases h1
   rw [hx]at h3
   cases h3
   exact ⟨e,h2,h5,h4⟩

theorem StE.done {w k:Nat} {b:Hp} {E:List (Nd × Nat)} {S:SS} (s:StE w k b E S) {j:Nat} {x:St Pose Move} {e:Nd × Nat} (hx:S[j]?=some x) (he:E[j]?=some e):
   StE w k (b.set e.2 (ny (gi w k S x.b) x.mv x.a true)) E (take S j x):=by
 have hjS:j<S.length:=(List.getElem?_eq_some_iff.1 hx).1
 have e3:({ x with dn:=true }:St Pose Move).p=x.p:=rfl
 have e4:({ x with dn:=true }:St Pose Move).i=x.i:=rfl
 refine ⟨by unfold take;rw [List.length_set];exact s.len,s.nod,fun i e' y he' hy=>?_⟩
 unfold take at hy ⊢
 by_cases hij:j=i
 · subst hij
   rw [List.getElem?_set_self hjS]at hy
   rw [he]at he'
   cases he'
   cases hy
   refine ⟨(s.cel j e x he hx).1,?_⟩
   rw [af,Bh (y:={ x with dn:=true }) hx e3 e4]
 · rw [List.getElem?_set_ne hij]at hy
   obtain ⟨h1,h2⟩:=s.cel i e' y he' hy
   have hne:e'.2≠e.2:=fun h=>by
     have hl1:=(List.getElem?_eq_some_iff.1 he).1
     have hl2:=(List.getElem?_eq_some_iff.1 he').1
     have a1:(E.map (·.2))[j]?=some e.2:=by rw [List.getElem?_map,he];rfl
     have a2:(E.map (·.2))[i]?=some e'.2:=by rw [List.getElem?_map,he'];rfl
     rw [h,← a1]at a2
     exact hij ((List.getElem?_inj (by simpa using hl1) s.nod).1 a2.symm)
   rw [aq hne,Bh (y:={ x with dn:=true }) hx e3 e4]
   exact ⟨h1,h2⟩

def outL:Res Move→List Move
 | .ok l=>l
 | .no _=>[]
def outE:Res Move→Int
 | .ok _=>0
 | .no e=>e

structure Fz (G B:Hp) (q:Par) (sp kp ms mw mp mt hp xc xg:Nat) (gp:Pose) (any:Bool):Prop where
 bg:∀A h,HL.Sep [A,B] h→Dis G h→Bg (HL.under G h A) q sp kp ms mw mp mt hp
 rd:∃g tp,∀h,B.le h→Dis G h→BC G h sp g kp tp q.r ms mw mp mt hp
 gt:jj q.T
 fw:Few q.T 100
 w2:q.w≤16
 k2:q.k≤16
 bud:∀h,B.le h→Dis G h→aa G h ⟨xc,14,none⟩=some (.int .i64 q.C.bu)
 aim:B xg=some (.cells #[.int .i64 gp.x,.int .i64 gp.y,.bool gp.d,.bool any] 45 (0,0))

def ox (gp:Pose) (any:Bool) (p:Pose) (s:Sp):Bool:=((p.x==gp.x&&p.y==gp.y&&p.d==gp.d)||(any&&(p.x==gp.x&&p.y==gp.y)))&&(s.2==FV)

theorem Of {P M:Type} [DecidableEq P] {E:Env P M} {goal:P→Sp→Bool} {n:Nat} {S:List (St P M)} {k:Nat} {x:St P M} (h:least E S=some (k,x)) (hg:goal x.p x.s=true):run E goal (n+1) S = .ok (path (take S k x) S.length k []):=by
 conv=>lhs;unfold run
 rw [h]
 simp only [hg,if_true]
theorem run_on {P M:Type} [DecidableEq P] {E:Env P M} {goal:P→Sp→Bool} {n:Nat} {S:List (St P M)} {k:Nat} {x:St P M} (h:least E S=some (k,x)) (hg:goal x.p x.s=false):run E goal (n+1) S=run E goal n (Fr E { x with dn:=true } k (take S k x)):=by
 conv=>lhs;unfold run
 rw [h]
 simp [hg]

def OutR (G:Hp) (B:Hp) (W:Res Move) (u:Value) (h':Hp):Prop:=∃ip vs,u = .tuple #[vs,.int .i64 (outE W)]∧Slc lj 48 ip vs (outL W)∧(outL W).length≤110000∧HL.Sep [ip,B] h'∧Dis G h'

theorem Oi {G h A B a ae ah ak:Hp} {q:Par} {sp kp ms mw mp mt hp xc xg:Nat} {gp:Pose} {any:Bool} {c:Cs} {S:SS} {L:List Go.Proofs.Wt.It} {n t0 lo:Int} {p0:Pose} {z:Move} {N:Nat}
   (fz:Fz G B q sp kp ms mw mp mt hp xc xg gp any) (ok:zl q.E) (ht0:0≤t0) (hN:(N:Int)=q.C.bu) (hN1:1≤N) (hN2:N≤4000) (hz:z.k=0)
   (ss:Srs q a ae ah ms mw mp mt hp c S L n) (kpk:KP ak kp q.C.un q.C.ac q.C.sp) (v:Inv q.E p0 t0 z lo S) (hn:n≤1)
   (sA:HL.Sep [a,ae,ah,ak] A) (s:HL.Sep [A,B] h) (d:Dis G h) (r:Rg) (g19:r 19 = .pointer (some ⟨sp,0,none⟩)) (g6:r 6 = .pointer (some ⟨xc,0,none⟩)) (g11:r 11 = .pointer (some ⟨xg,0,none⟩)) (g20:r 20 = .int .i64 0) (g15:r 15 = .int .i64 6) {Q:Value→Hp→Prop} (HQ:∀u h',OutR G B (run q.E (ox gp any) N S) u h'→Q u h'):
   bz (Sy G) r h (bh 0 (bq (C7 G (retK P_ G [.tmp 12,.tmp 13] Q)) (rt (retK P_ G [.tmp 12,.tmp 13] Q)))):=by
 obtain ⟨g,tp,hrd⟩:=fz.rd
 generalize hW:run q.E (ox gp any) N S=W at HQ
 generalize hKR:retK P_ G [.tmp 12,.tmp 13] Q=KR
 generalize hKK:bh 0 _=KK
 refine bv (fun m r' h'=>∃(i:Nat) (S':SS) (A' a' ae' ah' ak':Hp) (c':Cs) (L':List Go.Proofs.Wt.It) (n' lo':Int),m=(N-i)*40000000000+L'.length∧i<N∧run q.E (ox gp any) (N-i) S'=W∧Srs q a' ae' ah' ms mw mp mt hp c' S' L' n'∧KP ak' kp q.C.un q.C.ac q.C.sp∧Inv q.E p0 t0 z lo' S'∧n'≤1+i*2000000∧
     HL.Sep [a',ae',ah',ak'] A'∧HL.Sep [A',B] h'∧Dis G h'∧r' 19 = .pointer (some ⟨sp,0,none⟩)∧r' 6 = .pointer (some ⟨xc,0,none⟩)∧r' 11 = .pointer (some ⟨xg,0,none⟩)∧r' 20 = .int .i64 i∧r' 15 = .int .i64 6) ?_ (m:=N*40000000000+L.length)
   ⟨0,S,A,a,ae,ah,ak,c,L,n,lo,by simp,by omega,hW,ss,kpk,v,by omega,sA,s,d,g19,g6,g11,g20,g15⟩
 clear ss kpk v sA s d g19 g6 g11 g20 g15 hW
 rintro m r1 h1 ⟨i,S1,A1,a1,ae1,ah1,ak1,c1,L1,n1,lo1,rfl,hi,hW,ss,kpk,v,hn1,sA,s,d,e19,e6,e11,e20,e15⟩ X hX
 have b1:=hrd h1 (s.in 1 rfl) d
 unfold Sy
 simp only [bRtS,e19,b1.hp]
 obtain ⟨N',hN'⟩:∃N',N-i=N'+1:=⟨N-i-1,by omega⟩
 have sAh:HL.Sep [ah1,a1,ae1,ak1] A1:=sA.sel [2,0,1,3] (by decide) rfl
 have hLn:=ss.ln
 cases L1 with
 |nil=>
   refine (Hw.Z1 ss.hp (HL.Sep.open (R:=[B]) s sAh)).mono ?_
   rintro _ h2 ⟨rfl,rfl⟩
   simp only [Hw.pkV]
   try simp (disch:=first|decide|exact au|exact am|omega|rfl) only [bRtS]
   intro xw hxw gxw
   have s2:=s.past (o := .cells #[.int .i64 0,.int .i64 0,.int .i64 0] 139 (0,0)) hxw
   have d2:=d.set (o := .cells #[.int .i64 0,.int .i64 0,.int .i64 0] 139 (0,0)) gxw
   generalize Hp.set h2 xw _=h3 at s2 d2 ⊢
   rw [← hKK]
   show C7 G KR _ _
   unfold C7
   have hr:W = .no 6:=by
     rw [← hW,hN']
     unfold run
     rw [Zb ss.qi]
   rw [← hKR]
   simp (disch:=decide) only [bRtS,e15]
   exact HQ _ _ ⟨noHp,_,by rw [hr];rfl,by rw [hr];exact Slc.nil,by rw [hr];simp [outL],(s2.drop).none,d2⟩
 |cons w L1=>
   obtain ⟨wk,wm,ws,wn⟩:=w
   obtain ⟨hok',hperm,hmin⟩:=Go.Proofs.Wt.pop_ok ss.ok
   obtain ⟨k,x,hxk,em,es,hstale,hfresh⟩:=popQ ok v ss.qi hmin (L':=Go.Proofs.Wt.popL (⟨wk,wm,ws,wn⟩::L1)) (List.Perm.cons_inv hperm).symm
   have em':wm=numP q.w q.k x.p:=em.symm
   have es':ws=(x.i:Int):=es.symm
   subst em' es'
   have hxm:=List.mem_of_getElem? hxk
   have hpl:=Go.Proofs.Wt.vq (⟨wk,numP q.w q.k x.p,(x.i:Int),wn⟩::L1)
   simp only [List.length_cons]at hpl hLn
   refine (Sep.on s (Hw.hpop (G:=HL.under G h1 A1) ss.hp sAh (by omega))).mono ?_
   rintro _ h2 ⟨A2,⟨rfl,ah2,hp2,sA2,dA2⟩,s2,d2⟩
   have sA2:HL.Sep [ah2,a1,ae1,ak1] A2:=sA2
   simp only [Hw.pkV]
   try simp (disch:=first|decide|exact au|exact am|omega|rfl) only [bRtS]
   intro xw hxw gxw
   have s3:=s2.new (o := .cells #[.int .i64 wk,.int .i64 (numP q.w q.k x.p),.int .i64 (x.i:Int)] 139 (0,0)) hxw
   have d3:=d2.set (o := .cells #[.int .i64 wk,.int .i64 (numP q.w q.k x.p),.int .i64 (x.i:Int)] 139 (0,0)) gxw
   generalize how:Obj.cells #[.int .i64 wk,.int .i64 (numP q.w q.k x.p),.int .i64 (x.i:Int)] 139 (0,0)=ow at s3 d3 ⊢
   generalize Hp.set h2 xw _=h3 at s3 d3 ⊢
   have s3:HL.Sep [A2,B,noHp.set xw ow] h3:=s3.sel [1,2,0] (by decide) rfl
   have cw3:∀k,aa G h3 ⟨xw,k,none⟩=_:=fun k=>ai (ag ((s3.at 2 rfl af).trans (by rw [how])))
   have b3:=hrd h3 (s3.in 1 rfl) d3
   obtain ⟨o,E,bb,km,sb,se⟩:=id ss.st
   have sAe:HL.Sep [ae1,a1,ah2,ak1] A2:=sA2.sel [2,1,0,3] (by decide) rfl
   have sAo:HL.Sep [noHp.set mt o,bb,a1,ah2,ak1] A2:=HL.Sep.open (L:=[noHp.set mt o,bb]) (R:=[a1,ah2,ak1]) sAe sb
   have hmt3:h3 mt=some o:=(s3.in 0 rfl) _ _ (sAo.at 0 rfl af)
   obtain ⟨e,he,hbe,hkg⟩:=se.look (f:=q.f) v.ok hxk (Z0 v hxk)
   have hbe3:h3 e.2=some (ny (gi q.w q.k S1 x.b) x.mv x.a x.dn):=(s3.in 0 rfl) _ _ (sAo.at 1 rfl hbe)
   have ce3:∀k,aa G h3 ⟨e.2,k,none⟩=_:=fun k=>ai (ag hbe3)
   simp only [stpL]at ce3
   have lk3:∀K,pw P_ G h3 (Instr.lookup 131 (.map (some mt)) (.agg #[.int .i64 (numP q.w q.k x.p),.int .i64 (x.i:Int)]) false) K=K (.pointer (some ⟨e.2,0,none⟩)):=by
     intro K
     have:=Di (G:=G) (K:=K) Lx unmt zerot (ag hmt3) km (k:=(numP q.w q.k x.p,(x.i:Int)))
     rw [hkg,Option.getD_some]at this
     exact this
   unfold K9
   try simp (disch:=decide) only [bRtS,Nat.reduceAdd,e19,b3.mt,cw3,lk3,ce3]
   -- it is stale
   have stale:(x.dn=true∨x.a≠wk)→∀r':Rg,r' 19 = .pointer (some ⟨sp,0,none⟩)→r' 6 = .pointer (some ⟨xc,0,none⟩)→r' 11 = .pointer (some ⟨xg,0,none⟩)→r' 20 = .int .i64 i→r' 15 = .int .i64 6→X r' h3:=by
     intro hs r' w19 w6 w11 w20 w15
     exact hX ((N-i)*40000000000+(Go.Proofs.Wt.popL (⟨wk,numP q.w q.k x.p,(x.i:Int),wn⟩::L1)).length) _ _ (by rw [hpl];simp only [List.length_cons];omega)
       ⟨i,S1,A2,a1,ae1,ah2,ak1,c1,_,n1,lo1,rfl,hi,hW,⟨ss.ch,ss.st,hp2,hok',hstale hs,ss.kept,ss.n0,by rw [hpl];omega⟩,kpk,v,hn1,sA2.sel [1,2,0,3] (by decide) rfl,s3.sel [0,1] (by decide) rfl,d3,w19,w6,w11,w20,w15⟩
   cases hdn:x.dn with
   |true=>
     try simp only [bRtS,dv]
     exact stale (.inl hdn) _ (by simp (disch:=omega) only [ao,e19]) (by simp (disch:=omega) only [ao,e6]) (by simp (disch:=omega) only [ao,e11]) (by simp (disch:=omega) only [ao,e20]) (by simp (disch:=omega) only [ao,e15])
   |false=>
   try simp only [bRtS,ce3,cw3]
   by_cases hxa:x.a=wk
   rotate_left
   · try simp only [bRtS,show (x.a != wk)=true from by simpa using hxa]
     exact stale (.inr hxa) _ (by simp (disch:=omega) only [ao,e19]) (by simp (disch:=omega) only [ao,e6]) (by simp (disch:=omega) only [ao,e11]) (by simp (disch:=omega) only [ao,e20]) (by simp (disch:=omega) only [ao,e15])
   subst hxa
   try simp only [bRtS,show (x.a != x.a)=false from by simp]
   obtain ⟨hle,hq2⟩:=hfresh hdn rfl
   obtain ⟨v2,hx2⟩:=Yv v hle
   suffices k8:∀r':Rg,r' 19 = .pointer (some ⟨sp,0,none⟩)→r' 6 = .pointer (some ⟨xc,0,none⟩)→r' 11 = .pointer (some ⟨xg,0,none⟩)→r' 20 = .int .i64 i→r' 15 = .int .i64 6→r' 21 = .pointer (some ⟨xw,0,none⟩)→r' 23 = .pointer (some ⟨e.2,0,none⟩)→C6 G (bq X KK) r' h3 from
     k8 _ (by simp (disch:=omega) only [ao,e19]) (by simp (disch:=omega) only [ao,e6]) (by simp (disch:=omega) only [ao,e11]) (by simp (disch:=omega) only [ao,e20]) (by simp (disch:=omega) only [ao,e15]) (by simp (disch:=decide) only [bRtS]) (by simp (disch:=decide) only [bRtS])
   clear stale
   intro r2 f19 f6 f11 f20 f15 f21 f23
   unfold C6
   simp (disch:=decide) only [bRtS,f23]
   rw [b8 sz4 rfl hbe3 (by simp [stpL])]
   have hset:(stpL (gi q.w q.k S1 x.b) x.mv x.a x.dn).set 14 (.bool true)=stpL (gi q.w q.k S1 x.b) x.mv x.a true:=rfl
   rw [hset]
   have s4:=s3.put (o:=ny (gi q.w q.k S1 x.b) x.mv x.a true) (sAo.at 1 rfl hbe)
   have d4:=d3.set (o:=ny (gi q.w q.k S1 x.b) x.mv x.a true) (d3 _ _ hbe3)
   have sA4:=(HL.Sep.sel (L':=[bb,noHp.set mt o,a1,ah2,ak1]) sAo [1,0,2,3,4] (by decide) rfl).put (o:=ny (gi q.w q.k S1 x.b) x.mv x.a true) hbe
   have se4:=se.done hxk he
   generalize bb.set e.2 _=bb4 at sA4 se4
   generalize A2.set e.2 _=A4 at s4 sA4
   generalize Hp.set h3 e.2 _=h4 at s4 d4 ⊢
   obtain ⟨ae4,sA5,t5⟩:=HL.Sep.pack [noHp.set mt o,bb4] (R:=[a1,ah2,ak1]) (sA4.sel [1,0,2,3,4] (by decide) rfl)
   have sA5:HL.Sep [a1,ae4,ah2,ak1] A4:=sA5.sel [1,0,2,3] (by decide) rfl
   have ss4:Srs q a1 ae4 ah2 ms mw mp mt hp c1 (take S1 k x) (Go.Proofs.Wt.popL (⟨x.a,numP q.w q.k x.p,(x.i:Int),wn⟩::L1)) n1:=⟨ss.ch,⟨o,E,bb4,km,t5,se4⟩,hp2,hok',hq2,fun y hy=>by
     obtain ⟨j,hj⟩:=List.getElem?_of_mem hy
     unfold take at hj
     by_cases hkj:k=j
     · subst hkj
       rw [List.getElem?_set_self (List.getElem?_eq_some_iff.1 hxk).1]at hj
       cases hj
       exact ss.kept x hxm
     · rw [List.getElem?_set_ne hkj]at hj
       exact ss.kept y (List.mem_of_getElem? hj),ss.n0,by rw [hpl];omega⟩
   obtain ⟨o1,o2,o3,m1,m2,m3,sa⟩:=id ss.ch.sep
   have sA6:HL.Sep [noHp.set ms o1,noHp.set mw o2,noHp.set mp o3,c1.P,ae4,ah2,ak1] A4:=HL.Sep.open (L:=[noHp.set ms o1,noHp.set mw o2,noHp.set mp o3,c1.P]) (R:=[ae4,ah2,ak1]) sA5 sa
   have hmp:h4 mp=some o3:=(s4.in 0 rfl) _ _ (sA6.at 2 rfl af)
   have b4:=hrd h4 (s4.in 1 rfl) d4
   obtain ⟨hk1,hk3⟩:=ss.kept x hxm
   have cw4:∀k,aa G h4 ⟨xw,k,none⟩=_:=fun k=>ai (ag ((s4.at 2 rfl af).trans (by rw [how])))
   try simp -implicitDefEqProofs (maxSteps:=2000000) (disch:=first|decide|with_reducible exact Nat.ne_of_beq_eq_false rfl|exact au|exact am|omega|rfl|(simp;done)|fail) only [bRtS,Nat.reduceAdd,f20,f19,b4.mp,f21,cw4]
   rw [Dj unmp un3r zerop (ag hmp) m3,hk3,Option.getD_some]
   intro xp hxp gxp
   try simp (disch:=first|decide|exact au|exact am|omega|rfl) only [bRtS]
   have s5:=s4.new (o := .cells #[.int .i64 x.p.x,.int .i64 x.p.y,.bool x.p.d] 30 (0,0)) hxp
   have d5:=d4.set (o := .cells #[.int .i64 x.p.x,.int .i64 x.p.y,.bool x.p.d] 30 (0,0)) gxp
   generalize hop:Obj.cells #[.int .i64 x.p.x,.int .i64 x.p.y,.bool x.p.d] 30 (0,0)=op at s5 d5 ⊢
   generalize Hp.set h4 xp _=h5 at s5 d5 ⊢
   have s5:HL.Sep [A4,B,noHp.set xw ow,noHp.set xp op] h5:=s5.sel [1,2,3,0] (by decide) rfl
   have cp5:∀k,aa G h5 ⟨xp,k,none⟩=_:=fun k=>ai (ag ((s5.at 3 rfl af).trans (by rw [hop])))
   have cw5:∀k,aa G h5 ⟨xw,k,none⟩=_:=fun k=>ai (ag ((s5.at 2 rfl af).trans (by rw [how])))
   have cg5:∀k,aa G h5 ⟨xg,k,none⟩=_:=fun k=>ai (ag (s5.at 1 rfl fz.aim))
   -- behind the goal's question
   have hA0:0≤x.a:=by
     obtain ⟨z1,z2,_⟩:=v.at_ x hxm
     have:=(ok.pos _ _ (List.mem_of_getElem? z1)).1
     omega
   have k9:ox gp any x.p x.s=false→∀(r':Rg) (h' A' a':Hp) (c':Cs),Srs q a' ae4 ah2 ms mw mp mt hp c' (take S1 k x) (Go.Proofs.Wt.popL (⟨x.a,numP q.w q.k x.p,(x.i:Int),wn⟩::L1)) n1→HL.Sep [a',ae4,ah2,ak1] A'→HL.Sep [A',B,noHp.set xw ow] h'→Dis G h'→r' 19 = .pointer (some ⟨sp,0,none⟩)→r' 6 = .pointer (some ⟨xc,0,none⟩)→r' 11 = .pointer (some ⟨xg,0,none⟩)→r' 20 = .int .i64 ((i:Int)+1)→r' 15 = .int .i64 6→r' 21 = .pointer (some ⟨xw,0,none⟩)→C5 G (bq X KK) r' h':=by
     intro hg r' h' A' a' c' ss' sA' s' d' w19 w6 w11 w20 w15 w21
     have hrun:W=run q.E (ox gp any) N' (Fr q.E { x with dn:=true } k (take S1 k x)):=by
       rw [← hW,hN',run_on hle hg]
     have cb:=fz.bud h' (s'.in 1 rfl) d'
     unfold C5
     try simp only [bRtS,w6,w20,cb]
     by_cases hb:(i:Int)+1=q.C.bu
     · try simp only [bRtS,show ((i:Int)+1==q.C.bu)=true from by simpa using hb]
       rw [← hKK]
       show C7 G KR _ _
       unfold C7
       have hN0:N'=0:=by omega
       subst hN0
       rw [← hKR]
       simp (disch:=decide) only [bRtS]
       exact HQ _ _ ⟨noHp,_,by rw [hrun];rfl,by rw [hrun];exact Slc.nil,by rw [hrun];simp [run,outL],(s'.sel [1] (by decide) rfl).none,d'⟩
     · try simp only [bRtS,show ((i:Int)+1==q.C.bu)=false from by simpa using hb]
       unfold Gt
       have cw':∀k,aa G h' ⟨xw,k,none⟩=_:=fun k=>ai (ag ((s'.at 2 rfl af).trans (by rw [how])))
       try simp (disch:=decide) only [bRtS,Nat.reduceAdd,w19,w21,cw']
       have bg:=fz.bg A' h' (s'.sel [0,1] (by decide) rfl) d'
       refine (Sep.on s' (Xz (G:=HL.under G h' A') (R:=[]) (x:={ x with dn:=true }) ss' kpk bg ok v2 hx2 rfl hA0 (by omega) sA')).mono ?_
       rintro _ h7 ⟨A7,⟨a7,ae7,ah7,ak7,c7,L7,n7,ss7,kp7,_,m1,m2,sA7,_⟩,s7,d7⟩
       try simp (disch:=first|decide|omega) only [bRtS,Nat.reduceAdd,Nat.reduceMul]
       have v7:=(Ny ok (k:=k) (x:={ x with dn:=true }) rfl hA0 (v.ok x hxm) (q.E.ways x.p) (fun _ h=>h) v2 hx2).1
       have ln7:=ss7.ln
       refine hX ((N-(i+1))*40000000000+L7.length) _ _ (by omega) ⟨i+1,_,A7,a7,ae7,ah7,ak7,c7,L7,n7,x.a,rfl,by omega,?_,ss7,kp7,v7,by omega,sA7,s7.sel [0,1] (by decide) rfl,d7,by simp (disch:=omega) only [ao,w19],by simp (disch:=omega) only [ao,w6],by simp (disch:=omega) only [ao,w11],by simp (disch:=omega) only [ao,w20];rfl,by simp (disch:=omega) only [ao,w15]⟩
       rw [show N-(i+1)=N' by omega]
       exact hrun.symm
   try simp only [bRtS,cp5,f11,cg5]
   have sJ:HL.Sep [noHp.set xp op,noHp.set xw ow,c1.P] h5:=HL.Sep.sel (HL.Sep.open (R:=[B,noHp.set xw ow,noHp.set xp op]) s5 sA6) [9,8,3] (by decide) rfl
   cases hD:(x.p.x==gp.x&&x.p.y==gp.y&&x.p.d==gp.d)with
   |true=>
     try simp only [bRtS,Nat.reduceAdd,dv]
     obtain ⟨q9,l1,l2,l3,l4⟩:=join3 (R:=[]) sJ
     have lq2:q9.le h5:=l4 h5 (s5.in 3 rfl) (s5.in 2 rfl) ((sA6.in 3 rfl).trans (s5.in 0 rfl))
     have cq:∀k,aa G q9 ⟨xp,k,none⟩=_:=fun k=>ai (ag ((l1 _ _ af).trans (by rw [hop])))
     have cqn:∀k,aa G q9 ⟨xw,k,none⟩=_:=fun k=>ai (ag ((l2 _ _ af).trans (by rw [how])))
     refine ⟨q9,lq2,?_⟩
     try simp only [bRtS,cq,f19,dv]
     refine (Sep.on s5 (kc (G:=HL.under G h5 A4) (R:=[ae4,ah2,ak1]) ss4.ch (fz.bg A4 h5 (s5.sel [0,1] (by decide) rfl) d5) sA5 (v.ok x hxm))).mono ?_
     rintro u h6 ⟨A6,⟨a6,c6,ch6,cl6,e2,hu,hu3,sA7,_⟩,s6,d6⟩
     refine ⟨l4 h6 (s6.in 3 rfl) (s6.in 2 rfl) (cl6.p.trans (ch6.pool.trans ((sA7.in 0 rfl).trans (s6.in 0 rfl)))),?_⟩
     obtain ⟨u0,hu0⟩:=Option.isSome_iff_exists.1 hk1
     have huu:=cl6.l1 _ _ hu0
     rw [hu]at huu
     cases huu
     have slu:=ss.ch.look1 (v.ok x hxm) hu0
     obtain ⟨sv,cv,rfl,_⟩:=slu.len (by decide)
     have hsi':(jr q.w q.k q.T q.r x.p)[x.i]?=some x.s:=(v.at_ x hxm).1
     obtain ⟨b,o,rfl,z1,z2⟩:=Sees.span (slu.see (G:=G) (by decide) l3) hsi'
     have hlti:(x.i:Int)<((jr q.w q.k q.T q.r x.p).length:Int):=Int.ofNat_lt.2 (List.getElem?_eq_some_iff.1 hsi').1
     try simp (disch:=first|decide|omega) only [bRtS,cqn,Js (Int.natCast_nonneg x.i) hlti,z1,z2,dv]
     have ss6:Srs q a6 ae4 ah2 ms mw mp mt hp c6 (take S1 k x) (Go.Proofs.Wt.popL (⟨x.a,numP q.w q.k x.p,(x.i:Int),wn⟩::L1)) n1:=⟨ch6,ss4.st,ss4.hp,ss4.ok,ss4.qi,ss4.kept.le cl6,ss4.n0,ss4.ln⟩
     by_cases hfv:x.s.2=4611686018427387904
     · have hg:ox gp any x.p x.s=true:=by unfold ox FV;rw [hfv];rw [hD];rfl
       try simp only [bRtS,show (x.s.2==4611686018427387904)=true from by simpa using hfv]
       have cw6:∀k,aa G h6 ⟨xw,k,none⟩=_:=fun k=>ai (ag ((s6.at 2 rfl af).trans (by rw [how])))
       try simp only [bRtS,f21,f19,cw6]
       refine (Sep.on s6 (Je (G:=HL.under G h6 A6) (R:=[ak1]) ss6 (fz.bg A6 h6 (s6.sel [0,1] (by decide) rfl) d6) v2 hz hx2 sA7)).mono ?_
       rintro u h8 ⟨A8,⟨ip,sl8,hl8,sA8,_⟩,s8,d8⟩
       have hrun:W = .ok (path (take S1 k x) S1.length k []):=by
         rw [← hW,hN',Of hle hg]
       have hlen:(take S1 k x).length=S1.length:=by unfold take;rw [List.length_set]
       rw [hlen]at sl8 hl8
       rw [← hKK,← hKR]
       try simp (disch:=decide) only [bRtS]
       exact HQ _ _ ⟨ip,_,by rw [hrun];rfl,by rw [hrun];exact sl8,by rw [hrun];exact hl8,(s8.cut (sA8.in 0 rfl)).sel [0,1] (by decide) rfl,d8⟩
     · try simp only [bRtS,show (x.s.2==4611686018427387904)=false from by simpa using hfv]
       exact k9 (by unfold ox FV;rw [show (x.s.2==4611686018427387904)=false from by simpa using hfv,Bool.and_false]) _ h6 A6 a6 c6 ss6 sA7 (s6.sel [0,1,2] (by decide) rfl) d6 (by simp (disch:=omega) only [ao,f19]) (by simp (disch:=omega) only [ao,f6]) (by simp (disch:=omega) only [ao,f11]) (by simp (disch:=decide) only [bRtS]) (by simp (disch:=omega) only [ao,f15]) (by simp (disch:=omega) only [ao,f21])
   |false=>
     try simp only [bRtS,cg5]
     cases hany:any with
     |false=>
       try simp only [bRtS,dv]
       refine ⟨h5,Hp.le.refl _,?_⟩
       try simp (disch:=first|decide|omega) only [bRtS,Nat.reduceAdd,Nat.reduceMul,dv]
       exact k9 (by unfold ox;rw [hD,hany];rfl) _ h5 A4 a1 c1 ss4 sA5 (s5.sel [0,1,2] (by decide) rfl) d5 (by simp (disch:=omega) only [ao,f19]) (by simp (disch:=omega) only [ao,f6]) (by simp (disch:=omega) only [ao,f11]) (by simp (disch:=decide) only [bRtS]) (by simp (disch:=omega) only [ao,f15]) (by simp (disch:=omega) only [ao,f21])
     |true=>
       try simp only [bRtS,cp5,cg5,f11]
       cases hC:(x.p.x==gp.x&&x.p.y==gp.y)with
       |true=>
         try simp only [bRtS,Nat.reduceAdd]
         obtain ⟨q9,l1,l2,l3,l4⟩:=join3 (R:=[]) sJ
         have lq2:q9.le h5:=l4 h5 (s5.in 3 rfl) (s5.in 2 rfl) ((sA6.in 3 rfl).trans (s5.in 0 rfl))
         have cq:∀k,aa G q9 ⟨xp,k,none⟩=_:=fun k=>ai (ag ((l1 _ _ af).trans (by rw [hop])))
         have cqn:∀k,aa G q9 ⟨xw,k,none⟩=_:=fun k=>ai (ag ((l2 _ _ af).trans (by rw [how])))
         refine ⟨q9,lq2,?_⟩
         try simp only [bRtS,cq,f19,dv]
         refine (Sep.on s5 (kc (G:=HL.under G h5 A4) (R:=[ae4,ah2,ak1]) ss4.ch (fz.bg A4 h5 (s5.sel [0,1] (by decide) rfl) d5) sA5 (v.ok x hxm))).mono ?_
         rintro u h6 ⟨A6,⟨a6,c6,ch6,cl6,e2,hu,hu3,sA7,_⟩,s6,d6⟩
         refine ⟨l4 h6 (s6.in 3 rfl) (s6.in 2 rfl) (cl6.p.trans (ch6.pool.trans ((sA7.in 0 rfl).trans (s6.in 0 rfl)))),?_⟩
         obtain ⟨u0,hu0⟩:=Option.isSome_iff_exists.1 hk1
         have huu:=cl6.l1 _ _ hu0
         rw [hu]at huu
         cases huu
         have slu:=ss.ch.look1 (v.ok x hxm) hu0
         obtain ⟨sv,cv,rfl,_⟩:=slu.len (by decide)
         have hsi':(jr q.w q.k q.T q.r x.p)[x.i]?=some x.s:=(v.at_ x hxm).1
         obtain ⟨b,o,rfl,z1,z2⟩:=Sees.span (slu.see (G:=G) (by decide) l3) hsi'
         have hlti:(x.i:Int)<((jr q.w q.k q.T q.r x.p).length:Int):=Int.ofNat_lt.2 (List.getElem?_eq_some_iff.1 hsi').1
         try simp (disch:=first|decide|omega) only [bRtS,cqn,Js (Int.natCast_nonneg x.i) hlti,z1,z2,dv]
         have ss6:Srs q a6 ae4 ah2 ms mw mp mt hp c6 (take S1 k x) (Go.Proofs.Wt.popL (⟨x.a,numP q.w q.k x.p,(x.i:Int),wn⟩::L1)) n1:=⟨ch6,ss4.st,ss4.hp,ss4.ok,ss4.qi,ss4.kept.le cl6,ss4.n0,ss4.ln⟩
         by_cases hfv:x.s.2=4611686018427387904
         · have hg:ox gp any x.p x.s=true:=by unfold ox FV;rw [hfv];rw [hD,hany,hC];rfl
           try simp only [bRtS,show (x.s.2==4611686018427387904)=true from by simpa using hfv]
           have cw6:∀k,aa G h6 ⟨xw,k,none⟩=_:=fun k=>ai (ag ((s6.at 2 rfl af).trans (by rw [how])))
           try simp only [bRtS,f21,f19,cw6]
           refine (Sep.on s6 (Je (G:=HL.under G h6 A6) (R:=[ak1]) ss6 (fz.bg A6 h6 (s6.sel [0,1] (by decide) rfl) d6) v2 hz hx2 sA7)).mono ?_
           rintro u h8 ⟨A8,⟨ip,sl8,hl8,sA8,_⟩,s8,d8⟩
           have hrun:W = .ok (path (take S1 k x) S1.length k []):=by
             rw [← hW,hN',Of hle hg]
           have hlen:(take S1 k x).length=S1.length:=by unfold take;rw [List.length_set]
           rw [hlen]at sl8 hl8
           rw [← hKK,← hKR]
           try simp (disch:=decide) only [bRtS]
           exact HQ _ _ ⟨ip,_,by rw [hrun];rfl,by rw [hrun];exact sl8,by rw [hrun];exact hl8,(s8.cut (sA8.in 0 rfl)).sel [0,1] (by decide) rfl,d8⟩
         · try simp only [bRtS,show (x.s.2==4611686018427387904)=false from by simpa using hfv]
           exact k9 (by unfold ox FV;rw [show (x.s.2==4611686018427387904)=false from by simpa using hfv,Bool.and_false]) _ h6 A6 a6 c6 ss6 sA7 (s6.sel [0,1,2] (by decide) rfl) d6 (by simp (disch:=omega) only [ao,f19]) (by simp (disch:=omega) only [ao,f6]) (by simp (disch:=omega) only [ao,f11]) (by simp (disch:=decide) only [bRtS]) (by simp (disch:=omega) only [ao,f15]) (by simp (disch:=omega) only [ao,f21])
       |false=>
         try simp only [bRtS]
         refine ⟨h5,Hp.le.refl _,?_⟩
         try simp (disch:=first|decide|omega) only [bRtS,Nat.reduceAdd,Nat.reduceMul,dv]
         exact k9 (by unfold ox;rw [hD,hany,hC];rfl) _ h5 A4 a1 c1 ss4 sA5 (s5.sel [0,1,2] (by decide) rfl) d5 (by simp (disch:=omega) only [ao,f19]) (by simp (disch:=omega) only [ao,f6]) (by simp (disch:=omega) only [ao,f11]) (by simp (disch:=decide) only [bRtS]) (by simp (disch:=omega) only [ao,f15]) (by simp (disch:=omega) only [ao,f21])
theorem Y1 {C:Conf} (mk:li C):(1≤C.un∧C.un≤1000)∧(1≤C.ac∧C.ac≤1000)∧(1≤C.sp∧C.sp≤1000)∧(1≤C.tu∧C.tu≤1000)∧(1≤C.ho∧C.ho≤1000):=by
 have h:=mk.six
 simp only [List.mem_cons,List.not_mem_nil,or_false,forall_eq_or_imp,forall_eq,av,Bool.and_eq_true,decide_eq_true_eq]at h
 omega

theorem Zx {C:Conf} (mk:li C) {w k:Nat} {f:Nat→Nat→Int} {p:Pose} {m:Move} (h:m∈nh w k f p):1≤gj C m∧gj C m≤16000:=by
 obtain ⟨⟨a1,a2⟩,_,_,⟨b1,b2⟩,_⟩:=Y1 mk
 obtain ⟨_,⟨d,n,_,n1,n2,_,rfl⟩|⟨_,rfl⟩⟩:=xy h
 · obtain ⟨_,t2,t3⟩:=time_bd (A:=C.ac) (V:=C.sp) (n:=(n:Int)) a1 a2
   have e:gj C (yr p d n)=Dc C.un C.ac C.sp n:=by unfold gj;exact if_pos rfl
   rw [e]
   exact ⟨t3 (by omega) (by omega),t2⟩
 · have e:gj C (mu p)=C.tu:=by
     unfold gj
     rw [if_neg (by show ¬((2:Int)=1);decide)]
     exact if_pos rfl
   rw [e]
   omega

theorem Ws {w k:Nat} {f:Nat→Nat→Int} {p:Pose} (h:wayB w k f (mu p)=true):dh w k f (I3 p)=true:=by
 unfold wayB at h
 simp only [Bool.and_eq_true]at h
 obtain ⟨_,h⟩:=h
 rw [if_neg (by show ¬((2:Int)=1);decide),show (mu p).k=2 from rfl,if_pos (rfl:(2:Int)=2)]at h
 simp only [Bool.and_eq_true,List.all_eq_true]at h
 obtain ⟨_,h,_⟩:=h
 have h1:∀c∈jt (p.x,p.y),nq w k f c=true:=h
 unfold dh
 rw [Bool.and_eq_true]
 refine ⟨h1 _ (by simp [jt,I3]),h1 _ ?_⟩
 unfold east I3
 cases p.d<;>simp [jt]

theorem env_ok {q:Par} (mk:li q.C) (gt:jj q.T):zl q.E:=by
 refine ⟨fun p y hy=>?_,fun p s hs=>?_,fun p hp y hy=>?_,fun p p' hp hp' e=>si (f:=q.f) hp hp' e⟩
 · obtain ⟨i,hi⟩:=List.getElem?_of_mem hy
   obtain ⟨m,hm,rfl⟩:=Ee hi
   have:=Zx mk hm
   exact ⟨this.1,Int.le_trans this.2 (by decide)⟩
 · have hr:Ris (q.E.spans p):=Om gt q.r _
   exact hr.bd s hs
 · obtain ⟨i,hi⟩:=List.getElem?_of_mem hy
   obtain ⟨m,hm,rfl⟩:=Ee hi
   show dh q.w q.k q.f m.t=true
   obtain ⟨_,⟨d,n,_,_,_,ho,rfl⟩|⟨hb,rfl⟩⟩:=xy hm
   · exact ho
   · exact Ws hb
end Go.Proofs.YtfflipnhffknnaaGreatDoor
end

section
namespace Go.Proofs.YtfflipnhffknnaaGreatDoor
open Go Go.HL
theorem ca_nil {G h:Hp} {C:Conf} (h1:C.bl=[]) (h2:C.po=[]) (h3:C.ro=[]) (h4:C.st=[]):CA G h C none 0 none 0 none 0 none 0:=by
 obtain ⟨w,hh,ht,bl,po,ro,st,un,ac,sp,tu,ho,qu,re,bu,back⟩:=C
 subst h1 h2 h3 h4
 exact ⟨Slc.nil.sees (e:=28) (a:=noHp) (by decide) (fun _ _ e=>by cases e),Slc.nil.sees (e:=28) (a:=noHp) (by decide) (fun _ _ e=>by cases e),Slc.nil.sees (e:=30) (a:=noHp) (by decide) (fun _ _ e=>by cases e),[],Slc.nil.sees (e:=95) (a:=noHp) (by decide) (fun _ _ e=>by cases e),by simp⟩

theorem may_nil {C:Conf} (h1:C.bl=[]) (h2:C.po=[]) (h3:C.ro=[]) (h4:C.st=[]):Wp C↔mx C=true:=by
 refine ⟨fun m=>m.nums,fun n=>⟨n,by simp [h2],by simp [h3],by simp [h1],by simp [h1],by simp [h2],by simp [h3],by simp [h3],?_⟩⟩
 exact ⟨by simp [h4],by simp [h4],by simp [h4],by simp [h4],by simp [h4],by simp [h4]⟩

theorem Sees.move {G h:Hp} {sa:Option Addr} {cap n:Nat} {L:List Move} (s:Sees lj G h (.slice sa n cap) L) {i:Nat} {x:Move} (hx:L[i]?=some x):
   ∃b o,sa=some ⟨b,o,none⟩∧∀j,j<11→aa G h ⟨b,o+i*11+j,none⟩=(lj.enc x)[j]?:=by
 obtain ⟨b,o,c,e1,e2⟩:=s.get hx
 simp only [Value.slice.injEq]at e1
 exact ⟨b,o,e1.1,e2⟩
end Go.Proofs.YtfflipnhffknnaaGreatDoor
end

section
namespace Go.Proofs.YtfflipnhffknnaaGreatDoor
open Go Go.HL Go.Proofs.Resv Go.Proofs.Srch
def bRtT:=jq bC (jq (jq (jq (jq @rc @bd146_) (jq @cf29 @cf63)) (jq (jq @cf65 @cf66) (jq @cf67 @Uj))) (jq (jq (jq @Cv @Fy) (jq @Fx @ld26)) (jq (jq @ld3 @ld30) (jq @ix @kf))))
def zM:Move:=⟨0,0,0,⟨0,0,false⟩,⟨0,0,false⟩,0,0⟩
theorem kb_of {C:Conf} (mk:li C):KB C.un C.ac C.sp:=by
 obtain ⟨⟨a1,a2⟩,⟨b1,b2⟩,⟨c1,c2⟩,_,_⟩:=Y1 mk
 exact ⟨a1,a2,b1,b2,c1,c2⟩

theorem mkmapR {T:TypeId} {G h:Hp} {K:VK}:wpH P_ G (Instr.makeMap T none) h K=∀x,h x=none→G x=none→K (.map (some x)) (h.set x (.map #[] 0)):=by
 simp [Instr.makeMap,bind,Sem.bind,pure,wpH,newObj]

theorem find_k3 {G h ga B0:Hp} {C:Conf} {T:Tb} {ab:Option Addr} {cb:Nat} {ap:Option Addr} {cp:Nat} {ar:Option Addr} {cr:Nat} {az:Option Addr} {cs:Nat} {xc xp xg tp gb kb w k:Nat} {f:Nat→Nat→Int} {p gp:Pose} {rb t:Int} {any:Bool}
   (st:jo G) (mk:li C) (hbu:C.bu≤4000) (gt:jj T) (fw:Few T 100) (go:GO ga gb kb w k f) (ca:CA G B0 C ab cb ap cp ar cr az cs) (ts:Rv.TSee G B0 tp T) (hpf:dh w k f p=true) (ht0:0≤t) (ht1:t<FV)
   (bc:B0 xc=some (.cells #[.int .i64 C.w,.int .i64 C.h,.int .i64 C.ht,.slice ab C.bl.length cb,.slice ap C.po.length cp,.slice ar C.ro.length cr,.slice az C.st.length cs,.int .i64 C.un,.int .i64 C.ac,.int .i64 C.sp,.int .i64 C.tu,.int .i64 C.ho,.int .i64 C.qu,.int .i64 C.re,.int .i64 C.bu,.bool C.back] 26 (0,0)))
   (bp:B0 xp=some (.cells #[.int .i64 p.x,.int .i64 p.y,.bool p.d] 30 (0,0))) (bgl:B0 xg=some (.cells #[.int .i64 gp.x,.int .i64 gp.y,.bool gp.d,.bool any] 45 (0,0)))
   (s:HL.Sep [ga,B0] h) (d:Dis G h) (r:Rg) (g1:r 1 = .pointer (some ⟨tp,0,none⟩)) (g2:r 2 = .int .i64 rb) (g4:r 4 = .int .i64 t) (g6:r 6 = .pointer (some ⟨xc,0,none⟩)) (g9:r 9 = .pointer (some ⟨xp,0,none⟩)) (g11:r 11 = .pointer (some ⟨xg,0,none⟩)) (g14:r 14 = .pointer (some ⟨gb,0,none⟩)) {Q:Value→Hp→Prop} (HQ:∀u h',OutR G B0 (find (envE C w k f T rb) (ox gp any) p t zM C.bu.toNat) u h'→Q u h'):
   Sz G (retK P_ G [.tmp 12,.tmp 13] Q) r h:=by
 generalize hq:(⟨C,w,k,f,T,rb⟩:Par)=q
 have hE:envE C w k f T rb=q.E:=by rw [← hq];rfl
 rw [hE]at HQ
 generalize hW:find q.E (ox gp any) p t zM C.bu.toNat=W at HQ
 generalize hKR:retK P_ G [.tmp 12,.tmp 13] Q=KR
 unfold Sz
 have cc:∀k,aa G h ⟨xc,k,none⟩=_:=fun k=>ai (ag (s.at 1 rfl bc))
 simp only [bRtT,g6,cc]
 refine (O6 (U:=C.un) (A:=C.ac) (V:=C.sp)).mono ?_
 rintro _ h1 (⟨_,ak,kp,rfl,kpk,s1,d1⟩|⟨hno,_⟩)
 rotate_left
 · exact absurd (kb_of mk) hno
 have s1:HL.Sep [ak,ga,B0] h1:=HL.Sep.open (L:=[ga,B0]) (R:=[ak]) (s1.swap) s |>.sel [2,0,1] (by decide) rfl
 have cc1:∀k,aa G h1 ⟨xc,k,none⟩=_:=fun k=>ai (ag (s1.at 2 rfl bc))
 try simp only [bRtT,g6,cc1]
 simp only [mkmapR]
 intro ms hms gms mw hmw gmw mp hmp gmp mt hmt gmt
 have s2:=((((s1.new (o := .map #[] 0) hms).new (o := .map #[] 0) hmw).new (o := .map #[] 0) hmp).new (o := .map #[] 0) hmt)
 have d2:=((((d1.set (o := .map #[] 0) gms).set (o := .map #[] 0) gmw).set (o := .map #[] 0) gmp).set (o := .map #[] 0) gmt)
 generalize Hp.set (Hp.set (Hp.set (Hp.set h1 ms _) mw _) mp _) mt _=h2 at s2 d2 ⊢
 -- mt,mp,mw,ms,ak,ga,B0
 try simp only [bRtT,g14,g1,g2]
 intro sp hsp gsp
 have s3:=s2.new (o := .cells ((na C (.slice ab C.bl.length cb) (.slice ap C.po.length cp) (.slice ar C.ro.length cr) (.slice az C.st.length cs) (.pointer (some ⟨gb,0,none⟩)) kp tp rb ms mw mp mt 0).set 24 (.pointer none)).toArray 134 (0,0)) hsp
 have d3:=d2.set (o := .cells ((na C (.slice ab C.bl.length cb) (.slice ap C.po.length cp) (.slice ar C.ro.length cr) (.slice az C.st.length cs) (.pointer (some ⟨gb,0,none⟩)) kp tp rb ms mw mp mt 0).set 24 (.pointer none)).toArray 134 (0,0)) gsp
 simp only [na,List.set_cons_succ,List.set_cons_zero]at s3 d3
 generalize hos:Obj.cells (List.toArray [.int .i64 C.w,_,_,_,_,_,_,_,_,_,_,_,_,_,_,_,_,_,_,_,_,_,_,_,_]) 134 (0,0)=os at s3 d3 ⊢
 generalize Hp.set h2 sp _=h3 at s3 d3 ⊢
 refine (Hw.qr (G:=G) (h:=h3)).mono ?_
 rintro _ _ ⟨hp,rfl,hhp,ghp,rfl⟩
 have s4:=s3.new (o := .cells #[.func (.func 64) #[] #[],.slice none 0 0,.int .i64 0] 218 (0,0)) hhp
 have d4:=d3.set (o := .cells #[.func (.func 64) #[] #[],.slice none 0 0,.int .i64 0] 218 (0,0)) ghp
 generalize hoh:Obj.cells #[.func (.func 64) #[] #[],.slice none 0 0,.int .i64 0] 218 (0,0)=oh at s4 d4 ⊢
 generalize Hp.set h3 hp oh=h4 at s4 d4 ⊢
 -- hp,sp,mt,mp,mw,ms,ak,ga,B0
 try simp (disch:=first|decide|omega) only [bRtT,Nat.reduceAdd,Nat.reduceMul]
 have hs4:h4 sp=some os:=s4.at 1 rfl af
 subst hos
 rw [b8 sz132 rfl hs4 (by simp)]
 have s5:=(s4.pick 1 rfl rfl).put (o := .cells (na C (.slice ab C.bl.length cb) (.slice ap C.po.length cp) (.slice ar C.ro.length cr) (.slice az C.st.length cs) (.pointer (some ⟨gb,0,none⟩)) kp tp rb ms mw mp mt hp).toArray 134 (0,0)) af
 rw [set_set]at s5
 have d5:=d4.set (o := .cells (na C (.slice ab C.bl.length cb) (.slice ap C.po.length cp) (.slice ar C.ro.length cr) (.slice az C.st.length cs) (.pointer (some ⟨gb,0,none⟩)) kp tp rb ms mw mp mt hp).toArray 134 (0,0)) (d4 _ _ hs4)
 simp only [List.set_cons_succ,List.set_cons_zero]
 generalize hos:Obj.cells (na C (.slice ab C.bl.length cb) (.slice ap C.po.length cp) (.slice ar C.ro.length cr) (.slice az C.st.length cs) (.pointer (some ⟨gb,0,none⟩)) kp tp rb ms mw mp mt hp).toArray 134 (0,0)=os at s5 d5
 have hos':=hos
 simp only [na]at hos'
 rw [hos']
 generalize Hp.set h4 sp _=h5 at s5 d5 ⊢
 have s6:=s5.none.none.sel [7,6,5,0,4,1,3,8,2,9,10] (by decide) rfl
 clear s1 s2 s3 s4 s5 d1 d2 d3 d4 hs4 cc cc1
 obtain ⟨a,s7,ta⟩:=HL.Sep.pack [noHp.set ms (.map #[] 0),noHp.set mw (.map #[] 0),noHp.set mp (.map #[] 0),noHp] s6
 obtain ⟨ae,s8,tae⟩:=HL.Sep.pack [noHp.set mt (.map #[] 0),noHp] (R:=[a,noHp.set hp oh,ak,noHp.set sp os,ga,B0]) (s7.sel [1,2,0,3,4,5,6,7] (by decide) rfl)
 obtain ⟨A,s9,tA⟩:=HL.Sep.pack [a,ae,noHp.set hp oh,ak] (R:=[noHp.set sp os,ga,B0]) (s8.sel [1,0,2,3,4,5,6] (by decide) rfl)
 obtain ⟨B,s10,tB⟩:=HL.Sep.pack [noHp.set sp os,ga,B0] (R:=[A]) (s9.sel [1,2,3,0] (by decide) rfl)
 have s11:HL.Sep [A,B] h5:=s10.swap
 have lB0:B0.le B:=tB.in 2 rfl
 have dB:Dis G B:=fun x o hx=>d5 x o (s10.in 0 rfl x o hx)
 have hsB:B sp=some os:=tB.at 0 rfl af
 have bgA:∀A' h',HL.Sep [A',B] h'→Dis G h'→Bg (HL.under G h' A') q sp kp ms mw mp mt hp:=by
   intro A' h' s' d'
   subst hq
   refine Bg.of (tp:=tp) (gp:=gb) s' d' (ca.up lB0 dB) (fun j hj=>?_) ((go.le (tB.in 1 rfl)).gs) (ts.up lB0 dB) st gt fw
   rw [ai (ag (hsB.trans (by rw [← hos])))]
 have cB:∀h',B.le h'→Dis G h'→BC G h' sp (.pointer (some ⟨gb,0,none⟩)) kp tp q.r ms mw mp mt hp:=by
   intro h' l' d'
   subst hq
   exact tj (C:=C) (vb := .slice ab C.bl.length cb) (vp := .slice ap C.po.length cp) (vr := .slice ar C.ro.length cr) (vz := .slice az C.st.length cs) fun j hj=>by
     rw [ai (ag ((l' _ _ hsB).trans (by rw [← hos])))]
 have hC:q.C=C:=by rw [← hq]
 have fz:Fz G B q sp kp ms mw mp mt hp xc xg gp any:=⟨bgA,⟨_,_,cB⟩,by rw [← hq];exact gt,by rw [← hq];exact fw,by rw [← hq];exact go.w2,by rw [← hq];exact go.k2,fun h' l' d'=>by rw [ai (ag (l' _ _ (lB0 _ _ bc))),hC];rfl,lB0 _ _ bgl⟩
 have c0:Ch q a ms mw mp ⟨[],[],[],noHp⟩:=⟨⟨_,_,_,⟨#[],0,rfl,rfl⟩,⟨#[],0,rfl,rfl⟩,⟨#[],0,rfl,rfl⟩,ta⟩,fun n v h=>by simp [mget]at h,fun n v h=>by simp [mget]at h,fun n v h=>by simp [mget]at h⟩
 have hpq:dh q.w q.k q.f p=true:=by rw [← hq];exact hpf
 have cp5:∀k,aa G h5 ⟨xp,k,none⟩=_:=fun k=>ai (ag ((s11.in 1 rfl) _ _ (lB0 _ _ bp)))
 try simp only [bRtT,g9,cp5]
 refine (Sep.on s11 (kc (G:=HL.under G h5 A) (R:=[ae,noHp.set hp oh,ak]) c0 (bgA A h5 s11 d5) tA hpq)).mono ?_
 rintro u h6 ⟨A6,⟨a6,c6,ch6,cl6,e2,hu,hu3,sA6,_⟩,s12,d6⟩
 have slu:=ch6.look1 hpq hu
 rw [g4]
 refine (Dm (t:=t) (slu.see (G:=G) (by decide) (ch6.pool.trans ((sA6.in 0 rfl).trans (s12.in 0 rfl)))) (by have:=I7 (q:=q) fz.gt fz.fw p;omega)).mono ?_
 rintro _ h6 ⟨rfl,rfl⟩
 try simp only [bRtT,g4]
 have hsp:q.E.spans p=jr q.w q.k q.T q.r p:=rfl
 cases hi:inside (jr q.w q.k q.T q.r p) t with
 |none=>
   have hw:W = .no 18:=by
     rw [← hW]
     unfold find
     rw [hsp,hi]
   rw [show insI (jr q.w q.k q.T q.r p) t = -1 from by unfold insI;rw [hi]]
   rw [← hKR]
   try simp (disch:=decide) only [bRtT]
   exact HQ _ _ ⟨noHp,_,by rw [hw];rfl,by rw [hw];exact Slc.nil,by rw [hw];simp [outL],((s12.drop).cut lB0).none,d6⟩
 |some i0=>
   rw [show insI (jr q.w q.k q.T q.r p) t=(i0:Int)from by unfold insI;rw [hi]]
   try simp only [bRtT,show decide ((i0:Int)<0)=false from decide_eq_false (by omega)]
   unfold as6
   have cp6:∀k,aa G h6 ⟨xp,k,none⟩=_:=fun k=>ai (ag ((s12.in 1 rfl) _ _ (lB0 _ _ bp)))
   try simp (disch:=decide) only [bRtT,g9,cp6,g4]
   have ss0:Srs q a6 ae (noHp.set hp oh) ms mw mp mt hp c6 [] [] 0:=
     { ch:=ch6,st:=⟨.map #[] 0,[],noHp,KMap.empty,tae,⟨rfl,List.nodup_nil,fun i e x h=>by simp at h⟩⟩,hp:=⟨none,_,af.trans (by rw [← hoh]),⟨rfl,rfl⟩⟩,
       ok:=fun j h1 h2=>absurd h2 (by simp),qi:=⟨(fun w hw=>nomatch hw),(fun x hx=>nomatch hx)⟩,kept:=(fun x hx=>nomatch hx),n0:=Int.le_refl _,ln:=Int.le_refl _ }
   have v0:Inv q.E p t zM t []:=⟨List.Pairwise.nil,(fun x hx=>nomatch hx),(fun x hx=>nomatch hx),(fun x hx=>nomatch hx),(fun x hx=>nomatch hx),(fun x hx=>nomatch hx)⟩
   have ok:zl q.E:=env_ok (by rw [hC];exact mk) fz.gt
   have sA7:HL.Sep [a6,ae,noHp.set hp oh,ak] A6:=sA6
   have hr:=E7 (G:=HL.under G h6 A6) (R:=[ak]) (p:=p) (t:=t) (m:=zM) (b := -1) (lo:=t) (t0:=t) (p0:=p) (z:=zM) ss0 (bgA A6 h6 s12 d6) v0 (Int.le_refl _) hpq (by omega) (.inl (by decide)) sA7
   have hf:gi q.w q.k [] (-1)=(0,0):=by unfold gi;rw [if_pos (by decide)]
   rw [hf]at hr
   simp only [zM]at hr
   refine (Sep.on s12 hr).mono ?_
   rintro _ h7 ⟨A7,⟨a7,ae7,ah7,c7,L7,n7,ss7,_,_,m1,m2,sA8,_⟩,s13,d7⟩
   have v7:Inv q.E p t zM t (note q.E [] p t zM (-1)):=Oy v0 (Int.le_refl _) hpq (.inl ⟨rfl,rfl,rfl,rfl⟩)
   have hb:=mk.bu
   unfold av at hb
   simp only [Bool.and_eq_true,decide_eq_true_eq]at hb
   try simp (disch:=first|decide|omega) only [bRtT,Nat.reduceAdd,Nat.reduceMul]
   subst hKR
   have hkq:KP ak kp q.C.un q.C.ac q.C.sp:=by rw [hC];exact kpk
   have ss7':Srs q a7 ae7 ah7 ms mw mp mt hp _ (note q.E [] p t zM (-1)) L7 n7:=ss7
   refine Oi (N:=C.bu.toNat) (t0:=t) fz ok ht0 (by rw [hC];omega) (by omega) (by omega) rfl ss7' hkq v7 (by omega) sA8 s13 d7 _ (by simp (disch:=decide) only [bRtT]) (by simp (disch:=omega) only [ao,g6]) (by simp (disch:=omega) only [ao,g11]) (by simp (disch:=decide) only [bRtT]) (by simp only [bRtT]) ?_
   intro u h' ho
   have hw:W=run q.E (ox gp any) C.bu.toNat (note q.E [] p t zM (-1)):=by
     rw [← hW]
     unfold find
     rw [hsp,hi]
   have ho':OutR G B W u h':=by rw [hw];exact ho
   obtain ⟨ip,vs,e1,e2,e3,e4,e5⟩:=ho'
   exact HQ _ _ ⟨ip,vs,e1,e2,e3,(e4.swap.cut lB0).swap,e5⟩
def fh:=jq bC (jq (jq (jq (jq @Ge @th) (jq @bne_self_eq_false.{0} (jq @cf26 @cf37))) (jq (jq @cf61 @cf62) (jq @eq34np (jq @eq34sp @Ue)))) (jq (jq (jq @Ub @ud) (jq @aa8 (jq @aa7 @ld26))) (jq (jq @ld28 (jq @ld30 @Bb)) (jq @ld3p (jq @ld4 @kf)))))
def aimB (C:Conf) (gp:Pose) (any:Bool):Bool:=if any=true then nq (wC C) (kC C) (f3C C) (gp.x,gp.y)else dh (wC C) (kC C) (f3C C) gp
def wp (C:Conf) (To:Option Tb) (rb:Int) (p:Pose) (t:Int) (gp:Pose) (any:Bool):Res Move:=match To with
 |none => .no 1
 |some T=>if (T.length:Int)≠C.w*C.h∨rb<0∨t<0∨t≥FV∨dh (wC C) (kC C) (f3C C) p=false∨aimB C gp any=false then .no 1
   else find (envE C (wC C) (kC C) (f3C C) T rb) (ox gp any) p t zM C.bu.toNat
def FindR (G h:Hp) (C:Conf) (To:Option Tb) (rb:Int) (p:Pose) (t:Int) (gp:Pose) (any:Bool) (u:Value) (h':Hp):Prop:=
 ∃W,OutR G h W u h'∧((¬li C∧W = .no 5)∨(li C∧W=wp C To rb p t gp any))
def TabV (G h:Hp) (vt:Value):Option Tb→Prop
 |none=>vt = .pointer none
 |some T=>∃tp,vt = .pointer (some ⟨tp,0,none⟩)∧Rv.TSee G h tp T∧jj T∧Few T 100

theorem X3 {G h:Hp} {C:Conf} {v vt:Value} {To:Option Tb} {p gp:Pose} {rb t:Int} {any:Bool} (hv:CV G h v C) (st:jo G) (hro:∀p∈C.ro,PB p) (hsl:C.st.length≤100000000000000) (hbu:li C→C.bu≤4000)
   (tv:TabV G h vt To) (hp:PB p) (hgp:PB gp):
   aj P_ G 27 #[v,vt,.int .i64 rb,mq p,.int .i64 t,.agg #[.int .i64 gp.x,.int .i64 gp.y,.bool gp.d,.bool any]] h (FindR G h C To rb p t gp any):=by
 obtain ⟨ab,cb,ap,cp,ar,cr,az,cs,rfl,ca⟩:=hv
 refine aj.assume fun d=>enter27 (by simp) ?_
 unfold S27
 simp (disch:=decide) only [fh]
 intro xc hxc gxc xp hxp gxp xg hxg gxg
 have s1:=((HL.Sep.one (h:=h)).past (o := .cells #[.int .i64 C.w,.int .i64 C.h,.int .i64 C.ht,.slice ab C.bl.length cb,.slice ap C.po.length cp,.slice ar C.ro.length cr,.slice az C.st.length cs,.int .i64 C.un,.int .i64 C.ac,.int .i64 C.sp,.int .i64 C.tu,.int .i64 C.ho,.int .i64 C.qu,.int .i64 C.re,.int .i64 C.bu,.bool C.back] 26 (0,0)) hxc)
 generalize e1:Hp.set h xc _=h1 at*
 obtain ⟨l1,d1,bc1⟩:=boxed e1 hxc d gxc
 generalize e2:Hp.set h1 xp _=h2 at*
 obtain ⟨l2,d2,bp2⟩:=boxed e2 hxp d1 gxp
 generalize e3:Hp.set h2 xg _=h3 at*
 obtain ⟨l3,d3,bg3⟩:=boxed e3 hxg d2 gxg
 have bc3:=l3 _ _ (l2 _ _ bc1)
 have bp3:=l3 _ _ bp2
 have L:=l1.trans (l2.trans l3)
 have cc:∀j,aa G h3 ⟨xc,j,none⟩=_:=fun j=>ai (ag bc3)
 have cg:∀j,aa G h3 ⟨xg,j,none⟩=_:=fun j=>ai (ag bg3)
 clear s1
 try simp only [fh,cc]
 refine (qr (ca.up L d3).cv st hro hsl).mono ?_
 rintro _ h4 ⟨l4,d4,⟨mk,ga,gb,kb,rfl,go,s4⟩|⟨hno,rfl⟩⟩
 rotate_left
 · try simp only [fh]
   exact ⟨.no 5,⟨noHp,_,rfl,Slc.nil,by simp [outL],(HL.Sep.one.none.swap.cut (L.trans l4)).swap,d4⟩,.inl ⟨hno,rfl⟩⟩
 try simp only [fh]
 have gs:=go.gs (G:=G)
 have gs4:=gs.up (s4.in 0 rfl) d4
 have cg4:∀j,aa G h4 ⟨xg,j,none⟩=_:=fun j=>ai (ag (s4.at 1 rfl bg3))
 unfold as7
 try simp (disch:=decide) only [fh,cg4]
 have out1:wp C To rb p t gp any = .no 1→FindR G h C To rb p t gp any (.tuple #[.slice none 0 0,.int .i64 1]) h4:=fun e=>
   ⟨.no 1,⟨noHp,_,rfl,Slc.nil,by simp [outL],(HL.Sep.one.none.swap.cut (L.trans l4)).swap,d4⟩,.inr ⟨mk,e.symm⟩⟩
 have cc4:∀j,aa G h4 ⟨xc,j,none⟩=_:=fun j=>ai (ag (s4.at 1 rfl bc3))
 have cp4:∀j,aa G h4 ⟨xp,j,none⟩=_:=fun j=>ai (ag (s4.at 1 rfl bp3))
 generalize hKR:retK P_ G [.tmp 12,.tmp 13] (FindR G h C To rb p t gp any)=KR
 suffices k2:∀r':Rg,r' 1=vt→r' 2 = .int .i64 rb→r' 4 = .int .i64 t→r' 6 = .pointer (some ⟨xc,0,none⟩)→r' 9 = .pointer (some ⟨xp,0,none⟩)→r' 11 = .pointer (some ⟨xg,0,none⟩)→r' 14 = .pointer (some ⟨gb,0,none⟩)→r' 16 = .bool (aimB C gp any)→M7 G KR r' h4 by
   refine (mc gs4 st hgp).mono ?_
   rintro _ h5 ⟨rfl,rfl⟩
   try simp only [fh,cg4]
   cases hany:any with
   |true=>
     try simp only [fh,cg4]
     refine (xx (c:=(gp.x,gp.y)) gs4).mono ?_
     rintro _ h6 ⟨rfl,rfl⟩
     exact k2 _ (by simp (disch:=decide) only [fh]) (by simp (disch:=decide) only [fh]) (by simp (disch:=decide) only [fh]) (by simp (disch:=decide) only [fh]) (by simp (disch:=decide) only [fh]) (by simp (disch:=decide) only [fh]) (by simp (disch:=decide) only [fh]) (by simp only [fh];simp [aimB,hany])
   |false=>
     try simp only [fh]
     exact k2 _ (by simp (disch:=decide) only [fh]) (by simp (disch:=decide) only [fh]) (by simp (disch:=decide) only [fh]) (by simp (disch:=decide) only [fh]) (by simp (disch:=decide) only [fh]) (by simp (disch:=decide) only [fh]) (by simp (disch:=decide) only [fh]) (by simp (disch:=decide) only [fh];simp [aimB,hany])
 intro r1 f1 f2 f4 f6 f9 f11 f14 f16
 unfold M7
 refine ⟨h4,Hp.le.refl _,?_⟩
 try simp only [fh,f1]
 cases To with
 |none=>
   rw [show vt = .pointer none from tv]
   try simp only [fh,dv]
   rw [← hKR]
   try simp (disch:=decide) only [fh]
   exact out1 rfl
 |some T=>
   obtain ⟨tp,rfl,ts,gt,fw⟩:=tv
   try simp only [fh]
   refine (Rv.nk (ts.up (L.trans l4) d4)).mono ?_
   rintro _ h5 ⟨rfl,rfl⟩
   refine ⟨Hp.le.refl _,?_⟩
   try simp only [fh,f6,cc4]
   have hw:IntKind.i64.wrap (C.w*C.h)=C.w*C.h:=by
     have a1:=gs.w1
     have a2:=gs.w2
     have a3:=gs.k1
     have a4:=gs.k2
     unfold wC at a1 a2
     unfold kC at a3 a4
     have b1:0≤C.w*C.h:=Int.mul_nonneg (by omega) (by omega)
     have b2:C.w*C.h≤16*16:=Int.mul_le_mul (by omega) (by omega) (by omega) (by omega)
     exact kv (by omega) (by omega)
   rw [hw]
   by_cases q1:(T.length:Int)=C.w*C.h
   rotate_left
   · try simp only [fh,show ((T.length:Int) != C.w*C.h)=true from by simpa using q1,dv]
     rw [← hKR]
     try simp (disch:=decide) only [fh]
     exact out1 (by unfold wp;exact if_pos (.inl q1))
   try simp only [fh,show ((T.length:Int) != C.w*C.h)=false from by simpa using q1,f2]
   by_cases q2:rb<0
   · try simp only [fh,gv q2,dv]
     rw [← hKR]
     try simp (disch:=decide) only [fh]
     exact out1 (by unfold wp;exact if_pos (.inr (.inl q2)))
   try simp only [fh,im q2,f4]
   by_cases q3:t<0
   · try simp only [fh,gv q3,dv]
     rw [← hKR]
     try simp (disch:=decide) only [fh]
     exact out1 (by unfold wp;exact if_pos (.inr (.inr (.inl q3))))
   try simp only [fh,im q3,f4]
   by_cases q4:t≥4611686018427387904
   · try simp only [fh,gv q4,dv]
     rw [← hKR]
     try simp (disch:=decide) only [fh]
     exact out1 (by unfold wp;exact if_pos (.inr (.inr (.inr (.inl q4)))))
   try simp only [fh,im q4,f14,f9,cp4]
   refine (mc gs4 st hp).mono ?_
   rintro _ h6 ⟨rfl,rfl⟩
   cases q5:dh (wC C) (kC C) (f3C C) p with
   |false=>
     try simp only [fh,dv]
     rw [← hKR]
     try simp (disch:=decide) only [fh]
     exact out1 (by unfold wp;exact if_pos (.inr (.inr (.inr (.inr (.inl q5))))))
   |true=>
   try simp only [fh,f16]
   cases q6:aimB C gp any with
   |false=>
     try simp only [fh,q6]
     rw [← hKR]
     try simp (disch:=decide) only [fh]
     exact out1 (by unfold wp;exact if_pos (.inr (.inr (.inr (.inr (.inr q6))))))
   |true=>
   try simp only [fh,q6]
   rw [← hKR]
   have hfw:wp C (some T) rb p t gp any=find (envE C (wC C) (kC C) (f3C C) T rb) (ox gp any) p t zM C.bu.toNat:=by
     unfold wp
     refine if_neg ?_
     rintro (h|h|h|h|h|h)
     · exact h q1
     · exact q2 h
     · exact q3 h
     · exact q4 h
     · rw [q5]at h;cases h
     · rw [q6]at h;cases h
   refine find_k3 (T:=T) (rb:=rb) (p:=p) (gp:=gp) (any:=any) (t:=t) st mk (hbu mk) gt fw go (ca.up L d3) (ts.up L d3) q5 (by omega) (by unfold FV;omega) bc3 bp3 bg3 s4 d4 _ (by simp (disch:=omega) only [ao,f1]) (by simp (disch:=omega) only [ao,f2]) (by simp (disch:=omega) only [ao,f4]) (by simp (disch:=omega) only [ao,f6]) (by simp (disch:=omega) only [ao,f9]) (by simp (disch:=omega) only [ao,f11]) (by simp (disch:=omega) only [ao,f14]) ?_
   rintro u h' ⟨ip,vs,e1,e2,e3,e4,e5⟩
   exact ⟨_,⟨ip,vs,e1,e2,e3,(e4.swap.cut L).swap,e5⟩,.inr ⟨mk,hfw.symm⟩⟩
end Go.Proofs.YtfflipnhffknnaaGreatDoor
end

section
namespace Go.Proofs.YtfflipnhffknnaaGreatDoor
open Go Go.HL
section
variable (G:Hp) (K:EK) (r:Rg) (h:Hp)
def md17:Nat→Hint
 |10=>⟨false,[0,1,0,4,15,31,63,127,63,63,1023,63,63,8191,16383,32767],[.pureN,.pureM,.pureN,.pureM,.pureM,.pureN,.pureM,.eff,.pureN,.pureM,.eff,.pureM,.pureM,.eff,.pureM,.pureN],[.pureN,.pureM,.pureN,.pureM,.pureM,.pureN,.pureM,.eff,.pureN,.pureM,.eff,.pureM,.pureM,.eff,.late,.pureN],[false,false,false,false,false,false,false,true,false,false,true,false,false,false,false,false],true⟩
 |15=>mh false [0,0,3,7,15,0,0,96,224,480,1023,2047,4095,4095,16383,32767,65535,4095,4095,397311,921599,1970175,4194303,8388607] [n_,n_,n_,n_,m_,n_,n_,n_,n_,m_,m_,n_,n_,n_,n_,n_,m_,n_,n_,n_,n_,m_,m_,n_] (fs 24) false
 |_=>mh false [] [] [] false
def S0:Prop:=
 c_ G 23 #[] h fun v54 h54=>
 K .ret (u2 r 133 v54 10 v54) h54
def La:Prop:=
 o_ G (binOp .add 3 (r 20) (.int .i64 1)) h fun v57 h57=>
 K .normal (u3 r 107 (r 20) 108 v57 20 v57) h57
def Lb:Prop:=
 p_ (Instr.indexAt 103 (r 18) (r 20)) h fun v58 h58=>
 p_ (Instr.indexAt 110 v58 (.int .i64 0)) h58 fun v59 h59=>
 w_ G h (Instr.loadAt 3 v59) h59 fun v60 h60=>
 p_ (Instr.indexAt 108 (r 19) (r 20)) h60 fun v61 h61=>
 p_ (Instr.fieldAt 112 v61 0) h61 fun v62 h62=>
 w_ G h (Instr.loadAt 3 v62) h62 fun v63 h63=>
 bo P_ G h (xEq .neq 3 (.tmp 0) (.tmp 0) v60 v63) h63 fun v64 h64=>
 g_ v64 false (fun K1=>K1 (r 18) h64) h64 fun v65 h65=>
 g_ v64 false (fun K1=>K1 (r 20) h65) h65 fun v66 h66=>
 g_ v64 false (p_ (Instr.indexAt 103 v65 v66) h66) h66 fun v67 h67=>
 g_ v64 false (p_ (Instr.indexAt 110 v67 (.int .i64 1)) h67) h67 fun v68 h68=>
 g_ v64 false (w_ G h (Instr.loadAt 3 v68) h68) h68 fun v69 h69=>
 g_ v64 false (fun K1=>K1 (r 19) h69) h69 fun v70 h70=>
 g_ v64 false (fun K1=>K1 (r 20) h70) h70 fun v71 h71=>
 g_ v64 false (p_ (Instr.indexAt 108 v70 v71) h71) h71 fun v72 h72=>
 g_ v64 false (p_ (Instr.fieldAt 112 v72 1) h72) h72 fun v73 h73=>
 g_ v64 false (w_ G h (Instr.loadAt 3 v73) h73) h73 fun v74 h74=>
 g_ v64 false (bo P_ G h (xEq .neq 3 (.tmp 0) (.tmp 0) v69 v74) h74) h74 fun v75 h75=>
 bo P_ noHp noHp (bf v64 (.bool true) v75) h75 fun v76 h76=>
 (fun q=>cond v76
 (K .ret (upd q 10 (.bool false)) h76)
 (La G K q h76))
 (u4 (u10 (u10 r 109 (r 18) 110 (r 20) 111 v58 112 v59 113 v60 114 (r 19) 115 (r 20) 116 v61 117 v62 118 v63) 119 v64 120 v64 121 v65 122 v66 123 v67 124 v68 125 v69 126 v70 127 v71 128 v72) 129 v73 130 v74 131 v75 132 v76)
def at1 (r:Rg) (h:Hp) (K:EK):Prop:=
 o_ G (Builtin.len_ #[103] 3 #[(r 18)]) h fun v55 h55=>
 o_ G (binOp .lss 3 (r 20) v55) h55 fun v56 h56=>
 (fun q=>cond v56
 (Lb G K q h56)
 (K (.exit 0) q h56))
 (u4 r 103 (r 20) 104 (r 18) 105 v55 106 v56)
def S2:Prop:=
 bz (at1 G) (upd r 20 (.int .i64 0)) h (bh 0 (bq (S0 G K) K))
def at3:Prop:=
 o_ G (Builtin.append_ #[22,22] 22 #[(.slice none 0 0),(r 3)]) h fun v35 h35=>
 c_ G 54 #[(r 14),(r 11),(r 2),v35] h35 fun v36 h36=>
 c_ G 53 #[v36,(.int .i64 10000)] h36 fun v37 h37=>
 o_ G (Instr.loadAt 26 (r 5)) h37 fun v38 h38=>
 c_ G 55 #[v38,(r 12),(r 2),(r 3)] h38 fun v39 h39=>
 ∃q40:Hp,q40.le h39∧
 w_ G q40 (Builtin.len_ #[103] 3 #[v37]) h39 fun v41 h41=>
 w_ G q40 (Builtin.len_ #[108] 3 #[v39]) h41 fun v42 h42=>
 bo P_ G q40 (xEq .neq 3 (.tmp 0) (.tmp 0) v41 v42) h42 fun v43 h43=>
 g_ v43 false (w_ G q40 (Instr.loadAt 26 (r 5)) h43) h43 fun v44 h44=>
 g_ v43 false (fun K1=>c_ G 28 #[v44] h44 fun v h'=>q40.le h'∧K1 v h') h44 fun v45 h45=>
 g_ v43 false (fun K1=>K1 (r 16) h45) h45 fun v46 h46=>
 g_ v43 false (w_ G q40 (Instr.loadAt 48 (r 9)) h46) h46 fun v47 h47=>
 g_ v43 false (fun K1=>c_ G 30 #[v45,v46,v47] h47 fun v h'=>q40.le h'∧K1 v h') h47 fun v48 h48=>
 g_ v43 false (w_ G q40 (Instr.loadAt 26 (r 5)) h48) h48 fun v49 h49=>
 g_ v43 false (w_ G q40 (Instr.loadAt 48 (r 9)) h49) h49 fun v50 h50=>
 g_ v43 false (c_ G 46 #[v49,v50] h50) h50 fun v51 h51=>
 g_ v43 false (bo P_ G h51 (xEq .neq 3 (.tmp 0) (.tmp 0) v48 v51) h51) h51 fun v52 h52=>
 bo P_ noHp noHp (bf v43 (.bool true) v52) h52 fun v53 h53=>
 (fun q=>cond v53
 (K .ret (upd q 10 (.bool false)) h53)
 (S2 G K q h53))
 (u10 (u10 (u10 r 75 (r 14) 76 (r 11) 77 (r 2) 78 (r 3) 79 v35 80 v36 81 v37 18 v37 82 v38 83 (r 12)) 84 (r 2) 85 (r 3) 86 v39 19 v39 87 v37 88 v41 89 v39 90 v42 91 v43 92 v43) 93 v44 94 v45 95 v46 96 v47 97 v48 98 v49 99 v50 100 v51 101 v52 102 v53)
def at4:Prop:=
 o_ G (Instr.loadAt 26 (r 5)) h fun v5 h5=>
 c_ G 42 #[v5,(r 1)] h5 fun v6 h6=>
 o_ G (Instr.extract v6 0) h6 fun v7 h7=>
 o_ G (Instr.extract v6 1) h7 fun v8 h8=>
 o_ G (Instr.extract v6 2) h8 fun v9 h9=>
 o_ G (Instr.loadAt 26 (r 5)) h9 fun v10 h10=>
 c_ G 28 #[v10] h10 fun v11 h11=>
 c_ G 37 #[v11] h11 fun v12 h12=>
 o_ G (Instr.extract v12 0) h12 fun v13 h13=>
 o_ G (Instr.extract v12 1) h13 fun v14 h14=>
 o_ G (Instr.fieldAt 26 (r 5) 7) h14 fun v15 h15=>
 o_ G (Instr.loadAt 3 v15) h15 fun v16 h16=>
 o_ G (Instr.fieldAt 26 (r 5) 8) h16 fun v17 h17=>
 o_ G (Instr.loadAt 3 v17) h17 fun v18 h18=>
 o_ G (Instr.fieldAt 26 (r 5) 9) h18 fun v19 h19=>
 o_ G (Instr.loadAt 3 v19) h19 fun v20 h20=>
 c_ G 29 #[v16,v18,v20] h20 fun v21 h21=>
 o_ G (Instr.extract v21 0) h21 fun v22 h22=>
 o_ G (Instr.extract v21 1) h22 fun v23 h23=>
 o_ G (Op.unary .not v9) h23 fun v24 h24=>
 g_ v24 false (fun K1=>K1 v14 h24) h24 fun v25 h25=>
 g_ v24 false (opH P_ G (xEq .neq 35 (.tmp 0) (.const .nilFunc) v25 (.int .i64 0)) h25) h25 fun v26 h26=>
 opH P_ G (bf v24 (.bool true) v26) h26 fun v27 h27=>
 g_ v27 false (fun K1=>K1 v23 h27) h27 fun v28 h28=>
 g_ v27 false (opH P_ G (xEq .neq 35 (.tmp 0) (.const .nilFunc) v28 (.int .i64 0)) h28) h28 fun v29 h29=>
 opH P_ G (bf v27 (.bool true) v29) h29 fun v30 h30=>
 g_ v30 false (fun K1=>K1 (r 3) h30) h30 fun v31 h31=>
 g_ v30 false (o_ G (Builtin.len_ #[22] 3 #[v31]) h31) h31 fun v32 h32=>
 g_ v30 false (o_ G (binOp .gtr 3 v32 (.int .i64 20)) h32) h32 fun v33 h33=>
 opH P_ G (bf v30 (.bool true) v33) h33 fun v34 h34=>
 cond v34
 (g_ v9 true (fun K1=>K1 v14 h34) h34 fun v77 h77=>
 g_ v9 true (opH P_ G (xEq .eql 35 (.tmp 0) (.const .nilFunc) v77 (.int .i64 0)) h77) h77 fun v78 h78=>
 opH P_ G (bf v9 v78 (.bool false)) h78 fun v79 h79=>
 g_ v79 true (fun K1=>K1 v23 h79) h79 fun v80 h80=>
 g_ v79 true (opH P_ G (xEq .eql 35 (.tmp 0) (.const .nilFunc) v80 (.int .i64 0)) h80) h80 fun v81 h81=>
 opH P_ G (bf v79 v81 (.bool false)) h81 fun v82 h82=>
 g_ v82 true (c_ G 23 #[] h82) h82 fun v83 h83=>
 opH P_ G (bf v82 v83 (.bool false)) h83 fun v84 h84=>
 K .ret (u8 (u10 (u10 (u10 (u10 (u10 r 26 v5 27 (r 1) 28 v6 25 v6 29 v7 30 v8 31 v9 11 v7 12 v8 13 v9) 33 v10 34 v11 35 v12 32 v12 36 v13 37 v14 14 v13 15 v14 39 v15 40 v16) 41 v17 42 v18 43 v19 44 v20 45 v21 38 v21 46 v22 47 v23 16 v22 17 v23) 48 v9 49 v24 50 v24 51 v25 52 v26 53 v27 54 v27 55 v28 56 v29 57 v30) 58 v30 59 v31 60 v32 61 v33 62 v34 63 v9 64 v9 65 v77 66 v78 67 v79) 68 v79 69 v80 70 v81 71 v82 72 v82 73 v83 74 v84 10 v84) h84)
 (at3 G K (u5 (u10 (u10 (u10 (u10 r 26 v5 27 (r 1) 28 v6 25 v6 29 v7 30 v8 31 v9 11 v7 12 v8 13 v9) 33 v10 34 v11 35 v12 32 v12 36 v13 37 v14 14 v13 15 v14 39 v15 40 v16) 41 v17 42 v18 43 v19 44 v20 45 v21 38 v21 46 v22 47 v23 16 v22 17 v23) 48 v9 49 v24 50 v24 51 v25 52 v26 53 v27 54 v27 55 v28 56 v29 57 v30) 58 v30 59 v31 60 v32 61 v33 62 v34) h34)
def S17:Prop:=
 o_ G (Instr.box 26 (r 0)) h fun v0 h0=>
 o_ G (Instr.box 48 (r 4)) h0 fun v1 h1=>
 o_ G (Instr.loadAt 26 v0) h1 fun v2 h2=>
 c_ G 21 #[v2] h2 fun v3 h3=>
 o_ G (Op.unary .not v3) h3 fun v4 h4=>
 cond v4
 (c_ G 23 #[] h4 fun v85 h85=>
 K .ret (u8 r 5 v0 9 v1 10 (.bool false) 21 v2 22 v3 23 v4 24 v85 10 v85) h85)
 (at4 G K (u6 r 5 v0 9 v1 10 (.bool false) 21 v2 22 v3 23 v4) h4)
theorem enter17:Ent 134 17 [.tmp 10] S17:=ent_ (m:=md17) (c:=(Tryz.f17.body.getD .skip)) (fun _ _ _ _=>by kernel_rfl) Tryz.func17 rfl rfl rfl

def md23:Nat→Hint
 |_=>mh false [] [] [] false
def at0:Prop:=
 o_ G (Instr.loadAt 26 (r 1)) h fun v10 h10=>
 o_ G (Instr.build 30 #[]) h10 fun v11 h11=>
 o_ G (Instr.build 28 #[(0,(.int .i64 1))]) h11 fun v12 h12=>
 o_ G (Instr.build 30 #[(0,v12)]) h12 fun v13 h13=>
 o_ G (Instr.build 45 #[(0,v13)]) h13 fun v14 h14=>
 c_ G 27 #[v10,(r 2),(.int .i64 0),v11,(.int .i64 5),v14] h14 fun v15 h15=>
 o_ G (Instr.extract v15 0) h15 fun v16 h16=>
 o_ G (Instr.extract v15 1) h16 fun v17 h17=>
 opH P_ G (xEq .eql 35 (.tmp 0) (.const .nilFunc) v17 (.int .i64 0)) h17 fun v18 h18=>
 g_ v18 true (fun K1=>K1 v16 h18) h18 fun v19 h19=>
 g_ v18 true (o_ G (Builtin.len_ #[40] 3 #[v19]) h19) h19 fun v20 h20=>
 g_ v18 true (opH P_ G (xEq .eql 3 (.tmp 0) (.const .nilFunc) v20 (.int .i64 1)) h20) h20 fun v21 h21=>
 opH P_ G (bf v18 v21 (.bool false)) h21 fun v22 h22=>
 g_ v22 true (fun K1=>K1 v16 h22) h22 fun v23 h23=>
 g_ v22 true (o_ G (Instr.indexAt 40 v23 (.int .i64 0)) h23) h23 fun v24 h24=>
 g_ v22 true (o_ G (Instr.fieldAt 48 v24 0) h24) h24 fun v25 h25=>
 g_ v22 true (o_ G (Instr.loadAt 3 v25) h25) h25 fun v26 h26=>
 g_ v22 true (opH P_ G (xEq .eql 3 (.tmp 0) (.const .nilFunc) v26 (.int .i64 1)) h26) h26 fun v27 h27=>
 opH P_ G (bf v22 v27 (.bool false)) h27 fun v28 h28=>
 g_ v28 true (fun K1=>K1 v16 h28) h28 fun v29 h29=>
 g_ v28 true (o_ G (Instr.indexAt 40 v29 (.int .i64 0)) h29) h29 fun v30 h30=>
 g_ v28 true (o_ G (Instr.fieldAt 48 v30 1) h30) h30 fun v31 h31=>
 g_ v28 true (o_ G (Instr.loadAt 3 v31) h31) h31 fun v32 h32=>
 g_ v28 true (opH P_ G (xEq .eql 3 (.tmp 0) (.const .nilFunc) v32 (.int .i64 1)) h32) h32 fun v33 h33=>
 opH P_ G (bf v28 v33 (.bool false)) h33 fun v34 h34=>
 g_ v34 true (fun K1=>K1 v16 h34) h34 fun v35 h35=>
 g_ v34 true (o_ G (Instr.indexAt 40 v35 (.int .i64 0)) h35) h35 fun v36 h36=>
 g_ v34 true (o_ G (Instr.fieldAt 48 v36 2) h36) h36 fun v37 h37=>
 g_ v34 true (o_ G (Instr.loadAt 3 v37) h37) h37 fun v38 h38=>
 g_ v34 true (opH P_ G (xEq .eql 3 (.tmp 0) (.const .nilFunc) v38 (.int .i64 1)) h38) h38 fun v39 h39=>
 opH P_ G (bf v34 v39 (.bool false)) h39 fun v40 h40=>
 g_ v40 true (fun K1=>K1 v16 h40) h40 fun v41 h41=>
 g_ v40 true (o_ G (Instr.indexAt 40 v41 (.int .i64 0)) h41) h41 fun v42 h42=>
 g_ v40 true (o_ G (Instr.fieldAt 48 v42 5) h42) h42 fun v43 h43=>
 g_ v40 true (o_ G (Instr.loadAt 3 v43) h43) h43 fun v44 h44=>
 g_ v40 true (opH P_ G (xEq .eql 3 (.tmp 0) (.const .nilFunc) v44 (.int .i64 5)) h44) h44 fun v45 h45=>
 opH P_ G (bf v40 v45 (.bool false)) h45 fun v46 h46=>
 g_ v46 true (fun K1=>K1 v16 h46) h46 fun v47 h47=>
 g_ v46 true (o_ G (Instr.indexAt 40 v47 (.int .i64 0)) h47) h47 fun v48 h48=>
 g_ v46 true (o_ G (Instr.fieldAt 48 v48 6) h48) h48 fun v49 h49=>
 g_ v46 true (o_ G (Instr.loadAt 3 v49) h49) h49 fun v50 h50=>
 g_ v46 true (opH P_ G (xEq .eql 3 (.tmp 0) (.const .nilFunc) v50 (.int .i64 9)) h50) h50 fun v51 h51=>
 opH P_ G (bf v46 v51 (.bool false)) h51 fun v52 h52=>
 K .ret (u5 (u10 (u10 (u10 (u10 (u10 r 18 v10 19 (r 2) 20 v11 21 v12 22 v13 23 v14 24 v15 17 v15 25 v16 26 v17) 4 v16 5 v17 27 v17 28 v18 29 v18 30 v19 31 v20 32 v21 33 v22 34 v22) 35 v23 36 v24 37 v25 38 v26 39 v27 40 v28 41 v28 42 v29 43 v30 44 v31) 45 v32 46 v33 47 v34 48 v34 49 v35 50 v36 51 v37 52 v38 53 v39 54 v40) 55 v40 56 v41 57 v42 58 v43 59 v44 60 v45 61 v46 62 v46 63 v47 64 v48) 65 v49 66 v50 67 v51 68 v52 0 v52) h52
def S23:Prop:=
 o_ G (Instr.build 26 #[(0,(.int .i64 3)),(1,(.int .i64 1)),(2,(.int .i64 1)),(7,(.int .i64 10)),(8,(.int .i64 2)),(9,(.int .i64 4)),(10,(.int .i64 1)),(11,(.int .i64 1)),(12,(.int .i64 1)),(13,(.int .i64 1)),(14,(.int .i64 100))]) h fun v0 h0=>
 o_ G (Instr.alloc 26 true (.tuple #[])) h0 fun v1 h1=>
 opH P_ G (su (Instr.storeAt 26 v1 v0)) h1 fun v2 h2=>
 c_ G 24 #[(.int .i64 3)] h2 fun v3 h3=>
 o_ G (Instr.extract v3 0) h3 fun v4 h4=>
 o_ G (Instr.extract v3 1) h4 fun v5 h5=>
 opH P_ G (xEq .neq 35 (.tmp 0) (.const .nilFunc) v5 (.int .i64 0)) h5 fun v6 h6=>
 g_ v6 false (fun K1=>K1 v4 h6) h6 fun v7 h7=>
 g_ v6 false (opH P_ G (xEq .eql 34 (.tmp 0) (.const .nilFunc) v7 (.pointer none)) h7) h7 fun v8 h8=>
 opH P_ G (bf v6 (.bool true) v8) h8 fun v9 h9=>
 (fun q=>cond v9
 (K .ret (upd q 0 (.bool false)) h9)
 (at0 G K q h9))
 (u5 (u10 r 0 (.bool false) 6 v0 1 v1 8 v3 7 v3 9 v4 10 v5 2 v4 3 v5 11 v5) 12 v6 13 v6 14 v7 15 v8 16 v9)
theorem enter23:Ent 69 23 [.tmp 0] S23:=ent_ (m:=md23) (c:=(Tryz.f23.body.getD .skip)) (fun _ _ _ _=>by kernel_rfl) Tryz.func23 rfl rfl rfl

def md42:Nat→Hint
 |_=>mh false [] [] [] false
def Su (G:Hp) (K:EK) (r:Rg) (h:Hp):Prop:=
 K .ret (u5 r 89 (r 7) 90 (r 9) 4 (r 7) 5 (r 9) 6 (.bool true)) h
def K3:Prop:=
 o_ G (binOp .add 3 (r 10) (.int .i64 1)) h fun v24 h24=>
 K .normal (u3 r 43 (r 10) 44 v24 10 v24) h24
def K4:Prop:=
 o_ G (Instr.indexAt 77 (r 1) (r 10)) h fun v25 h25=>
 o_ G (Instr.loadAt 97 v25) h25 fun v26 h26=>
 o_ G (Instr.alloc 97 true (.tuple #[])) h26 fun v27 h27=>
 opH P_ G (su (Instr.storeAt 97 v27 v26)) h27 fun v28 h28=>
 o_ G (Instr.fieldAt 97 v27 0) h28 fun v29 h29=>
 o_ G (Instr.loadAt 3 v29) h29 fun v30 h30=>
 c_ G 25 #[v30,(.int .i64 5)] h30 fun v31 h31=>
 o_ G (Instr.fieldAt 97 v27 0) h31 fun v32 h32=>
 opH P_ G (su (Instr.storeAt 3 v32 v31)) h32 fun v33 h33=>
 o_ G (Instr.fieldAt 97 v27 1) h33 fun v34 h34=>
 o_ G (Instr.loadAt 3 v34) h34 fun v35 h35=>
 o_ G (Instr.fieldAt 26 (r 2) 0) h35 fun v36 h36=>
 o_ G (Instr.loadAt 3 v36) h36 fun v37 h37=>
 o_ G (Instr.fieldAt 26 (r 2) 1) h37 fun v38 h38=>
 o_ G (Instr.loadAt 3 v38) h38 fun v39 h39=>
 o_ G (binOp .mul 3 v37 v39) h39 fun v40 h40=>
 c_ G 25 #[v35,v40] h40 fun v41 h41=>
 o_ G (Instr.fieldAt 97 v27 1) h41 fun v42 h42=>
 opH P_ G (su (Instr.storeAt 3 v42 v41)) h42 fun v43 h43=>
 o_ G (Instr.fieldAt 97 v27 0) h43 fun v44 h44=>
 o_ G (Instr.loadAt 3 v44) h44 fun v45 h45=>
 o_ G (Instr.fieldAt 97 v27 1) h45 fun v46 h46=>
 o_ G (Instr.loadAt 3 v46) h46 fun v47 h47=>
 o_ G (Instr.fieldAt 97 v27 2) h47 fun v48 h48=>
 o_ G (Instr.loadAt 3 v48) h48 fun v49 h49=>
 o_ G (Instr.fieldAt 97 v27 3) h49 fun v50 h50=>
 o_ G (Instr.loadAt 3 v50) h50 fun v51 h51=>
 o_ G (Instr.build 75 #[(0,v47),(1,v49),(2,v51)]) h51 fun v52 h52=>
 o_ G (Instr.buildSlice 71 1 #[(0,v52)]) h52 fun v53 h53=>
 c_ G 50 #[(r 7),v45,v53] h53 fun v54 h54=>
 o_ G (Instr.fieldAt 97 v27 0) h54 fun v55 h55=>
 o_ G (Instr.loadAt 3 v55) h55 fun v56 h56=>
 o_ G (Instr.fieldAt 97 v27 1) h56 fun v57 h57=>
 o_ G (Instr.loadAt 3 v57) h57 fun v58 h58=>
 o_ G (Instr.fieldAt 97 v27 2) h58 fun v59 h59=>
 o_ G (Instr.loadAt 3 v59) h59 fun v60 h60=>
 o_ G (Instr.fieldAt 97 v27 3) h60 fun v61 h61=>
 o_ G (Instr.loadAt 3 v61) h61 fun v62 h62=>
 o_ G (Instr.build 186 #[(0,v58),(1,v60),(2,v62)]) h62 fun v63 h63=>
 o_ G (Instr.buildSlice 114 1 #[(0,v63)]) h63 fun v64 h64=>
 c_ G 92 #[(r 9),v56,v64] h64 fun v65 h65=>
 opH P_ G (xEq .neq 35 (.tmp 0) (.tmp 0) v54 v65) h65 fun v66 h66=>
 (fun q=>cond v66
 (K .ret (u3 q 4 (.pointer none) 5 (.pointer none) 6 (.bool false)) h66)
 (K3 G K q h66))
 (u7 (u10 (u10 (u10 (u10 r 45 (r 1) 46 (r 10) 47 v25 48 v26 11 v27 49 v29 50 v30 51 v31 52 v32 53 v34) 54 v35 55 v36 56 v37 57 v38 58 v39 59 v40 60 v41 61 v42 62 (r 7) 63 v44) 64 v45 65 v46 66 v47 67 v48 68 v49 69 v50 70 v51 71 v52 72 v53 73 v54) 12 v54 74 (r 9) 75 v55 76 v56 77 v57 78 v58 79 v59 80 v60 81 v61 82 v62) 83 v63 84 v64 85 v65 13 v65 86 v54 87 v65 88 v66)
def ar3 (r:Rg) (h:Hp) (K:EK):Prop:=
 o_ G (Builtin.len_ #[77] 3 #[(r 1)]) h fun v19 h19=>
 o_ G (binOp .lss 3 (r 10) v19) h19 fun v20 h20=>
 g_ v20 true (fun K1=>K1 (r 10) h20) h20 fun v21 h21=>
 g_ v20 true (o_ G (binOp .lss 3 v21 (.int .i64 40)) h21) h21 fun v22 h22=>
 opH P_ G (bf v20 v22 (.bool false)) h22 fun v23 h23=>
 (fun q=>cond v23
 (K4 G K q h23)
 (K (.exit 0) q h23))
 (u8 r 35 (r 10) 36 (r 1) 37 v19 38 v20 39 v20 40 v21 41 v22 42 v23)
def ar4:Prop:=
 bz (ar3 G) (upd r 10 (.int .i64 0)) h (bh 0 (bq (Su G K) K))
def S42:Prop:=
 o_ G (Instr.box 26 (r 0)) h fun v0 h0=>
 o_ G (Instr.fieldAt 26 v0 0) h0 fun v1 h1=>
 o_ G (Instr.loadAt 3 v1) h1 fun v2 h2=>
 o_ G (Instr.fieldAt 26 v0 1) h2 fun v3 h3=>
 o_ G (Instr.loadAt 3 v3) h3 fun v4 h4=>
 o_ G (binOp .mul 3 v2 v4) h4 fun v5 h5=>
 c_ G 24 #[v5] h5 fun v6 h6=>
 o_ G (Instr.extract v6 0) h6 fun v7 h7=>
 o_ G (Instr.extract v6 1) h7 fun v8 h8=>
 o_ G (Instr.fieldAt 26 v0 0) h8 fun v9 h9=>
 o_ G (Instr.loadAt 3 v9) h9 fun v10 h10=>
 o_ G (Instr.fieldAt 26 v0 1) h10 fun v11 h11=>
 o_ G (Instr.loadAt 3 v11) h11 fun v12 h12=>
 o_ G (binOp .mul 3 v10 v12) h12 fun v13 h13=>
 c_ G 91 #[v13] h13 fun v14 h14=>
 opH P_ G (xEq .neq 35 (.tmp 0) (.const .nilFunc) v8 (.int .i64 0)) h14 fun v15 h15=>
 g_ v15 false (fun K1=>K1 v7 h15) h15 fun v16 h16=>
 g_ v15 false (opH P_ G (xEq .eql 34 (.tmp 0) (.const .nilFunc) v16 (.pointer none)) h16) h16 fun v17 h17=>
 opH P_ G (bf v15 (.bool true) v17) h17 fun v18 h18=>
 (fun q=>cond v18
 (K .ret (u3 q 4 (.pointer none) 5 (.pointer none) 6 (.bool false)) h18)
 (ar4 G K q h18))
 (u8 (u10 (u10 r 2 v0 4 (.pointer none) 5 (.pointer none) 6 (.bool false) 15 v1 16 v2 17 v3 18 v4 19 v5 20 v6) 14 v6 21 v7 22 v8 7 v7 8 v8 23 v9 24 v10 25 v11 26 v12 27 v13) 28 v14 9 v14 29 v8 30 v15 31 v15 32 v16 33 v17 34 v18)
theorem enter42:Ent 91 42 [.tmp 4,.tmp 5,.tmp 6] S42:=ent_ (m:=md42) (c:=(Tryz.f42.body.getD .skip)) (fun _ _ _ _=>by kernel_rfl) Tryz.func42 rfl rfl rfl
end
end Go.Proofs.YtfflipnhffknnaaGreatDoor
end

section
namespace Go.Proofs.YtfflipnhffknnaaGreatDoor
open Go Go.HL Go.Proofs.Resv Go.Proofs.Srch
def Ka:=jq bC (jq (jq (jq (jq @List.length_cons.{0} @List.length_nil.{0}) (jq @al26 (jq @ou @bd28_0))) (jq (jq @bd30_ (jq @bd30_0 @bd45_0)) (jq @beq_self_eq_true.{0} (jq @bne_self_eq_false.{0} @cf24)))) (jq (jq (jq @cf27 (jq @Um @Fu)) (jq @aa6 (jq @R2 @aa5))) (jq (jq @aa4 (jq @ld26 @ld3)) (jq @ln40 (jq @st26w @true_and)))))
theorem zv {n:Nat}:jj (List.replicate n []):=fun L hL=>by rw [(List.mem_replicate.1 hL).2];exact Resv.Good.nil
theorem aa3 {n b:Nat}:Few (List.replicate n []) b:=fun L hL=>by rw [(List.mem_replicate.1 hL).2];exact Nat.zero_le _

def C12:Conf:=⟨3,1,1,[],[],[],[],10,2,4,1,1,1,1,100,false⟩
def W12:Res Move:=wp C12 (some [[],[],[]]) 0 ⟨0,0,false⟩ 5 ⟨1,0,false⟩ false

theorem w12:outE W12=0∧outL W12=[⟨1,1,1,⟨0,0,false⟩,⟨1,0,false⟩,5,9⟩]:=by decide +kernel

theorem made12:li C12:=by
 rw [Ff,may_nil rfl rfl rfl rfl]
 rfl

theorem awake12 {G h:Hp} (st:jo G):aj P_ G 23 #[] h (fun u h'=>u = .bool true∧h'=h):=by
 refine aj.assume fun d=>quietly (enter23 (by simp) ?_)
 unfold S23
 simp (disch:=first|decide|exact au|exact am|omega|rfl) only [Ka]
 intro xc hxc gxc
 generalize e1:Hp.set h xc _=h1 at*
 obtain ⟨l1,d1,bc1⟩:=boxed e1 hxc d gxc
 try simp (disch:=first|decide|omega) only [Ka,Nat.reduceAdd,Nat.reduceMul]
 refine (Rv.qr (G:=G) (h:=h1) (n:=3) (by decide) (by decide)).mono ?_
 rintro _ h2 ⟨ta,tp,rfl,tab,s2,d2⟩
 try simp only [Ka]
 unfold at0
 have cc2:∀k,aa G h2 ⟨xc,k,none⟩=_:=fun k=>ai (ag (s2.at 1 rfl bc1))
 try simp (disch:=decide) only [Ka,cc2]
 have hpb:∀x:Int,0≤x→x≤1→Bd x:=fun x h1 h2=>⟨by omega,by omega⟩
 have hf:=X3 (G:=G) (h:=h2) (C:=C12) (v:=P7 C12 none 0 none 0 none 0 none 0) (vt := .pointer (some ⟨tp,0,none⟩)) (To:=some [[],[],[]]) (p:=⟨0,0,false⟩) (gp:=⟨1,0,false⟩) (rb:=0) (t:=5) (any:=false) (ca_nil rfl rfl rfl rfl).cv st (by intro p hp;cases hp) (by decide) (fun _=>by decide)
   ⟨tp,rfl,tab.see (s2.in 0 rfl),zv (n:=3),aa3 (n:=3)⟩ ⟨hpb 0 (by decide) (by decide),hpb 0 (by decide) (by decide)⟩ ⟨hpb 1 (by decide) (by decide),hpb 0 (by decide) (by decide)⟩
 simp only [C12,P7,mq,List.length_nil]at hf
 refine hf.mono ?_
 rintro _ h3 ⟨W,⟨ip,vs,rfl,sl,_,s3,d3⟩,⟨hno,_⟩|⟨_,rfl⟩⟩
 · exact absurd made12 hno
 have w1:outE W12=0:=w12.1
 have w2:outL W12=[⟨1,1,1,⟨0,0,false⟩,⟨1,0,false⟩,5,9⟩]:=w12.2
 unfold W12 C12 at w1 w2
 rw [w2]at sl
 rw [w1]
 obtain ⟨sa,cap,rfl,_⟩:=sl.len (by decide)
 obtain ⟨b,o,rfl,x0,x1,x2,x3,x4,x5,x6,x7,x8,x9,x10⟩:=Sees.mvx (sl.see (G:=G) (by decide) (s3.in 0 rfl)) (i:=0) rfl
 simp only [Nat.zero_mul,Nat.add_zero]at x0 x1 x2 x3 x4 x5 x6 x7 x8 x9 x10
 try simp only [Ka,ix40 (by decide:(0:Int)≤0) (by decide:(0:Int)<(1:Nat)),Int.toNat_zero,Nat.zero_mul,List.length_cons,List.length_nil,x0,x1,x2,x3,x4,x5,x6,x7,x8,x9,x10]
 have hone:(((1:Nat):Int)==1)=true:=rfl
 try simp only [Ka,hone,Nat.zero_add,ix40 (by decide:(0:Int)≤0) (by decide:(0:Int)<(1:Nat)),Int.toNat_zero,Nat.zero_mul,Nat.add_zero,x0,x1,x2,x3,x4,x5,x6,x7,x8,x9,x10]
 exact l1.trans ((s2.in 1 rfl).trans (s3.in 1 rfl))
end Go.Proofs.YtfflipnhffknnaaGreatDoor
end

section
namespace Go.Proofs.YtfflipnhffknnaaGreatDoor
open Go Go.HL
def bRpY:=jq bC (jq (jq (jq (jq @al26 @Sf) (jq @am5 (jq @cf122 @cf71))) (jq (jq @F3 @Pq) (jq @F1 (jq @Ml @F0)))) (jq (jq (jq @R3 @Ma) (jq @ld22 (jq @ld23 @ld24))) (jq (jq @ld26 @we) (jq @ln24 (jq @vl @sd)))))
theorem eoraw:fe P_ 234 rawC.n 40:=⟨by kernel_rfl,by kernel_rfl,by kernel_rfl⟩
theorem eopose:fe P_ 30 uw.n 24:=⟨by kernel_rfl,by kernel_rfl,by kernel_rfl⟩

def Room (n bytes:Nat):Prop:=(2*n+192)*bytes≤281474976710656

theorem Iw {G h:Hp} {v:Value} {L:List Int} (sv:Sees icC G h v L) (hl:Room L.length 8):aj P_ G 122 #[v] h (fun u h'=>∃ip,Slc icC 3 ip u L∧Sep [ip,h] h'∧Dis G h'):=by
 refine aj.assume fun d=>aj2 (by simp) ?_
 unfold S122
 simp only [bRpY]
 refine nl icC (by decide) Db eoint (by decide) (Sep.one (h:=h)).none d Slc.nil sv (by simpa [Room]using hl) fun v' a' h' o' s' d'=>?_
 try simp (disch:=first|decide|omega) only [bRpY,Nat.reduceAdd,Nat.reduceMul]
 exact ⟨a',o',s',d'⟩

def Rel (pb:Hp) (raws:List Raw) (st:List (Cell × List Int)):Prop:=∀(i:Nat) (r:Raw) (s:Cell × List Int),raws[i]?=some r→st[i]?=some s→(r.x,r.y)=s.1∧r.n=s.2.length∧Slc icC 3 pb (.slice r.a s.2.length r.c) s.2
def StkO (pz:Hp) (v:Value) (st:List (Cell × List Int)):Prop:=∃raws pr pb,Slc rawC 234 pr v raws∧Sep [pr,pb] pz∧raws.length=st.length∧Rel pb raws st

theorem Rel.le {pb pb':Hp} {raws:List Raw} {st:List (Cell × List Int)} (r:Rel pb raws st) (l:pb.le pb'):Rel pb' raws st:=fun i x s h1 h2=>let ⟨a,b,c⟩:=r i x s h1 h2;⟨a,b,c.le l⟩

theorem Ed {G h:Hp} {C:Conf} {ab:Option Addr} {cb:Nat} {ap:Option Addr} {cp:Nat} {ar:Option Addr} {cr:Nat} {az:Option Addr} {cs:Nat} (ca:CA G h C ab cb ap cp ar cr az cs)
   (hst:Room C.st.length 40) (hb:∀s∈C.st,Room s.2.length 8):aj P_ G 71 #[.slice az C.st.length cs] h (fun u h'=>∃pz,StkO pz u C.st∧Sep [pz,h] h'∧Dis G h'):=by
 refine aj.assume fun d=>enter71 (by simp) ?_
 unfold S71
 have hlb:C.st.length≤7036874417664:=by unfold Room at hst;omega
 refine bv (fun m r h3=>∃(i:Nat) (raws:List Raw) (pr pb:Hp) (v:Value),m=C.st.length-i∧i≤C.st.length∧r 0 = .slice az C.st.length cs∧r 3=v∧r 4 = .int .i64 i∧Slc rawC 234 pr v raws∧raws.length=i∧Rel pb raws C.st∧Sep [pr,pb,h] h3∧Dis G h3) ?_
   (m:=C.st.length) ⟨0,[],noHp,noHp,_,rfl,Nat.zero_le _,by simp (disch:=decide) only [bRpY],by simp (disch:=decide) only [bRpY],by simp only [bRpY]<;>rfl,Slc.nil,rfl,fun i r s h1=>by simp at h1,(Sep.one.none).none,d⟩
 rintro m r h3 ⟨i,raws,pr,pb,v,rfl,hi,g0,g3,g4,o,hlen,rel,s3,d3⟩ X HX
 unfold ap6
 simp only [bRpY,g0,g4]
 refine ax (fun hlt=>?_) (fun hge=>?_)
 rotate_left
 · obtain rfl:i=C.st.length:=by omega
   try simp (disch:=first|decide|omega) only [bRpY,Nat.reduceAdd,Nat.reduceMul]
   unfold ap7
   try simp (disch:=decide) only [bRpY,g3]
   obtain ⟨pz,s4,t4⟩:=s3.pack2
   exact ⟨pz,⟨raws,pr,pb,o,t4,hlen,rel⟩,s4,d3⟩
 have hlt':i<C.st.length:=by omega
 obtain ⟨s,hs⟩:∃s,C.st[i]?=some s:=⟨_,List.getElem?_eq_getElem hlt'⟩
 have ca3:=ca.up (s3.in 2 rfl) d3
 obtain ⟨b,ofs,a,c,rfl,z0,z1,z2,sv⟩:=ca3.stk hs
 unfold Kr
 refine ⟨h3,Hp.le.refl _,?_⟩
 try simp (disch:=decide) only [bRpY,g0,g4,O9 (Int.natCast_nonneg i) hlt,z0,z1,z2]
 refine (Iw sv (hb s (List.mem_of_getElem? hs))).mono ?_
 rintro u h4 ⟨ip,o4,s4,d4⟩
 refine ⟨s4.in 1 rfl,?_⟩
 obtain ⟨sa,cap,rfl,hcap⟩:=o4.len (by decide)
 try simp only [bRpY]
 intro x hx gx
 have s5:Sep [ip,pr,pb,h] h4:=by
   have:=s4.split s3
   simpa using this
 let rw0:Raw:=⟨s.1.1,s.1.2,sa,s.2.length,cap⟩
 have s6:Sep [pr,ip,pb,h] (h4.set x (.cells #[.int .i64 s.1.1,.int .i64 s.1.2,.slice sa s.2.length cap] 234 (0,0))):=(s5.past hx).pick 1 rfl rfl
 have d6:Dis G (h4.set x (.cells #[.int .i64 s.1.1,.int .i64 s.1.2,.slice sa s.2.length cap] 234 (0,0))):=d4.set gx
 have b6:(h4.set x (.cells #[.int .i64 s.1.1,.int .i64 s.1.2,.slice sa s.2.length cap] 234 (0,0))) x=some (.cells #[.int .i64 s.1.1,.int .i64 s.1.2,.slice sa s.2.length cap] 234 (0,0)):=af
 generalize Hp.set h4 x _=h6 at s6 d6 b6 ⊢
 rw [g3]
 refine nl rawC (by decide) un24 eoraw (by decide) (M:=[rw0]) s6 d6 o (Sees.row (c:=rawC) (L:=[rw0]) b6 rfl (Nat.le_refl _)) (by
   unfold Room at hst
   refine Nat.le_trans (Nat.mul_le_mul_right _ ?_) hst
   rw [hlen,List.length_singleton]
   omega) fun v7 pr7 h7 o7 s7 d7=>?_
 have s7':Sep [ip,pb,pr7,h] h7:=(s7.pick 2 rfl rfl).pick 2 rfl rfl
 obtain ⟨pb7,s8,t8⟩:=s7'.pack2
 unfold Kq
 try simp (disch:=first|decide|omega) only [bRpY,g4]
 refine HX (C.st.length-(i+1)) _ _ (by omega) ⟨i+1,raws++[rw0],pr7,pb7,v7,rfl,hlt',by simp (disch:=decide) only [bRpY,g0],by simp (disch:=decide) only [bRpY],by simp only [bRpY]<;>rfl,o7,by simp [hlen],?_,s8.pick 1 rfl rfl,d7⟩
 intro j r' s' hr' hs'
 by_cases hj:j<i
 · rw [List.getElem?_append_left (by omega)]at hr'
   exact (rel.le (t8.in 1 rfl)) j r' s' hr' hs'
 · have hj2:j<(raws++[rw0]).length:=(List.getElem?_eq_some_iff.1 hr').1
   obtain rfl:j=i:=by simp at hj2;omega
   rw [List.getElem?_append_right (by omega),hlen,Nat.sub_self]at hr'
   cases hr'
   rw [hs]at hs'
   cases hs'
   exact ⟨rfl,rfl,o4.le (t8.in 0 rfl)⟩

abbrev jn (C:Conf) (vb vp vr vz:Value):Obj := .cells #[.int .i64 C.w,.int .i64 C.h,.int .i64 C.ht,vb,vp,vr,vz,.int .i64 C.un,.int .i64 C.ac,.int .i64 C.sp,.int .i64 C.tu,.int .i64 C.ho,.int .i64 C.qu,.int .i64 C.re,.int .i64 C.bu,.bool C.back] 26 (0,0)
abbrev confA (C:Conf) (vb vp vr vz:Value):Value := .agg #[.int .i64 C.w,.int .i64 C.h,.int .i64 C.ht,vb,vp,vr,vz,.int .i64 C.un,.int .i64 C.ac,.int .i64 C.sp,.int .i64 C.tu,.int .i64 C.ho,.int .i64 C.qu,.int .i64 C.re,.int .i64 C.bu,.bool C.back]

theorem store26 {G h:Hp} {y:Nat} {C:Conf} {D:Conf} {v1 v2 v3 v4:Value} {a1 a2 a3 a4:Option Addr} {n1 n2 n3 n4 c1 c2 c3 c4:Nat} {K:Unit→Hp→Prop} (hb:h y=some (jn D v1 v2 v3 v4)):
   wpH P_ G (Instr.storeAt 26 (.pointer (some ⟨y,0,none⟩)) (confA C (.slice a1 n1 c1) (.slice a2 n2 c2) (.slice a3 n3 c3) (.slice a4 n4 c4))) h K=K () (h.set y (jn C (.slice a1 n1 c1) (.slice a2 n2 c2) (.slice a3 n3 c3) (.slice a4 n4 c4))):=by
 conv=>lhs;rw [← vj hb]
 exact st26w

structure Fit0 (C:Conf):Prop where
 bl:Room C.bl.length 16
 po:Room C.po.length 16
 ro:Room C.ro.length 24
 st:Room C.st.length 40
 bins:∀s∈C.st,Room s.2.length 8

def Cz:Conf:=⟨0,0,0,[],[],[],[],0,0,0,0,0,0,0,0,false⟩
abbrev nilV:Value := .slice none 0 0

structure CO (h:Hp) (C:Conf) (u:Value) (h' pb pp pr pz:Hp) (vb vp vr vz:Value):Prop where
 v:u=confA C vb vp vr vz
 bl:Slc cj 28 pb vb C.bl
 po:Slc cj 28 pp vp C.po
 ro:Slc uw 30 pr vr C.ro
 st:StkO pz vz C.st
 sep:Sep [pb,pp,pr,pz,h] h'

def CopyR (G h:Hp) (C:Conf) (u:Value) (h':Hp):Prop:=(∃pb pp pr pz vb vp vr vz,CO h C u h' pb pp pr pz vb vp vr vz)∧Dis G h'

theorem yw {G h:Hp} {v:Value} {C:Conf} (hv:CV G h v C) (fit:Fit0 C):aj P_ G 28 #[v] h (CopyR G h C):=by
 obtain ⟨ab,cb,ap,cp,ar,cr,az,cs,rfl,ca⟩:=hv
 refine aj.assume fun d=>enter28 (by simp) ?_
 unfold S28
 simp (disch:=decide) only [bRpY]
 intro x hx gx y hy gy
 have exy:=ik hy
 have s2:Sep [noHp,noHp.set x (jn C (.slice ab C.bl.length cb) (.slice ap C.po.length cp) (.slice ar C.ro.length cr) (.slice az C.st.length cs)),noHp.set y (jn Cz nilV nilV nilV nilV),h] _:=(((Sep.one (h:=h)).new (o:=jn C (.slice ab C.bl.length cb) (.slice ap C.po.length cp) (.slice ar C.ro.length cr) (.slice az C.st.length cs)) hx).new (o:=jn Cz nilV nilV nilV nilV) hy).swap.none
 have d2:=(d.set (o:=jn C (.slice ab C.bl.length cb) (.slice ap C.po.length cp) (.slice ar C.ro.length cr) (.slice az C.st.length cs)) gx).set (o:=jn Cz nilV nilV nilV nilV) gy
 unfold Cz at s2 d2
 generalize Hp.set (Hp.set h x _) y _=h2 at s2 d2 ⊢
 have cx:∀j,aa G h2 ⟨x,j,none⟩=_:=fun j=>ai (ag (s2.at 1 rfl af))
 have ca2:=ca.up (s2.in 3 rfl) d2
 try simp only [bRpY,cx]
 refine nl cj (by decide) un22 eocell (by decide) s2 d2 Slc.nil ca2.bl (by simpa [Room]using fit.bl) fun vb pb h3 ob s3 d3=>?_
 obtain ⟨sb,cpb,rfl,_⟩:=ob.len (by decide)
 rw [List.nil_append]at ob
 have hx3:=s3.at 1 rfl af
 try simp (disch:=first|decide|omega) only [bRpY,Nat.reduceAdd,Nat.reduceMul]
 rw [b8 sz22 rfl hx3 (by simp)]
 have s4:Sep [noHp,noHp.set x (jn C (.slice sb C.bl.length cpb) (.slice ap C.po.length cp) (.slice ar C.ro.length cr) (.slice az C.st.length cs)),pb,noHp.set y (jn ⟨0,0,0,[],[],[],[],0,0,0,0,0,0,0,0,false⟩ nilV nilV nilV nilV),h] (h3.set x (jn C (.slice sb C.bl.length cpb) (.slice ap C.po.length cp) (.slice ar C.ro.length cr) (.slice az C.st.length cs))):=by
   have:=(s3.pick 1 rfl rfl).put (o:=jn C (.slice sb C.bl.length cpb) (.slice ap C.po.length cp) (.slice ar C.ro.length cr) (.slice az C.st.length cs)) af
   rw [set_set]at this
   exact this.none
 have d4:Dis G (h3.set x (jn C (.slice sb C.bl.length cpb) (.slice ap C.po.length cp) (.slice ar C.ro.length cr) (.slice az C.st.length cs))):=d3.set gx
 try simp only [bRpY,List.nil_append]
 generalize Hp.set h3 x _=h4 at s4 d4 ⊢
 refine nl cj (by decide) un22 eocell (by decide) s4 d4 Slc.nil (ca.up (s4.in 4 rfl) d4).po (by simpa [Room]using fit.po) fun vp pp h5 op s5 d5=>?_
 obtain ⟨sp,cpp,rfl,_⟩:=op.len (by decide)
 rw [List.nil_append]at op
 have hx5:=s5.at 1 rfl af
 try simp (disch:=first|decide|omega) only [bRpY,Nat.reduceAdd,Nat.reduceMul]
 rw [b8 sz22 rfl hx5 (by simp)]
 have s6:Sep [noHp,noHp.set x (jn C (.slice sb C.bl.length cpb) (.slice sp C.po.length cpp) (.slice ar C.ro.length cr) (.slice az C.st.length cs)),pp,pb,noHp.set y (jn ⟨0,0,0,[],[],[],[],0,0,0,0,0,0,0,0,false⟩ nilV nilV nilV nilV),h] (h5.set x (jn C (.slice sb C.bl.length cpb) (.slice sp C.po.length cpp) (.slice ar C.ro.length cr) (.slice az C.st.length cs))):=by
   have:=(s5.pick 1 rfl rfl).put (o:=jn C (.slice sb C.bl.length cpb) (.slice sp C.po.length cpp) (.slice ar C.ro.length cr) (.slice az C.st.length cs)) af
   rw [set_set]at this
   exact this.none
 have d6:Dis G (h5.set x (jn C (.slice sb C.bl.length cpb) (.slice sp C.po.length cpp) (.slice ar C.ro.length cr) (.slice az C.st.length cs))):=d5.set gx
 try simp only [bRpY,List.nil_append]
 generalize Hp.set h5 x _=h6 at s6 d6 ⊢
 refine nl uw (by decide) un23 eopose (by decide) s6 d6 Slc.nil (ca.up (s6.in 5 rfl) d6).ro (by simpa [Room]using fit.ro) fun vr pr h7 or s7 d7=>?_
 obtain ⟨sr,cpr,rfl,_⟩:=or.len (by decide)
 rw [List.nil_append]at or
 have hx7:=s7.at 1 rfl af
 try simp (disch:=first|decide|omega) only [bRpY,Nat.reduceAdd,Nat.reduceMul]
 rw [b8 sz23 rfl hx7 (by simp)]
 have s8:Sep [noHp.set x (jn C (.slice sb C.bl.length cpb) (.slice sp C.po.length cpp) (.slice sr C.ro.length cpr) (.slice az C.st.length cs)),pr,pp,pb,noHp.set y (jn ⟨0,0,0,[],[],[],[],0,0,0,0,0,0,0,0,false⟩ nilV nilV nilV nilV),h] (h7.set x (jn C (.slice sb C.bl.length cpb) (.slice sp C.po.length cpp) (.slice sr C.ro.length cpr) (.slice az C.st.length cs))):=by
   have:=(s7.pick 1 rfl rfl).put (o:=jn C (.slice sb C.bl.length cpb) (.slice sp C.po.length cpp) (.slice sr C.ro.length cpr) (.slice az C.st.length cs)) af
   rw [set_set]at this
   exact this
 have d8:Dis G (h7.set x (jn C (.slice sb C.bl.length cpb) (.slice sp C.po.length cpp) (.slice sr C.ro.length cpr) (.slice az C.st.length cs))):=d7.set gx
 try simp only [bRpY,List.nil_append]
 generalize Hp.set h7 x _=h8 at s8 d8 ⊢
 refine (Ed (ca.up (s8.in 5 rfl) d8) fit.st fit.bins).mono ?_
 rintro vz h9 ⟨pz,oz,s9,d9⟩
 have s9':Sep [pz,noHp.set x (jn C (.slice sb C.bl.length cpb) (.slice sp C.po.length cpp) (.slice sr C.ro.length cpr) (.slice az C.st.length cs)),pr,pp,pb,noHp.set y (jn ⟨0,0,0,[],[],[],[],0,0,0,0,0,0,0,0,false⟩ nilV nilV nilV nilV),h] h9:=by
   have:=s9.split s8
   simpa using this
 obtain ⟨sz,cpz,rfl⟩:∃sz cpz,vz = .slice sz C.st.length cpz:=by
   obtain ⟨raws,_,_,o,_,e,_⟩:=oz
   obtain ⟨a,b,e2,_⟩:=o.len (by decide)
   exact ⟨a,b,by rw [e2,e]⟩
 have hx9:=s9'.at 1 rfl af
 try simp (disch:=first|decide|omega) only [bRpY,Nat.reduceAdd,Nat.reduceMul]
 rw [b8 sz24 rfl hx9 (by simp)]
 have s10:Sep [noHp.set x (jn C (.slice sb C.bl.length cpb) (.slice sp C.po.length cpp) (.slice sr C.ro.length cpr) (.slice sz C.st.length cpz)),pz,pr,pp,pb,noHp.set y (jn ⟨0,0,0,[],[],[],[],0,0,0,0,0,0,0,0,false⟩ nilV nilV nilV nilV),h] (h9.set x (jn C (.slice sb C.bl.length cpb) (.slice sp C.po.length cpp) (.slice sr C.ro.length cpr) (.slice sz C.st.length cpz))):=by
   have:=(s9'.pick 1 rfl rfl).put (o:=jn C (.slice sb C.bl.length cpb) (.slice sp C.po.length cpp) (.slice sr C.ro.length cpr) (.slice sz C.st.length cpz)) af
   rw [set_set]at this
   exact this
 have d10:Dis G (h9.set x (jn C (.slice sb C.bl.length cpb) (.slice sp C.po.length cpp) (.slice sr C.ro.length cpr) (.slice sz C.st.length cpz))):=d9.set gx
 try simp only [bRpY]
 generalize Hp.set h9 x _=h10 at s10 d10 ⊢
 have hy10:=s10.at 5 rfl af
 rw [store26 hy10]
 try simp only [bRpY]
 refine ⟨⟨pb,pp,pr,pz,_,_,_,_,rfl,ob,op,or,oz,?_⟩,d10.set gy⟩
 have s11:=((s10.pick 5 rfl rfl).put (o:=jn C (.slice sb C.bl.length cpb) (.slice sp C.po.length cpp) (.slice sr C.ro.length cpr) (.slice sz C.st.length cpz)) af).drop.drop
 have s12:Sep [pz,pr,pp,pb,h] _:=s11
 exact ((s12.pick 1 rfl rfl).pick 2 rfl rfl).pick 3 rfl rfl

theorem StkO.len {pz:Hp} {v:Value} {st:List (Cell × List Int)} (o:StkO pz v st):∃sz cpz,v = .slice sz st.length cpz:=by
 obtain ⟨raws,_,_,o,_,e,_⟩:=o
 obtain ⟨a,b,e2,_⟩:=o.len (by decide)
 exact ⟨a,b,by rw [e2,e]⟩

theorem CO.cv {G h h' h2 pb pp pr pz:Hp} {C:Conf} {u vb vp vr vz:Value} (c:CO h C u h' pb pp pr pz vb vp vr vz) (l:h'.le h2):CV G h2 u C:=by
 obtain ⟨rfl,ob,op,or,oz,s⟩:=c
 obtain ⟨sb,cb,rfl,_⟩:=ob.len (by decide)
 obtain ⟨sp,cp,rfl,_⟩:=op.len (by decide)
 obtain ⟨sr,cr,rfl,_⟩:=or.len (by decide)
 obtain ⟨sz,cz,rfl⟩:=oz.len
 refine ⟨sb,cb,sp,cp,sr,cr,sz,cz,rfl,ob.sees (by decide) ((s.in 0 rfl).trans l),op.sees (by decide) ((s.in 1 rfl).trans l),or.sees (by decide) ((s.in 2 rfl).trans l),?_⟩
 obtain ⟨raws,pr',pb',o,t,e,rel⟩:=oz
 refine ⟨raws,o.sees (by decide) (((t.in 0 rfl).trans (s.in 3 rfl)).trans l),fun i r x h1 h2=>?_⟩
 obtain ⟨a,b,c⟩:=rel i r x h1 h2
 exact ⟨a,b,c.sees (by decide) (((t.in 1 rfl).trans (s.in 3 rfl)).trans l)⟩
end Go.Proofs.YtfflipnhffknnaaGreatDoor
end

section
namespace Go.Proofs.YtfflipnhffknnaaGreatDoor
open Go Go.HL Go.Proofs.Resv Go.Proofs.Srch
def yy:=jq bC (jq (jq (jq @qg (jq @cf38 @Cw)) (jq @F2 (jq @Bl @Bk))) (jq (jq @Eh (jq @F0 @Cv)) (jq (jq @ld23 @ld26) (jq @ld3 @ln23))))
structure SmO (C:Conf):Prop where
 w:C.w≤6
 h:C.h≤6
 bu:C.bu≤4000
 un:C.un≤100
 tu:C.tu≤200
 ho:C.ho≤200
 ro:C.ro.length≤4
 may:Wp C

theorem small12 {G h:Hp} {v:Value} {C:Conf} (hv:CV G h v C):aj P_ G 21 #[v] h (fun u h'=>(∃b,u = .bool b∧(b=true→SmO C))∧h'=h):=by
 have hv0:=hv
 obtain ⟨ab,cb,ap,cp,ar,cr,az,cs,rfl,ca⟩:=hv
 refine aj.assume fun d=>quietly (enter21 (by simp) ?_)
 unfold S21
 simp only [yy]
 intro x hx gx
 generalize e1:Hp.set h x _=h1
 obtain ⟨l1,d1,b1⟩:=boxed e1 hx d gx
 have cx:∀j,aa G h1 ⟨x,j,none⟩=_:=fun j=>ai (ag b1)
 by_cases g1:C.w≤6
 rotate_left
 · try simp only [yy,cx,decide_eq_false g1,dv]
   exact ⟨⟨false,rfl,by simp⟩,l1⟩
 by_cases g2:C.h≤6
 rotate_left
 · try simp only [yy,cx,decide_eq_true g1,decide_eq_false g2,dv]
   exact ⟨⟨false,rfl,by simp⟩,l1⟩
 by_cases g3:C.bu≤4000
 rotate_left
 · try simp only [yy,cx,decide_eq_true g1,decide_eq_true g2,decide_eq_false g3,dv]
   exact ⟨⟨false,rfl,by simp⟩,l1⟩
 by_cases g4:C.un≤100
 rotate_left
 · try simp only [yy,cx,decide_eq_true g1,decide_eq_true g2,decide_eq_true g3,decide_eq_false g4,dv]
   exact ⟨⟨false,rfl,by simp⟩,l1⟩
 by_cases g5:C.tu≤200
 rotate_left
 · try simp only [yy,cx,decide_eq_true g1,decide_eq_true g2,decide_eq_true g3,decide_eq_true g4,decide_eq_false g5,dv]
   exact ⟨⟨false,rfl,by simp⟩,l1⟩
 by_cases g6:C.ho≤200
 rotate_left
 · try simp only [yy,cx,decide_eq_true g1,decide_eq_true g2,decide_eq_true g3,decide_eq_true g4,decide_eq_true g5,decide_eq_false g6,dv]
   exact ⟨⟨false,rfl,by simp⟩,l1⟩
 by_cases g7:((C.ro.length:Nat):Int)≤4
 rotate_left
 · try simp only [yy,cx,decide_eq_true g1,decide_eq_true g2,decide_eq_true g3,decide_eq_true g4,decide_eq_true g5,decide_eq_true g6,decide_eq_false g7,dv]
   exact ⟨⟨false,rfl,by simp⟩,l1⟩
 try simp only [yy,cx,decide_eq_true g1,decide_eq_true g2,decide_eq_true g3,decide_eq_true g4,decide_eq_true g5,decide_eq_true g6,decide_eq_true g7]
 refine (W7 (hv0.up l1 d1)).mono ?_
 rintro _ h1 ⟨⟨b,rfl,hb⟩,rfl⟩
 try simp (disch:=first|decide|omega) only [yy,Nat.reduceAdd,Nat.reduceMul]
 exact ⟨⟨b,rfl,fun e=>⟨g1,g2,g3,g4,g5,g6,by omega,hb.1 e⟩⟩,l1⟩
end Go.Proofs.YtfflipnhffknnaaGreatDoor
end

section
namespace Go.Proofs.Srch
open Go.Proofs.Resv
section
variable {P M:Type} [DecidableEq P] {E:Env P M}

structure Flat (E:Env P M) (D:Int):Prop where
 sp:∀p,E.ok p→E.spans p=[(0,FV)]
 wy:∀p,E.ok p→∀w∈E.ways p,w.2.2.2=[(0,FV)]∧1≤w.2.2.1∧w.2.2.1≤D∧E.ok w.2.1

section
variable {by_:Int} {shM:M→M}

def Low (E:Env P M) (B:Int) (S:List (St P M)):Prop:=∀x∈S,x.s=(0,FV)∧E.ok x.p∧0≤x.a∧x.a≤B

theorem Low.up {B B':Int} {S:List (St P M)} (l:Low E B S) (h:B≤B'):Low E B' S:=fun x hx=>let ⟨a,b,c,d⟩:=l x hx;⟨a,b,c,Int.le_trans d h⟩

end

inductive Rch (E:Env P M) (p0:P):P→Int→Prop where
 |start:Rch E p0 p0 0
 |step {p:P} {n:Int} {w:M × P × Int × List Sp} (h:Rch E p0 p n) (hw:w∈E.ways p):Rch E p0 w.2.1 (n+w.2.2.1)

theorem Rch.ok {D:Int} (fl:Flat E D) {p0 p:P} {n:Int} (h:Rch E p0 p n) (ho:E.ok p0):E.ok p∧0≤n:=by
 induction h with
 |start=>exact ⟨ho,Int.le_refl _⟩
 |step h hw ih=>obtain ⟨_,e2,_,e4⟩:=fl.wy _ ih.1 _ hw;exact ⟨e4,by omega⟩
theorem Rch.pre {p0 p1:P} {w:M × P × Int × List Sp} (hw:w∈E.ways p0) (e:w.2.1=p1):∀{p:P} {n:Int},Rch E p1 p n→Rch E p0 p (w.2.2.1+n)
 |_,_,.start=>by subst e;have:=Rch.step (.start (E:=E) (p0:=p0)) hw;rw [Int.zero_add]at this;rw [Int.add_zero];exact this
 |_,_,.step h hv=>by have:=Rch.step (Rch.pre hw e h) hv;rw [← Int.add_assoc];exact this
end
theorem zw {r:Int}:∀{L:List Slot} {a x y:Int},Resv.Good L→0≤a→a≤x→x<y→y≤FV→(∀s∈L,s.r≠r→y≤s.f∨s.t≤x)→∃g∈di r L a,g.1≤x∧y≤g.2
 |[],a,x,y,_,h0,h1,h2,h3,_=>by
   unfold di
   rw [if_pos (by omega)]
   exact ⟨_,.head _,h1,h3⟩
 |s::L,a,x,y,g,h0,h1,h2,h3,h=>by
   have ok:=g.ok s (.head _)
   obtain ⟨o1,o2,o3,o4⟩:=ok
   unfold di
   by_cases hr:s.r=r
   · rw [if_pos hr]
     exact zw g.tail h0 h1 h2 h3 fun u hu=>h u (.tail _ hu)
   · rw [if_neg hr]
     rcases h s (.head _) hr with h4|h4
     · rw [if_pos (by omega)]
       exact ⟨_,.head _,h1,h4⟩
     · obtain ⟨u,hu,e⟩:=zw (r:=r) g.tail (a:=s.t) (by omega) h4 h2 h3 fun u hu=>h u (.tail _ hu)
       split
       · exact ⟨u,.tail _ hu,e⟩
       · exact ⟨u,hu,e⟩

theorem Z5 {T:Tb} (g:jj T) {r n a b:Int} (hn:inT T.length n=true) (h0:0≤a) (h1:a<b) (h2:b≤FV) (hf:ku (rowT T n) r a b=true):∃u∈mr T r n,u.1≤a∧b≤u.2:=by
 unfold mr
 rw [if_pos hn]
 exact zw (qk g n) (Int.le_refl _) h0 h1 h2 (Bi.1 hf)
theorem Pn {T:Tb} {r a b:Int} (hab:a<b):∀(N:List Int) (l:List Sp),(∃u∈l,u.1≤a∧b≤u.2)→(∀n∈N,∃u∈mr T r n,u.1≤a∧b≤u.2)→∃s∈N.foldl (fun l n=>jf l (mr T r n)) l,s.1≤a∧b≤s.2
 |[],l,h,_=>h
 |n::N,l,⟨u,hu,h1,h2⟩,h=>by
   obtain ⟨v,hv,h3,h4⟩:=h n (.head _)
   rw [List.foldl_cons]
   exact Pn hab N _ ⟨(max u.1 v.1,min u.2 v.2),Fe.2 ⟨u,hu,v,hv,rfl,by omega⟩,by simp only;omega,by simp only;omega⟩ fun m hm=>h m (.tail _ hm)

theorem aa0 {T:Tb} {r a b:Int} {N:List Int} (h0:0≤a) (h1:a<b) (h2:b≤FV) (h:∀n∈N,∃u∈mr T r n,u.1≤a∧b≤u.2):∃s∈gu T r N,s.1≤a∧b≤s.2:=
 Pn h1 N _ ⟨_,.head _,h0,h2⟩ h

theorem Qo {T:Tb} (g:jj T) {r a b:Int} {N:List Int} (h0:0≤a) (h1:a<b) (h2:b≤FV) (h:∀n∈N,inT T.length n=true∧ku (rowT T n) r a b=true):∃s∈gu T r N,s.1≤a∧b≤s.2:=
 aa0 h0 h1 h2 fun n hn=>Z5 g (h n hn).1 h0 h1 h2 (h n hn).2

def rz (r:Int) (T U:Tb):Prop:=T.length=U.length∧∀n,others (rowT T n) r=others (rowT U n) r
theorem rz.refl {r:Int} {T:Tb}:rz r T T:=⟨rfl,fun _=>rfl⟩
theorem rz.trans {r:Int} {T U V:Tb} (a:rz r T U) (b:rz r U V):rz r T V:=⟨a.1.trans b.1,fun n=>(a.2 n).trans (b.2 n)⟩
theorem rz.gaps {r:Int} {T U:Tb} (a:rz r T U) (n:Int):mr T r n=mr U r n:=by
 unfold mr uz
 rw [a.1,← Dq,a.2,Dq]
theorem rz.free {r:Int} {T U:Tb} (a:rz r T U) (N:List Int):gu T r N=gu U r N:=by
 unfold gu
 congr 1
 funext l n
 rw [a.gaps]
end Go.Proofs.Srch
end

section
namespace Go.Proofs.YtfflipnhffknnaaGreatDoor
open Go Go.HL


section
variable {C:Conf}
end
section
variable {C:Conf}
end
end Go.Proofs.YtfflipnhffknnaaGreatDoor
end

section
namespace Go.Proofs.YtfflipnhffknnaaGreatDoor
open Go Go.HL Go.Proofs.Resv Go.Proofs.Srch
section
variable {C:Conf}

theorem wk_of (mk:li C):C.w=(wC C:Int)∧C.h=(kC C:Int)∧1≤wC C∧wC C≤16∧1≤kC C∧kC C≤16:=by
 have hb:=(Ff.1 mk).nums
 unfold mx at hb
 simp only [Bool.and_eq_true]at hb
 exact r5 (by simp_all) (by simp_all)
end
section
variable {C:Conf}

def shM (by_:Int) (m:Move):Move:={ m with a:=m.a+by_,e:=m.e+by_ }
end
section
variable {C:Conf}

def FreeC (C:Conf) (T:Tb) (r:Int) (L:List Cell) (a b:Int):Prop:=∀c∈L,inT T.length (numI (wC C) (kC C) c)=true∧ku (rowT T (numI (wC C) (kC C) c)) r a b=true

theorem FreeC.span {T:Tb} (gt:jj T) {r a b:Int} {L:List Cell} (h:FreeC C T r L a b) (h0:0≤a) (h1:a<b) (h2:b≤FV):∃s∈gu T r (L.map (numI (wC C) (kC C))),s.1≤a∧b≤s.2:=
 Qo gt h0 h1 h2 fun n hn=>by
   obtain ⟨c,hc,rfl⟩:=List.mem_map.1 hn
   exact h c hc
end
theorem Ob {C:Conf} (sm:SmO C):1≤C.w*C.h∧C.w*C.h≤36∧IntKind.i64.wrap (C.w*C.h)=(((C.w*C.h).toNat:Nat):Int)∧(((C.w*C.h).toNat:Nat):Int)=C.w*C.h:=by
 have hnb:1≤C.w∧1≤C.h:=by
   have hb:=sm.may.nums
   unfold mx av at hb
   simp only [Bool.and_eq_true,decide_eq_true_eq]at hb
   omega
 obtain ⟨hw1,hh1⟩:=hnb
 have b2:C.w*C.h≤6*6:=Int.mul_le_mul sm.w sm.h (by omega) (by omega)
 have b1:1*1≤C.w*C.h:=Int.mul_le_mul hw1 hh1 (by omega) (by omega)
 refine ⟨by omega,by omega,?_,by omega⟩
 rw [kv (by omega) (by omega)];omega

theorem TabV.up {G h h':Hp} {vt:Value} {To:Option Tb} (t:TabV G h vt To) (l:h.le h') (d:Dis G h'):TabV G h' vt To:=by
 cases To with
 |none=>exact t
 |some T=>obtain ⟨tp,e,ts,x⟩:=t;exact ⟨tp,e,ts.up l d,x⟩
end Go.Proofs.YtfflipnhffknnaaGreatDoor
end

section
namespace Go.Proofs.YtfflipnhffknnaaGreatDoor.Rv
open Go Go.HL Go.Proofs.Resv
def tl:=jq bC (jq (jq (jq (jq @Bool.and_true @al103) (jq @C1 @Uy)) (jq (jq @Yj @ww) (jq @cf107 @cf164))) (jq (jq (jq @ae2 @ld103) (jq @ld203p @ld3)) (jq (jq @ln103 @ln99) (jq @ne203p @true_and))))
def il:Cod (Int × Int):=⟨2,fun g=>[.int .i64 g.1,.int .i64 g.2],fun _=>rfl,fun _ v hv=>by simp at hv;rcases hv with rfl|rfl<;>rfl⟩
theorem eopair:fe P_ 110 il.n 16:=eo110
abbrev Tm (g:Int × Int):Obj := .cells #[.int .i64 g.1,.int .i64 g.2] 110 (0,0)
theorem Sees.pair {G h:Hp} {sa:Option Addr} {cap n:Nat} {L:List (Int × Int)} (s:Sees il G h (.slice sa n cap) L) {i:Nat} {x:Int × Int} (hx:L[i]?=some x):
   ∃b o,sa=some ⟨b,o,none⟩∧aa G h ⟨b,o+i*2,none⟩=some (.int .i64 x.1)∧aa G h ⟨b,o+i*2+1,none⟩=some (.int .i64 x.2):=by
 obtain ⟨b,o,c,e1,e2⟩:=s.get hx
 simp only [Value.slice.injEq]at e1
 obtain ⟨rfl,-,-⟩:=e1
 have x0:=e2 0 (by decide)
 have x1:=e2 1 (by decide)
 simp only [il,Nat.add_zero,List.getElem?_cons_zero,List.getElem?_cons_succ]at x0 x1
 exact ⟨b,o,rfl,x0,x1⟩

theorem store39 {G h:Hp} {lb:Nat} {z:Value} {a:Option Addr} {n c:Nat} {K:Unit→Hp→Prop} (hb:h lb=some (.cells #[z] 103 (0,0))):
   wpH P_ G (Instr.storeAt 103 (.pointer (some ⟨lb,0,none⟩)) (.slice a n c)) h K=K () (h.set lb (.cells #[.slice a n c] 103 (0,0))):=by
 rw [b8 sz103 rfl hb (by simp)]
 rfl

theorem Qm {G a:Hp} {lb mb:Nat} {most:Int} {L:List (Int × Int)} {m:Int × Int} (y:HL.GYb il 110 103 most lb mb L a) (hm:most≤100000):
   aj P_ G 107 #[.int .i64 m.1,.int .i64 m.2,.pointer (some ⟨lb,0,none⟩),.pointer (some ⟨mb,0,none⟩)] a (fun v a'=>v = .bool (HL.yu most (L++[m]))∧HL.GY il 110 103 most lb mb (L++[m]) a'):=by
 obtain ⟨⟨ip,v,o,s⟩,hlen⟩:=y
 refine aj.assume fun d=>al0 (by simp) ?_
 unfold S107
 have clb:∀j,aa G a ⟨lb,j,none⟩=_:=fun j=>ai (ag (s.at 1 rfl af))
 simp only [tl,clb]
 intro b hb gb
 have s2:=s.past (o:=Tm m) hb
 have d2:=d.set (o:=Tm m) gb
 have hb2:(a.set b (Tm m)) b=some (Tm m):=af
 generalize Hp.set a b _=h2 at s2 d2 hb2 ⊢
 refine dm il (by decide) un103 eopair (by decide) (by decide) (M:=[m]) s2 d2 o (Sees.row (c:=il) (L:=[m]) hb2 rfl (Nat.le_refl _)) (by simp;omega) fun v3 a3 h3 o3 s3 d3=>?_
 obtain ⟨sa,cap,rfl,hcap⟩:=o3.len (by decide)
 have hlb3:=s3.at 1 rfl af
 try simp (disch:=first|decide|omega) only [tl,Nat.reduceAdd,Nat.reduceMul]
 rw [store39 hlb3]
 have s4:=(s3.pick 1 rfl rfl).put (o := .cells #[.slice sa (L++[m]).length cap] 103 (0,0)) af
 rw [set_set]at s4
 have clb4:∀j,aa G (h3.set lb (.cells #[.slice sa (L++[m]).length cap] 103 (0,0))) ⟨lb,j,none⟩=_:=fun j=>ai (ag (s4.at 0 rfl af))
 have cmb4:∀j,aa G (h3.set lb (.cells #[.slice sa (L++[m]).length cap] 103 (0,0))) ⟨mb,j,none⟩=_:=fun j=>ai (ag (s4.at 2 rfl af))
 try simp only [tl,clb4,cmb4]
 refine ⟨?_,a3,_,o3,s4.swap⟩
 first|rfl|simp [HL.yu]

theorem Jx {G:Hp} {lb mb:Nat} {most:Int} (hm:most≤100000):HL.Yl P_ gapA G (.func (.func 107) #[] #[.pointer (some ⟨lb,0,none⟩),.pointer (some ⟨mb,0,none⟩)]) (HL.GYb il 110 103 most lb mb) (HL.GY il 110 103 most lb mb) (HL.yu most):=by
 intro L m a q h y s d
 simp only [tl]
 refine (s.on (Qm y hm)).mono ?_
 rintro v h' ⟨a',⟨rfl,gy⟩,s',d'⟩
 refine ⟨a',rfl,s',d',?_⟩
 split
 · rename_i hc
   exact ⟨gy,of_decide_eq_true hc⟩
 · exact gy

theorem kc {G h:Hp} {b1 b2 b3 tp:Nat} {T:Tb} {c r most:Int} (h1:h b1=some (.cells #[.pointer (some ⟨tp,0,none⟩)] 34 (0,0))) (h2:h b2=some (.cells #[.int .i64 c] 3 (0,0))) (h3:h b3=some (.cells #[.int .i64 r] 3 (0,0))) (ts:TSee G h tp T)
   (fw:∀L∈T,L.length≤50000) (hm1:1≤most) (hm2:most≤100000):
   aj P_ G 53 #[.func (.func 164) #[] #[.pointer (some ⟨b1,0,none⟩),.pointer (some ⟨b2,0,none⟩),.pointer (some ⟨b3,0,none⟩)],.int .i64 most] h (fun u h'=>∃ip,Slc il 110 ip u ((if inT T.length c=true then uz (rowT T c) r else []).take most.toNat)∧HL.Sep [ip,h] h'∧Dis G h'):=by
 refine aj.assume fun d=>Uq (by simp) ?_
 unfold S53
 simp only [tl]
 intro mb hmb gmb lb hlb glb
 have s2:=((Sep.one (h:=h)).new (o := .cells #[.int .i64 most] 3 (0,0)) hmb).new (o := .cells #[.slice none 0 0] 103 (0,0)) hlb
 have d2:=(d.set (o := .cells #[.int .i64 most] 3 (0,0)) gmb).set (o := .cells #[.slice none 0 0] 103 (0,0)) glb
 generalize Hp.set (Hp.set h mb _) lb _=k2 at s2 d2 ⊢
 have cmb:∀j,aa G k2 ⟨mb,j,none⟩=_:=fun j=>ai (ag (s2.at 1 rfl af))
 have e1:decide (most<1)=false:=decide_eq_false (by omega)
 try simp only [tl,cmb,e1]
 unfold Ss
 try simp (disch:=decide) only [tl]
 obtain ⟨a,s3,sa⟩:=pa s2.none
 have ya:HL.GYb il 110 103 most lb mb [] a:=⟨⟨noHp,_,Slc.nil,sa⟩,by simp;omega⟩
 refine (Rt (r:=r) (Jx hm2) ya s3 h1 h2 h3 ts fw).mono ?_
 rintro _ h4 ⟨a4,s4,d4,z4⟩
 rw [HL.tg (by simp;omega)]at z4
 generalize (if inT T.length c=true then uz (rowT T c) r else [])=GL at*
 have gy:HL.GY il 110 103 most lb mb (GL.take most.toNat) a4:=by
   unfold HL.Fin at z4
   simp only [List.nil_append,List.length_nil,Nat.sub_zero]at z4
   split at z4
   · exact z4.1
   · exact z4
 obtain ⟨ip,v,o,t4⟩:=gy
 have s5:HL.Sep [h,ip,noHp.set lb (.cells #[v] 103 (0,0)),noHp.set mb (.cells #[.int .i64 most] 3 (0,0))] h4:=by
   have:=s4.swap.split t4
   simpa using this
 have clb:∀j,aa G h4 ⟨lb,j,none⟩=_:=fun j=>ai (ag (s5.at 2 rfl af))
 try simp only [tl,clb]
 exact ⟨ip,o,(s5.take 2 rfl).swap,d4⟩

def Bd (x:Int):Prop := -9223372036854775808≤x∧x≤9223372036854775807
theorem zp {G h:Hp} {a n:Int} (ha:Bd a) (hn:0<n) (hn2:n≤1000000):aj P_ G 25 #[.int .i64 a,.int .i64 n] h (fun v h'=>v = .int .i64 (a % n)∧h'=h):=by
 refine quietly (Ur (by simp) ?_)
 obtain ⟨ha1,ha2⟩:=ha
 unfold S25
 have e1:a.tmod n=if 0≤a∨a % n=0 then a % n else a % n-n:=by
   rw [Int.tmod_eq_emod]
   have:(n.natAbs:Int)=n:=by omega
   by_cases h0:0≤a
   · simp [h0]
   · simp [h0,this,Int.dvd_iff_emod_eq_zero]
     split<;>omega
 have hb:=Int.emod_nonneg a (show n≠0 by omega)
 have hb2:=Int.emod_lt_of_pos a hn
 simp (disch:=first|decide|omega) only [tl]
 by_cases hc:0≤a∨a % n=0
 · rw [if_pos hc]at e1
   rw [e1,im (show ¬a % n<0 by omega)]
   simp only [tl]
   unfold C8
   simp (disch:=decide) only [tl]
   exact Hp.le.refl h
 · rw [if_neg hc]at e1
   have:a % n≠0:=fun e=>hc (.inr e)
   rw [e1,gv (show a % n-n<0 by omega)]
   simp only [tl]
   unfold C8
   simp only [tl]
   exact ⟨by congr 1;omega,Hp.le.refl h⟩
end Go.Proofs.YtfflipnhffknnaaGreatDoor.Rv
end

section
namespace Go.Proofs.YtfflipnhffknnaaGreatDoor
open Go Go.HL
section
variable (G:Hp) (K:EK) (r:Rg) (h:Hp)
def md91:Nat→Hint
 |_=>mh false [] [] [] false
def ao0:Prop:=
 o_ G (Instr.makeSlice 98 (r 0) (r 0)) h fun v4 h4=>
 o_ G (Instr.build 188 #[(0,v4)]) h4 fun v5 h5=>
 o_ G (Instr.box 188 v5) h5 fun v6 h6=>
 K .ret (u5 r 9 (r 0) 10 v4 11 v5 12 v6 2 v6) h6
def S91:Prop:=
 o_ G (binOp .lss 3 (r 0) (.int .i64 1)) h fun v0 h0=>
 g_ v0 false (fun K1=>K1 (r 0) h0) h0 fun v1 h1=>
 g_ v0 false (o_ G (binOp .gtr 3 v1 (.int .i64 256)) h1) h1 fun v2 h2=>
 opH P_ G (bf v0 (.bool true) v2) h2 fun v3 h3=>
 (fun q=>cond v3
 (K .ret (upd q 2 (.pointer none)) h3)
 (ao0 G K q h3))
 (u7 r 2 (.pointer none) 3 (r 0) 4 v0 5 v0 6 v1 7 v2 8 v3)
theorem enter91:Ent 13 91 [.tmp 2] S91:=ent_ (m:=md91) (c:=(Tryz.f91.body.getD .skip)) (fun _ _ _ _=>by kernel_rfl) Tryz.func91 rfl rfl rfl

def md92:Nat→Hint
 |6=>⟨false,[0,0,0,6,14,30,63,127,255,511,511,2047,4095,8191,16383,32767,65535,131071,131071,524287,1048575,2097151,131071,131071,12713983,29491199,63045631,134217727,268435455,536870911,1073741823,1073741823,4294967295,8589934591,17179869183,34359738367,68719476735],[.pureN,.pureN,.pureN,.pureN,.pureN,.pureM,.eff,.pureN,.pureN,.pureN,.pureN,.pureN,.pureN,.pureM,.pureN,.pureN,.pureN,.pureN,.pureN,.pureN,.pureN,.pureM,.pureN,.pureN,.pureN,.pureN,.pureM,.pureN,.pureN,.pureN,.pureN,.pureN,.pureN,.pureN,.pureM,.pureN,.pureN],[.pureN,.pureN,.pureN,.pureN,.pureN,.pureM,.eff,.pureN,.pureN,.pureN,.pureN,.pureN,.pureN,.late,.pureN,.pureN,.pureN,.pureN,.pureN,.pureN,.pureN,.late,.pureN,.pureN,.pureN,.pureN,.late,.pureN,.pureN,.pureN,.pureN,.pureN,.pureN,.pureN,.late,.pureN,.pureN],[false,false,false,false,false,false,false,false,false,false,false,false,false,false,false,false,false,false,false,false,false,false,false,false,false,false,false,false,false,false,false,false,false,false,false,false,false],false⟩
 |11=>mh false [0,0,0,0,12,28,60,0,0,384,896,1920,0,0,12288,28672,61440,131071] [n_,n_,n_,n_,n_,n_,m_,n_,n_,n_,n_,m_,n_,n_,n_,n_,m_,e_] (fs 18) false
 |16=>mh false [0,0,0,0,12,28,60,0,0,384,896,1920,0,0,12288,28672,61440,131071] [n_,n_,n_,n_,n_,n_,m_,n_,n_,n_,n_,m_,n_,n_,n_,n_,m_,e_] (fs 18) false
 |_=>mh false [] [] [] false
def an6 (G:Hp) (K:EK) (r:Rg) (h:Hp):Prop:=
 K .ret (upd r 6 (.int .i64 0)) h
def Ke:Prop:=
 o_ G (binOp .add 3 (r 9) (.int .i64 1)) h fun v3 h3=>
 K .normal (u3 r 83 (r 9) 84 v3 9 v3) h3
def Kf:Prop:=
 p_ (Instr.indexAt 114 (r 2) (r 9)) h fun v4 h4=>
 p_ (Instr.fieldAt 186 v4 0) h4 fun v5 h5=>
 w_ G h (Instr.loadAt 3 v5) h5 fun v6 h6=>
 p_ (Instr.indexAt 114 (r 2) (r 9)) h6 fun v7 h7=>
 p_ (Instr.fieldAt 186 v7 1) h7 fun v8 h8=>
 w_ G h (Instr.loadAt 3 v8) h8 fun v9 h9=>
 p_ (Instr.indexAt 114 (r 2) (r 9)) h9 fun v10 h10=>
 p_ (Instr.fieldAt 186 v10 2) h10 fun v11 h11=>
 w_ G h (Instr.loadAt 3 v11) h11 fun v12 h12=>
 c_ G 139 #[(r 0),(r 1),v6,v9,v12] h12 fun v13 h13=>
 Ke G K (u8 (u10 r 85 (r 0) 86 (r 1) 87 (r 2) 88 (r 9) 89 v4 90 v5 91 v6 92 (r 2) 93 (r 9) 94 v7) 95 v8 96 v9 97 (r 2) 98 (r 9) 99 v10 100 v11 101 v12 102 v13) h13
def an5 (r:Rg) (h:Hp) (K:EK):Prop:=
 o_ G (Builtin.len_ #[114] 3 #[(r 2)]) h fun v1 h1=>
 o_ G (binOp .lss 3 (r 9) v1) h1 fun v2 h2=>
 cond v2
 (Kf G K (u4 r 79 (r 9) 80 (r 2) 81 v1 82 v2) h2)
 (K (.exit 4) (u4 r 79 (r 9) 80 (r 2) 81 v1 82 v2) h2)
def an7:Prop:=
 bz (an5 G) (upd r 9 (.int .i64 0)) h (bh 4 (bq (an6 G K) K))
def Gn:Prop:=
 o_ G (binOp .add 3 (r 8) (.int .i64 1)) h fun v16 h16=>
 K .normal (u3 r 59 (r 8) 60 v16 8 v16) h16
def Kd:Prop:=
 p_ (Instr.indexAt 114 (r 2) (r 8)) h fun v17 h17=>
 p_ (Instr.fieldAt 186 v17 0) h17 fun v18 h18=>
 w_ G h (Instr.loadAt 3 v18) h18 fun v19 h19=>
 p_ (Instr.indexAt 114 (r 2) (r 8)) h19 fun v20 h20=>
 p_ (Instr.fieldAt 186 v20 1) h20 fun v21 h21=>
 w_ G h (Instr.loadAt 3 v21) h21 fun v22 h22=>
 p_ (Instr.indexAt 114 (r 2) (r 8)) h22 fun v23 h23=>
 p_ (Instr.fieldAt 186 v23 2) h23 fun v24 h24=>
 w_ G h (Instr.loadAt 3 v24) h24 fun v25 h25=>
 c_ G 138 #[(r 0),(r 1),v19,v22,v25] h25 fun v26 h26=>
 (fun q=>cond v26
 (K .ret (upd q 6 (.int .i64 18)) h26)
 (Gn G K q h26))
 (u8 (u10 r 61 (r 0) 62 (r 1) 63 (r 2) 64 (r 8) 65 v17 66 v18 67 v19 68 (r 2) 69 (r 8) 70 v20) 71 v21 72 v22 73 (r 2) 74 (r 8) 75 v23 76 v24 77 v25 78 v26)
def an4 (r:Rg) (h:Hp) (K:EK):Prop:=
 o_ G (Builtin.len_ #[114] 3 #[(r 2)]) h fun v14 h14=>
 o_ G (binOp .lss 3 (r 8) v14) h14 fun v15 h15=>
 cond v15
 (Kd G K (u4 r 55 (r 8) 56 (r 2) 57 v14 58 v15) h15)
 (K (.exit 2) (u4 r 55 (r 8) 56 (r 2) 57 v14 58 v15) h15)
def an8:Prop:=
 bz (an4 G) (upd r 8 (.int .i64 0)) h (bh 2 (bq (an7 G K) K))
def xa:Prop:=
 o_ G (binOp .add 3 (r 7) (.int .i64 1)) h fun v29 h29=>
 K .normal (u3 r 16 (r 7) 17 v29 7 v29) h29
def Dz:Prop:=
 p_ (Instr.indexAt 114 (r 2) (r 7)) h fun v30 h30=>
 p_ (Instr.fieldAt 186 v30 0) h30 fun v31 h31=>
 w_ G h (Instr.loadAt 3 v31) h31 fun v32 h32=>
 c_ G 137 #[(r 0),v32] h32 fun v33 h33=>
 p_ (Op.unary .not v33) h33 fun v34 h34=>
 g_ v34 false (fun K1=>K1 (r 2) h34) h34 fun v35 h35=>
 g_ v34 false (fun K1=>K1 (r 7) h35) h35 fun v36 h36=>
 g_ v34 false (p_ (Instr.indexAt 114 v35 v36) h36) h36 fun v37 h37=>
 g_ v34 false (p_ (Instr.fieldAt 186 v37 1) h37) h37 fun v38 h38=>
 g_ v34 false (w_ G h38 (Instr.loadAt 3 v38) h38) h38 fun v39 h39=>
 g_ v34 false (p_ (binOp .lss 3 v39 (.int .i64 0)) h39) h39 fun v40 h40=>
 bo P_ noHp noHp (bf v34 (.bool true) v40) h40 fun v41 h41=>
 g_ v41 false (fun K1=>K1 (r 2) h41) h41 fun v42 h42=>
 g_ v41 false (fun K1=>K1 (r 7) h42) h42 fun v43 h43=>
 g_ v41 false (p_ (Instr.indexAt 114 v42 v43) h43) h43 fun v44 h44=>
 g_ v41 false (p_ (Instr.fieldAt 186 v44 1) h44) h44 fun v45 h45=>
 g_ v41 false (w_ G h45 (Instr.loadAt 3 v45) h45) h45 fun v46 h46=>
 g_ v41 false (fun K1=>K1 (r 2) h46) h46 fun v47 h47=>
 g_ v41 false (fun K1=>K1 (r 7) h47) h47 fun v48 h48=>
 g_ v41 false (p_ (Instr.indexAt 114 v47 v48) h48) h48 fun v49 h49=>
 g_ v41 false (p_ (Instr.fieldAt 186 v49 2) h49) h49 fun v50 h50=>
 g_ v41 false (w_ G h50 (Instr.loadAt 3 v50) h50) h50 fun v51 h51=>
 g_ v41 false (p_ (binOp .geq 3 v46 v51) h51) h51 fun v52 h52=>
 bo P_ noHp noHp (bf v41 (.bool true) v52) h52 fun v53 h53=>
 g_ v53 false (fun K1=>K1 (r 2) h53) h53 fun v54 h54=>
 g_ v53 false (fun K1=>K1 (r 7) h54) h54 fun v55 h55=>
 g_ v53 false (p_ (Instr.indexAt 114 v54 v55) h55) h55 fun v56 h56=>
 g_ v53 false (p_ (Instr.fieldAt 186 v56 2) h56) h56 fun v57 h57=>
 g_ v53 false (w_ G h57 (Instr.loadAt 3 v57) h57) h57 fun v58 h58=>
 g_ v53 false (p_ (binOp .gtr 3 v58 (.int .i64 4611686018427387904)) h58) h58 fun v59 h59=>
 bo P_ noHp noHp (bf v53 (.bool true) v59) h59 fun v60 h60=>
 (fun q=>cond v60
 (K .ret (upd q 6 (.int .i64 1)) h60)
 (xa G K q h60))
 (u7 (u10 (u10 (u10 r 18 (r 0) 19 (r 2) 20 (r 7) 21 v30 22 v31 23 v32 24 v33 25 v34 26 v34 27 v35) 28 v36 29 v37 30 v38 31 v39 32 v40 33 v41 34 v41 35 v42 36 v43 37 v44) 38 v45 39 v46 40 v47 41 v48 42 v49 43 v50 44 v51 45 v52 46 v53 47 v53) 48 v54 49 v55 50 v56 51 v57 52 v58 53 v59 54 v60)
def U0 (r:Rg) (h:Hp) (K:EK):Prop:=
 o_ G (Builtin.len_ #[114] 3 #[(r 2)]) h fun v27 h27=>
 o_ G (binOp .lss 3 (r 7) v27) h27 fun v28 h28=>
 cond v28
 (Dz G K (u4 r 12 (r 7) 13 (r 2) 14 v27 15 v28) h28)
 (K (.exit 0) (u4 r 12 (r 7) 13 (r 2) 14 v27 15 v28) h28)
def an9:Prop:=
 bz (U0 G) (upd r 7 (.int .i64 0)) h (bh 0 (bq (an8 G K) K))
def S92:Prop:=
 o_ G (binOp .lss 3 (r 1) (.int .i64 0)) h fun v0 h0=>
 cond v0
 (K .ret (u4 r 6 (.int .i64 0) 10 (r 1) 11 v0 6 (.int .i64 1)) h0)
 (an9 G K (u3 r 6 (.int .i64 0) 10 (r 1) 11 v0) h0)
theorem enter92:Ent 103 92 [.tmp 6] S92:=ent_ (m:=md92) (c:=(Tryz.f92.body.getD .skip)) (fun _ _ _ _=>by kernel_rfl) Tryz.func92 rfl rfl rfl

def md111:Nat→Hint
 |_=>mh false [] [] [] false
def Er (G:Hp) (K:EK) (r:Rg) (h:Hp):Prop:=
 K .ret (u2 r 61 (r 7) 6 (r 7)) h
def We:Prop:=
 o_ G (binOp .lss 3 (r 8) (.int .i64 4611686018427387904)) h fun v2 h2=>
 cond v2
 (o_ G (Instr.build 112 #[(0,(r 8)),(1,(.int .i64 4611686018427387904))]) h2 fun v3 h3=>
 o_ G (Instr.buildSlice 108 1 #[(0,v3)]) h3 fun v4 h4=>
 o_ G (Builtin.append_ #[108,108] 108 #[(r 7),v4]) h4 fun v5 h5=>
 Er G K (u8 r 54 (r 8) 55 v2 56 (r 7) 57 (r 8) 58 v3 59 v4 60 v5 7 v5) h5)
 (Er G K (u2 r 54 (r 8) 55 v2) h2)
def ur:Prop:=
 o_ G (binOp .add 3 (r 9) (.int .i64 1)) h fun v13 h13=>
 K .normal (u3 r 25 (r 9) 26 v13 9 v13) h13
def uq:Prop:=
 o_ G (Instr.fieldAt 203 (r 10) 1) h fun v29 h29=>
 o_ G (Instr.loadAt 3 v29) h29 fun v30 h30=>
 ur G K (u3 r 52 v29 53 v30 8 v30) h30
def H4:Prop:=
 o_ G (Instr.fieldAt 203 (r 10) 0) h fun v26 h26=>
 o_ G (Instr.loadAt 3 v26) h26 fun v27 h27=>
 o_ G (binOp .gtr 3 v27 (r 8)) h27 fun v28 h28=>
 cond v28
 (o_ G (Instr.fieldAt 203 (r 10) 0) h28 fun v31 h31=>
 o_ G (Instr.loadAt 3 v31) h31 fun v32 h32=>
 o_ G (Instr.build 112 #[(0,(r 8)),(1,v32)]) h32 fun v33 h33=>
 o_ G (Instr.buildSlice 108 1 #[(0,v33)]) h33 fun v34 h34=>
 o_ G (Builtin.append_ #[108,108] 108 #[(r 7),v34]) h34 fun v35 h35=>
 uq G K (u2 (u10 r 41 v26 42 v27 43 (r 8) 44 v28 45 (r 7) 46 (r 8) 47 v31 48 v32 49 v33 50 v34) 51 v35 7 v35) h35)
 (uq G K (u4 r 41 v26 42 v27 43 (r 8) 44 v28) h28)
def H5:Prop:=
 opH P_ G (xNil (r 0)) h fun v14 h14=>
 o_ G (Instr.fieldAt 188 v14 0) h14 fun v15 h15=>
 o_ G (Instr.loadAt 98 v15) h15 fun v16 h16=>
 o_ G (Instr.indexAt 98 v16 (r 1)) h16 fun v17 h17=>
 o_ G (Instr.loadAt 99 v17) h17 fun v18 h18=>
 o_ G (Instr.indexAt 99 v18 (r 9)) h18 fun v19 h19=>
 o_ G (Instr.loadAt 203 v19) h19 fun v20 h20=>
 o_ G (Instr.alloc 203 true (.tuple #[])) h20 fun v21 h21=>
 opH P_ G (su (Instr.storeAt 203 v21 v20)) h21 fun v22 h22=>
 o_ G (Instr.fieldAt 203 v21 2) h22 fun v23 h23=>
 o_ G (Instr.loadAt 3 v23) h23 fun v24 h24=>
 opH P_ G (xEq .eql 3 (.tmp 0) (.tmp 0) v24 (r 2)) h24 fun v25 h25=>
 (fun q=>cond v25
 (ur G K q h25)
 (H4 G K q h25))
 (u5 (u10 r 27 (r 0) 28 v14 29 v15 30 v16 31 (r 1) 32 v17 33 v18 34 (r 9) 35 v19 36 v20) 10 v21 37 v23 38 v24 39 (r 2) 40 v25)
def Wd (r:Rg) (h:Hp) (K:EK):Prop:=
 opH P_ G (xNil (r 0)) h fun v6 h6=>
 o_ G (Instr.fieldAt 188 v6 0) h6 fun v7 h7=>
 o_ G (Instr.loadAt 98 v7) h7 fun v8 h8=>
 o_ G (Instr.indexAt 98 v8 (r 1)) h8 fun v9 h9=>
 o_ G (Instr.loadAt 99 v9) h9 fun v10 h10=>
 o_ G (Builtin.len_ #[99] 3 #[v10]) h10 fun v11 h11=>
 o_ G (binOp .lss 3 (r 9) v11) h11 fun v12 h12=>
 (fun q=>cond v12
 (H5 G K q h12)
 (K (.exit 0) q h12))
 (u10 r 15 (r 9) 16 (r 0) 17 v6 18 v7 19 v8 20 (r 1) 21 v9 22 v10 23 v11 24 v12)
def Wf:Prop:=
 bz (Wd G) (u3 r 7 (.slice none 0 0) 8 (.int .i64 0) 9 (.int .i64 0)) h (bh 0 (bq (We G K) K))
def S111:Prop:=
 c_ G 137 #[(r 0),(r 1)] h fun v0 h0=>
 o_ G (Op.unary .not v0) h0 fun v1 h1=>
 (fun q=>cond v1
 (K .ret (upd q 6 (.slice none 0 0)) h1)
 (Wf G K q h1))
 (u5 r 6 (.slice none 0 0) 11 (r 0) 12 (r 1) 13 v0 14 v1)
theorem ak3:Ent 62 111 [.tmp 6] S111:=ent_ (m:=md111) (c:=(Tryz.f111.body.getD .skip)) (fun _ _ _ _=>by kernel_rfl) Tryz.func111 rfl rfl rfl

def md137:Nat→Hint
 |_=>mh false [] [] [] false
def S137:Prop:=
 o_ G (binOp .geq 3 (r 1) (.int .i64 0)) h fun v0 h0=>
 g_ v0 true (fun K1=>K1 (r 1) h0) h0 fun v1 h1=>
 g_ v0 true (fun K1=>K1 (r 0) h1) h1 fun v2 h2=>
 g_ v0 true (opH P_ G (xNil v2) h2) h2 fun v3 h3=>
 g_ v0 true (o_ G (Instr.fieldAt 188 v3 0) h3) h3 fun v4 h4=>
 g_ v0 true (o_ G (Instr.loadAt 98 v4) h4) h4 fun v5 h5=>
 g_ v0 true (o_ G (Builtin.len_ #[98] 3 #[v5]) h5) h5 fun v6 h6=>
 g_ v0 true (o_ G (binOp .lss 3 v1 v6) h6) h6 fun v7 h7=>
 opH P_ G (bf v0 v7 (.bool false)) h7 fun v8 h8=>
 K .ret (u3 (u10 r 4 (.bool false) 5 (r 1) 6 v0 7 v0 8 v1 9 v2 10 v3 11 v4 12 v5 13 v6) 14 v7 15 v8 4 v8) h8
theorem ah9:Ent 16 137 [.tmp 4] S137:=ent_ (m:=md137) (c:=(Tryz.f137.body.getD .skip)) (fun _ _ _ _=>by kernel_rfl) Tryz.func137 rfl rfl rfl

def md138:Nat→Hint
 |_=>mh false [] [] [] false
def Vq (G:Hp) (K:EK) (r:Rg) (h:Hp):Prop:=
 K .ret (upd r 10 (.bool false)) h
def Af:Prop:=
 o_ G (binOp .add 3 (r 12) (.int .i64 1)) h fun v7 h7=>
 K .normal (u3 r 24 (r 12) 25 v7 12 v7) h7
def Hb:Prop:=
 o_ G (Instr.indexAt 99 (r 11) (r 12)) h fun v8 h8=>
 o_ G (Instr.fieldAt 203 v8 2) h8 fun v9 h9=>
 o_ G (Instr.loadAt 3 v9) h9 fun v10 h10=>
 opH P_ G (xEq .neq 3 (.tmp 0) (.tmp 0) v10 (r 1)) h10 fun v11 h11=>
 g_ v11 true (fun K1=>K1 (r 11) h11) h11 fun v12 h12=>
 g_ v11 true (fun K1=>K1 (r 12) h12) h12 fun v13 h13=>
 g_ v11 true (o_ G (Instr.indexAt 99 v12 v13) h13) h13 fun v14 h14=>
 g_ v11 true (o_ G (Instr.fieldAt 203 v14 0) h14) h14 fun v15 h15=>
 g_ v11 true (o_ G (Instr.loadAt 3 v15) h15) h15 fun v16 h16=>
 g_ v11 true (fun K1=>K1 (r 4) h16) h16 fun v17 h17=>
 g_ v11 true (o_ G (binOp .lss 3 v16 v17) h17) h17 fun v18 h18=>
 opH P_ G (bf v11 v18 (.bool false)) h18 fun v19 h19=>
 g_ v19 true (fun K1=>K1 (r 3) h19) h19 fun v20 h20=>
 g_ v19 true (fun K1=>K1 (r 11) h20) h20 fun v21 h21=>
 g_ v19 true (fun K1=>K1 (r 12) h21) h21 fun v22 h22=>
 g_ v19 true (o_ G (Instr.indexAt 99 v21 v22) h22) h22 fun v23 h23=>
 g_ v19 true (o_ G (Instr.fieldAt 203 v23 1) h23) h23 fun v24 h24=>
 g_ v19 true (o_ G (Instr.loadAt 3 v24) h24) h24 fun v25 h25=>
 g_ v19 true (o_ G (binOp .lss 3 v20 v25) h25) h25 fun v26 h26=>
 opH P_ G (bf v19 v26 (.bool false)) h26 fun v27 h27=>
 (fun q=>cond v27
 (K .ret (upd q 10 (.bool true)) h27)
 (Af G K q h27))
 (u5 (u10 (u10 r 26 (r 11) 27 (r 12) 28 v8 29 v9 30 v10 31 (r 1) 32 v11 33 v11 34 v12 35 v13) 36 v14 37 v15 38 v16 39 v17 40 v18 41 v19 42 v19 43 v20 44 v21 45 v22) 46 v23 47 v24 48 v25 49 v26 50 v27)
def Vp (r:Rg) (h:Hp) (K:EK):Prop:=
 o_ G (Builtin.len_ #[99] 3 #[(r 11)]) h fun v5 h5=>
 o_ G (binOp .lss 3 (r 12) v5) h5 fun v6 h6=>
 cond v6
 (Hb G K (u4 r 20 (r 12) 21 (r 11) 22 v5 23 v6) h6)
 (K (.exit 0) (u4 r 20 (r 12) 21 (r 11) 22 v5 23 v6) h6)
def S138:Prop:=
 opH P_ G (xNil (r 0)) h fun v0 h0=>
 o_ G (Instr.fieldAt 188 v0 0) h0 fun v1 h1=>
 o_ G (Instr.loadAt 98 v1) h1 fun v2 h2=>
 o_ G (Instr.indexAt 98 v2 (r 2)) h2 fun v3 h3=>
 o_ G (Instr.loadAt 99 v3) h3 fun v4 h4=>
 bz (Vp G) (u10 r 10 (.bool false) 13 (r 0) 14 v0 15 v1 16 v2 17 (r 2) 18 v3 19 v4 11 v4 12 (.int .i64 0)) h4 (bh 0 (bq (Vq G K) K))
theorem ah6:Ent 51 138 [.tmp 10] S138:=ent_ (m:=md138) (c:=(Tryz.f138.body.getD .skip)) (fun _ _ _ _=>by kernel_rfl) Tryz.func138 rfl rfl rfl

def md139:Nat→Hint
 |11=>mh false [0,0,2,7,15,31,31,127,255,511,31,1055,4095,8191] [n_,n_,m_,n_,n_,n_,n_,n_,n_,m_,n_,m_,n_,n_] (fs 14) false
 |_=>mh false [] [] [] false
def Nm:Prop:=
 o_ G (Instr.sliceAt 99 (r 11) none (some (r 14)) none) h fun v3 h3=>
 o_ G (Builtin.append_ #[99,99] 99 #[(.slice none 0 0),v3]) h3 fun v4 h4=>
 o_ G (Instr.loadAt 203 (r 10)) h4 fun v5 h5=>
 o_ G (Instr.buildSlice 99 1 #[(0,v5)]) h5 fun v6 h6=>
 o_ G (Builtin.append_ #[99,99] 99 #[v4,v6]) h6 fun v7 h7=>
 o_ G (Instr.sliceAt 99 (r 11) (some (r 14)) none none) h7 fun v8 h8=>
 o_ G (Builtin.append_ #[99,99] 99 #[v7,v8]) h8 fun v9 h9=>
 opH P_ G (xNil (r 0)) h9 fun v10 h10=>
 o_ G (Instr.fieldAt 188 v10 0) h10 fun v11 h11=>
 o_ G (Instr.loadAt 98 v11) h11 fun v12 h12=>
 o_ G (Instr.indexAt 98 v12 (r 2)) h12 fun v13 h13=>
 opH P_ G (su (Instr.storeAt 99 v13 v9)) h13 fun v14 h14=>
 K .normal (u5 (u10 (u10 r 15 (.slice none 0 0) 92 (.slice none 0 0) 93 (r 11) 94 (r 14) 95 v3 96 v4 15 v4 97 v4 98 v5 99 v6) 100 v7 15 v7 101 v7 102 (r 11) 103 (r 14) 104 v8 105 v9 15 v9 106 (r 0) 107 v10) 108 v11 109 v12 110 (r 2) 111 v9 112 v13) h14
def Ha:Prop:=
 o_ G (binOp .add 3 (r 14) (.int .i64 1)) h fun v26 h26=>
 K .normal (u3 r 90 (r 14) 91 v26 14 v26) h26
def Vn (r:Rg) (h:Hp) (K:EK):Prop:=
 w_ G h (Builtin.len_ #[99] 3 #[(r 11)]) h fun v15 h15=>
 p_ (binOp .lss 3 (r 14) v15) h15 fun v16 h16=>
 g_ v16 true (fun K1=>K1 (r 11) h16) h16 fun v17 h17=>
 g_ v16 true (fun K1=>K1 (r 14) h17) h17 fun v18 h18=>
 g_ v16 true (p_ (Instr.indexAt 99 v17 v18) h18) h18 fun v19 h19=>
 g_ v16 true (p_ (Instr.fieldAt 203 v19 0) h19) h19 fun v20 h20=>
 g_ v16 true (w_ G h (Instr.loadAt 3 v20) h20) h20 fun v21 h21=>
 g_ v16 true (p_ (Instr.fieldAt 203 (r 10) 0) h21) h21 fun v22 h22=>
 g_ v16 true (w_ G h (Instr.loadAt 3 v22) h22) h22 fun v23 h23=>
 g_ v16 true (p_ (binOp .lss 3 v21 v23) h23) h23 fun v24 h24=>
 bo P_ noHp noHp (bf v16 v24 (.bool false)) h24 fun v25 h25=>
 (fun q=>cond v25
 (Ha G K q h25)
 (K (.exit 2) q h25))
 (u4 (u10 r 76 (r 14) 77 (r 11) 78 v15 79 v16 80 v16 81 v17 82 v18 83 v19 84 v20 85 v21) 86 v22 87 v23 88 v24 89 v25)
def Vo:Prop:=
 bz (Vn G) (upd r 14 (.int .i64 0)) h (bh 2 (bq (Nm G K) K))
def um:Prop:=
 o_ G (binOp .add 3 (r 12) (.int .i64 1)) h fun v34 h34=>
 K .normal (u3 r 30 (r 12) 31 v34 12 v34) h34
def Ae:Prop:=
 o_ G (Instr.loadAt 203 (r 13)) h fun v59 h59=>
 o_ G (Instr.buildSlice 99 1 #[(0,v59)]) h59 fun v60 h60=>
 o_ G (Builtin.append_ #[99,99] 99 #[(r 11),v60]) h60 fun v61 h61=>
 um G K (u5 r 72 (r 11) 73 v59 74 v60 75 v61 11 v61) h61
def G9:Prop:=
 opH P_ G (xNil (r 0)) h fun v35 h35=>
 o_ G (Instr.fieldAt 188 v35 0) h35 fun v36 h36=>
 o_ G (Instr.loadAt 98 v36) h36 fun v37 h37=>
 o_ G (Instr.indexAt 98 v37 (r 2)) h37 fun v38 h38=>
 o_ G (Instr.loadAt 99 v38) h38 fun v39 h39=>
 o_ G (Instr.indexAt 99 v39 (r 12)) h39 fun v40 h40=>
 o_ G (Instr.loadAt 203 v40) h40 fun v41 h41=>
 o_ G (Instr.alloc 203 true (.tuple #[])) h41 fun v42 h42=>
 opH P_ G (su (Instr.storeAt 203 v42 v41)) h42 fun v43 h43=>
 o_ G (Instr.fieldAt 203 v42 2) h43 fun v44 h44=>
 o_ G (Instr.loadAt 3 v44) h44 fun v45 h45=>
 opH P_ G (xEq .eql 3 (.tmp 0) (.tmp 0) v45 (r 1)) h45 fun v46 h46=>
 g_ v46 true (o_ G (Instr.fieldAt 203 v42 0) h46) h46 fun v47 h47=>
 g_ v46 true (o_ G (Instr.loadAt 3 v47) h47) h47 fun v48 h48=>
 g_ v46 true (o_ G (Instr.fieldAt 203 (r 10) 1) h48) h48 fun v49 h49=>
 g_ v46 true (o_ G (Instr.loadAt 3 v49) h49) h49 fun v50 h50=>
 g_ v46 true (o_ G (binOp .leq 3 v48 v50) h50) h50 fun v51 h51=>
 opH P_ G (bf v46 v51 (.bool false)) h51 fun v52 h52=>
 g_ v52 true (o_ G (Instr.fieldAt 203 (r 10) 0) h52) h52 fun v53 h53=>
 g_ v52 true (o_ G (Instr.loadAt 3 v53) h53) h53 fun v54 h54=>
 g_ v52 true (o_ G (Instr.fieldAt 203 v42 1) h54) h54 fun v55 h55=>
 g_ v52 true (o_ G (Instr.loadAt 3 v55) h55) h55 fun v56 h56=>
 g_ v52 true (o_ G (binOp .leq 3 v54 v56) h56) h56 fun v57 h57=>
 opH P_ G (bf v52 v57 (.bool false)) h57 fun v58 h58=>
 cond v58
 (o_ G (Instr.fieldAt 203 (r 10) 0) h58 fun v62 h62=>
 o_ G (Instr.loadAt 3 v62) h62 fun v63 h63=>
 o_ G (Instr.fieldAt 203 v42 0) h63 fun v64 h64=>
 o_ G (Instr.loadAt 3 v64) h64 fun v65 h65=>
 o_ G (Builtin.min_ #[3,3] 3 #[v63,v65]) h65 fun v66 h66=>
 o_ G (Instr.fieldAt 203 (r 10) 0) h66 fun v67 h67=>
 opH P_ G (su (Instr.storeAt 3 v67 v66)) h67 fun v68 h68=>
 o_ G (Instr.fieldAt 203 (r 10) 1) h68 fun v69 h69=>
 o_ G (Instr.loadAt 3 v69) h69 fun v70 h70=>
 o_ G (Instr.fieldAt 203 v42 1) h70 fun v71 h71=>
 o_ G (Instr.loadAt 3 v71) h71 fun v72 h72=>
 o_ G (Builtin.max_ #[3,3] 3 #[v70,v72]) h72 fun v73 h73=>
 o_ G (Instr.fieldAt 203 (r 10) 1) h73 fun v74 h74=>
 opH P_ G (su (Instr.storeAt 3 v74 v73)) h74 fun v75 h75=>
 um G K (upd (u10 (u10 (u10 (u10 r 32 (r 0) 33 v35 34 v36 35 v37 36 (r 2) 37 v38 38 v39 39 (r 12) 40 v40 41 v41) 13 v42 42 v44 43 v45 44 (r 1) 45 v46 46 v46 47 v47 48 v48 49 v49 50 v50) 51 v51 52 v52 53 v52 54 v53 55 v54 56 v55 57 v56 58 v57 59 v58 60 v62) 61 v63 62 v64 63 v65 64 v66 65 v67 66 v69 67 v70 68 v71 69 v72 70 v73) 71 v74) h75)
 (Ae G K (u9 (u10 (u10 r 32 (r 0) 33 v35 34 v36 35 v37 36 (r 2) 37 v38 38 v39 39 (r 12) 40 v40 41 v41) 13 v42 42 v44 43 v45 44 (r 1) 45 v46 46 v46 47 v47 48 v48 49 v49 50 v50) 51 v51 52 v52 53 v52 54 v53 55 v54 56 v55 57 v56 58 v57 59 v58) h58)
def Vm (r:Rg) (h:Hp) (K:EK):Prop:=
 opH P_ G (xNil (r 0)) h fun v27 h27=>
 o_ G (Instr.fieldAt 188 v27 0) h27 fun v28 h28=>
 o_ G (Instr.loadAt 98 v28) h28 fun v29 h29=>
 o_ G (Instr.indexAt 98 v29 (r 2)) h29 fun v30 h30=>
 o_ G (Instr.loadAt 99 v30) h30 fun v31 h31=>
 o_ G (Builtin.len_ #[99] 3 #[v31]) h31 fun v32 h32=>
 o_ G (binOp .lss 3 (r 12) v32) h32 fun v33 h33=>
 (fun q=>cond v33
 (G9 G K q h33)
 (K (.exit 0) q h33))
 (u10 r 20 (r 12) 21 (r 0) 22 v27 23 v28 24 v29 25 (r 2) 26 v30 27 v31 28 v32 29 v33)
def S139:Prop:=
 o_ G (Instr.build 203 #[(0,(r 3)),(1,(r 4)),(2,(r 1))]) h fun v0 h0=>
 o_ G (Instr.alloc 203 true (.tuple #[])) h0 fun v1 h1=>
 opH P_ G (su (Instr.storeAt 203 v1 v0)) h1 fun v2 h2=>
 bz (Vm G) (u7 r 16 (r 3) 17 (r 4) 18 (r 1) 19 v0 10 v1 11 (.slice none 0 0) 12 (.int .i64 0)) h2 (bh 0 (bq (Vo G K) K))
theorem ah5:Ent 113 139 [] S139:=ent_ (m:=md139) (c:=(Tryz.f139.body.getD .skip)) (fun _ _ _ _=>by kernel_rfl) Tryz.func139 rfl rfl rfl
end
end Go.Proofs.YtfflipnhffknnaaGreatDoor
end

section
namespace Go.Proofs.YtfflipnhffknnaaGreatDoor.Rv
open Go Go.HL Go.Proofs.Resv
def dw:=jq bC (jq (jq (jq (jq @Bool.true_and @and_true) (jq @bd188_0 @rn)) (jq (jq @je @cf128) (jq @cf137 (jq @Mn @ug)))) (jq (jq (jq @uf @ue) (jq @ld3 @ld98)) (jq (jq @ld99 @ln98) (jq @ln99 (jq @ix @true_and)))))
theorem Ew {G h:Hp} {tp:Nat} {T:Tb} {c:Int} (ts:TSee G h tp T):aj P_ G 137 #[.pointer (some ⟨tp,0,none⟩),.int .i64 c] h (fun u h'=>u = .bool (inT T.length c)∧h'=h):=by
 obtain ⟨rb,e1,_⟩:=ts
 refine ah9 (by simp) ?_
 unfold S137 inT
 try simp only [dw]
 by_cases h0:0≤c
 · try simp only [dw,decide_eq_true h0,show decide (c≥0)=true from decide_eq_true h0,e1]
 · try simp only [dw,decide_eq_false h0,show decide (c≥0)=false from decide_eq_false h0,dv,Bool.false_and]

theorem W6 {G h:Hp} {n:Nat} (h1:1≤n) (h2:n≤256):aj P_ G 91 #[.int .i64 n] h (fun u h'=>∃a tp,u = .pointer (some ⟨tp,0,none⟩)∧Tab 188 a tp (List.replicate n [])∧HL.Sep [a,h] h'∧Dis G h'):=by
 refine aj.assume fun d=>enter91 (by simp) ?_
 unfold S91
 simp only [dw,decide_eq_false (show ¬(n:Int)<1 by omega),show decide ((n:Int)>256)=false from decide_eq_false (by omega)]
 unfold ao0
 simp (disch:=decide) only [dw]
 rw [ri svC (none,0,0) (by decide) un98 eosv (by kernel_rfl) (by omega) (by omega)]
 intro rb hrb grb
 simp only [dw]
 intro tp htp gtp
 have s1:=(Sep.one (h:=h)).new (o := .cells (svC.rows (List.replicate n (none,0,0))).toArray 99 (0,0)) hrb
 have d1:=d.set (o := .cells (svC.rows (List.replicate n (none,0,0))).toArray 99 (0,0)) grb
 have s2:=s1.new (o := .cells #[.slice (some ⟨rb,0,none⟩) n n] 188 (0,0)) htp
 have s3:=(s2.none.pick 2 rfl rfl).pick 2 rfl rfl
 obtain ⟨a,s4,t4⟩:=pa s3
 refine ⟨a,tp,rfl,⟨rb,List.replicate n (none,0,0),noHp,?_,by simp,fun i s L h1 h2=>?_⟩,s4,d1.set gtp⟩
 · rw [List.length_replicate]
   exact t4
 · rw [List.getElem?_replicate]at h1 h2
   split at h1
   · rename_i hi
     rw [if_pos hi]at h2
     cases h1
     cases h2
     exact ⟨rfl,Slc.nil⟩
   · cases h1

theorem Zn {G h:Hp} {tp:Nat} {T:Tb} {L:List Slot} {c r f t:Int} (ts:TSee G h tp T) (h0:0≤c) (hL:T[c.toNat]?=some L) (hlen:L.length≤100000):
   aj P_ G 138 #[.pointer (some ⟨tp,0,none⟩),.int .i64 r,.int .i64 c,.int .i64 f,.int .i64 t] h (fun u h'=>u = .bool (!ku L r f t)∧h'=h):=by
 have h1:c<T.length:=by have:=(List.getElem?_eq_some_iff.1 hL).1;omega
 obtain ⟨rb,e1,e2⟩:=ts
 obtain ⟨a,cap,e3,e4⟩:=e2 _ _ hL
 refine ah6 (by simp) ?_
 unfold S138
 simp only [dw,e1,ix98 h0 h1,Nat.mul_one,e3]
 refine bv (fun m q h3=>∃i:Nat,m=L.length-i∧i≤L.length∧q 1 = .int .i64 r∧q 3 = .int .i64 f∧q 4 = .int .i64 t∧q 11 = .slice a L.length cap∧q 12 = .int .i64 i∧h3=h∧ku (L.take i) r f t=true) ?_
   (m:=L.length) ⟨0,rfl,Nat.zero_le _,by simp (disch:=decide) only [dw],by simp (disch:=decide) only [dw],by simp (disch:=decide) only [dw],by simp (disch:=decide) only [dw],by simp only [dw]<;>rfl,rfl,rfl⟩
 rintro m q h ⟨i,rfl,hi,q1,q3,q4,q19,q21,rfl,hf⟩ X HX
 unfold Vp
 simp only [dw,q19,q21]
 refine ax (fun hlt=>?_) (fun hge=>?_)
 rotate_left
 · obtain rfl:i=L.length:=by omega
   rw [List.take_of_length_le (Nat.le_refl _)]at hf
   try simp (disch:=first|decide|omega) only [dw,Nat.reduceAdd,Nat.reduceMul]
   unfold Vq
   try simp only [dw]
   rw [hf]
   rfl
 obtain ⟨s,hs⟩:∃s,L[i]?=some s:=⟨_,List.getElem?_eq_getElem (by omega)⟩
 obtain ⟨b,o,rfl,z0,z1,z2⟩:=Sees.slot e4 hs
 unfold Hb
 simp (disch:=decide) only [dw,q19,q21,ix99 (Int.natCast_nonneg i) hlt,z0,z1,z2,q1]
 have k4:∀(K0:Exit→Rg→Hp→Prop) (q':Rg),q' 1 = .int .i64 r→q' 3 = .int .i64 f→q' 4 = .int .i64 t→q' 11=q 11→q' 12=q 12→(s.r==r || !(decide (s.f<t)&&decide (f<s.t)))=true→Af G (bq X K0) q' h:=by
   intro K0 q' p1 p3 p4 p19 p21 hc
   unfold Af
   simp (disch:=first|decide|omega) only [dw,p21,q21]
   exact HX (L.length-(i+1)) _ _ (by omega) ⟨i+1,rfl,by omega,by simp (disch:=decide) only [dw,p1],by simp (disch:=decide) only [dw,p3],by simp (disch:=decide) only [dw,p4],by simp (disch:=decide) only [dw,p19,q19],by simp only [dw]<;>rfl,rfl,by rw [Jy hs,hf,hc];rfl⟩
 cases hb:(s.r != r)with
 |false=>
   try simp only [dw,dv,hb]
   exact k4 _ _ (by simp (disch:=decide) only [dw,q1]) (by simp (disch:=decide) only [dw,q3]) (by simp (disch:=decide) only [dw,q4]) (by simp (disch:=decide) only [dw]) (by simp (disch:=decide) only [dw]) (by simp at hb;simp [hb])
 |true=>
   try simp only [dw,q4,q19,q21,ix99 (Int.natCast_nonneg i) hlt,z0,z1,z2]
   by_cases hb2:s.f<t
   · try simp only [dw,decide_eq_true hb2,q3,q19,q21,ix99 (Int.natCast_nonneg i) hlt,z0,z1,z2]
     refine ax (fun hb3=>?_) (fun hb3=>?_)
     · try simp (disch:=first|decide|omega) only [dw,Nat.reduceAdd,Nat.reduceMul]
       have:(s.r==r || !(decide (s.f<t)&&decide (f<s.t)))=false:=by simp at hb;simp [hb,hb2,hb3]
       rw [Pk hs this]
       rfl
     · exact k4 _ _ (by simp (disch:=decide) only [dw,q1]) (by simp (disch:=decide) only [dw,q3]) (by simp (disch:=decide) only [dw,q4]) (by simp (disch:=decide) only [dw]) (by simp (disch:=decide) only [dw]) (by simp [hb3])
   · try simp only [dw,decide_eq_false hb2,dv]
     exact k4 _ _ (by simp (disch:=decide) only [dw,q1]) (by simp (disch:=decide) only [dw,q3]) (by simp (disch:=decide) only [dw,q4]) (by simp (disch:=decide) only [dw]) (by simp (disch:=decide) only [dw]) (by simp [hb2])
def dr:=jq bC (jq (jq (jq (jq @Kc @Qg) (jq @qg (jq @Qf @Mn))) (jq (jq @ug (jq @Ps @uf)) (jq @ue (jq @ix99p @Jo)))) (jq (jq (jq @ld3 @ld3p) (jq @ld98 (jq @ld99 @ln99))) (jq (jq @ln99p (jq @ix @js)) (jq @ic (jq @Ce @true_and)))))
theorem Tj {L:List Slot} {v:Int} {k:Nat} (h:∀s∈L.take k,s.f<v) (hk:k≤L.length) (h2:∀s,L[k]?=some s→¬s.f<v):rank L v=k:=by
 unfold rank
 have e:=List.take_append_drop k L
 conv=>lhs;rw [← e]
 rw [List.takeWhile_append_of_pos (fun s hs=>by simpa using h s hs),List.length_append,List.length_take,Nat.min_eq_left hk]
 cases hd:L.drop k with
 |nil=>simp
 |cons s M=>
   have hs:L[k]?=some s:=by
     have:=congrArg (fun l=>l[0]?) hd
     simpa [List.getElem?_drop]using this
   rw [List.takeWhile_cons,if_neg (by simpa using h2 s hs)]
   simp

theorem Y0 {G a h:Hp} {v:Value} {L:List Slot} (o:Slc bj 203 a v L) (l:a.le h) {k:Nat} (hk:k≤L.length) {K:VK} (H:∀v',Sees bj G h v' (L.drop k)→K v' h):wpH P_ G (Instr.sliceAt 99 v (some (.int .i64 k)) none none) h K:=by
 by_cases hL:L=[]
 · subst hL
   obtain rfl:k=0:=by simpa using hk
   obtain ⟨ob,o'⟩:=id o
   cases ob with
   |none=>
     obtain ⟨rfl,_⟩:=o'
     rw [show ((0:Nat):Int)=0 from rfl,De un99 ov]
     exact H _ ⟨none,0,rfl,Nat.le_refl _,.inl rfl⟩
   |some b=>
     obtain ⟨cap,t,rfl,hb,hl⟩:=o'
     rw [show ([]:List Slot).length=0 from rfl,ls un99 ov (Int.natCast_nonneg _) (Int.natCast_nonneg _) (Nat.zero_le _)]
     exact H _ ⟨_,_,rfl,Nat.zero_le _,.inl rfl⟩
 · exact W1 (c:=bj) (j:=(k:Int)) un99 ov (o.sees (by decide) l) hL (Int.natCast_nonneg _) (by omega) H

theorem W4 {G h a:Hp} {R:List Hp} {tp:Nat} {T:List (List Slot)} {L:List Slot} {c r f t:Int} (tb:Tab 188 a tp T) (sp:HL.Sep (a::R) h) (h0:0≤c) (hL:T[c.toNat]?=some L) (g:Resv.Good L) (hlen:L.length≤50000) (hf:0≤f) (hft:f<t) (ht:t≤FV):
   aj P_ G 139 #[.pointer (some ⟨tp,0,none⟩),.int .i64 r,.int .i64 c,.int .i64 f,.int .i64 t] h (fun u h'=>u = .tuple #[]∧∃a',Tab 188 a' tp (T.set c.toNat (Resv.putL L r f t))∧HL.Sep (a'::R) h'∧Dis G h'):=by
 have h1:c<T.length:=by have:=(List.getElem?_eq_some_iff.1 hL).1;omega
 refine aj.assume fun d=>ah5 (by simp) ?_
 have da:Dis G a:=fun b o e=>d _ _ (sp.hd _ _ e)
 obtain ⟨rb,e1,e2⟩:=tb.see (G:=G) (Hp.le.refl a)
 obtain ⟨sa,cap,e3,e4⟩:=e2 _ _ hL
 unfold S139
 simp (disch:=first|decide|exact au|exact am|omega|rfl) only [dr]
 intro xb hxb gxb
 generalize eh:Hp.set h xb _=hb
 obtain ⟨lb,db,bb⟩:=boxed eh hxb d gxb
 have sb:HL.Sep (noHp::noHp.set xb (mo ⟨f,t,r⟩)::a::R) hb:=by rw [← eh];exact (sp.new hxb).none
 clear eh
 refine bv (fun m q h3=>∃(i:Nat) (fi ti:Int) (io:Hp) (v:Value) (out:List Slot),m=L.length-i∧i≤L.length∧q 0 = .pointer (some ⟨tp,0,none⟩)∧q 1 = .int .i64 r∧q 2 = .int .i64 c∧q 10 = .pointer (some ⟨xb,0,none⟩)∧q 11=v∧q 12 = .int .i64 i∧
     Slc bj 203 io v out∧out.length≤i∧HL.Sep (io::noHp.set xb (mo ⟨fi,ti,r⟩)::a::R) h3∧Dis G h3∧j5 r (L.drop i) fi ti out=j5 r L f t []) ?_
   (m:=L.length) ⟨0,f,t,noHp,_,[],rfl,Nat.zero_le _,by simp (disch:=decide) only [dr],by simp (disch:=decide) only [dr],by simp (disch:=decide) only [dr],by simp (disch:=decide) only [dr],rfl,by simp only [dr]<;>rfl,by simp (disch:=decide) only [dr];exact Slc.nil,Nat.zero_le _,sb,db,rfl⟩
 clear lb db bb sb hb
 rintro m q h3 ⟨i,fi,ti,io,v,out,rfl,hi,q0,q1,q2,q10,q11,q12,o,ho,s3,d3,hm⟩ X HX
 have l3:=s3.in 2 rfl
 have bx3:h3 xb=some (mo ⟨fi,ti,r⟩):=s3.at 1 rfl af
 unfold Vm
 simp only [dr,q0,q2,q12,gh l3 d3 e1,ix98 h0 h1,Nat.mul_one,gh l3 d3 e3]
 refine ax (fun hlt=>?_) (fun hge=>?_)
 · obtain ⟨s,hs⟩:∃s,L[i]?=some s:=⟨_,List.getElem?_eq_getElem (by omega)⟩
   obtain ⟨b,of,rfl,z0,z1,z2⟩:=Sees.slot (e4.up l3 d3) hs
   unfold G9
   simp -implicitDefEqProofs (maxSteps:=2000000) (disch:=first|decide|with_reducible exact Nat.ne_of_beq_eq_false rfl|exact au|exact am|omega|rfl|(simp;done)|fail) only [dr,q0,q2,q12,gh l3 d3 e1,ix98 h0 h1,Nat.mul_one,gh l3 d3 e3,ix99 (Int.natCast_nonneg i) hlt,z0,z1,z2]
   intro y hy gy
   simp only [dr,q1]
   generalize eh:Hp.set h3 y _=h4
   obtain ⟨l4,d4,b4⟩:=boxed eh hy d3 gy
   have s4:HL.Sep (io::noHp.set xb (mo ⟨fi,ti,r⟩)::a::R) h4:=by rw [← eh];exact s3.past hy
   have cy:∀j,aa G h4 ⟨y,j,none⟩=_:=fun j=>ai (ag b4)
   have bx4:h4 xb=some (mo ⟨fi,ti,r⟩):=s4.at 1 rfl af
   have cb:∀j,aa G h4 ⟨xb,j,none⟩=_:=fun j=>ai (ag bx4)
   have k8:∀(K0:Exit→Rg→Hp→Prop) (q':Rg),(∀k,k≤12→q' k=q k)→q' 13 = .pointer (some ⟨y,0,none⟩)→ij r fi ti s=false→Ae G (bq X K0) q' h4:=by
     intro K0 q' hq q'13 htb
     unfold Ae
     simp only [dr,q'13,cy]
     intro z hz gz
     generalize ez:Hp.set h4 z _=h5
     obtain ⟨l5,d5,b5⟩:=boxed ez hz d4 gz
     have s5:HL.Sep (io::noHp.set xb (mo ⟨fi,ti,r⟩)::a::R) h5:=by rw [← ez];exact s4.past hz
     rw [hq 11 (by decide),q11]
     refine dm bj (by decide) un99 eoslot (by decide) (by decide) (M:=[s]) s5 d5 o (Sees.row (c:=bj) (L:=[s]) b5 rfl (Nat.le_refl _)) (by simp;omega) fun v' a' h' o' s' d'=>?_
     unfold um
     simp (disch:=first|decide|omega) only [dr,hq 12 (by decide),q12]
     refine HX (L.length-(i+1)) _ _ (by omega) ⟨i+1,fi,ti,a',v',out++[s],rfl,by omega,by simp (disch:=decide) only [dr,hq 0 (by decide),q0],by simp (disch:=decide) only [dr,hq 1 (by decide),q1],by simp (disch:=decide) only [dr,hq 2 (by decide),q2],by simp (disch:=decide) only [dr,hq 10 (by decide),q10],by simp (disch:=decide) only [dr],by simp only [dr]<;>rfl,o',by simp;omega,s',d',?_⟩
     rw [← hm,tw hs,if_neg (by rw [htb];decide)]
   cases hb:(s.r==r)with
   |false=>
     simp only [dr,hb,dv]
     exact k8 _ _ (fun k hk=>by simp (disch:=omega) only [ao]) (by simp (disch:=decide) only [dr]) (by unfold ij;rw [hb];rfl)
   |true=>
   simp only [dr,cy,q10,cb]
   by_cases hb2:s.f≤ti
   rotate_left
   · simp only [dr,decide_eq_false hb2,dv]
     exact k8 _ _ (fun k hk=>by simp (disch:=omega) only [ao]) (by simp (disch:=decide) only [dr]) (by unfold ij;rw [decide_eq_false hb2];simp)
   simp only [dr,decide_eq_true hb2,q10,cb,cy]
   refine ax (fun hb3=>?_) (fun hb3=>?_)
   rotate_left
   · exact k8 _ _ (fun k hk=>by simp (disch:=omega) only [ao]) (by simp (disch:=decide) only [dr]) (by unfold ij;rw [decide_eq_false hb3];simp)
   simp only [dr,cy,cb,q10,Tt]
   rw [b8 sz3 rfl bx4 (by simp)]
   generalize e5:Hp.set h4 xb _=h5
   have b5:=Qw e5
   have c5:∀j,aa G h5 ⟨xb,j,none⟩=_:=fun j=>ai (ag b5)
   have y5:∀j,aa G h5 ⟨y,j,none⟩=_:=fun j=>ai (ag (by rw [Cg e5 (fun e=>by rw [e]at hy;rw [bx3]at hy;cases hy)];exact b4))
   simp only [dr,c5,y5,q10,Tw]
   rw [b8 sz3 rfl b5 (by simp)]
   unfold um
   simp (disch:=first|decide|omega) only [dr,q12]
   have s6:=((s4.pick 1 rfl rfl).put (o:=mo ⟨min fi s.f,max ti s.t,r⟩) af)
   rw [set_set]at s6
   refine HX (L.length-(i+1)) _ _ (by omega) ⟨i+1,min fi s.f,max ti s.t,io,v,out,rfl,by omega,by simp (disch:=decide) only [dr,q0],by simp (disch:=decide) only [dr,q1],by simp (disch:=decide) only [dr,q2],by simp (disch:=decide) only [dr,q10],by simp (disch:=decide) only [dr,q11],by simp only [dr]<;>rfl,o,by omega,?_,?_,?_⟩
   · rw [← e5,set_set]
     exact s6.pick 1 rfl rfl
   · rw [← e5,set_set]
     exact d4.set (d4 _ _ bx4)
   · rw [← hm,tw hs,if_pos (by unfold ij;rw [hb,decide_eq_true hb2,decide_eq_true hb3];rfl)]
 -- the end
 obtain rfl:i=L.length:=by omega
 rw [List.drop_of_length_le (Nat.le_refl _),j5]at hm
 obtain ⟨f',t',em,m1,m2,m3,m4,m5⟩:=zq (r:=r) (f:=f) (t:=t) (out:=[]) g.apart (fun s hs=>(g.ok s hs).2.1) hft
 rw [← hm]at em
 simp only [Prod.mk.injEq,List.nil_append]at em
 obtain ⟨rfl,rfl,eo⟩:=em
 have ep:Resv.putL L r f t=wh out ⟨fi,ti,r⟩:=by unfold Resv.putL;rw [← hm]
 clear HX m1 m2 m3 m4 m5 hm
 try simp (disch:=first|decide|omega) only [dr,Nat.reduceAdd,Nat.reduceMul]
 unfold Vo
 obtain ⟨oa,ocap,rfl,_⟩:=o.len (by decide)
 have cb:∀j,aa G h3 ⟨xb,j,none⟩=_:=fun j=>ai (ag bx3)
 refine bv (fun m q' h4=>∃k:Nat,m=out.length-k∧k≤out.length∧(∀j,j≤13→q' j=q j)∧q' 14 = .int .i64 k∧h4=h3∧∀s∈out.take k,s.f<fi) ?_
   (m:=out.length) ⟨0,rfl,Nat.zero_le _,(fun j hj=>by simp (disch:=omega) only [ao]),by simp only [dr]<;>rfl,rfl,(fun s hs=>by simp at hs)⟩
 rintro m q' h4 ⟨k,rfl,hk,hq,q14,rfl,hlow⟩ X HX
 unfold Vn
 have fin:∀r1:Rg,(∀j,j≤13→r1 j=q j)→r1 14 = .int .i64 k→rank out fi=k→Nm G (retK P_ G [] fun u h'=>u = .tuple #[]∧∃a',Tab 188 a' tp (T.set c.toNat (Resv.putL L r f t))∧HL.Sep (a'::R) h'∧Dis G h') r1 h4:=by
   intro r1 hr r14 hrk
   unfold Nm
   have so:=o.sees (G:=G) (by decide) (s3.in 0 rfl)
   simp only [dr,r14,hr 11 (by decide),q11]
   refine sees_to (c:=bj) (L:=out) (j:=(k:Int)) un99 ov so (Int.natCast_nonneg _) (by omega) fun v3 t3=>?_
   rw [Int.toNat_natCast]at t3
   refine dm bj (by decide) un99 eoslot (by decide) (by decide) (L:=[]) (M:=out.take k) s3.none d3 Slc.nil t3 (by simp;omega) fun v5 a5 h5 o5 s5 d5=>?_
   have bx5:h5 xb=some (mo ⟨fi,ti,r⟩):=s5.at 2 rfl af
   have c5:∀j,aa G h5 ⟨xb,j,none⟩=_:=fun j=>ai (ag bx5)
   simp only [dr,hr 10 (by decide),q10,c5]
   intro z hz gz
   generalize ez:Hp.set h5 z _=h6
   obtain ⟨l6,d6,b6⟩:=boxed ez hz d5 gz
   have s6:=s5.past (o:=mo ⟨fi,ti,r⟩) hz
   rw [ez]at s6
   rw [List.nil_append]at o5
   refine dm bj (by decide) un99 eoslot (by decide) (by decide) (M:=[⟨fi,ti,r⟩]) s6 d6 o5 (Sees.row (c:=bj) (L:=[⟨fi,ti,r⟩]) b6 rfl (Nat.le_refl _)) (by simp;omega) fun v7 a7 h7 o7 s7 d7=>?_
   refine Y0 o (s7.in 1 rfl) hk fun v8 t8=>?_
   refine dm bj (by decide) un99 eoslot (by decide) (by decide) (M:=out.drop k) s7 d7 o7 t8 (by simp;omega) fun v9 a9 h9 o9 s9 d9=>?_
   rw [show out.take k++[⟨fi,ti,r⟩]++out.drop k=Resv.putL L r f t by rw [ep,Pf,hrk,List.append_assoc];rfl]at o9
   have s10:=((s9.pick 1 rfl rfl).drop.pick 1 rfl rfl).drop
   obtain ⟨rb',l,e1',hrb,hcl,a',t',s11,d11⟩:=I4 (c:=c.toNat) tb s10 d9 o9 (by omega)
   rw [e1]at e1'
   obtain rfl:rb=rb':=by simpa using e1'
   simp only [dr,hr 0 (by decide),q0,hr 2 (by decide),q2,gh (s9.in 3 rfl) d9 e1,ix98 h0 h1,Nat.mul_one]
   obtain ⟨sa6,cap6,rfl,_⟩:=o9.len (by decide)
   rw [b8 sz99 rfl hrb hcl]
   exact ⟨a',t',s11,d11⟩
 simp only [dr,hq 11 (by decide),q11,q14]
 by_cases hlt:(k:Int)<out.length
 · obtain ⟨s,hs⟩:∃s,out[k]?=some s:=⟨_,List.getElem?_eq_getElem (by omega)⟩
   obtain ⟨b,of,rfl,z0,z1,z2⟩:=Sees.slot (o.sees (G:=G) (by decide) (s3.in 0 rfl)) hs
   simp (disch:=first|decide|omega) only [dr,decide_eq_true hlt,ix99 (Int.natCast_nonneg k) hlt,z0,hq 10 (by decide),q10,cb]
   refine ax (fun h5=>?_) (fun h5=>?_)
   · unfold Ha
     simp (disch:=first|decide|omega) only [dr,q14]
     refine HX (out.length-(k+1)) _ _ (by omega) ⟨k+1,rfl,by omega,(fun j hj=>by simp (disch:=omega) only [ao,hq]),by simp only [dr]<;>rfl,rfl,fun s' hs'=>?_⟩
     rw [List.take_add_one,hs]at hs'
     rcases List.mem_append.1 hs' with h6|h6
     · exact hlow s' h6
     · simp at h6
       subst h6
       exact h5
   · try simp (disch:=first|decide|omega) only [dr,Nat.reduceAdd,Nat.reduceMul]
     exact fin _ (fun j hj=>by simp (disch:=omega) only [ao,hq]) (by simp (disch:=decide) only [dr,q14]) (Tj hlow hk fun s' hs'=>by rw [hs]at hs';cases hs';exact h5)
 · simp only [dr,decide_eq_false hlt,dv]
   exact fin _ (fun j hj=>by simp (disch:=omega) only [ao,hq]) (by simp (disch:=decide) only [dr,q14]) (Tj hlow hk fun s' hs'=>by rw [List.getElem?_eq_none (by omega)]at hs';cases hs')
def dl:=jq bC (jq (jq (jq @Ge (jq @Bs @cf137)) (jq @cf138 (jq @cf139 @ab9))) (jq (jq @ab8 (jq @ab7 @ix114p)) (jq @ld3p (jq @ln114 @true_and))))
theorem Oo {G h a w:Hp} {R:List Hp} {tp b:Nat} {T:Tb} {r:Int} {v:Value} {l:List Want} (tb:Tab 188 a tp T) (sp:HL.Sep (a::w::R) h) (sv:Sees I2 G w v l) (g:jj T) (fw:Few T b) (hb:b+l.length≤50000):
   aj P_ G 92 #[.pointer (some ⟨tp,0,none⟩),.int .i64 r,v] h (fun u h'=>u = .int .i64 (jb T r l).1∧∃a',Tab 188 a' tp (jb T r l).2∧HL.Sep (a'::w::R) h'∧Dis G h'):=by
 obtain ⟨sa,cap,rfl⟩:=sv.len
 refine aj.assume fun d=>enter92 (by simp) ?_
 unfold S92
 simp only [dl]
 refine ax (fun hr=>?_) (fun hr=>?_)
 · try simp (disch:=first|decide|omega) only [dl,Nat.reduceAdd,Nat.reduceMul]
   have e:jb T r l=(1,T):=by unfold jb;rw [if_pos hr]
   rw [e]
   exact ⟨rfl,a,tb,sp,d⟩
 unfold an9
 generalize hKK:retK P_ G _ _=KK
 -- are they ticks?
 refine bv (fun m q h3=>∃i:Nat,m=l.length-i∧i≤l.length∧q 0 = .pointer (some ⟨tp,0,none⟩)∧q 1 = .int .i64 r∧q 2 = .slice sa l.length cap∧q 7 = .int .i64 i∧HL.Sep (a::w::R) h3∧Dis G h3∧(l.take i).all (kw T.length)=true) ?_
   (m:=l.length) ⟨0,rfl,Nat.zero_le _,by simp (disch:=decide) only [dl],by simp (disch:=decide) only [dl],by simp (disch:=decide) only [dl],by simp only [dl]<;>rfl,sp,d,rfl⟩
 rintro m q h3 ⟨i,rfl,hi,q0,q1,q2,q7,s3,d3,hv⟩ X HX
 unfold U0
 simp only [dl,q2,q7]
 refine ax (fun hlt=>?_) (fun hge=>?_)
 · obtain ⟨x,hx⟩:∃x,l[i]?=some x:=⟨_,List.getElem?_eq_getElem (by omega)⟩
   obtain ⟨bb,of,rfl,z0,z1,z2⟩:=Sees.want (sv.up (s3.in 1 rfl) d3) hx
   unfold Dz
   simp (disch:=first|decide|omega) only [dl,q0,q2,q7,Jt (Int.natCast_nonneg i) hlt,z0,z1,z2]
   refine (Ew (c:=x.c) (tb.see (s3.in 0 rfl))).mono ?_
   rintro _ h3 ⟨rfl,rfl⟩
   have bad:∀r1:Rg,r1 6 = .int .i64 1→kw T.length x=false→KK .ret r1 h3:=fun r1 h6 hf=>by
     rw [← hKK]
     have e:jb T r l=(1,T):=by unfold jb;rw [if_neg hr,if_neg (by rw [El hx hf];decide)]
     simp only [dl,h6,e]
     exact ⟨a,tb,s3,d3⟩
   have go:∀(K0:Exit→Rg→Hp→Prop) (r1:Rg),(∀k,k≤7→r1 k=q k)→kw T.length x=true→xa G (bq X K0) r1 h3:=fun K0 r1 hk ht=>by
     unfold xa
     simp (disch:=first|decide|omega) only [dl,hk 7 (by decide),q7]
     exact HX (l.length-(i+1)) _ _ (by omega) ⟨i+1,rfl,by omega,by simp (disch:=decide) only [dl,hk 0 (by decide),q0],by simp (disch:=decide) only [dl,hk 1 (by decide),q1],by simp (disch:=decide) only [dl,hk 2 (by decide),q2],by simp only [dl]<;>rfl,s3,d3,by rw [Bv hx,hv,ht];rfl⟩
   cases e1:inT T.length x.c with
   |false=>
     try simp only [dl,dv]
     exact bad _ (by simp only [dl]) (by unfold kw;rw [e1];rfl)
   |true=>
   try simp (disch:=first|decide|omega) only [dl,q2,q7,Jt (Int.natCast_nonneg i) hlt,z0,z1,z2]
   by_cases e2:x.f<0
   · try simp only [dl,decide_eq_true e2,dv]
     exact bad _ (by simp only [dl]) (by unfold kw;rw [decide_eq_false (show ¬0≤x.f by omega)];simp)
   try simp (disch:=first|decide|omega) only [dl,decide_eq_false e2,q2,q7,Jt (Int.natCast_nonneg i) hlt,z0,z1,z2]
   by_cases e3:x.f≥x.t
   · try simp only [dl,decide_eq_true e3,dv]
     exact bad _ (by simp only [dl]) (by unfold kw;rw [decide_eq_false (show ¬x.f<x.t by omega)];simp)
   try simp (disch:=first|decide|omega) only [dl,decide_eq_false e3,q2,q7,Jt (Int.natCast_nonneg i) hlt,z0,z1,z2]
   refine ax (fun e4=>?_) (fun e4=>?_)
   · exact bad _ (by simp only [dl]) (by unfold kw;rw [decide_eq_false (show ¬x.t≤FV by simp only [FV];omega)];simp)
   · exact go _ _ (fun k hk=>by simp (disch:=omega) only [ao]) (o0.2 ⟨ub.1 e1,by omega,by omega,by simp only [FV];omega⟩)
 -- are they free?
 obtain rfl:i=l.length:=by omega
 rw [List.take_of_length_le (Nat.le_refl _)]at hv
 clear HX
 try simp (disch:=first|decide|omega) only [dl,Nat.reduceAdd,Nat.reduceMul]
 unfold an8
 refine bv (fun m q' h3=>∃i:Nat,m=l.length-i∧i≤l.length∧q' 0 = .pointer (some ⟨tp,0,none⟩)∧q' 1 = .int .i64 r∧q' 2 = .slice sa l.length cap∧q' 8 = .int .i64 i∧HL.Sep (a::w::R) h3∧Dis G h3∧(l.take i).all (qc T r)=true) ?_
   (m:=l.length) ⟨0,rfl,Nat.zero_le _,by simp (disch:=decide) only [dl,q0],by simp (disch:=decide) only [dl,q1],by simp (disch:=decide) only [dl,q2],by simp only [dl]<;>rfl,s3,d3,rfl⟩
 clear q0 q1 q2 q7 s3 d3
 clear q h3
 rintro m q h3 ⟨i,rfl,hi,q0,q1,q2,q8,s3,d3,hf⟩ X HX
 unfold an4
 simp only [dl,q2,q8]
 refine ax (fun hlt=>?_) (fun hge=>?_)
 · obtain ⟨x,hx⟩:∃x,l[i]?=some x:=⟨_,List.getElem?_eq_getElem (by omega)⟩
   obtain ⟨bb,of,rfl,z0,z1,z2⟩:=Sees.want (sv.up (s3.in 1 rfl) d3) hx
   obtain ⟨⟨c0,c1⟩,f0,f1,f2⟩:=o0.1 (List.all_eq_true.1 hv x (List.mem_of_getElem? hx))
   unfold Kd
   simp (disch:=first|decide|omega) only [dl,q0,q1,q2,q8,Jt (Int.natCast_nonneg i) hlt,z0,z1,z2]
   refine (Zn (r:=r) (f:=x.f) (t:=x.t) (tb.see (s3.in 0 rfl)) c0 (lu c0 c1) (by have:=r9 fw x.c;omega)).mono ?_
   rintro _ h3 ⟨rfl,rfl⟩
   cases e1:ku (rowT T x.c) r x.f x.t with
   |false=>
     try simp only [dl]
     rw [← hKK]
     have e:jb T r l=(18,T):=by unfold jb;rw [if_neg hr,if_pos hv,if_neg (by rw [El hx (by unfold qc;exact e1)];decide)]
     simp only [dl,e]
     exact ⟨a,tb,s3,d3⟩
   |true=>
     try simp only [dl]
     unfold Gn
     simp (disch:=first|decide|omega) only [dl,q8]
     exact HX (l.length-(i+1)) _ _ (by omega) ⟨i+1,rfl,by omega,by simp (disch:=decide) only [dl,q0],by simp (disch:=decide) only [dl,q1],by simp (disch:=decide) only [dl,q2],by simp only [dl]<;>rfl,s3,d3,by rw [Bv hx,hf];unfold qc;rw [e1];rfl⟩
 -- they are put
 obtain rfl:i=l.length:=by omega
 rw [List.take_of_length_le (Nat.le_refl _)]at hf
 clear HX
 try simp (disch:=first|decide|omega) only [dl,Nat.reduceAdd,Nat.reduceMul]
 unfold an7
 refine bv (fun m q' h3=>∃(i:Nat) (a':Hp),m=l.length-i∧i≤l.length∧q' 0 = .pointer (some ⟨tp,0,none⟩)∧q' 1 = .int .i64 r∧q' 2 = .slice sa l.length cap∧q' 9 = .int .i64 i∧Tab 188 a' tp (rh r T (l.take i))∧HL.Sep (a'::w::R) h3∧Dis G h3) ?_
   (m:=l.length) ⟨0,a,rfl,Nat.zero_le _,by simp (disch:=decide) only [dl,q0],by simp (disch:=decide) only [dl,q1],by simp (disch:=decide) only [dl,q2],by simp only [dl]<;>rfl,tb,s3,d3⟩
 clear q0 q1 q2 q8 s3 d3
 clear q h3
 rintro m q h3 ⟨i,a3,rfl,hi,q0,q1,q2,q9,t3,s3,d3⟩ X HX
 unfold an5
 simp only [dl,q2,q9]
 refine ax (fun hlt=>?_) (fun hge=>?_)
 · obtain ⟨x,hx⟩:∃x,l[i]?=some x:=⟨_,List.getElem?_eq_getElem (by omega)⟩
   obtain ⟨bb,of,rfl,z0,z1,z2⟩:=Sees.want (sv.up (s3.in 1 rfl) d3) hx
   obtain ⟨⟨c0,c1⟩,f0,f1,f2⟩:=o0.1 (List.all_eq_true.1 hv x (List.mem_of_getElem? hx))
   have sub:∀u∈l.take i,u∈l:=fun u hu=>List.mem_of_mem_take hu
   obtain ⟨g3,fw3,l3,k3⟩:=E9 (by omega:0≤r) (l:=l.take i) g fw (List.all_eq_true.2 fun u hu=>List.all_eq_true.1 hv u (sub u hu)) (List.all_eq_true.2 fun u hu=>List.all_eq_true.1 hf u (sub u hu))
   unfold Kf
   simp (disch:=first|decide|omega) only [dl,q0,q1,q2,q9,Jt (Int.natCast_nonneg i) hlt,z0,z1,z2]
   have hlen:(rowT (rh r T (l.take i)) x.c).length≤50000:=by
     have h5:=r9 fw3 x.c
     rw [List.length_take]at h5
     omega
   refine (W4 (r:=r) t3 s3 c0 (lu c0 (by rw [l3];exact c1)) (qk g3 x.c) hlen f0 f1 f2).mono ?_
   rintro _ h5 ⟨rfl,a5,t5,s5,d5⟩
   unfold Ke
   simp (disch:=first|decide|omega) only [dl,q9]
   refine HX (l.length-(i+1)) _ _ (by omega) ⟨i+1,a5,rfl,by omega,by simp (disch:=decide) only [dl,q0],by simp (disch:=decide) only [dl,q1],by simp (disch:=decide) only [dl,q2],by simp only [dl]<;>rfl,?_,s5,d5⟩
   rw [Ja hx]
   exact t5
 obtain rfl:i=l.length:=by omega
 rw [List.take_of_length_le (Nat.le_refl _)]at t3
 try simp (disch:=first|decide|omega) only [dl,Nat.reduceAdd,Nat.reduceMul]
 unfold an6
 have e:jb T r l=(0,rh r T l):=by unfold jb;rw [if_neg hr,if_pos hv,if_pos hf]
 rw [← hKK]
 simp only [dl,e]
 exact ⟨a3,t3,s3,d3⟩
end Go.Proofs.YtfflipnhffknnaaGreatDoor.Rv
end

section
namespace Go.Proofs.YtfflipnhffknnaaGreatDoor
open Go Go.HL Go.Proofs.Resv Go.Proofs.Srch
def i8:=jq bC (jq (jq (jq (jq @al97 @Qh) (jq @Sd (jq @bne_self_eq_false.{0} @Yi))) (jq (jq @am3 (jq @cf24 @cf25)) (jq @cf50 (jq @cf91 @cf92)))) (jq (jq (jq @Um (jq @Cw @F2)) (jq @fa97_0 (jq @fa97_1 @fa97_2))) (jq (jq @fa97_3 (jq @ld3 @ld97)) (jq @ln77 (jq @Xa @st97w)))))
structure Hold where
 r:Int
 c:Int
 f:Int
 t:Int
def Ju:Cod Hold:=⟨4,fun s=>[.int .i64 s.r,.int .i64 s.c,.int .i64 s.f,.int .i64 s.t],fun _=>rfl,fun _ v hv=>by simp at hv;rcases hv with rfl|rfl|rfl|rfl<;>rfl⟩
def Ql (x:Hold):Prop:=Bd x.r∧Bd x.c∧Bd x.f∧Bd x.t

def wo (n:Nat) (T:Tb) (x:Hold):Tb:=(jb T (x.r % 5) [⟨x.c % (n:Int),x.f,x.t⟩]).2
def tabL (n:Nat) (l:List Hold):Tb:=(l.take 40).foldl (wo n) (List.replicate n [])

theorem zx {n:Nat}:∀(l:List Hold) (T:Tb) (b:Nat),jj T→Few T b→jj (l.foldl (wo n) T)∧Few (l.foldl (wo n) T) (b+l.length)∧(l.foldl (wo n) T).length=T.length
 |[],T,b,g,f=>⟨g,f,rfl⟩
 |x::l,T,b,g,f=>by
   obtain ⟨g1,f1,l1⟩:=Yb (r:=x.r % 5) (l:=[⟨x.c % (n:Int),x.f,x.t⟩]) g f
   obtain ⟨g2,f2,l2⟩:=zx l (wo n T x) (b+1) g1 f1
   rw [List.foldl_cons]
   refine ⟨g2,fun L hL=>?_,l2.trans l1⟩
   have:=f2 L hL
   rw [List.length_cons]
   omega
theorem tab_ok (n:Nat) (l:List Hold):jj (tabL n l)∧Few (tabL n l) 100∧(tabL n l).length=n:=by
 obtain ⟨g,f,e⟩:=zx (n:=n) (l.take 40) (List.replicate n []) 0 zv (fun L hL=>by rw [List.eq_of_mem_replicate hL];exact Nat.le_refl _)
 refine ⟨g,fun L hL=>?_,e.trans (List.length_replicate ..)⟩
 have:=f L hL
 rw [List.length_take]at this
 omega
theorem N2 {n:Nat} {l:List Hold} {i:Nat} {x:Hold} (hx:l[i]?=some x):(l.take (i+1)).foldl (wo n) (List.replicate n [])=wo n ((l.take i).foldl (wo n) (List.replicate n [])) x:=by
 rw [List.take_add_one,hx,List.foldl_append]
 rfl

theorem Sees.hold {G h:Hp} {sa:Option Addr} {cap n:Nat} {L:List Hold} (s:Sees Ju G h (.slice sa n cap) L) {i:Nat} {x:Hold} (hx:L[i]?=some x):
   ∃b o,sa=some ⟨b,o,none⟩∧aa G h ⟨b,o+i*4,none⟩=some (.int .i64 x.r)∧aa G h ⟨b,o+i*4+1,none⟩=some (.int .i64 x.c)∧aa G h ⟨b,o+i*4+2,none⟩=some (.int .i64 x.f)∧aa G h ⟨b,o+i*4+3,none⟩=some (.int .i64 x.t):=by
 obtain ⟨s',c',e,_,hc|⟨b,o,rfl,hc⟩⟩:=s
 · rw [hc]at hx;cases hx
 · cases e
   exact ⟨b,o,rfl,hc i x hx 0 (by decide),hc i x hx 1 (by decide),hc i x hx 2 (by decide),hc i x hx 3 (by decide)⟩

abbrev holdO (x:Hold):Obj := .cells #[.int .i64 x.r,.int .i64 x.c,.int .i64 x.f,.int .i64 x.t] 97 (0,0)
theorem E2 {G:Hp} {xb:Nat} {w:Want} {ty:TypeId}:Sees Rv.I2 G (noHp.set xb (.cells #[.int .i64 w.c,.int .i64 w.f,.int .i64 w.t] ty (0,0))) (.slice (some ⟨xb,0,none⟩) 1 1) [w]:=by
 have o:Slc Rv.I2 ty (noHp.set xb (.cells #[.int .i64 w.c,.int .i64 w.f,.int .i64 w.t] ty (0,0))) (.slice (some ⟨xb,0,none⟩) 1 1) [w]:=⟨some xb,1,[],rfl,by rw [af];rfl,rfl⟩
 exact o.see (by decide) (Hp.le.refl _)

theorem N1 {G h:Hp} {v lv:Value} {C:Conf} {l:List Hold} (hv:CV G h v C) (sm:SmO C) (hl:tq Ju G lv l) (hb:∀x∈l,Ql x):
   aj P_ G 42 #[v,lv] h (fun u h'=>∃a1 a2 t1 t2,u = .tuple #[.pointer (some ⟨t1,0,none⟩),.pointer (some ⟨t2,0,none⟩),.bool true]∧
     Rv.Tab 124 a1 t1 (tabL (C.w*C.h).toNat l)∧Rv.Tab 188 a2 t2 (tabL (C.w*C.h).toNat l)∧HL.Sep [a1,a2,h] h'∧Dis G h'):=by
 obtain ⟨ab,cb,ap,cp,ar,cr,az,cs,rfl,ca⟩:=hv
 obtain ⟨n1,n2,n3,n4⟩:=Ob sm
 refine aj.assume fun d=>enter42 (by simp) ?_
 unfold S42
 simp (disch:=first|decide|omega) only [i8]
 intro xc hxc gxc
 have s0:=(HL.Sep.one (h:=h)).past (o := .cells #[.int .i64 C.w,.int .i64 C.h,.int .i64 C.ht,.slice ab C.bl.length cb,.slice ap C.po.length cp,.slice ar C.ro.length cr,.slice az C.st.length cs,.int .i64 C.un,.int .i64 C.ac,.int .i64 C.sp,.int .i64 C.tu,.int .i64 C.ho,.int .i64 C.qu,.int .i64 C.re,.int .i64 C.bu,.bool C.back] 26 (0,0)) hxc
 generalize e1:Hp.set h xc _=h1 at*
 obtain ⟨l1,d1,bc1⟩:=boxed e1 hxc d gxc
 have cc:∀{h':Hp},h1.le h'→∀k,aa G h' ⟨xc,k,none⟩=_:=fun l k=>ai (ag (l _ _ bc1))
 try simp (disch:=first|decide|omega) only [i8,Nat.reduceAdd,Nat.reduceMul,cc (Hp.le.refl _)]
 first|rw [n3]|rw [← n4]
 generalize hn:(C.w*C.h).toNat=n at*
 refine (Rv.qr (n:=n) (by omega) (by omega)).mono ?_
 rintro _ h2 ⟨a1,t1,rfl,tab1,s2,d2⟩
 try simp (disch:=first|decide|omega) only [i8,cc (s2.in 1 rfl)]
 first|rw [n3]|rw [← n4]
 refine (Rv.W6 (n:=n) (by omega) (by omega)).mono ?_
 rintro _ h3 ⟨a2,t2,rfl,tab2,s3,d3⟩
 try simp (disch:=first|decide|omega) only [i8,Nat.reduceAdd,Nat.reduceMul]
 have s4:HL.Sep [a1,a2,h1] h3:=(HL.Sep.open (L:=[a1,h1]) (R:=[a2]) s3.swap s2).sel [0,2,1] (by decide) rfl
 unfold ar4
 generalize hKK:retK P_ G _ _=KK
 obtain ⟨la,lc,rfl,_⟩:=(hl h d).len
 refine bv (fun m p h'=>∃(i:Nat) (a1 a2:Hp),m=40-i∧i≤40∧i≤l.length∧p 1 = .slice la l.length lc∧p 2 = .pointer (some ⟨xc,0,none⟩)∧p 7 = .pointer (some ⟨t1,0,none⟩)∧p 9 = .pointer (some ⟨t2,0,none⟩)∧p 10 = .int .i64 i∧
   Rv.Tab 124 a1 t1 ((l.take i).foldl (wo n) (List.replicate n []))∧Rv.Tab 188 a2 t2 ((l.take i).foldl (wo n) (List.replicate n []))∧HL.Sep [a1,a2,h1] h'∧Dis G h') ?_ (m:=40)
   ⟨0,a1,a2,rfl,by omega,by omega,by simp (disch:=decide) only [i8],by simp (disch:=decide) only [i8],by simp (disch:=decide) only [i8],by simp (disch:=decide) only [i8],by simp only [i8];rfl,tab1,tab2,s4,d3⟩
 clear tab1 tab2 s4 d3 s3 d2 s2
 rintro m p h4 ⟨i,a1,a2,rfl,hi,hil,g1,g2,g7,g9,g10,tab1,tab2,s,d4⟩ X hX
 obtain ⟨gT,fT,lT⟩:=zx (n:=n) (l.take i) (List.replicate n []) 0 zv (fun L hL=>by rw [List.eq_of_mem_replicate hL];exact Nat.le_refl _)
 rw [List.length_replicate]at lT
 generalize hT:(l.take i).foldl (wo n) (List.replicate n [])=T at*
 have fin:¬(i<l.length∧i<40)→T=tabL n l:=fun hh=>by
   rw [← hT]
   unfold tabL
   by_cases h40:i=40
   · rw [h40]
   · have:i=l.length:=by omega
     rw [this,List.take_length,List.take_of_length_le (by omega)]
 unfold ar3
 simp only [i8,g10,g1]
 have go:¬(i<l.length∧i<40)→∀r':Rg,r' 7 = .pointer (some ⟨t1,0,none⟩)→r' 9 = .pointer (some ⟨t2,0,none⟩)→bh 0 (bq (Su G KK) KK) (.exit 0) r' h4:=fun hh r' e7 e9=>by
   try simp only [i8]
   unfold Su
   rw [← hKK]
   try simp (disch:=decide) only [i8,e7,e9]
   have s5:=((s.sel (L':=[h1,a1,a2]) [2,0,1] (by decide) rfl).cut l1).sel (L':=[a1,a2,h]) [1,2,0] (by decide) rfl
   refine ⟨a1,a2,t1,t2,rfl,?_,?_,s5,d4⟩
   · rw [← fin hh];exact tab1
   · rw [← fin hh];exact tab2
 by_cases q1:(i:Int)<l.length
 rotate_left
 · try simp only [i8,im q1,dv]
   exact go (by omega) _ (by simp (disch:=decide) only [i8,g7]) (by simp (disch:=decide) only [i8,g9])
 by_cases q2:(i:Int)<40
 rotate_left
 · try simp only [i8,gv q1,im q2]
   exact go (by omega) _ (by simp (disch:=decide) only [i8,g7]) (by simp (disch:=decide) only [i8,g9])
 try simp only [i8,gv q1,gv q2]
 obtain ⟨y,hy⟩:∃y,l[i]?=some y:=⟨_,List.getElem?_eq_getElem (by omega)⟩
 have hyb:=hb y (List.mem_of_getElem? hy)
 obtain ⟨b,o,rfl,c0,c1,c2,c3⟩:=Sees.hold (hl h4 d4) hy
 unfold K4
 simp -implicitDefEqProofs (maxSteps:=2000000) (disch:=first|decide|with_reducible exact Nat.ne_of_beq_eq_false rfl|exact au|exact am|omega|rfl|(simp;done)|fail) only [i8,g1,g10,ix77 (Int.natCast_nonneg i) q1,c0,c1,c2,c3]
 intro x hx gx
 try simp (disch:=first|decide|omega) only [i8,Nat.reduceAdd,Nat.reduceMul]
 generalize e5:Hp.set h4 x _=h5 at*
 obtain ⟨l5,d5,bx5⟩:=boxed e5 hx d4 gx
 have s5:=s.past (o:=holdO y) hx
 rw [e5]at s5
 have cx5:∀k,aa G h5 ⟨x,k,none⟩=_:=fun k=>ai (ag bx5)
 try simp (disch:=first|decide|omega) only [i8,Nat.reduceAdd,Nat.reduceMul,cx5]
 refine (zp (a:=y.r) (n:=5) hyb.1 (by decide) (by decide)).mono ?_
 rintro _ h5 ⟨rfl,rfl⟩
 have yr0:=Int.emod_nonneg y.r (by decide:(5:Int)≠0)
 try simp (disch:=first|decide|omega) only [i8,Nat.reduceAdd,Nat.reduceMul]
 rw [b8 sz3 rfl bx5 (by simp)]
 try simp only [i8]
 rw [← e5,set_set]
 generalize e6:Hp.set h4 x _=h6
 obtain ⟨l6,d6,bx6⟩:=boxed e6 hx d4 gx
 have s6:=s.past (o := .cells #[.int .i64 (y.r % 5),.int .i64 y.c,.int .i64 y.f,.int .i64 y.t] 97 (0,0)) hx
 rw [show h4.set x (.cells #[.int .i64 (y.r % 5),.int .i64 y.c,.int .i64 y.f,.int .i64 y.t] 97 (0,0))=h6 from e6]at s6
 have cx6:∀k,aa G h6 ⟨x,k,none⟩=_:=fun k=>ai (ag bx6)
 try simp (disch:=first|decide|omega) only [i8,cx6,g2,cc (s6.in 2 rfl)]
 first|rw [n3]|rw [← n4]
 refine (zp (a:=y.c) (n:=(n:Int)) hyb.2.1 (by omega) (by omega)).mono ?_
 rintro _ h6 ⟨rfl,rfl⟩
 try simp (disch:=first|decide|omega) only [i8,Nat.reduceAdd,Nat.reduceMul]
 rw [b8 sz3 rfl bx6 (by simp)]
 try simp only [i8]
 rw [← e6,set_set]
 generalize e7:Hp.set h4 x _=h7
 obtain ⟨l7,d7,bx7⟩:=boxed e7 hx d4 gx
 have s7:=s.new (o := .cells #[.int .i64 (y.r % 5),.int .i64 (y.c % (n:Int)),.int .i64 y.f,.int .i64 y.t] 97 (0,0)) hx
 rw [show h4.set x (.cells #[.int .i64 (y.r % 5),.int .i64 (y.c % (n:Int)),.int .i64 y.f,.int .i64 y.t] 97 (0,0))=h7 from e7]at s7
 intro w hw gw
 have s8:=(s7.new (o := .cells #[.int .i64 (y.c % (n:Int)),.int .i64 y.f,.int .i64 y.t] 75 (0,0)) hw)
 have d8:=d7.set (o := .cells #[.int .i64 (y.c % (n:Int)),.int .i64 y.f,.int .i64 y.t] 75 (0,0)) gw
 generalize Hp.set h7 w _=h8 at s8 d8 ⊢
 rw [g7]
 refine (Rv.R8 (r:=y.r % 5) (l:=[⟨y.c % (n:Int),y.f,y.t⟩]) tab1 (s8.sel [2,0,1,3,4] (by decide) rfl) (E2 (w:=⟨y.c % (n:Int),y.f,y.t⟩)) gT fT (by simp;omega)).mono ?_
 rintro _ h9 ⟨rfl,a1',tab1',s9,d9⟩
 have cx9:∀k,aa G h9 ⟨x,k,none⟩=_:=fun k=>ai (ag (s9.at 2 rfl af))
 try simp only [i8,cx9]
 intro w2 hw2 gw2
 have s10:=(s9.new (o := .cells #[.int .i64 (y.c % (n:Int)),.int .i64 y.f,.int .i64 y.t] 186 (0,0)) hw2)
 have d10:=d9.set (o := .cells #[.int .i64 (y.c % (n:Int)),.int .i64 y.f,.int .i64 y.t] 186 (0,0)) gw2
 generalize Hp.set h9 w2 _=h10 at s10 d10 ⊢
 rw [g9]
 refine (Rv.Oo (r:=y.r % 5) (l:=[⟨y.c % (n:Int),y.f,y.t⟩]) tab2 (s10.sel [4,0,1,5] (by decide) rfl) (E2 (w:=⟨y.c % (n:Int),y.f,y.t⟩)) gT fT (by simp;omega)).mono ?_
 rintro _ h11 ⟨rfl,a2',tab2',s11,d11⟩
 try simp only [i8]
 unfold K3
 try simp (disch:=first|decide|omega) only [i8,g10]
 refine hX (40-(i+1)) _ _ (by omega) ⟨i+1,a1',a2',rfl,by omega,by omega,by simp (disch:=decide) only [i8,g1],by simp (disch:=decide) only [i8,g2],by simp (disch:=decide) only [i8,g7],by simp (disch:=decide) only [i8,g9],by simp only [i8];rfl,?_,?_,s11.sel [2,0,3] (by decide) rfl,d11⟩
 · rw [N2 hy,hT];exact tab1'
 · rw [N2 hy,hT];exact tab2'
end Go.Proofs.YtfflipnhffknnaaGreatDoor
end

section
namespace Go.Proofs.YtfflipnhffknnaaGreatDoor.Rv
open Go Go.HL Go.Proofs.Resv

def i9:=jq bC (jq (jq (jq (jq @Kc @C0) (jq @je @Cx)) (jq (jq @cf137 @Mn) (jq @ug @uf))) (jq (jq (jq @ue @Jo) (jq @ld3 @ld98)) (jq (jq @ld99 @ln99) (jq @ix @Ce))))
def Mg (T:Tb) (c r:Int):List (Int × Int):=if inT T.length c=true then uz (rowT T c) r else []
theorem eogr:fe P_ 112 il.n 16:=eo112

theorem Q6 {G h:Hp} {tp:Nat} {T:Tb} {c r:Int} (ts:TSee G h tp T) (fw:∀L∈T,L.length≤50000):
   aj P_ G 111 #[.pointer (some ⟨tp,0,none⟩),.int .i64 c,.int .i64 r] h (fun u h'=>∃ip,Slc il 112 ip u (Mg T c r)∧HL.Sep [ip,h] h'∧Dis G h'):=by
 refine aj.assume fun d=>ak3 (by simp) ?_
 unfold S111 Mg
 simp only [i9]
 refine (Ew (c:=c) ts).mono ?_
 rintro _ h ⟨rfl,rfl⟩
 cases hc:inT T.length c with
 |false=>
   try simp only [i9]
   exact ⟨noHp,Slc.nil,Sep.one.none,d⟩
 |true=>
 obtain ⟨c0,c1⟩:=ub.1 hc
 have hL:=lu c0 c1
 obtain ⟨rb,e1,e2⟩:=ts
 obtain ⟨sa,cap,e3,e4⟩:=e2 _ _ hL
 have fL:=fw _ (List.mem_of_getElem? hL)
 generalize hLL:rowT T c=L at*
 try simp only [i9,if_pos rfl]
 unfold Wf
 generalize hKK:retK P_ G _ _=KK
 refine bv (fun m q h3=>∃(i:Nat) (at_:Int) (io:Hp) (v:Value) (out:List (Int × Int)),m=L.length-i∧i≤L.length∧q 0 = .pointer (some ⟨tp,0,none⟩)∧q 1 = .int .i64 c∧q 2 = .int .i64 r∧q 7=v∧q 8 = .int .i64 at_∧q 9 = .int .i64 i∧Slc il 112 io v out∧out.length≤i∧HL.Sep [io,h] h3∧Dis G h3∧out++di r (L.drop i) at_=uz L r) ?_
   (m:=L.length) ⟨0,0,noHp,_,[],rfl,Nat.zero_le _,by simp (disch:=decide) only [i9],by simp (disch:=decide) only [i9],by simp (disch:=decide) only [i9],rfl,by simp (disch:=decide) only [i9],by simp only [i9]<;>rfl,by simp (disch:=decide) only [i9];exact Slc.nil,Nat.zero_le _,Sep.one.none,d,rfl⟩
 rintro m q h3 ⟨i,at_,io,v,out,rfl,hi,q0,q1,q2,q7,q8,q9,o,ho,s3,d3,hm⟩ X HX
 have l3:=s3.in 1 rfl
 unfold Wd
 simp only [i9,q0,q1,q9,gh l3 d3 e1,ix98 c0 c1,Nat.mul_one,gh l3 d3 e3]
 refine ax (fun hlt=>?_) (fun hge=>?_)
 rotate_left
 · obtain rfl:i=L.length:=by omega
   rw [List.drop_of_length_le (Nat.le_refl _),di]at hm
   try simp (disch:=first|decide|omega) only [i9,Nat.reduceAdd,Nat.reduceMul]
   unfold We
   simp (disch:=decide) only [i9,q8]
   refine ax (fun h5=>?_) (fun h5=>?_)
   · rw [if_pos (by simp only [FV];exact h5)]at hm
     intro z hz gz
     generalize ez:Hp.set h3 z _=h4
     obtain ⟨l4,d4,b4⟩:=boxed ez hz d3 gz
     have s4:=s3.past (o:=(.cells #[.int .i64 at_,.int .i64 4611686018427387904] 112 (0,0))) hz
     rw [ez]at s4
     rw [q7]
     refine dm il (by decide) S7 eogr (by decide) (by decide) (M:=[(at_,FV)]) s4 d4 o (Sees.row (c:=il) (L:=[(at_,FV)]) b4 rfl (Nat.le_refl _)) (by simp;omega) fun v5 a5 h5 o5 s5 d5=>?_
     unfold Er
     rw [← hKK]
     simp only [i9]
     rw [hm]at o5
     exact ⟨a5,o5,s5,d5⟩
   · rw [if_neg (by simp only [FV];exact h5),List.append_nil]at hm
     unfold Er
     rw [← hKK]
     simp (disch:=decide) only [i9,q7]
     rw [hm]at o
     exact ⟨io,o,s3,d3⟩
 obtain ⟨s,hs⟩:∃s,L[i]?=some s:=⟨_,List.getElem?_eq_getElem (by omega)⟩
 obtain ⟨b',of,rfl,z0,z1,z2⟩:=Sees.slot (e4.up l3 d3) hs
 rw [Ru hs]at hm
 unfold H5
 simp (disch:=first|decide|exact au|exact am|omega|rfl) only [i9,q0,q1,q9,gh l3 d3 e1,ix98 c0 c1,Nat.mul_one,gh l3 d3 e3,ix99 (Int.natCast_nonneg i) hlt,z0,z1,z2]
 intro y hy gy
 generalize eh:Hp.set h3 y _=h4
 obtain ⟨l4,d4,b4⟩:=boxed eh hy d3 gy
 have s4y:HL.Sep [noHp.set y (mo s),io,h] h4:=by rw [← eh];exact s3.new hy
 have s4:=s4y.drop
 have cy:∀j,aa G h4 ⟨y,j,none⟩=_:=fun j=>ai (ag b4)
 have go:∀(K0:Exit→Rg→Hp→Prop) (r1:Rg) (at2:Int) (v2:Value) (io2:Hp) (out2:List (Int × Int)) (h5:Hp),(∀k,k≤2→r1 k=q k)→r1 7=v2→r1 8 = .int .i64 at2→r1 9 = .int .i64 i→Slc il 112 io2 v2 out2→out2.length≤i+1→HL.Sep [io2,h] h5→Dis G h5→out2++di r (L.drop (i+1)) at2=uz L r→ur G (bq X K0) r1 h5:=by
   intro K0 r1 at2 v2 io2 out2 h5 hk k7 k8 k9 o2 ho2 s5 d5 hm2
   unfold ur
   simp (disch:=first|decide|omega) only [i9,k9]
   exact HX (L.length-(i+1)) _ _ (by omega) ⟨i+1,at2,io2,v2,out2,rfl,by omega,by simp (disch:=decide) only [i9,hk 0 (by decide),q0],by simp (disch:=decide) only [i9,hk 1 (by decide),q1],by simp (disch:=decide) only [i9,hk 2 (by decide),q2],by simp (disch:=decide) only [i9,k7],by simp (disch:=decide) only [i9,k8],by simp only [i9]<;>rfl,o2,ho2,s5,d5,hm2⟩
 simp only [i9,q2,cy]
 refine me (fun hb=>?_) (fun hb=>?_)
 · rw [if_pos (by simpa using hb)]at hm
   exact go _ _ at_ v io out h4 (fun k hk=>by simp (disch:=omega) only [ao]) (by simp (disch:=decide) only [i9,q7]) (by simp (disch:=decide) only [i9,q8]) (by simp (disch:=decide) only [i9,q9]) o (by omega) s4 d4 hm
 rw [if_neg (by simpa using hb)]at hm
 unfold H4
 simp (disch:=decide) only [i9,q8,cy]
 refine ax (fun h5=>?_) (fun h5=>?_)
 · rw [if_pos h5]at hm
   intro z hz gz
   generalize ez:Hp.set h4 z _=h6
   obtain ⟨l6,d6,b6⟩:=boxed ez hz d4 gz
   have s6:=(s4y.pick 1 rfl rfl).past (o:=(.cells #[.int .i64 at_,.int .i64 s.f] 112 (0,0))) hz
   rw [ez]at s6
   rw [q7]
   refine dm il (by decide) S7 eogr (by decide) (by decide) (M:=[(at_,s.f)]) s6 d6 o (Sees.row (c:=il) (L:=[(at_,s.f)]) b6 rfl (Nat.le_refl _)) (by simp;omega) fun v7 a7 h7 o7 s7 d7=>?_
   have cy7:∀j,aa G h7 ⟨y,j,none⟩=_:=fun j=>ai (ag (s7.at 1 rfl af))
   unfold uq
   simp (disch:=decide) only [i9,cy7]
   exact go _ _ s.t v7 a7 (out++[(at_,s.f)]) h7 (fun k hk=>by simp (disch:=omega) only [ao]) (by simp (disch:=decide) only [i9]) (by simp only [i9]) (by simp (disch:=decide) only [i9,q9]) o7 (by simp;omega) (s7.pick 1 rfl rfl).drop d7 (by rw [← hm];simp)
 · rw [if_neg h5]at hm
   unfold uq
   simp (disch:=decide) only [i9,cy]
   exact go _ _ s.t v io out h4 (fun k hk=>by simp (disch:=omega) only [ao]) (by simp (disch:=decide) only [i9,q7]) (by simp only [i9]) (by simp (disch:=decide) only [i9,q9]) o (by omega) s4 d4 hm
end Go.Proofs.YtfflipnhffknnaaGreatDoor.Rv
end

/- Texts of the proof, one behind the other. -/
import Derived.Test.YtfflipnhffknnaaGreatDoorBM3
import Derived.Test.YtfflipnhffknnaaGreatDoorBM1
import Derived.Test.YtfflipnhffknnaaGreatDoorBH3
import Derived.Test.YtfflipnhffknnaaGreatDoorBH4
import Derived.Test.YtfflipnhffknnaaGreatDoorBM2
import Derived.Test.YtfflipnhffknnaaGreatDoorBHZ
set_option linter.unusedSimpArgs false
set_option linter.unusedVariables false
set_option maxRecDepth 100000
set_option linter.unusedSectionVars false
set_option maxHeartbeats 8000000
set_option linter.defProp false
section
namespace Go.Proofs.YtfflipnhffknnaaGreatDoor.Rv
open Go Go.HL Go.Proofs.Resv
def Da:=jq bC (jq (jq (jq @aH_ (jq @a3_.{0} @and_true)) (jq (jq @xa @ad5) (jq @cf106 @ac8))) (jq (jq (jq @Sg @ld98) (jq @ld99 @ln98)) (jq (jq @ln99 @ne34s) (jq @li @true_and))))
def dm:Cod Slot:=⟨3,fun s=>[.int .i64 s.f,.int .i64 s.t,.int .i64 s.r],fun _=>rfl,fun _ v hv=>by simp at hv;rcases hv with rfl|rfl|rfl<;>rfl⟩
abbrev slotV (s:Slot):Value := .agg #[s.f,s.t,s.r]
abbrev qg (s:Slot):Obj := .cells #[s.f,s.t,s.r] 203 (0,0)
theorem eoslot:iu P_ 203 dm.n 24:=eo203
abbrev Sv:=Option Addr × Nat × Nat
def svC:Cod Sv:=⟨1,fun (s:Sv)=>[.slice s.1 s.2.1 s.2.2],fun _=>rfl,fun _ v hv=>by simp at hv;subst hv;rfl⟩
theorem eosv:iu P_ 99 svC.n 24:=⟨by kernel_rfl,by kernel_rfl,by kernel_rfl⟩
def TSee (G h:Hp) (tp:Nat) (T:List (List Slot)):Prop:=∃rb,bf G h ⟨tp,0,none⟩=some (.slice (some ⟨rb,0,none⟩) T.length T.length)/\
 ∀c L,T[c]?=some L->∃a cap,bf G h ⟨rb,c,none⟩=some (.slice a L.length cap)/\Sees dm G h (.slice a L.length cap) L
theorem TSee.up {G h h':Hp} {tp:Nat} {T:List (List Slot)} (s:TSee G h tp T) (l:h.le h') (d:Dis G h'):TSee G h' tp T:=by obtain ⟨rb,e1,e2⟩:=s;exact ⟨rb,ku l d e1,fun c L hc=>let ⟨a,cap,e3,e4⟩:=e2 c L hc;⟨a,cap,ku l d e3,e4.up l d⟩⟩
def Rows (pb:Hp) (raws:List Sv) (T:List (List Slot)):Prop:=raws.length=T.length/\∀(i:Nat) (s:Sv) (L:List Slot),raws[i]?=some s->T[i]?=some L->s.2.1=L.length/\Slc dm 203 pb (.slice s.1 L.length s.2.2) L
def Tab (ty:TypeId) (a:Hp) (tp:Nat) (T:List (List Slot)):Prop:=∃rb raws pb,Sep [noHp.set tp (.cells #[.slice (some ⟨rb,0,none⟩) T.length T.length] ty (0,0)),noHp.set rb (.cells (svC.rows raws).toArray 99 (0,0)),pb] a/\Rows pb raws T
theorem sv_get {G h:Hp} {rb c:Nat} {raws:List Sv} {e:TypeId} {s:Sv} (hb:h rb=some (.cells (svC.rows raws).toArray e (0,0))) (hs:raws[c]?=some s):bf G h ⟨rb,c,none⟩=some (.slice s.1 s.2.1 s.2.2):=by rw [bm (bj hb)];have:=svC.rows_get (t:=[]) (j:=0) hs (by decide);rw [av_,show svC.n=1 from rfl,aW_,bc_]at this;exact this
theorem Tab.see {G a h:Hp} {ty:TypeId} {tp:Nat} {T:List (List Slot)} (t:Tab ty a tp T) (l:a.le h):TSee G h tp T:=by
 obtain ⟨rb,raws,pb,s,hl,hr⟩:=t;refine ⟨rb,?_,fun c L hc=>?_⟩
 . rw [bm (bj (l _ _ (s.at 0 rfl bh)))];rfl
 . have hlt:c<raws.length:=by rw [hl];exact (ad_.1 hc).1
   obtain ⟨e1,o⟩:=hr c _ L (aa_ hlt) hc;refine ⟨raws[c].1,raws[c].2.2,?_,o.sees (by decide) ((s.in 2 rfl).trans l)⟩;rw [sv_get (l _ _ (s.at 1 rfl bh)) (aa_ hlt),e1]
theorem Sees.slot {G h:Hp} {sa:Option Addr} {cap n:Nat} {L:List Slot} (s:Sees dm G h (.slice sa n cap) L) {i:Nat} {x:Slot} (hx:L[i]?=some x):
 ∃b o,sa=some ⟨b,o,none⟩/\bf G h ⟨b,o+i*3,none⟩=some (.int .i64 x.f)/\bf G h ⟨b,o+i*3+1,none⟩=some (.int .i64 x.t)/\bf G h ⟨b,o+i*3+2,none⟩=some (.int .i64 x.r):=by obtain ⟨b,o,c,e1,e2⟩:=s.get hx;simp only [Value.slice.injEq]at e1;obtain ⟨rfl,-,-⟩:=e1;have x0:=e2 0 (by decide);have x1:=e2 1 (by decide);have x2:=e2 2 (by decide);simp only [dm,bc_,ar_,as_]at x0 x1 x2;exact ⟨b,o,rfl,x0,x1,x2⟩
def hasB (T:List (List Slot)) (c:Int):Bool:=decide (0<=c)&&decide (c<T.length)
theorem K4 {G h:Hp} {tp:Nat} {T:List (List Slot)} {c:Int} (ts:TSee G h tp T):bn P_ G 103 #[.pointer (some ⟨tp,0,none⟩),c] h (fun u h'=>u = .bool (hasB T c)/\h'=h):=by
 obtain ⟨rb,e1,_⟩:=ts;refine aK7 (by simp) ?_;unfold S103 hasB;try simp only [Da]
 by_cases h0:0<=c
 . try simp only [Da,af_ h0,show decide (c>=0)=true from af_ h0,e1]
 . try simp only [Da,ai_ h0,show decide (c>=0)=false from ai_ h0,e1,bZ_]
theorem qy {G h:Hp} {tp:Nat} {T:List (List Slot)} (ts:TSee G h tp T):bn P_ G 26 #[.pointer (some ⟨tp,0,none⟩)] h (fun u h'=>u = .int .i64 T.length/\h'=h):=by
 obtain ⟨rb,e1,_⟩:=ts;refine enter26 (by simp) ?_;unfold S26;try simp only [Da]
 unfold aT4;try simp (disch:=decide) only [Da,e1]
theorem O2 {G h:Hp} {v:Value} {L:List Slot} (sv:Sees dm G h v L) (hL:L.length<=900000):bn P_ G 106 #[v] h (fun u h'=>∃b,Slc dm 203 b u L/\Sep [b,h] h'/\Dis G h'):=by
 obtain ⟨sa,cap,rfl⟩:=sv.len;refine bn.assume fun d=>aK4 (by simp) ?_;unfold S106;simp only [Da];by_cases hL0:L=[]
 . subst hL0;try simp only [Da,a3_,show (((0:Nat):Int)==0)=true from rfl]
   exact ⟨noHp,Slc.nil,Sep.one.none,d⟩
 . have hpos:=bB_.2 hL0
   have e:((L.length:Int)==0)=false:=by
    have:(L.length:Int)≠0:=by omega
    simpa using this
   try simp only [Da,e]
   unfold al2;try simp (disch:=decide) only [Da]
   rw [tf dm ⟨0,0,0⟩ (by decide) un99 eoslot (by kernel_rfl) (by omega) (by omega)];intro x hx gx;have d1:=d.set (o := .cells (dm.rows (List.replicate L.length (⟨0,0,0⟩:Slot))).toArray 203 (0,0)) gx;rw [Wn dm (by decide) un99 eoslot (L:=L) bh (by simp) (sv.up (dw hx) d1) hL0 rfl,set_set];try simp (disch:=first|decide|omega) only [Da,Nat.reduceAdd,Nat.reduceMul]
   exact ⟨noHp.set x _,⟨some x,_,[],rfl,by rw [bh,av_],by rw [av_,dm.rows_length]⟩,Sep.one.new hx,d.set gx⟩
def fc:=jq bC (jq (jq (jq (jq @W4 @and_true) (jq @Fx @cf143)) (jq (jq @Sg @zu) (jq @zt @zr))) (jq (jq (jq @Vk @ld3) (jq @ld98 @ld99)) (jq (jq @ln99 @li) (jq @nq (jq @Kc @true_and)))))
theorem G7 {L:List Slot} {i:Nat} {s:Slot} {r f t:Int} (hs:L[i]?=some s):l8 (L.take (i+1)) r f t=(l8 (L.take i) r f t&&(s.r==r || !(decide (s.f<t)&&decide (f<s.t)))):=by unfold l8;rw [aL_,hs,List.all_append];simp
theorem K6 {L:List Slot} {i:Nat} {s:Slot} {r f t:Int} (hs:L[i]?=some s) (h:(s.r==r || !(decide (s.f<t)&&decide (f<s.t)))=false):l8 L r f t=false:=by unfold l8;rw [bI_];exact ⟨s,ab_ hs,by rw [h];simp⟩
theorem Cq {G h:Hp} {tp:Nat} {T:List (List Slot)} {L:List Slot} {c r f t:Int} (ts:TSee G h tp T) (h0:0<=c) (hL:T[c.toNat]?=some L) (hlen:L.length<=900000):
 bn P_ G 104 #[.pointer (some ⟨tp,0,none⟩),r,c,f,t] h (fun u h'=>u = .bool (l8 L r f t)/\h'=h):=by
 have h1:c<T.length:=by have:=(ad_.1 hL).1;omega
 obtain ⟨rb,e1,e2⟩:=ts;obtain ⟨a,cap,e3,e4⟩:=e2 _ _ hL;refine bn.assume fun d=>quietly (aK6 (by simp) ?_);unfold S104;simp only [fc,e1,ix98 h0 h1,aW_,e3]
 refine dt (fun m q h3=>∃i:Nat,m=L.length-i/\i<=L.length/\q 1 = .int .i64 r/\q 3 = .int .i64 f/\q 4 = .int .i64 t/\q 10 = .bool false/\q 19 = .slice a L.length cap/\q 20 = .int .i64 L.length/\q 21 = .int .i64 i/\h.le h3/\Dis G h3/\l8 (L.take i) r f t=true) ?_
  (m:=L.length) ⟨0,rfl,au_ _,by simp (disch:=decide) only [fc],by simp (disch:=decide) only [fc],by simp (disch:=decide) only [fc],by simp (disch:=decide) only [fc],by simp (disch:=decide) only [fc],by simp (disch:=decide) only [fc],by simp only [fc]<;>rfl,Hp.le.refl h,d,rfl⟩
 rintro m q h3 ⟨i,rfl,hi,q1,q3,q4,q10,q19,q20,q21,l3,d3,hf⟩ X HX;unfold al5;simp only [fc,q20,q21];refine df (fun hlt=>?_) (fun hge=>?_);rotate_left
 . obtain rfl:i=L.length:=by omega
   rw [am_ (aj_ _)]at hf;try simp (disch:=first|decide|omega) only [fc,Nat.reduceAdd,Nat.reduceMul]
   unfold Tz;try simp only [fc]
   exact ⟨by rw [hf],l3⟩
 obtain ⟨s,hs⟩:∃s,L[i]?=some s:=⟨_,aa_ (by omega)⟩;obtain ⟨b,o,rfl,z0,z1,z2⟩:=Sees.slot (e4.up l3 d3) hs;unfold Nr;simp (disch:=first|decide|exact b8|exact bw|omega|rfl) only [fc,q19,q21,ix99 (ac_ i) hlt,z0,z1,z2];intro x hx gx;simp only [fc,q1];generalize eh:Hp.set h3 x _=h4;obtain ⟨l4,d4,b4⟩:=boxed eh hx d3 gx;have cx:∀j,bf G h4 ⟨x,j,none⟩=_:=fun j=>bm (bj b4);have k4:∀q':Rg,q' 1 = .int .i64 r->q' 3 = .int .i64 f->q' 4 = .int .i64 t->q' 10 = .bool false->q' 19=q 19->q' 20=q 20->q' 21=q 21->(s.r==r || !(decide (s.f<t)&&decide (f<s.t)))=true->El G (di X (dc 0 (di (Tz G (retK P_ G [.tmp 10] fun u h'=>u = .bool (l8 L r f t)/\h.le h')) (retK P_ G [.tmp 10] fun u h'=>u = .bool (l8 L r f t)/\h.le h')))) q' h4:=by intro q' p1 p3 p4 p10 p19 p20 p21 hc;unfold El;simp (disch:=first|decide|omega) only [fc,p21,q21];exact HX (L.length-(i+1)) _ _ (by omega) ⟨i+1,rfl,by omega,by simp (disch:=decide) only [fc,p1],by simp (disch:=decide) only [fc,p3],by simp (disch:=decide) only [fc,p4],by simp (disch:=decide) only [fc,p10],by simp (disch:=decide) only [fc,p19,q19],by simp (disch:=decide) only [fc,p20,q20],by simp only [fc]<;>rfl,l3.trans l4,d4,by rw [G7 hs,hf,hc];rfl⟩
 cases hb:(s.r != r)with
 |false=>
  try simp only [fc,fq,hb]
  exact k4 _ (by simp (disch:=decide) only [fc,q1]) (by simp (disch:=decide) only [fc,q3]) (by simp (disch:=decide) only [fc,q4]) (by simp (disch:=decide) only [fc,q10]) (by simp (disch:=decide) only [fc]) (by simp (disch:=decide) only [fc]) (by simp (disch:=decide) only [fc]) (by simp at hb;simp [hb])
 |true=>
  try simp only [fc,cx,q4]
  by_cases hb2:s.f<t
  . try simp only [fc,af_ hb2,q3,cx]
    refine df (fun hb3=>?_) (fun hb3=>?_)
    . try simp (disch:=first|decide|omega) only [fc,Nat.reduceAdd,Nat.reduceMul]
      have:(s.r==r || !(decide (s.f<t)&&decide (f<s.t)))=false:=by simp at hb;simp [hb,hb2,hb3]
      exact ⟨by rw [K6 hs this],l3.trans l4⟩
    . exact k4 _ (by simp (disch:=decide) only [fc,q1]) (by simp (disch:=decide) only [fc,q3]) (by simp (disch:=decide) only [fc,q4]) (by simp (disch:=decide) only [fc,q10]) (by simp (disch:=decide) only [fc]) (by simp (disch:=decide) only [fc]) (by simp (disch:=decide) only [fc]) (by simp [hb3])
  . try simp only [fc,ai_ hb2,fq]
    exact k4 _ (by simp (disch:=decide) only [fc,q1]) (by simp (disch:=decide) only [fc,q3]) (by simp (disch:=decide) only [fc,q4]) (by simp (disch:=decide) only [fc,q10]) (by simp (disch:=decide) only [fc]) (by simp (disch:=decide) only [fc]) (by simp (disch:=decide) only [fc]) (by simp [hb2])
theorem cv_iu {G h:Hp} {x:Int} {K:VK}:wpH P_ G (convert 3 272 (.int .i64 x)) h K=K (.int .u64 (IntKind.u64.wrap x)) h:=by kernel_rfl
theorem cv_ui {G h:Hp} {x:Int} {K:VK}:wpH P_ G (convert 272 3 (.int .u64 x)) h K=K (IntKind.i64.wrap x) h:=by kernel_rfl
theorem shr1 {G h:Hp} {x:Int} {K:VK}:wpH P_ G (binOp .shr 272 (.int .u64 x) (.int .u64 1)) h K=K (.int .u64 (x.fdiv 2)) h:=by kernel_rfl
theorem wrap_u {x:Int} (h1:0<=x) (h2:x<18446744073709551616):IntKind.u64.wrap x=x:=by simp [IntKind.wrap,IntKind.bits,IntKind.signed];omega
theorem half {i j:Nat}:((i:Int)+(j:Int)).fdiv 2=(((i+j) / 2:Nat):Int):=by rw [Int.fdiv_eq_ediv_of_nonneg _ (by decide)];omega
theorem Fu {G h:Hp} {s:Slot} {n:Int} (h1:0<=s.f) (h2:s.f<=FV) (h3:0<=n) (h4:n<=FV):bn P_ G 143 #[slotV s,n] h (fun u h'=>u = .int .i64 (s.f-n)/\h'=h):=by refine bn.assume fun d=>quietly (aH5 (by simp) ?_);unfold S143;simp only [fc];intro x hx gx;have e:IntKind.i64.wrap (s.f-n)=s.f-n:=ng (by unfold FV at *;omega) (by unfold FV at *;omega);simp only [fc,e];exact dw hx
theorem Wv {G h:Hp} {a b:Value} {K:VK}:opH P_ G (jh (.func (.func 143) #[] #[]) #[a,b]) h K=bn P_ G 143 #[a,b] h K:=by kernel_rfl
def rank (L:List Slot) (n:Int):Nat:=(L.takeWhile fun s=>decide (s.f<n)).length
theorem rank_at:∀{L:List Slot} {n:Int},L.Pairwise (fun a b=>a.f<=b.f)->∀(i:Nat) (s:Slot),L[i]?=some s->(s.f<n↔i<rank L n):=by
 intro L n hp i s hs;unfold rank;have e:=bm_ (p:=fun s=>decide (s.f<n)) (l:=L);constructor
 . intro h;refine Nat.lt_of_not_le fun hle=>?_;rw [<- e,aF_ hle]at hs;have:=ad1 hp s (ab_ hs);omega
 . intro h;rw [<- e,aq_ h]at hs;exact Zk s (ab_ hs)
theorem Zu {L:List Slot} {n:Int}:rank L n<=L.length:=by unfold rank;have:=congrArg List.length (bm_ (p:=fun s=>decide (s.f<n)) (l:=L));rw [ae_]at this;omega
theorem Uk {G h:Hp} {v:Value} {L:List Slot} {n:Int} (sv:Sees dm G h v L) (hlen:L.length<=900000) (hp:L.Pairwise fun a b=>a.f<=b.f) (hf:∀s∈L,0<=s.f/\s.f<=FV) (h3:0<=n) (h4:n<=FV):
 bn P_ G 142 #[v,n,.func (.func 143) #[] #[]] h (fun u h'=>(∃b,u = .tuple #[(rank L n),.bool b])/\h'=h):=by
 obtain ⟨sa,cap,rfl⟩:=sv.len;refine aH6 (by simp) ?_;unfold S142;simp only [fc]
 refine dt (fun m q h3=>∃i j:Nat,m=j-i/\i<=rank L n/\rank L n<=j/\j<=L.length/\q 0 = .slice sa L.length cap/\q 1 = .int .i64 n/\q 2 = .func (.func 143) #[] #[]/\q 8 = .int .i64 L.length/\q 9 = .int .i64 i/\q 10 = .int .i64 j/\h3=h) ?_
  (m:=L.length) ⟨0,L.length,by omega,au_ _,Zu,aj_ _,by simp (disch:=decide) only [fc],by simp (disch:=decide) only [fc],by simp (disch:=decide) only [fc],by simp (disch:=decide) only [fc],by simp (disch:=decide) only [fc]<;>rfl,by simp only [fc],rfl⟩
 rintro m q h3' ⟨i,j,rfl,hi,hj,hjl,q0,q1,q2,q8,q9,q10,rfl⟩ X HX;unfold ag7;simp only [fc,q9,q10];refine df (fun hlt=>?_) (fun hge=>?_)
 . have hlt':i<j:=by omega
   have hm:(i+j) / 2<L.length:=by omega
   obtain ⟨s,hs⟩:∃s,L[(i+j) / 2]?=some s:=⟨_,aa_ hm⟩;obtain ⟨b,o,rfl,z0,z1,z2⟩:=Sees.slot sv hs;obtain ⟨f0,f1⟩:=hf s (ab_ hs);have w1:IntKind.i64.wrap ((i:Int)+(j:Int))=(i:Int)+(j:Int):=ng (by omega) (by omega);have w2:IntKind.u64.wrap ((i:Int)+(j:Int))=(i:Int)+(j:Int):=wrap_u (by omega) (by omega);have w3:IntKind.i64.wrap (((i+j) / 2:Nat):Int)=(((i+j) / 2:Nat):Int):=ng (by omega) (by omega);have hm':(((i+j) / 2:Nat):Int)<(L.length:Int):=by omega
   unfold Mp;simp (disch:=first|decide|omega) only [fc,q0,q1,q2,q9,q10,cv_iu,w1,w2,shr1,half,cv_ui,w3,ix99 (ac_ ((i+j) / 2)) hm',z0,z1,z2,Wv];refine (Fu f0 f1 h3 h4).mono ?_;rintro _ _ ⟨rfl,rfl⟩;have hr:=rank_at hp _ _ hs (n:=n);simp only [fc];refine df (fun hlt2=>?_) (fun hge2=>?_)
   . have:(i+j) / 2<rank L n:=hr.1 (by omega);try simp (disch:=first|decide|omega) only [fc,Nat.reduceAdd,Nat.reduceMul]
     refine HX (j-((i+j) / 2+1)) _ _ (by omega) ⟨(i+j) / 2+1,j,rfl,by omega,hj,hjl,by simp (disch:=decide) only [fc,q0],by simp (disch:=decide) only [fc,q1],by simp (disch:=decide) only [fc,q2],by simp (disch:=decide) only [fc,q8],by simp only [fc]<;>rfl,by simp (disch:=decide) only [fc,q10],rfl⟩
   . have:¬(i+j) / 2<rank L n:=fun h=>hge2 (by have:=hr.2 h;omega);try simp (disch:=first|decide|omega) only [fc,Nat.reduceAdd,Nat.reduceMul]
     refine HX ((i+j) / 2-i) _ _ (by omega) ⟨i,(i+j) / 2,rfl,hi,by omega,by omega,by simp (disch:=decide) only [fc,q0],by simp (disch:=decide) only [fc,q1],by simp (disch:=decide) only [fc,q2],by simp (disch:=decide) only [fc,q8],by simp (disch:=decide) only [fc,q9],by simp only [fc],rfl⟩
 obtain rfl:i=rank L n:=by omega
 try simp (disch:=first|decide|omega) only [fc,Nat.reduceAdd,Nat.reduceMul]
 unfold ag8;simp (disch:=decide) only [fc,q8,q9];by_cases hlt:rank L n<L.length
 . obtain ⟨s,hs⟩:∃s,L[rank L n]?=some s:=⟨_,aa_ hlt⟩;obtain ⟨b,o,rfl,z0,z1,z2⟩:=Sees.slot sv hs;obtain ⟨f0,f1⟩:=hf s (ab_ hs);have hlt':((rank L n:Nat):Int)<(L.length:Int):=by omega
   simp only [fc,af_ hlt',q0,q1,q2,q9,ix99 (ac_ (rank L n)) hlt',z0,z1,z2,Wv];refine (Fu f0 f1 h3 h4).mono ?_;rintro _ _ ⟨rfl,rfl⟩;simp only [fc];exact ⟨_,rfl⟩
 . have hlt':¬((rank L n:Nat):Int)<(L.length:Int):=by omega
   simp only [fc,ai_ hlt',fq];exact ⟨_,rfl⟩
def uc:=jq bC (jq @kv @ln99)
theorem aE8:(Tryz.f162.name == "runtime.NumGoroutine")=false:=by kernel_rfl
theorem aF0:Tryz.f162.body.isNone=true:=by kernel_rfl
theorem aE7:(Extern.findNext Tryz.f162).isNone=true:=by kernel_rfl
theorem aE9:Extern.find Tryz.f162=some (Extern.SlicesOverlaps.overlaps Tryz.f162.params Tryz.f162.resultTypes):=by kernel_rfl
theorem Yj:Tryz.f162.params=#[99,99]:=by kernel_rfl
theorem over_eq {G h:Hp} {a b:Value} {K:VK}:opH P_ G (callFunc 162 #[a,b]) h K=wpH P_ G (Extern.SlicesOverlaps.overlaps Tryz.f162.params Tryz.f162.resultTypes #[a,b]) h K:=by
 have hb':∀(α β:Type) (s:Sem α) (g:α->Sem β),(s >>= g)=s.bind g:=fun _ _ _ _=>rfl;have hn:Extern.findNext Tryz.f162=none:=by simpa using aE7
 have hx:=Tryz.func162;unfold opH callFunc;simp only [hb',program,Sem.bind,wpH,hx,aE8,aF0,if_true,aI_,if_false,mark,hn,aE9,pure];rw [dp];rfl
theorem over_no {G h:Hp} {x b o la ca lb cb:Nat} {cs cs2:Array Value} {e e2:TypeId} (hx:h x=some (.cells cs e (0,0))) (hb:h b=some (.cells cs2 e2 (0,0))) (hne:x≠b) {K:VK}:
 opH P_ G (callFunc 162 #[.slice (some ⟨x,0,none⟩) la ca,.slice (some ⟨b,o,none⟩) lb cb]) h K=K (.bool false) h:=by
 rw [over_eq];have hb':∀(α β:Type) (s:Sem α) (g:α->Sem β),(s >>= g)=s.bind g:=fun _ _ _ _=>rfl;have lx:HL.look G h x=some (.cells cs e (0,0)):=bj hx;have lb':HL.look G h b=some (.cells cs2 e2 (0,0)):=bj hb;obtain ⟨i,z,hi,hsz,_⟩:=eoslot.get;rw [Yj];conv=>lhs;arg 3;whnf
 simp only [hb',underlying,program,sizeOf,typeInfo,Sem.bind,pure,wpH,dp,un99,hi,aV_,ar_];rw [show (#[99,99]:Array TypeId)[0]=99 from rfl,un99];simp only [wpH,dp,hi];split
 . rfl
 . have hxb:(x != b)=true:=by simpa using hne
   have hxb2:(x==b)=false:=by simpa using hne
   simp [frozen,noView,viewAt,mayBeOne,stringish,shape,wpH,dp,lx,lb',rh,E5,hxb,hxb2,bind,pure,getObj,Sem.bind]
theorem cap32 {G h:Hp} {a:Option Addr} {n c:Nat} {K:VK}:wpH P_ G (Builtin.cap_ #[99] 3 #[.slice a n c]) h K=K c h:=by kernel_rfl
theorem add0 {b n:Nat}:(⟨b,0,none⟩:Addr).add n=⟨b,n,none⟩:=by rw [ox,a1_]
theorem Xg {A D:List Slot} {x:Slot} {zs:List Value} {m:Nat}:∃rest,(((dm.rows A++zs).take (A.length*3)++dm.rows [x]++(dm.rows A++zs).drop (A.length*3+[x].length*dm.n)).take ((A.length+1)*3)++dm.rows D++
 ((dm.rows A++zs).take (A.length*3)++dm.rows [x]++(dm.rows A++zs).drop (A.length*3+[x].length*dm.n)).drop m)=dm.rows (A++x::D)++rest:=by
 have e1:(dm.rows A++zs).take (A.length*3)=dm.rows A:=List.take_left' (by rw [dm.rows_length];rfl);rw [e1,<- dm.rows_append];rw [List.take_left' (l₁:=dm.rows (A++[x])) (by rw [dm.rows_length];simp;rfl),<- dm.rows_append];rw [show A++[x]++D=A++x::D by simp];exact ⟨_,rfl⟩
theorem am9 {L:List Slot} {i:Nat} {x:Slot} {t:List Value} (hi:i<L.length) {m:Nat}:∃rest,(((dm.rows L++t).take ((i+1)*3)++dm.rows (L.drop i)++(dm.rows L++t).drop m).take (i*3)++dm.rows [x]++
 ((dm.rows L++t).take ((i+1)*3)++dm.rows (L.drop i)++(dm.rows L++t).drop m).drop (i*3+[x].length*dm.n))=dm.rows (L.take i++x::L.drop i)++rest:=by
 refine ⟨(dm.rows L++t).drop m,?_⟩;have e1:(dm.rows L++t).take ((i+1)*3)=dm.rows (L.take (i+1)):=dm.rows_take (by omega);rw [e1,<- dm.rows_append];have hlen:(L.take (i+1)++L.drop i).length=L.length+1:=by simp;omega
 have e2:=dm.rows_take (L:=L.take (i+1)++L.drop i) (t:=(dm.rows L++t).drop m) (k:=i) (by omega);have e3:=dm.rows_drop (L:=L.take (i+1)++L.drop i) (t:=(dm.rows L++t).drop m) (k:=i+1) (by omega);rw [show dm.n=3 from rfl]at e2 e3 ⊢;rw [e2,show i*3+[x].length*3=(i+1)*3 by simp;omega,e3];have t1:(L.take (i+1)++L.drop i).take i=L.take i:=by rw [bu_ (by simp;omega),List.take_take];congr 1;omega
 have t2:(L.take (i+1)++L.drop i).drop (i+1)=L.drop i:=List.drop_left' (by simp;omega);rw [t1,t2,<- dm.rows_append,<- aC_,<- dm.rows_append];simp
theorem Vt {G h a:Hp} {R:List Hp} {v:Value} {L:List Slot} {i xb:Nat} {x:Slot} (s:Sep (a::R) h) (d:Dis G h) (o:Slc dm 203 a v L) (hx:h xb=some (qg x)) (hxa:a xb=none) (hi:i<=L.length) (hlen:L.length<=900000):
 bn P_ G 144 #[v,i,.slice (some ⟨xb,0,none⟩) 1 1] h (fun u h'=>∃a',Slc dm 203 a' u (L.take i++x::L.drop i)/\Sep (a'::R) h'/\Dis G h'):=by
 refine aH4 (by simp) ?_;unfold S144;have sx:Sees dm G h (.slice (some ⟨xb,0,none⟩) 1 1) [x]:=Sees.row (c:=dm) (L:=[x]) hx rfl (aj_ _);obtain ⟨ob,o⟩:=o;cases ob with
 |none=>
  obtain ⟨rfl,rfl⟩:=o;obtain rfl:i=0:=by simpa using hi
  simp only [uc,show ((0:Nat):Int)=0 from rfl,Hy un99 rx,show (((1:Nat):Int)==0)=false from rfl];unfold Tk;simp (disch:=decide) only [uc,show ((0:Nat):Int)=0 from rfl,show ((0:Int)==0)=true from rfl];refine fh dm (by decide) un99 eoslot (by decide) (by decide) (M:=[x]) s d Slc.nil sx (by simp) fun v' a' h' o' s' d'=>?_;try simp (disch:=first|decide|omega) only [uc,Nat.reduceAdd,Nat.reduceMul]
  exact ⟨a',o',s',d'⟩
 |some b=>
  obtain ⟨cap,t,rfl,hb,hl⟩:=o;have hc:L.length<=cap:=by have:=congrArg (fun n=>n) hl;rw [ae_,dm.rows_length]at hl;have:dm.n=3:=rfl;rw [this]at hl;omega
  have ow:Slc dm 203 a (.slice (some ⟨b,0,none⟩) L.length cap) L:=⟨some b,cap,t,rfl,hb,hl⟩;have sv:=ow.sees (G:=G) (by decide) s.hd;have hbh:=s.hd _ _ hb;have hne:xb≠b:=fun e=>by rw [e,hb]at hxa;cases hxa
  simp only [uc,pk un99 rx (ac_ i) (show (i:Int)<=(L.length:Nat)by omega) hc,show (((1:Nat):Int)==0)=false from rfl];unfold Tk;simp (disch:=decide) only [uc];by_cases hin:i=L.length
  . subst hin;simp only [uc,show ((L.length:Int)==(L.length:Int))=true by simp];refine fh dm (by decide) un99 eoslot (by decide) (by decide) (M:=[x]) s d ow sx (by simp;omega) fun v' a' h' o' s' d'=>?_;try simp (disch:=first|decide|omega) only [uc,Nat.reduceAdd,Nat.reduceMul]
    refine ⟨a',?_,s',d'⟩;rw [am_ (aj_ _),a5_ (aj_ _)];exact o'
  have hin':i<L.length:=by omega
  simp only [uc,show ((i:Int)==(L.length:Int))=false by simp;omega];unfold ag6;have w1:IntKind.i64.wrap ((L.length:Int)+((1:Nat):Int))=((L.length+1:Nat):Int):=by rw [ng (by omega) (by omega)];omega
  simp (disch:=first|decide|omega) only [uc,w1,cap32];refine df (fun hgt=>?_) (fun hle=>?_)
  . have hcap:cap=L.length:=by omega
    have lt1:(L.take i).length=i:=by rw [aN_];omega
    have s0:Src G h dm.n (.slice (some ⟨b,0,none⟩) i cap) i (dm.rows (L.take i)):=by refine ⟨by rw [dm.rows_length,lt1],.inr ⟨b,0,cap,rfl,fun j hj=>?_⟩⟩;rw [bm (bj hbh),a1_,dm.rows_split L i,aC_,aq_ hj]
    have w2:((L.length+1:Nat):Int)-(i:Int)=((L.length+1-i:Nat):Int):=by omega
    simp only [uc,Ay un99 rx (ac_ i) (show (i:Int)<=(cap:Nat)by omega),w1,w2];refine W2 un99 (show P_.underlying 3=some (.int .i64)by kernel_rfl) eoslot (by decide) s0 (by omega) (by omega) (by omega) fun q cap' zs hq gq hcap' hzl=>?_;have ei:i+(L.length+1-i)=L.length+1:=by omega
    rw [ei]at hcap' ⊢;have hzl':zs.length=cap'*3-i*3:=by rw [ae_,dm.rows_length,lt1]at hzl;have:dm.n=3:=rfl;rw [this]at hzl;omega
    generalize e2:Hp.set h q _=h2;obtain ⟨l2,d2,b2⟩:=boxed e2 hq d gq;have hw:(i:Int)+((1:Nat):Int)=((i+1:Nat):Int):=by omega
    simp only [uc,pk un99 rx (ac_ i) (show (i:Int)<=(L.length+1:Nat)by omega) hcap',ah_ (show ¬cap'=i by omega),add0];rw [ad4 dm (by decide) un99 eoslot (M:=[x]) b2 ((sx.up l2 d2).src (by decide) (by simp)) (by simp;omega) (by rw [hzl,show dm.n=3 from rfl,a2_];omega)];generalize e3:Hp.set h2 q _=h3;have b3:=Xh e3;have hqb:q≠b:=fun e=>by rw [e,hbh]at hq;cases hq
    have hb3:h3 b=some (.cells (dm.rows L++t).toArray 203 (0,0)):=by rw [Gv e3 (Ne.symm hqb)];exact l2 _ _ hbh
    simp only [uc,hw,wd un99 rx (ac_ (i+1)) (show ((i+1:Nat):Int)<=(L.length+1:Nat)by omega) hcap',ah_ (show ¬cap'=i+1 by omega),add0,wd un99 rx (ac_ i) (show (i:Int)<=(L.length:Nat)by omega) hc,ah_ (show ¬cap=i by omega)];have hdl:(L.drop i).length=L.length-i:=bJ_
    rw [Pk dm (by decide) un99 eoslot (M:=L.drop i) b3 (by rw [hdl];exact bN_ (by omega)) (fun j hj=>by
     rw [bm (bj hb3),dm.rows_split L i,aC_,aF_ (by rw [dm.rows_length,lt1];exact cm_ _ _),dm.rows_length,lt1,show i*3+j-i*dm.n=j by rw [show dm.n=3 from rfl];omega,aq_ hj]) (by
     rw [hdl,show dm.n=3 from rfl];simp only [ae_,aN_,bJ_,dm.rows_length,lt1,show dm.n=3 from rfl,a2_,hzl']
     omega)]
    rw [show i*3=(L.take i).length*3 by rw [lt1],show (i+1)*3=((L.take i).length+1)*3 by rw [lt1]];obtain ⟨rest,er⟩:=Xg (A:=L.take i) (D:=L.drop i) (x:=x) (zs:=zs) (m:=((L.take i).length+1)*3+(L.drop i).length*dm.n);have hlr:=congrArg List.length er;rw [er];have sq:HL.Sep (noHp.set q (.cells (dm.rows (L.take i++x::L.drop i)++rest).toArray 203 (0,0))::a::R) (h3.set q (.cells (dm.rows (L.take i++x::L.drop i)++rest).toArray 203 (0,0))):=by have s1:=s.new (o := .cells (dm.rows (L.take i)++zs).toArray 203 (0,0)) hq;rw [e2]at s1;have s2:=s1.put (o:=Obj.cells (dm.rows (L.take i++x::L.drop i)++rest).toArray 203 (0,0)) bh;rw [set_set]at s2;rw [<- e3,set_set];exact s2
    try simp (disch:=first|decide|omega) only [uc,Nat.reduceAdd,Nat.reduceMul]
    refine ⟨_,⟨some q,cap',rest,?_,bh,?_⟩,sq.swap.drop,?_⟩
    . rw [ae_,an_,lt1,hdl,show i+(L.length-i+1)=L.length+1 by omega]
    . rw [<- hlr];simp only [ae_,aN_,bJ_,dm.rows_length,lt1,show dm.n=3 from rfl,a2_,hzl',hdl];omega
    . have d3:Dis G h3:=by rw [<- e3];exact d2.set gq
      exact d3.set gq
  . have hcap:L.length+1<=cap:=by omega
    have hl3:(dm.rows L++t).length=cap*3:=hl;unfold ag5;have hw:(i:Int)+((1:Nat):Int)=((i+1:Nat):Int):=by omega
    simp (disch:=first|decide|omega) only [uc,w1,Ay un99 rx (ac_ (L.length+1)) (show ((L.length+1:Nat):Int)<=(cap:Nat)by omega),hw,pk un99 rx (ac_ (i+1)) (show ((i+1:Nat):Int)<=(L.length+1:Nat)by omega) hcap,ah_ (show ¬cap=i+1 by omega),add0];unfold y_;rw [over_no hx hbh hne];simp only [uc,hw,wd un99 rx (ac_ (i+1)) (show ((i+1:Nat):Int)<=(L.length+1:Nat)by omega) hcap,ah_ (show ¬cap=i+1 by omega),add0,wd un99 rx (ac_ i) (show ((i:Nat):Int)<=(L.length+1:Nat)by omega) hcap,ah_ (show ¬cap=i by omega)];have hdl:(L.drop i).length=L.length-i:=bJ_;have lt1:(L.take i).length=i:=by rw [aN_];omega
    rw [Pk dm (by decide) un99 eoslot (M:=L.drop i) hbh (by rw [hdl];show min (L.length+1-i) (L.length+1-(i+1))=L.length-i;omega) (fun j hj=>by
     rw [bm (bj hbh),dm.rows_split L i,aC_,aF_ (by rw [dm.rows_length,lt1];exact cm_ _ _),dm.rows_length,lt1,show i*3+j-i*dm.n=j by rw [show dm.n=3 from rfl];omega,aq_ hj]) (by
     rw [hdl,show dm.n=3 from rfl,hl3]
     omega)]
    generalize e3:Hp.set h b _=h3;have b3:=Xh e3;have d3:Dis G h3:=by rw [<- e3];exact d.set (d _ _ hbh)
    have hx3:h3 xb=some (qg x):=by rw [Gv e3 hne];exact hx
    have sx3:Sees dm G h3 (.slice (some ⟨xb,0,none⟩) 1 1) [x]:=Sees.row (c:=dm) (L:=[x]) hx3 rfl (aj_ _);simp only [uc,pk un99 rx (ac_ i) (show ((i:Nat):Int)<=(L.length+1:Nat)by omega) hcap,ah_ (show ¬cap=i by omega),add0]
    rw [ad4 dm (by decide) un99 eoslot (M:=[x]) b3 (sx3.src (by decide) (by simp)) (by simp;omega) (by
     simp only [ae_,aN_,bJ_,dm.rows_length,lt1,show dm.n=3 from rfl,a2_,hdl];rw [ae_,dm.rows_length,show dm.n=3 from rfl]at hl3
     omega)]
    obtain ⟨rest,er⟩:=am9 (L:=L) (i:=i) (x:=x) (t:=t) hin' (m:=(i+1)*3+(L.drop i).length*dm.n);have hlr:=congrArg List.length er;rw [er];try simp (disch:=first|decide|omega) only [uc,Nat.reduceAdd,Nat.reduceMul]
    have sq:=s.put (o:=Obj.cells (dm.rows (L.take i++x::L.drop i)++rest).toArray 203 (0,0)) hb;rw [<- e3,set_set];refine ⟨_,⟨some b,cap,rest,?_,bh,?_⟩,sq,d.set (d _ _ hbh)⟩
    . rw [ae_,an_,lt1,hdl,show i+(L.length-i+1)=L.length+1 by omega]
    . rw [<- hlr];simp only [ae_,aN_,bJ_,dm.rows_length,lt1,show dm.n=3 from rfl,a2_,hdl];rw [ae_,dm.rows_length,show dm.n=3 from rfl]at hl3;omega
def ig:=jq bC (jq (jq (jq (jq @W4 (jq @Sq @pd)) (jq (jq @Ww @cf142) (jq @cf144 @Sg))) (jq (jq @Lh (jq @zu @V9)) (jq (jq @zt @aC8) (jq @zr @ix98p)))) (jq (jq (jq @Vk (jq @ld3 @ld3p)) (jq (jq @ld98 @ld98p) (jq @ld99 @ln99))) (jq (jq @li (jq @jc @mx)) (jq (jq @jw @we) (jq @Kc @true_and)))))
theorem sv_set {raws:List Sv} {c:Nat} {s:Sv} (hc:c<raws.length):(svC.rows raws).set c (.slice s.1 s.2.1 s.2.2)=svC.rows (raws.set c s):=by have:=svC.rows_put (t:=[]) (x:=s) hc;rw [av_,av_,show svC.n=1 from rfl,aW_]at this;exact this
theorem Og {ty:TypeId} {a io h:Hp} {R:List Hp} {G:Hp} {tp c:Nat} {T:List (List Slot)} {L:List Slot} {v:Value} (t:Tab ty a tp T) (s:HL.Sep (io::a::R) h) (d:Dis G h) (o:Slc dm 203 io v L) (hc:c<T.length):
 ∃(rb:Nat) (l:List Value),bf G a ⟨tp,0,none⟩=some (.slice (some ⟨rb,0,none⟩) T.length T.length)/\h rb=some (.cells l.toArray 99 (0,0))/\c<l.length/\
  ∃a',Tab ty a' tp (T.set c L)/\HL.Sep (a'::R) (h.set rb (.cells (l.set c v).toArray 99 (0,0)))/\Dis G (h.set rb (.cells (l.set c v).toArray 99 (0,0))):=by
 obtain ⟨rb,raws,pb,st,hl,hr⟩:=t;have s1:=s.split st;simp only [b0_,a8_]at s1;have hrb:h rb=some (.cells (svC.rows raws).toArray 99 (0,0)):=s1.at 2 rfl bh;obtain ⟨sa,cap,rfl,_⟩:=o.len (by decide);refine ⟨rb,svC.rows raws,?_,hrb,by rw [svC.rows_length,show svC.n=1 from rfl,hl];omega,?_⟩
 . rw [bm (bj (st.at 0 rfl bh))];rfl
 have e:=sv_set (raws:=raws) (c:=c) (s:=(sa,L.length,cap)) (by omega);simp only at e;rw [e];have s2:=(s1.pick 2 rfl rfl).put (o:=Obj.cells (svC.rows (raws.set c (sa,L.length,cap))).toArray 99 (0,0)) bh;rw [set_set]at s2;have s3:=(s2.pick 3 rfl rfl).pick 2 rfl rfl;obtain ⟨pb',s4,t4⟩:=Gw s3;have s5:=((s4.pick 1 rfl rfl).pick 2 rfl rfl);obtain ⟨a',s6,t6⟩:=uz s5;refine ⟨a',⟨rb,raws.set c (sa,L.length,cap),pb',?_,by simp [hl],fun i s L' h1 h2=>?_⟩,s6,d.set (d _ _ hrb)⟩
 . rw [aX_];exact t6
 . by_cases hi:i=c
   . subst hi;rw [aB_ (by omega)]at h1 h2;cases h1;cases h2;exact ⟨rfl,o.le (t4.in 0 rfl)⟩
   . rw [ax_ (Ne.symm hi)]at h1 h2;obtain ⟨e1,e2⟩:=hr i s L' h1 h2;exact ⟨e1,e2.le (t4.in 1 rfl)⟩
theorem mn_eq {a b:Int}:(if b<a then b else a)=min a b:=by split<;>omega
theorem mx_eq {a b:Int}:(if b>a then b else a)=max a b:=by split<;>omega
theorem ay7 {P:Program} {G h:Hp} {a b:Int} {K:Value->Prop}:pw P G h (Builtin.min_ #[3,3] 3 #[a,b]) K=K (.int .i64 (min a b)):=by rw [<- mn_eq];rfl
theorem az3 {P:Program} {G h:Hp} {a b:Int} {K:Value->Prop}:pw P G h (Builtin.max_ #[3,3] 3 #[a,b]) K=K (.int .i64 (max a b)):=by rw [<- mx_eq];rfl
theorem Z5 {P:Program} {G h:Hp} {a b:Int} {K:VK}:wpH P G (Builtin.min_ #[3,3] 3 #[a,b]) h K=K (.int .i64 (min a b)) h:=by rw [<- mn_eq];rfl
theorem Z7 {P:Program} {G h:Hp} {a b:Int} {K:VK}:wpH P G (Builtin.max_ #[3,3] 3 #[a,b]) h K=K (.int .i64 (max a b)) h:=by rw [<- mx_eq];rfl
theorem zg {r:Int}:∀{L:List Slot} {i:Nat} {s:Slot} {f t:Int} {out:List Slot},L[i]?=some s->m9 r (L.drop i) f t out=if j9 r f t s=true then m9 r (L.drop (i+1)) (min f s.f) (max t s.t) out else m9 r (L.drop (i+1)) f t (out++[s]):=by intro L i s f t out hs;obtain ⟨hlt,rfl⟩:=ad_.1 hs;rw [br_ hlt,m9]
theorem Vu {out:List Slot} {x:Slot}:Bo out x=out.take (rank out x.f)++x::out.drop (rank out x.f):=by unfold Bo rank;have e:=bm_ (p:=fun s=>decide (s.f<x.f)) (l:=out);have h1:=List.take_left' (l₁:=out.takeWhile fun s=>decide (s.f<x.f)) (l₂:=out.dropWhile fun s=>decide (s.f<x.f)) rfl;have h2:=List.drop_left' (l₁:=out.takeWhile fun s=>decide (s.f<x.f)) (l₂:=out.dropWhile fun s=>decide (s.f<x.f)) rfl;rw [e]at h1 h2;rw [h1,h2]
theorem ax1 {G h a:Hp} {R:List Hp} {tp:Nat} {T:List (List Slot)} {L:List Slot} {c r f t:Int} (tb:Tab 124 a tp T) (sp:HL.Sep (a::R) h) (h0:0<=c) (hL:T[c.toNat]?=some L) (g:Resv.Good L) (hlen:L.length<=800000) (hf:0<=f) (hft:f<t) (ht:t<=FV):
 bn P_ G 105 #[.pointer (some ⟨tp,0,none⟩),r,c,f,t] h (fun u h'=>u = .tuple #[]/\∃a',Tab 124 a' tp (T.set c.toNat (Resv.putL L r f t))/\HL.Sep (a'::R) h'/\Dis G h'):=by
 have h1:c<T.length:=by have:=(ad_.1 hL).1;omega
 refine bn.assume fun d=>aK5 (by simp) ?_;have da:Dis G a:=fun b o e=>d _ _ (sp.hd _ _ e);obtain ⟨rb,e1,e2⟩:=tb.see (G:=G) (Hp.le.refl a);obtain ⟨sa,cap,e3,e4⟩:=e2 _ _ hL;unfold S105;simp only [ig,ku sp.hd d e1,ix98 h0 h1,aW_,ku sp.hd d e3]
 refine dt (fun m q h3=>∃(i:Nat) (fi ti:Int) (io:Hp) (v:Value) (out:List Slot),m=L.length-i/\i<=L.length/\q 0 = .pointer (some ⟨tp,0,none⟩)/\q 1 = .int .i64 r/\q 2 = .int .i64 c/\q 3 = .int .i64 fi/\q 4 = .int .i64 ti/\q 10=v/\q 21 = .slice sa L.length cap/\q 22 = .int .i64 L.length/\q 23 = .int .i64 i/\
  Slc dm 203 io v out/\out.length<=i/\HL.Sep (io::a::R) h3/\Dis G h3/\m9 r (L.drop i) fi ti out=m9 r L f t []) ?_
  (m:=L.length) ⟨0,f,t,noHp,_,[],rfl,au_ _,by simp (disch:=decide) only [ig],by simp (disch:=decide) only [ig],by simp (disch:=decide) only [ig],by simp (disch:=decide) only [ig],by simp (disch:=decide) only [ig],rfl,by simp (disch:=decide) only [ig],by simp (disch:=decide) only [ig],by simp only [ig]<;>rfl,by simp (disch:=decide) only [ig];exact Slc.nil,au_ _,sp.none,d,rfl⟩
 rintro m q h3 ⟨i,fi,ti,io,v,out,rfl,hi,q0,q1,q2,q3,q4,q10,q21,q22,q23,o,ho,s3,d3,hm⟩ X HX;have l3:=s3.in 1 rfl;unfold al3;simp only [ig,q22,q23];refine df (fun hlt=>?_) (fun hge=>?_)
 . obtain ⟨s,hs⟩:∃s,L[i]?=some s:=⟨_,aa_ (by omega)⟩;obtain ⟨b,of,rfl,z0,z1,z2⟩:=Sees.slot (e4.up l3 d3) hs;unfold Nq;simp (disch:=first|decide|exact b8|exact bw|omega|rfl) only [ig,q21,q23,ix99 (ac_ i) hlt,z0,z1,z2];intro x hx gx;simp only [ig,q1];generalize eh:Hp.set h3 x _=h4;obtain ⟨l4,d4,b4⟩:=boxed eh hx d3 gx;have s4:HL.Sep (io::a::R) h4:=by rw [<- eh];exact s3.past hx
   have cx:∀j,bf G h4 ⟨x,j,none⟩=_:=fun j=>bm (bj b4)
   have k5:∀(K0:Exit->Rg->Hp->Prop) (q':Rg),(∀k,k<=11->q' k=q k)->q' 21=q 21->q' 22=q 22->q' 23=q 23->q' 12 = .pointer (some ⟨x,0,none⟩)->j9 r fi ti s=false->Ek G (di X K0) q' h4:=by
    intro K0 q' hq q'21 q'22 q'23 q'12 htb;unfold Ek;simp only [ig,q'12,cx];intro y hy gy;generalize ey:Hp.set h4 y _=h5;obtain ⟨l5,d5,b5⟩:=boxed ey hy d4 gy;have s5:HL.Sep (io::a::R) h5:=by rw [<- ey];exact s4.past hy
    rw [hq 10 (by decide),q10];refine fh dm (by decide) un99 eoslot (by decide) (by decide) (M:=[s]) s5 d5 o (Sees.row (c:=dm) (L:=[s]) b5 rfl (aj_ _)) (by simp;omega) fun v' a' h' o' s' d'=>?_;unfold Ad;simp (disch:=first|decide|omega) only [ig,q'23,q23];refine HX (L.length-(i+1)) _ _ (by omega) ⟨i+1,fi,ti,a',v',out++[s],rfl,by omega,by simp (disch:=decide) only [ig,hq 0 (by decide),q0],by simp (disch:=decide) only [ig,hq 1 (by decide),q1],by simp (disch:=decide) only [ig,hq 2 (by decide),q2],by simp (disch:=decide) only [ig,hq 3 (by decide),q3],by simp (disch:=decide) only [ig,hq 4 (by decide),q4],by simp (disch:=decide) only [ig],by simp (disch:=decide) only [ig,q'21,q21],by simp (disch:=decide) only [ig,q'22,q22],by simp only [ig]<;>rfl,o',by simp;omega,s',d',?_⟩;rw [<- hm,zg hs,ah_ (by rw [htb];decide)]
   cases hb:(s.r==r)with
   |false=>simp only [ig,hb,fq];exact k5 _ _ (fun k hk=>by simp (disch:=omega) only [bo]) (by simp (disch:=decide) only [ig]) (by simp (disch:=decide) only [ig]) (by simp (disch:=decide) only [ig]) (by simp (disch:=decide) only [ig]) (by unfold j9;rw [hb];rfl)
   |true=>
   simp only [ig,cx,q4];by_cases hb2:s.f<=ti;rotate_left
   . simp only [ig,ai_ hb2,fq];exact k5 _ _ (fun k hk=>by simp (disch:=omega) only [bo]) (by simp (disch:=decide) only [ig]) (by simp (disch:=decide) only [ig]) (by simp (disch:=decide) only [ig]) (by simp (disch:=decide) only [ig]) (by unfold j9;rw [ai_ hb2];simp)
   simp only [ig,af_ hb2,q3,cx];refine df (fun hb3=>?_) (fun hb3=>?_);rotate_left
   . exact k5 _ _ (fun k hk=>by simp (disch:=omega) only [bo]) (by simp (disch:=decide) only [ig]) (by simp (disch:=decide) only [ig]) (by simp (disch:=decide) only [ig]) (by simp (disch:=decide) only [ig]) (by unfold j9;rw [ai_ hb3];simp)
   simp only [ig,cx,q3,q4,ay7,az3];unfold Ad;simp (disch:=first|decide|omega) only [ig,q23];refine HX (L.length-(i+1)) _ _ (by omega) ⟨i+1,min fi s.f,max ti s.t,io,v,out,rfl,by omega,by simp (disch:=decide) only [ig,q0],by simp (disch:=decide) only [ig,q1],by simp (disch:=decide) only [ig,q2],by simp (disch:=decide) only [ig],by simp (disch:=decide) only [ig],by simp (disch:=decide) only [ig,q10],by simp (disch:=decide) only [ig,q21],by simp (disch:=decide) only [ig,q22],by simp only [ig]<;>rfl,o,by omega,s4,d4,?_⟩;rw [<- hm,zg hs,ak_ (by unfold j9;rw [hb,af_ hb2,af_ hb3];rfl)]
 obtain rfl:i=L.length:=by omega
 rw [a5_ (aj_ _),m9]at hm;obtain ⟨f',t',em,m1,m2,m3,m4,m5⟩:=Dr (r:=r) (f:=f) (t:=t) (out:=[]) g.apart (fun s hs=>(g.ok s hs).2.1) hft;rw [<- hm]at em;simp only [Prod.mk.injEq,a8_]at em;obtain ⟨rfl,rfl,eo⟩:=em;have ep:Resv.putL L r f t=Bo out ⟨fi,ti,r⟩:=by unfold Resv.putL;rw [<- hm]
 have hmem:∀s∈out,s∈L:=fun s hs=>by rw [eo]at hs;exact (bF_.1 hs).1
 have hsort:out.Pairwise fun a b=>a.f<=b.f:=by rw [eo];exact (Oj g.apart fun s hs=>(g.ok s hs).2.1).filter _
 have hfi:0<=fi:=by
  rcases m3 with rfl|⟨s,hs,_,rfl⟩
  . exact hf
  . exact (g.ok s hs).1
 try simp (disch:=first|decide|omega) only [ig,Nat.reduceAdd,Nat.reduceMul]
 unfold al4;simp (disch:=decide) only [ig,q10,q3];refine (Uk (n:=fi) (o.sees (by decide) (s3.in 0 rfl)) (by omega) hsort (fun s hs=>have k:=g.ok s (hmem s hs);⟨k.1,Int.le_trans (Int.le_of_lt k.2.1) k.2.2.1⟩) hfi (by omega)).mono ?_;rintro _ _ ⟨⟨bb,rfl⟩,rfl⟩;simp only [ig];refine ⟨a,l3,?_⟩;simp (disch:=first|decide|omega) only [ig,q0,q1,q2,q3,q4,q10,e1];intro x hx gx;generalize ex:Hp.set _ x _=h5;obtain ⟨l5,d5,b5⟩:=boxed ex hx d3 gx;have s5:HL.Sep (io::a::R) h5:=by rw [<- ex];exact s3.past hx
 refine (Vt (x:=⟨fi,ti,r⟩) s5 d5 o b5 ((s3.in 0 rfl).none hx) Zu (by omega)).mono ?_;rintro v6 h6 ⟨io6,o6,s6,d6⟩;rw [show out.take (rank out fi)++⟨fi,ti,r⟩::out.drop (rank out fi)=Resv.putL L r f t by rw [ep,Vu]]at o6;refine ⟨s6.in 1 rfl,?_⟩;obtain ⟨rb',l,e1',hrb,hcl,a',t',s7,d7⟩:=Og (c:=c.toNat) tb s6 d6 o6 (by omega);rw [e1]at e1';obtain rfl:rb=rb':=by simpa using e1'
 obtain ⟨sa6,cap6,rfl,_⟩:=o6.len (by decide);rw [aW_,ec sz99 rfl hrb hcl];exact ⟨a',t',s7,d7⟩
def fj:=jq bC (jq (jq (jq (jq @al75 @bd124_0) (jq @xa @kv)) (jq (jq @ad5 @cf104) (jq @cf105 @ac8))) (jq (jq (jq @fa75_0 @fa75_1) (jq @fa75_2 @ld3)) (jq (jq @ld75 @ln71) (jq @nq (jq @st75w @true_and)))))
def Of:Cod Want:=⟨3,fun s=>[.int .i64 s.c,.int .i64 s.f,.int .i64 s.t],fun _=>rfl,fun _ v hv=>by simp at hv;rcases hv with rfl|rfl|rfl<;>rfl⟩
theorem Sees.want {G h:Hp} {sa:Option Addr} {cap n:Nat} {L:List Want} (s:Sees Of G h (.slice sa n cap) L) {i:Nat} {x:Want} (hx:L[i]?=some x):
 ∃b o,sa=some ⟨b,o,none⟩/\bf G h ⟨b,o+i*3,none⟩=some (.int .i64 x.c)/\bf G h ⟨b,o+i*3+1,none⟩=some (.int .i64 x.f)/\bf G h ⟨b,o+i*3+2,none⟩=some (.int .i64 x.t):=by obtain ⟨b,o,c,e1,e2⟩:=s.get hx;simp only [Value.slice.injEq]at e1;obtain ⟨rfl,-,-⟩:=e1;have x0:=e2 0 (by decide);have x1:=e2 1 (by decide);have x2:=e2 2 (by decide);simp only [Of,bc_,ar_,as_]at x0 x1 x2;exact ⟨b,o,rfl,x0,x1,x2⟩
theorem R4 {T:Tb} {c:Int}:hasB T c=inT T.length c:=rfl
theorem yi {G h:Hp} {n:Nat} (h1:1<=n) (h2:n<=256):bn P_ G 24 #[n] h (fun u h'=>∃a tp,u = .tuple #[.pointer (some ⟨tp,0,none⟩),(0:Int)]/\Tab 124 a tp (List.replicate n [])/\HL.Sep [a,h] h'/\Dis G h'):=by
 refine bn.assume fun d=>enter24 (by simp) ?_;unfold S24;simp (disch:=decide) only [fj,ai_ (show ¬(n:Int)<1 by omega),show decide ((n:Int)>256)=false from ai_ (by omega)];unfold aT5;simp (disch:=decide) only [fj];rw [tf svC (none,0,0) (by decide) un98 eosv (by kernel_rfl) (by omega) (by omega)];intro rb hrb grb;simp only [fj];intro tp htp gtp;have s1:=(Sep.one (h:=h)).new (o := .cells (svC.rows (List.replicate n (none,0,0))).toArray 99 (0,0)) hrb;have d1:=d.set (o := .cells (svC.rows (List.replicate n (none,0,0))).toArray 99 (0,0)) grb;have s2:=s1.new (o := .cells #[.slice (some ⟨rb,0,none⟩) n n] 124 (0,0)) htp;have s3:=(s2.none.pick 2 rfl rfl).pick 2 rfl rfl;obtain ⟨a,s4,t4⟩:=uz s3;refine ⟨a,tp,rfl,⟨rb,List.replicate n (none,0,0),noHp,?_,by simp,fun i s L h1 h2=>?_⟩,s4,d1.set gtp⟩
 . rw [bG_];exact t4
 . rw [bS_]at h1 h2;split at h1
   . rename_i hi;rw [ak_ hi]at h2;cases h1;cases h2;exact ⟨rfl,Slc.nil⟩
   . cases h1
theorem F7 {α:Type} {L:List α} {i:Nat} {x:α} {p:α->Bool} (hx:L[i]?=some x):(L.take (i+1)).all p=((L.take i).all p&&p x):=by rw [aL_,hx,List.all_append];simp
theorem Jr {α:Type} {L:List α} {i:Nat} {x:α} {p:α->Bool} (hx:L[i]?=some x) (h:p x=false):L.all p=false:=by rw [bI_];exact ⟨x,ab_ hx,by rw [h];simp⟩
theorem Om {r:Int} {T:Tb} {L:List Want} {i:Nat} {x:Want} (hx:L[i]?=some x):wh r T (L.take (i+1))=putW r (wh r T (L.take i)) x:=by unfold wh;rw [aL_,hx,cj_];rfl
theorem Yo {G h a w:Hp} {R:List Hp} {tp b:Nat} {T:Tb} {r:Int} {v:Value} {l:List Want} (tb:Tab 124 a tp T) (sp:HL.Sep (a::w::R) h) (sv:Sees Of G w v l) (g:i7 T) (fw:Few T b) (hb:b+l.length<=800000):
 bn P_ G 50 #[.pointer (some ⟨tp,0,none⟩),r,v] h (fun u h'=>u = .int .i64 (lj T r l).1/\∃a',Tab 124 a' tp (lj T r l).2/\HL.Sep (a'::w::R) h'/\Dis G h'):=by
 obtain ⟨sa,cap,rfl⟩:=sv.len;refine bn.assume fun d=>enter50 (by simp) ?_;unfold S50;simp only [fj];refine df (fun hr=>?_) (fun hr=>?_)
 . try simp (disch:=first|decide|omega) only [fj,Nat.reduceAdd,Nat.reduceMul]
   have e:lj T r l=(1,T):=by unfold lj;rw [ak_ hr]
   rw [e];exact ⟨rfl,a,tb,sp,d⟩
 unfold aQ7;simp (disch:=decide) only [fj];generalize hKK:retK P_ G _ _=KK
 refine dt (fun m q h3=>∃i:Nat,m=l.length-i/\i<=l.length/\q 0 = .pointer (some ⟨tp,0,none⟩)/\q 1 = .int .i64 r/\q 2 = .slice sa l.length cap/\q 19 = .slice sa l.length cap/\q 20 = .int .i64 l.length/\q 21 = .int .i64 i/\HL.Sep (a::w::R) h3/\Dis G h3/\(l.take i).all (oc T.length)=true) ?_
  (m:=l.length) ⟨0,rfl,au_ _,by simp (disch:=decide) only [fj],by simp (disch:=decide) only [fj],by simp (disch:=decide) only [fj],by simp (disch:=decide) only [fj],by simp (disch:=decide) only [fj],by simp only [fj]<;>rfl,sp,d,rfl⟩
 rintro m q h3 ⟨i,rfl,hi,q0,q1,q2,q19,q20,q21,s3,d3,hv⟩ X HX;unfold ae5;simp only [fj,q20,q21];refine df (fun hlt=>?_) (fun hge=>?_)
 . obtain ⟨x,hx⟩:∃x,l[i]?=some x:=⟨_,aa_ (by omega)⟩;obtain ⟨bb,of,rfl,z0,z1,z2⟩:=Sees.want (sv.up (s3.in 1 rfl) d3) hx;unfold Ix;simp (disch:=first|decide|exact b8|exact bw|omega|rfl) only [fj,q19,q21,ix71 (ac_ i) hlt,z0,z1,z2];intro y hy gy;simp only [fj,q0];generalize eh:Hp.set h3 y _=h4;obtain ⟨l4,d4,b4⟩:=boxed eh hy d3 gy;have s4:HL.Sep (a::w::R) h4:=by rw [<- eh];exact s3.past hy
   have cy:∀j,bf G h4 ⟨y,j,none⟩=_:=fun j=>bm (bj b4);refine (K4 (c:=x.c) (tb.see (s4.in 0 rfl))).mono ?_;rintro _ h4 ⟨rfl,rfl⟩;rw [R4]
   have bad:∀r1:Rg,r1 6 = .int .i64 1->oc T.length x=false->KK .ret r1 h4:=fun r1 h6 hf=>by
    rw [<- hKK];have e:lj T r l=(1,T):=by unfold lj;rw [ah_ hr,ah_ (by rw [Jr hx hf];decide)]
    simp only [fj,h6,e];exact ⟨a,tb,s4,d4⟩
   have go:∀(K0:Exit->Rg->Hp->Prop) (r1:Rg),(∀k,k<=2->r1 k=q k)->r1 19=q 19->r1 20=q 20->r1 21=q 21->oc T.length x=true->B7 G (di X K0) r1 h4:=fun K0 r1 hk p19 p20 p21 ht=>by unfold B7;simp (disch:=first|decide|omega) only [fj,p21,q21];exact HX (l.length-(i+1)) _ _ (by omega) ⟨i+1,rfl,by omega,by simp (disch:=decide) only [fj,hk 0 (by decide),q0],by simp (disch:=decide) only [fj,hk 1 (by decide),q1],by simp (disch:=decide) only [fj,hk 2 (by decide),q2],by simp (disch:=decide) only [fj,p19,q19],by simp (disch:=decide) only [fj,p20,q20],by simp only [fj]<;>rfl,s4,d4,by rw [F7 hx,hv,ht];rfl⟩
   cases e1:inT T.length x.c with
   |false=>
    try simp only [fj,fq]
    exact bad _ (by simp only [fj]) (by unfold oc;rw [e1];rfl)
   |true=>
   try simp only [fj,cy]
   by_cases e2:x.f<0
   . try simp only [fj,af_ e2,fq]
     exact bad _ (by simp only [fj]) (by unfold oc;rw [ai_ (show ¬0<=x.f by omega)];simp)
   try simp only [fj,ai_ e2,cy]
   by_cases e3:x.f>=x.t
   . try simp only [fj,af_ e3,fq]
     exact bad _ (by simp only [fj]) (by unfold oc;rw [ai_ (show ¬x.f<x.t by omega)];simp)
   try simp only [fj,ai_ e3,cy]
   refine df (fun e4=>?_) (fun e4=>?_)
   . exact bad _ (by simp only [fj]) (by unfold oc;rw [ai_ (show ¬x.t<=FV by simp only [FV];omega)];simp)
   . exact go _ _ (fun k hk=>by simp (disch:=omega) only [bo]) (by simp (disch:=decide) only [fj]) (by simp (disch:=decide) only [fj]) (by simp (disch:=decide) only [fj]) (sd.2 ⟨uu.1 e1,by omega,by omega,by simp only [FV];omega⟩)
 obtain rfl:i=l.length:=by omega
 rw [am_ (aj_ _)]at hv;clear HX;try simp (disch:=first|decide|omega) only [fj,Nat.reduceAdd,Nat.reduceMul]
 unfold aQ6;simp (disch:=decide) only [fj,q2]
 refine dt (fun m q' h3=>∃i:Nat,m=l.length-i/\i<=l.length/\q' 0 = .pointer (some ⟨tp,0,none⟩)/\q' 1 = .int .i64 r/\q' 2 = .slice sa l.length cap/\q' 48 = .slice sa l.length cap/\q' 49 = .int .i64 l.length/\q' 50 = .int .i64 i/\HL.Sep (a::w::R) h3/\Dis G h3/\(l.take i).all (uk T r)=true) ?_
  (m:=l.length) ⟨0,rfl,au_ _,by simp (disch:=decide) only [fj,q0],by simp (disch:=decide) only [fj,q1],by simp (disch:=decide) only [fj,q2],by simp (disch:=decide) only [fj],by simp (disch:=decide) only [fj],by simp only [fj]<;>rfl,s3,d3,rfl⟩
 clear q0 q1 q2 q19 q20 q21 s3 d3;clear q h3;rintro m q h3 ⟨i,rfl,hi,q0,q1,q2,q19,q20,q21,s3,d3,hf⟩ X HX;unfold aQ2;simp only [fj,q20,q21];refine df (fun hlt=>?_) (fun hge=>?_)
 . obtain ⟨x,hx⟩:∃x,l[i]?=some x:=⟨_,aa_ (by omega)⟩;obtain ⟨bb,of,rfl,z0,z1,z2⟩:=Sees.want (sv.up (s3.in 1 rfl) d3) hx;obtain ⟨⟨c0,c1⟩,f0,f1,f2⟩:=sd.1 (az_.1 hv x (ab_ hx));unfold Qd;simp (disch:=first|decide|exact b8|exact bw|omega|rfl) only [fj,q19,q21,ix71 (ac_ i) hlt,z0,z1,z2];intro y hy gy;simp only [fj,q0,q1];generalize eh:Hp.set h3 y _=h4;obtain ⟨l4,d4,b4⟩:=boxed eh hy d3 gy;have s4:HL.Sep (a::w::R) h4:=by rw [<- eh];exact s3.past hy
   have cy:∀j,bf G h4 ⟨y,j,none⟩=_:=fun j=>bm (bj b4);refine (Cq (r:=r) (f:=x.f) (t:=x.t) (tb.see (s4.in 0 rfl)) c0 (pm c0 c1) (by have:=vh fw x.c;omega)).mono ?_;rintro _ h4 ⟨rfl,rfl⟩;cases e1:l8 (rowT T x.c) r x.f x.t with
   |false=>
    try simp only [fj]
    rw [<- hKK];have e:lj T r l=(18,T):=by unfold lj;rw [ah_ hr,ak_ hv,ah_ (by rw [Jr hx (by unfold uk;exact e1)];decide)]
    simp only [fj,e];exact ⟨a,tb,s4,d4⟩
   |true=>
    try simp only [fj]
    unfold Lz;simp (disch:=first|decide|omega) only [fj,q21];exact HX (l.length-(i+1)) _ _ (by omega) ⟨i+1,rfl,by omega,by simp (disch:=decide) only [fj,q0],by simp (disch:=decide) only [fj,q1],by simp (disch:=decide) only [fj,q2],by simp (disch:=decide) only [fj,q19],by simp (disch:=decide) only [fj,q20],by simp only [fj]<;>rfl,s4,d4,by rw [F7 hx,hf];unfold uk;rw [e1];rfl⟩
 obtain rfl:i=l.length:=by omega
 rw [am_ (aj_ _)]at hf;clear HX;try simp (disch:=first|decide|omega) only [fj,Nat.reduceAdd,Nat.reduceMul]
 unfold aQ5;simp (disch:=decide) only [fj,q2]
 refine dt (fun m q' h3=>∃(i:Nat) (a':Hp),m=l.length-i/\i<=l.length/\q' 0 = .pointer (some ⟨tp,0,none⟩)/\q' 1 = .int .i64 r/\q' 65 = .slice sa l.length cap/\q' 66 = .int .i64 l.length/\q' 67 = .int .i64 i/\Tab 124 a' tp (wh r T (l.take i))/\HL.Sep (a'::w::R) h3/\Dis G h3) ?_
  (m:=l.length) ⟨0,a,rfl,au_ _,by simp (disch:=decide) only [fj,q0],by simp (disch:=decide) only [fj,q1],by simp (disch:=decide) only [fj],by simp (disch:=decide) only [fj],by simp only [fj]<;>rfl,tb,s3,d3⟩
 clear q0 q1 q2 q19 q20 q21 s3 d3;clear q h3;rintro m q h3 ⟨i,a3,rfl,hi,q0,q1,q19,q20,q21,t3,s3,d3⟩ X HX;unfold aQ3;simp only [fj,q20,q21];refine df (fun hlt=>?_) (fun hge=>?_)
 . obtain ⟨x,hx⟩:∃x,l[i]?=some x:=⟨_,aa_ (by omega)⟩;obtain ⟨bb,of,rfl,z0,z1,z2⟩:=Sees.want (sv.up (s3.in 1 rfl) d3) hx;obtain ⟨⟨c0,c1⟩,f0,f1,f2⟩:=sd.1 (az_.1 hv x (ab_ hx));have sub:∀u∈l.take i,u∈l:=fun u hu=>List.mem_of_mem_take hu;obtain ⟨g3,fw3,l3,k3⟩:=Km (by omega:0<=r) (l:=l.take i) g fw (az_.2 fun u hu=>az_.1 hv u (sub u hu)) (az_.2 fun u hu=>az_.1 hf u (sub u hu));unfold Qf;simp (disch:=first|decide|exact b8|exact bw|omega|rfl) only [fj,q19,q21,ix71 (ac_ i) hlt,z0,z1,z2];intro y hy gy;simp only [fj,q0,q1];generalize eh:Hp.set h3 y _=h4;obtain ⟨l4,d4,b4⟩:=boxed eh hy d3 gy;have s4:HL.Sep (a3::w::R) h4:=by rw [<- eh];exact s3.past hy
   have hlen:(rowT (wh r T (l.take i)) x.c).length<=800000:=by have h5:=vh fw3 x.c;rw [aN_]at h5;omega
   refine (ax1 (r:=r) t3 s4 c0 (pm c0 (by rw [l3];exact c1)) (sf g3 x.c) hlen f0 f1 f2).mono ?_;rintro _ h5 ⟨rfl,a5,t5,s5,d5⟩;unfold Qe;simp (disch:=first|decide|omega) only [fj,q21];refine HX (l.length-(i+1)) _ _ (by omega) ⟨i+1,a5,rfl,by omega,by simp (disch:=decide) only [fj,q0],by simp (disch:=decide) only [fj,q1],by simp (disch:=decide) only [fj,q19],by simp (disch:=decide) only [fj,q20],by simp only [fj]<;>rfl,?_,s5,d5⟩;rw [Om hx];exact t5
 obtain rfl:i=l.length:=by omega
 rw [am_ (aj_ _)]at t3;try simp (disch:=first|decide|omega) only [fj,Nat.reduceAdd,Nat.reduceMul]
 unfold aQ4;have e:lj T r l=(0,wh r T l):=by unfold lj;rw [ah_ hr,ak_ hv,ak_ hf]
 rw [<- hKK];simp only [fj,e];exact ⟨a3,t3,s3,d3⟩
def Ip:=jq bC (jq (jq (jq @al110 @and_true) (jq @Hd (jq @kv @cf126))) (jq (jq @cf154 (jq @ld3 @A9)) (jq @yc (jq @st110w @true_and))))
theorem un58:P_.underlying 110=some (.array 2 3):=by kernel_rfl
theorem sz3':(P_.info? 3).map (·.size)=some 1:=sz3
theorem ix58a {G h:Hp} {b o:Nat} {K:VK}:wpH P_ G (Instr.indexAt 110 (.pointer (some ⟨b,o,none⟩)) (.int .i64 0)) h K=K (.pointer (some ⟨b,o,none⟩)) h:=by rw [G5 un58 sz3' (by decide) (by decide),ox];rfl
theorem ix58b {G h:Hp} {b o:Nat} {K:VK}:wpH P_ G (Instr.indexAt 110 (.pointer (some ⟨b,o,none⟩)) (.int .i64 1)) h K=K (.pointer (some ⟨b,o+1,none⟩)) h:=by rw [G5 un58 sz3' (by decide) (by decide),ox];rfl
theorem Pj {G h:Hp} {a:Int}:bn P_ G 154 #[a] h (fun u h'=>u = .int .i64 (cutI a)/\h'=h):=by refine aG5 (by simp) ?_;unfold S154;simp only [Ip,Z5,Z7];simp [cutI,FV]
theorem ldP2 {G h:Hp} {a:Addr} {K:VK}:wpH P_ G (Instr.loadAt 110 (.pointer (some a))) h K=(∃x0,bf G h (a.add 0)=some x0/\∃x1,bf G h (a.add 1)=some x1/\K (.agg #[x0,x1]) h):=by kernel_rfl
theorem Hc {G h:Hp} {a b:Int}:bn P_ G 126 #[a,b] h (fun u h'=>u = .agg #[(cutI a),(cutI b)]/\h'=h):=by refine bn.assume fun d=>quietly (aI8 (by simp) ?_);unfold S126;simp (disch:=decide) only [Ip,al110];intro x hx gx;refine (Pj (a:=a)).mono ?_;rintro _ _ ⟨rfl,rfl⟩;refine (Pj (a:=b)).mono ?_;rintro _ _ ⟨rfl,rfl⟩;simp (disch:=first|decide|exact b8|exact bw|omega|rfl) only [Ip,ldP2];exact dw hx
theorem ad3 {a:Int}:0<=cutI a/\cutI a<=FV:=by unfold cutI;simp only [FV];omega
theorem av5 {G h:Hp} {a b:Int}:bn P_ G 77 #[a,b] h (fun u h'=>u = .int .i64 (sumI a b)/\h'=h):=by
 refine bn.assume fun d=>quietly (enter77 (by simp) ?_);unfold S77;simp only [Ip];refine (Hc (a:=a) (b:=b)).mono ?_;rintro _ _ ⟨rfl,rfl⟩;obtain ⟨a0,a1⟩:=ad3 (a:=a);obtain ⟨b0,b1⟩:=ad3 (a:=b);simp only [FV]at a1 b1;simp (disch:=first|decide|exact b8|exact bw|omega|rfl) only [Ip,al110];intro x hx gx;simp (disch:=first|decide|omega) only [Ip,ix58a,ix58b];refine df (fun h1=>?_) (fun h1=>?_)
 . try simp (disch:=first|decide|omega) only [Ip,Nat.reduceAdd,Nat.reduceMul]
   exact ⟨by unfold sumI;rw [ak_ h1],dw hx⟩
 . unfold aP1;simp (disch:=first|decide|omega) only [Ip,ix58a,ix58b];exact ⟨by unfold sumI;rw [ah_ h1],dw hx⟩
end Go.Proofs.YtfflipnhffknnaaGreatDoor.Rv
end
section
namespace Go.Proofs.YtfflipnhffknnaaGreatDoor
open Go Go.HL
section
variable (G:Hp) (K:EK) (r:Rg) (h:Hp)
def md53:Nat->Hint
 |_=>m0_
def aQ1:Prop:=
 opH P_ G (jh (r 0) #[(.func (.func 107) #[] #[r 5,r 3])]) h fun g h=>o_ G (l_ 103 (r 5)) h fun j h=>
 K .ret (u5 r 12 (r 0) 13 (.func (.func 107) #[] #[r 5,r 3]) 14 g 15 j 4 j) h
def S53:Prop:=
 o_ G (Instr.box 3 (r 1)) h fun g h=>o_ G (Instr.alloc 103 true (.tuple #[])) h fun j h=>
 opH P_ G (xEq .eql 106 (.tmp 0) (.const .nilFunc) (r 0) .nilFunc) h fun s h=>g_ s false (o_ G (l_ 3 g) h) h fun u h=>g_ s false (o_ G (z2_ u (1:Int)) h) h fun w h=>
 opH P_ G (dh s (.bool true) w) h fun z h=>
 (fun q=>cond z
 (K .ret (upd q 4 (.slice none 0 0)) h)
 (aQ1 G K q h))
 (u9 r 3 g 4 (.slice none 0 0) 5 j 6 (r 0) 7 s 8 s 9 u 10 w 11 z)
theorem enter53:Ent 16 53 [.tmp 4] S53:=ent_ (m:=md53) (c:=(Tryz.f53.body.getD .skip)) (fun _ _ _ _=>by kernel_rfl) Tryz.func53 rfl rfl rfl
def md107:Nat->Hint
 |_=>m0_
def S107:Prop:=
 o_ G (l_ 103 (r 2)) h fun g h=>o_ G (Instr.build 110 #[(0,(r 0)),(1,(r 1))]) h fun j h=>o_ G (Instr.buildSlice 103 1 #[(0,j)]) h fun s h=>o_ G (Builtin.append_ #[103,103] 103 #[g,s]) h fun u h=>
 opH P_ G (x_ 103 (r 2) u) h fun w h=>o_ G (l_ 103 (r 2)) h fun w h=>o_ G (k_ 103 w) h fun z h=>o_ G (l_ 3 (r 3)) h fun C h=>o_ G (z2_ z C) h fun D h=>
 K .ret (u2 (u10 r 6 (.bool false) 7 g 8 (r 0) 9 (r 1) 10 j 11 s 12 u 13 w 14 z 15 C) 16 D 6 D) h
theorem aK3:Ent 17 107 [.tmp 6] S107:=ent_ (m:=md107) (c:=(Tryz.f107.body.getD .skip)) (fun _ _ _ _=>by kernel_rfl) Tryz.func107 rfl rfl rfl
end
end Go.Proofs.YtfflipnhffknnaaGreatDoor
end
section
namespace Go.Proofs.YtfflipnhffknnaaGreatDoor.Rv
open Go Go.HL Go.Proofs.Resv
def ii:=jq bC (jq (jq (jq (jq @W4 @kv) (jq @sn (jq @ad5 @Lh))) (jq (jq @zu (jq @zt @zr)) (jq @Vk (jq @ld3 @ld34)))) (jq (jq (jq @aa0 @ld3p) (jq @ld98p (jq @ld99p @ln99p))) (jq (jq @jc (jq @mx @jw)) (jq @we (jq @zd @Kc)))))
abbrev gapA (g:Int × Int):Array Value:=#[g.1,g.2]
theorem aA7 {r:Int} {L:List Slot} {i:Nat} {s:Slot} {at_:Int} (hs:L[i]?=some s):ic r (L.drop i) at_=if s.r=r then ic r (L.drop (i+1)) at_ else if s.f>at_ then (at_,s.f)::ic r (L.drop (i+1)) s.t else ic r (L.drop (i+1)) s.t:=by obtain ⟨hlt,rfl⟩:=ad_.1 hs;rw [br_ hlt,ic]
theorem Vx {G h:Hp} {tp:Nat} {c r:Int}:bn P_ G 145 #[.pointer (some ⟨tp,0,none⟩),c,r] h (fun u h'=>∃b1 b2 b3,u = .func (.func 164) #[] #[.pointer (some ⟨b1,0,none⟩),.pointer (some ⟨b2,0,none⟩),.pointer (some ⟨b3,0,none⟩)]/\h.le h'/\Dis G h'/\h' b1=some (.cells #[.pointer (some ⟨tp,0,none⟩)] 34 (0,0))/\h' b2=some (.cells #[c] 3 (0,0))/\h' b3=some (.cells #[r] 3 (0,0))/\∀R,HL.Sep R h->HL.Sep R h'):=by
 refine bn.assume fun d=>aH3 (by simp) ?_;unfold S145;simp only [ii];intro x hx gx y hy gy z hz gz;have nxy:=ju hy;have nxz:x≠z:=fun e=>by subst e;rw [ci nxy,bh]at hz;cases hz
 have nyz:=ju hz;refine ⟨x,y,z,rfl,((dw hx).trans (dw hy)).trans (dw hz),((d.set gx).set gy).set gz,by rw [ci nxz,ci nxy,bh],by rw [ci nyz,bh],bh,fun R s=>((s.past hx).past hy).past hz⟩
theorem X8 {G h a q:Hp} {y:Value} {Y Z:List (Int × Int)->Hp->Prop} {cc:List (Int × Int)->Bool} {Lt:List (Int × Int)} {b1 b2 b3 tp:Nat} {T:Tb} {c r:Int}
 (yl:HL.Yl P_ gapA G y Y Z cc) (ya:Y Lt a) (s:HL.Sep [a,q] h) (h1:q b1=some (.cells #[.pointer (some ⟨tp,0,none⟩)] 34 (0,0))) (h2:q b2=some (.cells #[c] 3 (0,0))) (h3:q b3=some (.cells #[r] 3 (0,0))) (ts:TSee G q tp T)
 (fw:∀L∈T,L.length<=50000):
 bn P_ G 164 #[y,.pointer (some ⟨b1,0,none⟩),.pointer (some ⟨b2,0,none⟩),.pointer (some ⟨b3,0,none⟩)] h (fun _ h'=>Db G q Y Z (HL.feed cc Lt (if inT T.length c=true then Ii (rowT T c) r else [])) h'):=by
 refine bn.assume fun d=>Wh (by simp) ?_;unfold S164;generalize hTT:HL.feed cc Lt _=TT;have c1:∀{h':Hp},q.le h'->∀j,bf G h' ⟨b1,j,none⟩=_:=fun l j=>bm (bj (l _ _ h1));have c2:∀{h':Hp},q.le h'->∀j,bf G h' ⟨b2,j,none⟩=_:=fun l j=>bm (bj (l _ _ h2));have c3:∀{h':Hp},q.le h'->∀j,bf G h' ⟨b3,j,none⟩=_:=fun l j=>bm (bj (l _ _ h3));have lq:=s.in 1 rfl;simp only [ii,c1 lq,c2 lq];refine (K4 (c:=c) (ts.up lq d)).mono ?_;rintro _ h ⟨rfl,rfl⟩;rw [R4];cases hc:inT T.length c with
 |false=>
  rw [hc,ah_ (by decide)]at hTT;try simp only [ii]
  exact Db.go s d ya hTT
 |true=>
 obtain ⟨k0,k1⟩:=uu.1 hc;have hL:=pm k0 k1;rw [hc,ak_ rfl]at hTT;generalize hLL:rowT T c=L at*;obtain ⟨rb,e1,e2⟩:=ts;obtain ⟨sa,cap,e3,e4⟩:=e2 _ _ hL;have fL:=fw L (ab_ hL);try simp only [ii]
 unfold Tf;simp (disch:=decide) only [ii,c1 lq,c2 lq,c3 lq,ku lq d e1,ix98p k0 k1,aW_,ku lq d e3];generalize hKK:retK P_ G _ _=KK
 refine dt (fun m p h3=>∃(i:Nat) (a:Hp) (Lt:List (Int × Int)) (at_:Int),m=L.length-i/\i<=L.length/\p 0=y/\p 1 = .pointer (some ⟨b1,0,none⟩)/\p 2 = .pointer (some ⟨b2,0,none⟩)/\p 3 = .pointer (some ⟨b3,0,none⟩)/\p 5 = .int .i64 at_/\p 18 = .slice sa L.length cap/\p 19 = .int .i64 L.length/\p 20 = .int .i64 i/\
  Y Lt a/\HL.Sep [a,q] h3/\Dis G h3/\HL.feed cc Lt (ic r (L.drop i) at_)=TT) ?_
  (m:=L.length) ⟨0,a,Lt,0,rfl,au_ _,by simp (disch:=decide) only [ii],by simp (disch:=decide) only [ii],by simp (disch:=decide) only [ii],by simp (disch:=decide) only [ii],by simp (disch:=decide) only [ii],by simp (disch:=decide) only [ii],by simp (disch:=decide) only [ii],by simp only [ii]<;>rfl,ya,s,d,hTT⟩
 clear ya s d lq;clear hTT;clear Lt a h;rintro m p h ⟨i,a,Lt,at_,rfl,hi,p0,p1,p2,p3,p5,p18,p19,p20,ya,s,d,hTT⟩ X HX;have lq:=s.in 1 rfl;unfold Td;simp only [ii,p19,p20];refine df (fun hlt=>?_) (fun hge=>?_);rotate_left
 . obtain rfl:i=L.length:=by omega
   rw [a5_ (aj_ _),ic]at hTT;try simp (disch:=first|decide|omega) only [ii,Nat.reduceAdd,Nat.reduceMul]
   unfold Te;simp (disch:=decide) only [ii,p5];refine df (fun hl=>?_) (fun hl=>?_)
   . rw [ak_ hl]at hTT;simp only [ii,p0];refine kx ?_ (yl Lt (at_,FV) a q h ya s d);rintro v h' ⟨a',rfl,s',d',hy⟩;rw [<- hKK];try simp only [ii]
     cases hc2:cc (Lt++[(at_,FV)])with
     |true=>rw [hc2,ak_ rfl]at hy;rw [HL.La hc2]at hTT;exact Db.go s' d' hy hTT
     |false=>rw [hc2,ah_ (by decide)]at hy;exact Db.no s' d' hy hc2 hTT
   . rw [ah_ hl]at hTT;rw [<- hKK];try simp only [ii]
     exact Db.go s d ya hTT
 obtain ⟨sl,hs⟩:∃sl,L[i]?=some sl:=⟨_,aa_ (by omega)⟩;obtain ⟨b',of,rfl,z0,z1,z2⟩:=Sees.slot (e4.up lq d) hs;rw [aA7 hs]at hTT;unfold Eb;simp (disch:=first|decide|exact b8|exact bw|omega|rfl) only [ii,p18,p20,ix99 (ac_ i) hlt,z0,z1,z2];intro x hx gx;generalize eh:Hp.set h x _=h4;obtain ⟨l4,d4,b4⟩:=boxed eh hx d gx;have s4:HL.Sep [a,q] h4:=by rw [<- eh];exact s.past hx
 have lq4:=s4.in 1 rfl;have cx:∀j,bf G h4 ⟨x,j,none⟩=_:=fun j=>bm (bj b4)
 have next:∀(K0:Exit->Rg->Hp->Prop) (p':Rg) (h5 a':Hp) (Lt':List (Int × Int)) (at':Int),(∀k,k<=3->p' k=p k)->p' 18=p 18->p' 19=p 19->p' 20=p 20->p' 5 = .int .i64 at'->Y Lt' a'->HL.Sep [a',q] h5->Dis G h5->HL.feed cc Lt' (ic r (L.drop (i+1)) at')=TT->
  te G (di X K0) p' h5:=by intro K0 p' h5 a' Lt' at' hk w18 w19 w20 w5 ya' s' d' hT';unfold te;simp (disch:=first|decide|omega) only [ii,w20,p20];exact HX (L.length-(i+1)) _ _ (by omega) ⟨i+1,a',Lt',at',rfl,by omega,by simp (disch:=decide) only [ii,hk 0 (by decide),p0],by simp (disch:=decide) only [ii,hk 1 (by decide),p1],by simp (disch:=decide) only [ii,hk 2 (by decide),p2],by simp (disch:=decide) only [ii,hk 3 (by decide),p3],by simp (disch:=decide) only [ii,w5],by simp (disch:=decide) only [ii,w18,p18],by simp (disch:=decide) only [ii,w19,p19],by simp only [ii]<;>rfl,ya',s',d',hT'⟩
 simp only [ii,cx,p3,c3 lq4];refine nu (fun hb=>?_) (fun hb=>?_)
 . rw [ak_ (by simpa using hb)]at hTT;exact next _ _ _ a Lt at_ (fun k hk=>by simp (disch:=omega) only [bo]) (by simp (disch:=decide) only [ii]) (by simp (disch:=decide) only [ii]) (by simp (disch:=decide) only [ii]) (by simp (disch:=decide) only [ii,p5]) ya s4 d4 hTT
 rw [ah_ (by simpa using hb)]at hTT;unfold Ea
 have k7:∀(K0:Exit->Rg->Hp->Prop) (p':Rg) (h5 a':Hp) (Lt':List (Int × Int)),(∀k,k<=3->p' k=p k)->p' 18=p 18->p' 19=p 19->p' 20=p 20->p' 7 = .pointer (some ⟨x,0,none⟩)->h5 x=some (qg sl)->Y Lt' a'->HL.Sep [a',q] h5->Dis G h5->HL.feed cc Lt' (ic r (L.drop (i+1)) sl.t)=TT->
  wb G (di X K0) p' h5:=by intro K0 p' h5 a' Lt' hk w18 w19 w20 w7 b5 ya' s' d' hT';have c5:∀j,bf G h5 ⟨x,j,none⟩=_:=fun j=>bm (bj b5);unfold wb;simp only [ii,w7,c5];exact next _ _ _ a' Lt' sl.t (fun k hk'=>by simp (disch:=omega) only [bo];exact hk k hk') (by simp (disch:=decide) only [ii,w18]) (by simp (disch:=decide) only [ii,w19]) (by simp (disch:=decide) only [ii,w20]) (by simp only [ii]) ya' s' d' hT'
 simp (disch:=decide) only [ii,cx,p5];by_cases hg:sl.f>at_;rotate_left
 . rw [ah_ hg]at hTT;simp only [ii,show decide (sl.f>at_)=false from ai_ hg,fq];exact k7 _ _ _ a Lt (fun k hk=>by simp (disch:=omega) only [bo]) (by simp (disch:=decide) only [ii]) (by simp (disch:=decide) only [ii]) (by simp (disch:=decide) only [ii]) (by simp (disch:=decide) only [ii]) b4 ya s4 d4 hTT
 rw [ak_ hg]at hTT;simp only [ii,show decide (sl.f>at_)=true from af_ hg,p0,p5,cx];have s5:HL.Sep [a,q.set x (qg sl)] h4:=by rw [<- eh];have:=(s.swap.grow (o:=qg sl) hx).swap;exact this
 refine kx ?_ (yl Lt (at_,sl.f) a (q.set x (qg sl)) h4 ya s5 d4);rintro v h6 ⟨a',rfl,s',d',hy⟩;have b6:h6 x=some (qg sl):=s'.at 1 rfl bh;have s6:HL.Sep [a',q] h6:=(s'.swap.cut (dw (s.drop.hd.none hx))).swap;simp only [ii];cases hc2:cc (Lt++[(at_,sl.f)])with
 |true=>rw [hc2,ak_ rfl]at hy;rw [HL.La hc2]at hTT;simp only [ii];exact k7 _ _ _ a' _ (fun k hk=>by simp (disch:=omega) only [bo]) (by simp (disch:=decide) only [ii]) (by simp (disch:=decide) only [ii]) (by simp (disch:=decide) only [ii]) (by simp (disch:=decide) only [ii]) b6 hy s6 d' hTT
 |false=>
  rw [hc2,ah_ (by decide)]at hy;simp only [ii];rw [<- hKK];try simp only [ii]
  exact Db.no s6 d' hy hc2 hTT
def bRtM:=jq bC (jq (jq (jq (jq @W4 @kv) (jq @ad5 (jq @Lh @zu))) (jq (jq @zt @zr) (jq @Vk (jq @ld3 @ld34)))) (jq (jq (jq @aa0 @ld3p) (jq @ld98p (jq @ld99p @ln99p))) (jq (jq @jc (jq @mx @jw)) (jq @we (jq @zd @Kc)))))
theorem X7 {G h a q:Hp} {y:Value} {Y:List (Int × Int)->Hp->Prop} {N:Nat} {b1 b2 b3 tp:Nat} {T:Tb} {c r:Int}
 (yl:YlN P_ gapA (fun _=>True) N G y Y) (ya:Y [] a) (s:HL.Sep [a,q] h) (h1:q b1=some (.cells #[.pointer (some ⟨tp,0,none⟩)] 34 (0,0))) (h2:q b2=some (.cells #[c] 3 (0,0))) (h3:q b3=some (.cells #[r] 3 (0,0))) (ts:TSee G q tp T)
 (fw:∀L∈T,L.length<=50000) (hN:(if inT T.length c=true then Ii (rowT T c) r else []).length<=N+1):
 bn P_ G 164 #[y,.pointer (some ⟨b1,0,none⟩),.pointer (some ⟨b2,0,none⟩),.pointer (some ⟨b3,0,none⟩)] h (fun _ h'=>Ap G q Y (if inT T.length c=true then Ii (rowT T c) r else []) h'):=by
 refine bn.assume fun d=>Wh (by simp) ?_;unfold S164;generalize hTT:(if inT T.length c=true then Ii (rowT T c) r else [])=TT at hN ⊢;have c1:∀{h':Hp},q.le h'->∀j,bf G h' ⟨b1,j,none⟩=_:=fun l j=>bm (bj (l _ _ h1));have c2:∀{h':Hp},q.le h'->∀j,bf G h' ⟨b2,j,none⟩=_:=fun l j=>bm (bj (l _ _ h2));have c3:∀{h':Hp},q.le h'->∀j,bf G h' ⟨b3,j,none⟩=_:=fun l j=>bm (bj (l _ _ h3));have lq:=s.in 1 rfl;simp only [bRtM,c1 lq,c2 lq];refine (K4 (c:=c) (ts.up lq d)).mono ?_;rintro _ h ⟨rfl,rfl⟩;rw [R4];cases hc:inT T.length c with
 |false=>
  rw [hc,ah_ (by decide)]at hTT;try simp only [bRtM]
  exact Ap.go s d ya hTT
 |true=>
 obtain ⟨k0,k1⟩:=uu.1 hc;have hL:=pm k0 k1;rw [hc,ak_ rfl]at hTT;generalize hLL:rowT T c=L at*;obtain ⟨rb,e1,e2⟩:=ts;obtain ⟨sa,cap,e3,e4⟩:=e2 _ _ hL;have fL:=fw L (ab_ hL);try simp only [bRtM]
 unfold Tf;simp (disch:=decide) only [bRtM,c1 lq,c2 lq,c3 lq,ku lq d e1,ix98p k0 k1,aW_,ku lq d e3];generalize hKK:retK P_ G _ _=KK
 refine dt (fun m p h3=>∃(i:Nat) (a:Hp) (Lt:List (Int × Int)) (at_:Int),m=L.length-i/\i<=L.length/\p 0=y/\p 1 = .pointer (some ⟨b1,0,none⟩)/\p 2 = .pointer (some ⟨b2,0,none⟩)/\p 3 = .pointer (some ⟨b3,0,none⟩)/\p 5 = .int .i64 at_/\p 18 = .slice sa L.length cap/\p 19 = .int .i64 L.length/\p 20 = .int .i64 i/\
  Y Lt a/\HL.Sep [a,q] h3/\Dis G h3/\Lt++ic r (L.drop i) at_=TT) ?_
  (m:=L.length) ⟨0,a,[],0,rfl,au_ _,by simp (disch:=decide) only [bRtM],by simp (disch:=decide) only [bRtM],by simp (disch:=decide) only [bRtM],by simp (disch:=decide) only [bRtM],by simp (disch:=decide) only [bRtM],by simp (disch:=decide) only [bRtM],by simp (disch:=decide) only [bRtM],by simp only [bRtM]<;>rfl,ya,s,d,hTT⟩
 clear ya s d lq;clear hTT;clear a h;rintro m p h ⟨i,a,Lt,at_,rfl,hi,p0,p1,p2,p3,p5,p18,p19,p20,ya,s,d,hTT⟩ X HX;have lq:=s.in 1 rfl;unfold Td;simp only [bRtM,p19,p20];refine df (fun hlt=>?_) (fun hge=>?_);rotate_left
 . obtain rfl:i=L.length:=by omega
   rw [a5_ (aj_ _),ic]at hTT;try simp (disch:=first|decide|omega) only [bRtM,Nat.reduceAdd,Nat.reduceMul]
   unfold Te;simp (disch:=decide) only [bRtM,p5];refine df (fun hl=>?_) (fun hl=>?_)
   . rw [ak_ hl]at hTT;simp only [bRtM,p0];refine kx ?_ (yl Lt (at_,FV) a q h (by rw [<- hTT]at hN;simp only [ae_,an_,a3_]at hN;omega) trivial ya s d);rintro v h' ⟨a',rfl,s',d',hy⟩;rw [<- hKK];try simp only [bRtM]
     exact Ap.go s' d' hy hTT
   . rw [ah_ hl,av_]at hTT;rw [<- hKK];try simp only [bRtM]
     exact Ap.go s d ya hTT
 obtain ⟨sl,hs⟩:∃sl,L[i]?=some sl:=⟨_,aa_ (by omega)⟩;obtain ⟨b',of,rfl,z0,z1,z2⟩:=Sees.slot (e4.up lq d) hs;rw [aA7 hs]at hTT;unfold Eb;simp (disch:=first|decide|exact b8|exact bw|omega|rfl) only [bRtM,p18,p20,ix99 (ac_ i) hlt,z0,z1,z2];intro x hx gx;generalize eh:Hp.set h x _=h4;obtain ⟨l4,d4,b4⟩:=boxed eh hx d gx;have s4:HL.Sep [a,q] h4:=by rw [<- eh];exact s.past hx
 have lq4:=s4.in 1 rfl;have cx:∀j,bf G h4 ⟨x,j,none⟩=_:=fun j=>bm (bj b4)
 have next:∀(K0:Exit->Rg->Hp->Prop) (p':Rg) (h5 a':Hp) (Lt':List (Int × Int)) (at':Int),(∀k,k<=3->p' k=p k)->p' 18=p 18->p' 19=p 19->p' 20=p 20->p' 5 = .int .i64 at'->Y Lt' a'->HL.Sep [a',q] h5->Dis G h5->Lt'++ic r (L.drop (i+1)) at'=TT->
  te G (di X K0) p' h5:=by intro K0 p' h5 a' Lt' at' hk w18 w19 w20 w5 ya' s' d' hT';unfold te;simp (disch:=first|decide|omega) only [bRtM,w20,p20];exact HX (L.length-(i+1)) _ _ (by omega) ⟨i+1,a',Lt',at',rfl,by omega,by simp (disch:=decide) only [bRtM,hk 0 (by decide),p0],by simp (disch:=decide) only [bRtM,hk 1 (by decide),p1],by simp (disch:=decide) only [bRtM,hk 2 (by decide),p2],by simp (disch:=decide) only [bRtM,hk 3 (by decide),p3],by simp (disch:=decide) only [bRtM,w5],by simp (disch:=decide) only [bRtM,w18,p18],by simp (disch:=decide) only [bRtM,w19,p19],by simp only [bRtM]<;>rfl,ya',s',d',hT'⟩
 simp only [bRtM,cx,p3,c3 lq4];refine nu (fun hb=>?_) (fun hb=>?_)
 . rw [ak_ (by simpa using hb)]at hTT;exact next _ _ _ a Lt at_ (fun k hk=>by simp (disch:=omega) only [bo]) (by simp (disch:=decide) only [bRtM]) (by simp (disch:=decide) only [bRtM]) (by simp (disch:=decide) only [bRtM]) (by simp (disch:=decide) only [bRtM,p5]) ya s4 d4 hTT
 rw [ah_ (by simpa using hb)]at hTT;unfold Ea
 have k7:∀(K0:Exit->Rg->Hp->Prop) (p':Rg) (h5 a':Hp) (Lt':List (Int × Int)),(∀k,k<=3->p' k=p k)->p' 18=p 18->p' 19=p 19->p' 20=p 20->p' 7 = .pointer (some ⟨x,0,none⟩)->h5 x=some (qg sl)->Y Lt' a'->HL.Sep [a',q] h5->Dis G h5->Lt'++ic r (L.drop (i+1)) sl.t=TT->
  wb G (di X K0) p' h5:=by intro K0 p' h5 a' Lt' hk w18 w19 w20 w7 b5 ya' s' d' hT';have c5:∀j,bf G h5 ⟨x,j,none⟩=_:=fun j=>bm (bj b5);unfold wb;simp only [bRtM,w7,c5];exact next _ _ _ a' Lt' sl.t (fun k hk'=>by simp (disch:=omega) only [bo];exact hk k hk') (by simp (disch:=decide) only [bRtM,w18]) (by simp (disch:=decide) only [bRtM,w19]) (by simp (disch:=decide) only [bRtM,w20]) (by simp only [bRtM]) ya' s' d' hT'
 simp (disch:=decide) only [bRtM,cx,p5];by_cases hg:sl.f>at_;rotate_left
 . rw [ah_ hg]at hTT;simp only [bRtM,show decide (sl.f>at_)=false from ai_ hg,fq];exact k7 _ _ _ a Lt (fun k hk=>by simp (disch:=omega) only [bo]) (by simp (disch:=decide) only [bRtM]) (by simp (disch:=decide) only [bRtM]) (by simp (disch:=decide) only [bRtM]) (by simp (disch:=decide) only [bRtM]) b4 ya s4 d4 hTT
 rw [ak_ hg]at hTT;simp only [bRtM,show decide (sl.f>at_)=true from af_ hg,p0,p5,cx];have s5:HL.Sep [a,q.set x (qg sl)] h4:=by rw [<- eh];have:=(s.swap.grow (o:=qg sl) hx).swap;exact this
 refine kx ?_ (yl Lt (at_,sl.f) a (q.set x (qg sl)) h4 (by rw [<- hTT]at hN;simp only [ae_,an_]at hN;omega) trivial ya s5 d4);rintro v h6 ⟨a',rfl,s',d',hy⟩;have b6:h6 x=some (qg sl):=s'.at 1 rfl bh;have s6:HL.Sep [a',q] h6:=(s'.swap.cut (dw (s.drop.hd.none hx))).swap;simp only [bRtM];exact k7 _ _ _ a' _ (fun k hk=>by simp (disch:=omega) only [bo]) (by simp (disch:=decide) only [bRtM]) (by simp (disch:=decide) only [bRtM]) (by simp (disch:=decide) only [bRtM]) (by simp (disch:=decide) only [bRtM]) b6 hy s6 d' (by rw [<- hTT];simp)
end Go.Proofs.YtfflipnhffknnaaGreatDoor.Rv
end
section
namespace Go.Proofs.YtfflipnhffknnaaGreatDoor
open Go Go.HL Go.Proofs.Resv Go.Proofs.Srch
def bRtN:=jq bC (jq (jq (jq @al142 (jq @al28 @au4)) (jq @ff (jq @Pp @cf145))) (jq (jq @cf146 (jq @cf88 @ld142)) (jq (jq @ld28 @ln22) (jq @Ud @true_and))))
theorem setR2 {n d e:Nat} {v u:Value} {r:Rg} (hd:d<n) (he:e<n):setR n #[d,e] #[v,u] r=upd (upd r d v) e u:=by show putR n (putR n r (some d) v) (some e) u=_;simp only [putR,ak_ hd,ak_ he]
theorem ay3 {G:Hp} {a b c y:Value} {h:Hp} {K:VK}:opE P_ G (jh (.func (.func 164) #[] #[a,b,c]) #[y]) h K=bn P_ G 164 #[y,a,b,c] h K:=by kernel_rfl
def SpY (xb l:Nat) (ob:Obj) (L:List Sp) (b:Hp):Prop:=∃ip v,Slc nx 151 ip v L/\Sep [ip,noHp.set xb (.cells #[v] 142 (0,0)),noHp.set l ob] b
theorem Ya {G:Hp} {y:Value} {xb l:Nat} {oo:Option Exit->Obj} {r:Rg} (gl:G l=none) (ho:∀e,iy (oo e)=false) (g13:r 13 = .pointer (some ⟨xb,0,none⟩))
 (hy:∀(args:Array Value) (h1:Hp) (K1:Value->Hp->Prop),args.size=2->h1 l=some (oo none)->
  Ej G (setR 46 #[33,34] args r) h1 (fun e r2 h2=>e = .normal/\h2 l=some (oo none)/\∀ob,iy ob=false->Ei G r2 (h2.set l ob) (fun e _ h3=>h3 l=some ob/\match e with
   | .normal=>K1 (.bool true) (h3.set l (oo none))
   | .panic _=>False
   | .outgrown=>False
   |e=>K1 (.bool false) (h3.set l (oo (some e)))))->
  opH P_ G (jh y args) h1 K1):YlN P_ Rv.gapA (fun _=>True) 60000 G y (SpY xb l (oo none)):=by
 rintro L p b q h hL _ ⟨ip,v,sl,sb⟩ s d;have s1:Sep [ip,noHp.set xb (.cells #[v] 142 (0,0)),noHp.set l (oo none),q] h:=s.open sb
 refine hy (Rv.gapA p) h _ rfl (s1.at 2 rfl bh) ?_;rw [setR2 (by decide) (by decide)];unfold Ej;refine ⟨rfl,s1.at 2 rfl bh,fun ob hob=>?_⟩;have s2:=(s1.pick 2 rfl rfl).put (o:=ob) bh;rw [set_set]at s2;have d2:Dis G (h.set l ob):=d.set gl;generalize Hp.set h l ob=h2 at s2 d2 ⊢;have cb:bf G h2 ⟨xb,0,none⟩=some v:=by rw [bm (bj (s2.at 2 rfl bh))];rfl
 unfold Ei;simp (disch:=decide) only [bRtN,g13,cb];intro x hx gx;have s4:=s2.past (o := .cells #[p.1,p.2] 151 (0,0)) hx;have d4:=d2.set (o := .cells #[p.1,p.2] 151 (0,0)) gx;have hxs:(h2.set x (.cells #[p.1,p.2] 151 (0,0))) x=some (.cells #[p.1,p.2] 151 (0,0)):=bh;generalize Hp.set h2 x _=h4 at s4 d4 hxs ⊢;refine fh nx (by decide) (L:=L) (M:=[p]) Zj eospan (by decide) (by decide) (s4.pick 1 rfl rfl) d4 sl (Sees.row hxs (by simp [nx,Cod.rows]) (by simp)) (by simp;omega) ?_;intro v' ip' h5 sl' s5 d5;obtain ⟨sa,cap,rfl,hcap⟩:=sl.len (by decide);obtain ⟨sa',cap',rfl,hcap'⟩:=sl'.len (by decide);have hk5:h5 xb=some (.cells [Value.slice sa L.length cap].toArray 142 (0,0)):=s5.at 2 rfl bh;try simp (disch:=first|decide|omega) only [bRtN,Nat.reduceAdd,Nat.reduceMul]
 rw [ec sz142 rfl hk5 (by simp)];try simp only [bRtN,bh_]
 have s7:=(s5.pick 2 rfl rfl).put (o := .cells #[.slice sa' (L++[p]).length cap'] 142 (0,0)) bh;rw [set_set]at s7;have d7:=d5.set (o := .cells #[.slice sa' (L++[p]).length cap'] 142 (0,0)) (d5 _ _ hk5);generalize Hp.set h5 xb _=h7 at s7 d7 ⊢;try simp (disch:=first|decide|omega) only [bRtN,Nat.reduceAdd,Nat.reduceMul]
 refine ⟨s7.at 2 rfl bh,?_⟩;have s8:=(s7.pick 2 rfl rfl).put (o:=oo none) bh;rw [set_set]at s8;obtain ⟨b',t1,t2⟩:=Sep.pack [_,_,_] (s8.sel (L':=[ip',noHp.set xb (.cells #[.slice sa' (L++[p]).length cap'] 142 (0,0)),noHp.set l (oo none),q]) [2,1,0,3] (by decide) rfl);exact ⟨b',t1,d7.set gl,ip',_,sl',t2⟩
theorem ar5 {T:Tb} {r:Int} {N:List Int} {n:Int}:ly T r (N++[n])=tw (ly T r N) (o8 T r n):=by unfold ly;rw [cj_];rfl
theorem Cq {G h:Hp} {g cv:Value} {w k tp bb:Nat} {f:Nat->Nat->Int} {T:Tb} {r:Int} {cells:List Cell} (gs:GS G h g w k f) (ts:Rv.TSee G h tp T) (gt:i7 T) (fw:Few T bb) (hbb:bb<=50000) (sc:Sees dy G h cv cells) (hc:cells.length<=300):
 bn P_ G 108 #[g,.pointer (some ⟨tp,0,none⟩),r,cv] h (fun u h'=>∃ip,Slc nx 151 ip u (ly T r (cells.map (numI w k)))/\Sep [ip,h] h'/\Dis G h'):=by
 obtain ⟨ca,cc,rfl,_⟩:=id sc;refine bn.assume fun d=>aK2 (by simp) ?_;unfold S108;simp only [bRtN];intro x0 hx0 gx0;have s0:=(Sep.one (h:=h)).new (o := .cells #[(0:Int),(4611686018427387904:Int)] 151 (0,0)) hx0;have d0:=d.set (o := .cells #[(0:Int),(4611686018427387904:Int)] 151 (0,0)) gx0;generalize Hp.set h x0 _=h0 at s0 d0 ⊢;generalize hKK:retK P_ G _ _=KK
 refine dt (fun m p h'=>∃(i:Nat) (ip:Hp) (v:Value),m=cells.length-i/\i<=cells.length/\p 0=g/\p 1 = .pointer (some ⟨tp,0,none⟩)/\p 2 = .int .i64 r/\p 9=v/\p 18 = .slice ca cells.length cc/\p 19 = .int .i64 cells.length/\p 20 = .int .i64 i/\
  Slc nx 151 ip v (ly T r ((cells.take i).map (numI w k)))/\Sep [ip,h] h'/\Dis G h') ?_ (m:=cells.length)
  ⟨0,noHp.set x0 (.cells #[(0:Int),(4611686018427387904:Int)] 151 (0,0)),.slice (some ⟨x0,0,none⟩) 1 1,rfl,by omega,by simp (disch:=decide) only [bRtN],by simp (disch:=decide) only [bRtN],by simp (disch:=decide) only [bRtN],by simp (disch:=decide) only [bRtN],by simp (disch:=decide) only [bRtN],by simp (disch:=decide) only [bRtN],by simp only [bRtN];rfl,⟨some x0,1,[],rfl,by rw [bh];rfl,rfl⟩,s0,d0⟩
 rintro m p h1 ⟨i,ip,v,rfl,hi,g0,g1,g2,g9,g18,g19,g20,sl,s,d1⟩ X hX;unfold al0;simp only [bRtN,g19,g20];refine df (fun hlt=>?_) (fun hge=>?_);rotate_left
 . obtain rfl:i=cells.length:=by omega
   try simp (disch:=first|decide|omega) only [bRtN,Nat.reduceAdd,Nat.reduceMul]
   unfold al1;rw [<- hKK];try simp (disch:=decide) only [bRtN,g9]
   rw [bt_]at sl;exact ⟨ip,sl,s,d1⟩
 obtain ⟨c,hcx⟩:∃c,cells[i]?=some c:=⟨_,aa_ (by omega)⟩;obtain ⟨b,o,rfl,e1,e2⟩:=Sees.cell (sc.up (s.in 1 rfl) d1) hcx;have htk:cells.take (i+1)=cells.take i++[c]:=by rw [aL_,hcx];rfl
 unfold Np;simp (disch:=first|decide|exact b8|exact bw|omega|rfl) only [bRtN,g18,g20,g0,ix22 (ac_ i) hlt,e1,e2];intro y hy gy;have s2:=s.past (o := .cells #[c.1,c.2] 28 (0,0)) hy;have d2:=d1.set (o := .cells #[c.1,c.2] 28 (0,0)) gy;have hys:(h1.set y (.cells #[c.1,c.2] 28 (0,0))) y=some (.cells #[c.1,c.2] 28 (0,0)):=bh;try simp (disch:=first|decide|omega) only [bRtN,Nat.reduceAdd,Nat.reduceMul]
 generalize Hp.set h1 y _=h2 at s2 d2 hys ⊢;have cy:∀k,bf G h2 ⟨y,k,none⟩=_:=fun k=>bm (bj hys);try simp (disch:=first|decide|omega) only [bRtN,Nat.reduceAdd,Nat.reduceMul,cy]
 refine (qk (c:=c) (gs.up (s2.in 1 rfl) d2)).mono ?_;rintro _ h2 ⟨rfl,rfl⟩;try simp only [bRtN]
 refine df (fun hneg=>?_) (fun hpos=>?_)
 . rw [<- hKK];try simp only [bRtN]
   have hin:inT T.length (numI w k c)=false:=by
    cases e:inT T.length (numI w k c)with
    |false=>rfl
    |true=>have:=(uu.1 e).1;omega
   rw [aB2 (ba_.2 ⟨c,ab_ hcx,rfl⟩) hin];exact ⟨noHp,Slc.nil,s2.drop.none,d2⟩
 unfold Nn;simp (disch:=decide) only [bRtN,g1,g2];intro xb hxb gxb;have s3:=s2.new (o := .cells #[.slice none 0 0] 142 (0,0)) hxb;have d3:=d2.set (o := .cells #[.slice none 0 0] 142 (0,0)) gxb;try simp (disch:=first|decide|omega) only [bRtN,Nat.reduceAdd,Nat.reduceMul]
 generalize Hp.set h2 xb _=h3 at s3 d3 ⊢;refine (Rv.Vx).mono ?_;rintro _ h4 ⟨b1,b2,b3,rfl,l4,d4,q1,q2,q3,hR⟩;have s4:=hR _ s3;have hx4:h4 xb=some (.cells #[.slice none 0 0] 142 (0,0)):=s4.at 0 rfl bh;have ne1:b1≠xb:=fun e=>by rw [e,hx4]at q1;simp at q1
 have ne2:b2≠xb:=fun e=>by rw [e,hx4]at q2;simp at q2
 have ne3:b3≠xb:=fun e=>by rw [e,hx4]at q3;simp at q3
 obtain ⟨s5,sQ⟩:=s4.but;generalize hQ:but h4 xb=Q at s5 sQ;have dQ:Dis G Q:=fun b o e=>d4 b o (s5.in 1 rfl _ _ e);intro y2 l oo hl gl hoo hy2;rw [ay3];have yl:=Ya (xb:=xb) gl hoo (by simp (disch:=decide) only [bRtN]) hy2;have s6:Sep [noHp,noHp.set xb (.cells #[.slice none 0 0] 142 (0,0)),noHp.set l (oo none),Q] (h4.set l (oo none)):=((s5.new (o:=oo none) hl).none).sel [0,2,1,3] (by decide) rfl;obtain ⟨a,s7,sa⟩:=Sep.pack [_,_,_] s6
 refine (Rv.X7 (T:=T) yl ⟨noHp,.slice none 0 0,Slc.nil,sa⟩ s7 (by rw [<- hQ,Sk ne1];exact q1) (by rw [<- hQ,Sk ne2];exact q2) (by rw [<- hQ,Sk ne3];exact q3) (ts.up (sQ.in 1 rfl) dQ) (fun L hL=>by have:=fw L hL;omega)
  (by have:=G6 fw r (numI w k c);unfold o8 at this;omega)).mono ?_
 rintro _ h8 ⟨a',s8,d8,ip2,v2,sl2,sa2⟩;obtain ⟨h9,s9,t9⟩:=Sep.pack [_,_,_,_] ((((s8.open sa2).pick 3 rfl rfl).open sQ).sel (L':=[ip2,noHp.set xb (.cells #[v2] 142 (0,0)),ip,h,noHp.set l (oo none)]) [2,3,0,1,4] (by decide) rfl);have d9:Dis G h9:=fun b o e=>d8 b o (s9.in 0 rfl _ _ e);refine ⟨h9,s9.in 0 rfl,?_,.inl ⟨s9.at 1 rfl bh,?_⟩⟩
 . rcases s9.apart (b:=noHp.set l (oo none)) (by simp) l with e|e
   . exact e
   . rw [bh]at e;cases e
 try simp only [bRtN]
 unfold Nm;have cb:bf G h9 ⟨xb,0,none⟩=some v2:=by rw [bm (bj (t9.at 1 rfl bh))];rfl
 simp (disch:=decide) only [bRtN,cb,g9];have hlA:=Fh gt fw r ((cells.take i).map (numI w k));have hlB:=G6 fw r (numI w k c);have hmul:((cells.take i).map (numI w k)).length*(bb+1)<=300*50001:=bw_ (by rw [bq_,aN_];omega) (by omega);refine (Hc (A:=ly T r ((cells.take i).map (numI w k))) (B:=o8 T r (numI w k c)) (sl.see (by decide) (t9.in 2 rfl)) (sl2.see (by decide) (t9.in 0 rfl)) (by omega)).mono ?_;rintro v3 h10 ⟨ip3,sl3,s10,d10⟩;have s11:Sep [ip3,h] h10:=(s10.swap.cut (t9.in 3 rfl)).swap;unfold Eh;simp (disch:=first|decide|omega) only [bRtN,g20];refine hX (cells.length-(i+1)) _ _ (by omega) ⟨i+1,ip3,v3,rfl,by omega,by simp (disch:=decide) only [bRtN,g0],by simp (disch:=decide) only [bRtN,g1],by simp (disch:=decide) only [bRtN,g2],by simp (disch:=decide) only [bRtN],by simp (disch:=decide) only [bRtN,g18],by simp (disch:=decide) only [bRtN,g19],by simp only [bRtN];rfl,?_,s11,d10⟩;rw [htk,bQ_,bC_,List.map_nil,ar5,<- Cx _ _ _ (aj_ _) (rn gt r _) (Ew gt r _)];exact sl3
end Go.Proofs.YtfflipnhffknnaaGreatDoor
end
section
namespace Go.Proofs.YtfflipnhffknnaaGreatDoor
open Go Go.HL
section
variable (G:Hp) (K:EK) (r:Rg) (h:Hp)
def md90:Nat->Hint
 |_=>m0_
def aO0:Prop:=
 opH P_ G (callFunc 134 #[r 5,(.func (.func 135) #[] #[r 2])]) h fun g h=>
 c_ G 136 #[r 5] h fun j h=>
 K .ret (u6 r 15 (r 5) 16 (.func (.func 135) #[] #[r 2]) 17 g 18 (r 5) 19 j 4 j) h
def S90:Prop:=
 o_ G (Instr.box 68 (r 0)) h fun g h=>o_ G (Instr.box 48 (r 1)) h fun j h=>o_ G (l_ 68 g) h fun s h=>o_ G (l_ 48 j) h fun u h=>
 c_ G 127 #[s,u] h fun w h=>o_ G (Instr.extract w 0) h fun z h=>o_ G (Instr.extract w 1) h fun C h=>o_ G (Op.unary .not C) h fun D h=>
 (fun q=>cond D
 (K .ret (upd q 4 (.slice none 0 0)) h)
 (aO0 G K q h))
 (u3 (u10 r 2 g 3 j 4 (.slice none 0 0) 8 s 9 u 10 w 7 w 11 z 12 C 5 z) 6 C 13 C 14 D)
theorem enter90:Ent 20 90 [.tmp 4] S90:=ent_ (m:=md90) (c:=(Tryz.f90.body.getD .skip)) (fun _ _ _ _=>by kernel_rfl) Tryz.func90 rfl rfl rfl
def md135:Nat->Hint
 |1=>mh false [0,0,3,0,0,31,63,127] [m_,m_,e_,m_,m_,e_,n_,n_] (fs 2++[true]++fs 5) false
 |_=>m0_
def S135:Prop:=
 o_ G (Instr.box 28 (r 0)) h fun g h=>o_ G (Instr.box 28 (r 1)) h fun j h=>
 w_ G h (l_ 68 (r 2)) h fun s h'=>
 w_ G h (l_ 28 g) h' fun u h'=>
 c_ G 88 #[s,u] h' fun w h'=>h.le h'/\
 w_ G h (l_ 68 (r 2)) h' fun z h'=>
 w_ G h (l_ 28 j) h' fun C h=>
 c_ G 88 #[z,C] h fun D h=>
 p_ (z3_ w D) h fun E h=>
 K .ret (upd (u10 r 3 g 4 j 5 (.int .i64 0) 6 s 7 u 8 w 9 z 10 C 11 D 12 E) 5 E) h
theorem aI1:Ent 13 135 [.tmp 5] S135:=ent_ (m:=md135) (c:=(Tryz.f135.body.getD .skip)) (fun _ _ _ _=>by kernel_rfl) Tryz.func135 rfl rfl rfl
def md136:Nat->Hint
 |6=>mh false [0,0,3,7,0,0,32,112,240,511] [n_,n_,n_,m_,n_,n_,n_,n_,m_,m_] (fs 10) false
 |11=>mh false [0,0,3,7,0,0,32,112,240,511] [n_,n_,n_,m_,n_,n_,n_,n_,m_,m_] (fs 10) false
 |_=>m0_
def ai5 (G:Hp) (K:EK) (r:Rg) (h:Hp):Prop:=
 K .ret (u2 r 60 (r 0) 2 (r 0)) h
def Ee:Prop:=
 o_ G (z1_ (r 3) (1:Int)) h fun g h=>
 K .normal (u3 r 14 (r 3) 15 g 3 g) h
def Mw:Prop:=
 o_ G (Instr.sliceAt 22 (r 0) (some (r 3)) none none) h fun g h=>o_ G (Builtin.clear_ #[22] 0 #[g]) h fun j h=>o_ G (Instr.sliceAt 22 (r 0) none (some (r 3)) none) h fun j h=>
 K .ret (u7 r 54 (r 0) 55 (r 3) 56 g 57 (r 0) 58 (r 3) 59 j 2 j) h
def tj:Prop:=
 o_ G (z1_ (r 5) (1:Int)) h fun g h=>
 K .normal (u3 r 33 (r 5) 34 g 5 g) h
def Df:Prop:=
 p_ (i_ 22 (r 4) (r 5)) h fun g h'=>
 w_ G h (l_ 28 g) h' fun j h'=>
 p_ (z3_ (r 5) (1:Int)) h' fun s h'=>
 p_ (i_ 22 (r 4) s) h' fun u h'=>
 w_ G h (l_ 28 u) h' fun w h'=>
 dl P_ G h (xEq .neq 28 (.tmp 0) (.tmp 0) j w) h' fun z h=>
 cond z
 (o_ G (i_ 22 (r 4) (r 5)) h fun C h'=>o_ G (l_ 28 C) h' fun D h'=>o_ G (i_ 22 (r 0) (r 3)) h' fun E h'=>
 opH P_ G (x_ 28 E D) h' fun F h'=>o_ G (z1_ (r 3) (1:Int)) h' fun F h'=>
 tj G K (u10 (u10 r 35 (r 4) 36 (r 5) 37 g 38 j 39 (r 4) 40 (r 5) 41 s 42 u 43 w 44 z) 45 (r 0) 46 (r 3) 47 (r 4) 48 (r 5) 49 C 50 D 51 E 52 (r 3) 53 F 3 F) h')
 (tj G K (u10 r 35 (r 4) 36 (r 5) 37 g 38 j 39 (r 4) 40 (r 5) 41 s 42 u 43 w 44 z) h)
def Mu (r:Rg) (h:Hp) (K:EK):Prop:=
 o_ G (k_ 22 (r 4)) h fun g h=>o_ G (z2_ (r 5) g) h fun j h=>
 cond j
 (Df G K (u4 r 29 (r 5) 30 (r 4) 31 g 32 j) h)
 (K (.exit 2) (u4 r 29 (r 5) 30 (r 4) 31 g 32 j) h)
def Mx:Prop:=
 p_ (i_ 22 (r 0) (r 3)) h fun g h'=>
 w_ G h (l_ 28 g) h' fun j h'=>
 p_ (z3_ (r 3) (1:Int)) h' fun s h'=>
 p_ (i_ 22 (r 0) s) h' fun u h'=>
 w_ G h (l_ 28 u) h' fun w h'=>
 dl P_ G h (xEq .eql 28 (.tmp 0) (.tmp 0) j w) h' fun z h=>
 cond z
 (o_ G (Instr.sliceAt 22 (r 0) (some (r 3)) none none) h fun C h'=>
 du (Mu G) (u5 (u10 r 16 (r 0) 17 (r 3) 18 g 19 j 20 (r 0) 21 (r 3) 22 s 23 u 24 w 25 z) 26 (r 0) 27 (r 3) 28 C 4 C 5 (.int .i64 1)) h' (dc 2 (di (Mw G K) (dc 1 (di (Ee G K) K)))))
 (Ee G K (u10 r 16 (r 0) 17 (r 3) 18 g 19 j 20 (r 0) 21 (r 3) 22 s 23 u 24 w 25 z) h)
def ai4 (r:Rg) (h:Hp) (K:EK):Prop:=
 o_ G (k_ 22 (r 0)) h fun g h=>o_ G (z2_ (r 3) g) h fun j h=>
 cond j
 (Mx G K (u4 r 10 (r 3) 11 (r 0) 12 g 13 j) h)
 (K (.exit 0) (u4 r 10 (r 3) 11 (r 0) 12 g 13 j) h)
def ai6:Prop:=
 du (ai4 G) (upd r 3 (.int .i64 1)) h (dc 0 (di (ai5 G K) K))
def S136:Prop:=
 o_ G (k_ 22 (r 0)) h fun g h=>o_ G (z2_ g (2:Int)) h fun j h=>
 (fun q=>cond j
 (K .ret (u2 q 9 (r 0) 2 (r 0)) h)
 (ai6 G K q h))
 (u4 r 2 (.slice none 0 0) 6 (r 0) 7 g 8 j)
theorem aI0:Ent 61 136 [.tmp 2] S136:=ent_ (m:=md136) (c:=(Tryz.f136.body.getD .skip)) (fun _ _ _ _=>by kernel_rfl) Tryz.func136 rfl rfl rfl
end
section
variable (G:Hp) (K:EK) (r:Rg) (h:Hp)
def md21:Nat->Hint
 |_=>m0_
def S21:Prop:=
 o_ G (Instr.box 26 (r 0)) h fun g h=>o_ G (f_ 26 g 0) h fun j h=>o_ G (l_ 3 j) h fun s h=>o_ G (z7_ s (6:Int)) h fun u h=>g_ u true (o_ G (f_ 26 g 1) h) h fun w h=>g_ u true (o_ G (l_ 3 w) h) h fun z h=>g_ u true (o_ G (z7_ z (6:Int)) h) h fun C h=>
 opH P_ G (dh u C (.bool false)) h fun D h=>g_ D true (o_ G (f_ 26 g 14) h) h fun E h=>g_ D true (o_ G (l_ 3 E) h) h fun F h=>g_ D true (o_ G (z7_ F (4000:Int)) h) h fun I h=>
 opH P_ G (dh D I (.bool false)) h fun J h=>g_ J true (o_ G (f_ 26 g 7) h) h fun L h=>g_ J true (o_ G (l_ 3 L) h) h fun M h=>g_ J true (o_ G (z7_ M (100:Int)) h) h fun N h=>
 opH P_ G (dh J N (.bool false)) h fun O h=>g_ O true (o_ G (f_ 26 g 10) h) h fun P h=>g_ O true (o_ G (l_ 3 P) h) h fun Q h=>g_ O true (o_ G (z7_ Q (200:Int)) h) h fun U h=>
 opH P_ G (dh O U (.bool false)) h fun V h=>g_ V true (o_ G (f_ 26 g 11) h) h fun W h=>g_ V true (o_ G (l_ 3 W) h) h fun Y h=>g_ V true (o_ G (z7_ Y (200:Int)) h) h fun Z h=>
 opH P_ G (dh V Z (.bool false)) h fun aa h=>g_ aa true (o_ G (f_ 26 g 5) h) h fun ab h=>g_ aa true (o_ G (l_ 23 ab) h) h fun ac h=>g_ aa true (o_ G (k_ 23 ac) h) h fun ae h=>g_ aa true (o_ G (z7_ ae (4:Int)) h) h fun af h=>
 opH P_ G (dh aa af (.bool false)) h fun ag h=>g_ ag true (o_ G (l_ 26 g) h) h fun ah h=>g_ ag true (c_ G 38 #[ah] h) h fun ai h=>
 opH P_ G (dh ag ai (.bool false)) h fun aj h=>
 K .ret (upd (u10 (u10 (u10 (u10 r 1 g 2 (.bool false) 3 j 4 s 5 u 6 u 7 w 8 z 9 C 10 D) 11 D 12 E 13 F 14 I 15 J 16 J 17 L 18 M 19 N 20 O) 21 O 22 P 23 Q 24 U 25 V 26 V 27 W 28 Y 29 Z 30 aa) 31 aa 32 ab 33 ac 34 ae 35 af 36 ag 37 ag 38 ah 39 ai 40 aj) 2 aj) h
theorem enter21:Ent 41 21 [.tmp 2] S21:=ent_ (m:=md21) (c:=(Tryz.f21.body.getD .skip)) (fun _ _ _ _=>by kernel_rfl) Tryz.func21 rfl rfl rfl
end
abbrev ad6 (c:Cell):Obj := .cells #[c.1,c.2] 28 (0,0)
def i9 {α:Type} (p:Nat->Bool) (mk:Nat->α):Nat->Nat->List α
 |_,0=>[]
 |n,k+1=>if p n=true then mk n::i9 p mk (n+1) k else i9 p mk (n+1) k
section
theorem G9:∀(n:Nat) (L:List Nat),L.Nodup->(∀x∈L,x<n)->L.length<=n
 |0,L,_,h=>by
  cases L with
  |nil=>simp
  |cons x L=>exact absurd (h x (.head _)) (by omega)
 |n+1,L,hn,h=>by
  by_cases hm:n∈L
  . have h1:=G9 n (L.erase n) (hn.erase n) (fun x hx=>by
     have h2:=h x (List.mem_of_mem_erase hx);have h3:x≠n:=(List.Nodup.mem_erase_iff hn).1 hx |>.1
     omega)
    rw [List.length_erase_of_mem hm]at h1;have:=List.length_pos_of_mem hm;omega
  . have:=G9 n L hn (fun x hx=>by
     have h2:=h x hx;have h3:x≠n:=fun e=>hm (e▸hx)
     omega)
    omega
theorem Ct {w k:Nat} {L:List Cell} (hn:L.Nodup) (h:∀c∈L,inW w k c=true):L.length<=w*k:=by
 have h1:=G9 (w*k) (L.map fun c=>c.2.toNat*w+c.1.toNat) ?_ ?_
 . simpa using h1
 . rw [List.nodup_iff_pairwise_ne,List.pairwise_map];rw [List.nodup_iff_pairwise_ne]at hn;refine List.Pairwise.imp_of_mem ?_ hn;intro a b ha hb hab e;apply hab;obtain ⟨a1,a2,a3,a4⟩:=jr.1 (h a ha);obtain ⟨b1,b2,b3,b4⟩:=jr.1 (h b hb);have hw:0<w:=by omega
   obtain ⟨x1,y1⟩:=(cellN (n:=b.2.toNat*w+b.1.toNat) hw (show a.1.toNat<w by omega)).1 e;obtain ⟨x2,y2⟩:=(cellN (n:=b.2.toNat*w+b.1.toNat) hw (show b.1.toNat<w by omega)).1 rfl;have e1:a.1.toNat=b.1.toNat:=by rw [x1,<- x2]
   have e2:a.2.toNat=b.2.toNat:=by rw [y1,<- y2]
   exact Prod.ext (by omega) (by omega)
 . intro x hx;obtain ⟨c,hc,rfl⟩:=ba_.1 hx;exact (yf (h c hc)).2.2.2
section
variable {C:Conf}
theorem uy (hw:cj C.w 1 16=true) (hk:cj C.h 1 16=true):C.w=(wC C:Int)/\C.h=(kC C:Int)/\1<=wC C/\wC C<=16/\1<=kC C/\kC C<=16:=by unfold cj at hw hk;simp only [ag_,aw_]at hw hk;unfold wC kC;omega
theorem rp (hw:cj C.w 1 16=true) (hk:cj C.h 1 16=true) (c:Cell):inW (wC C) (kC C) c=inB C c:=by
 obtain ⟨e1,e2,_⟩:=uy hw hk;rw [a6_,jr];unfold inB;simp only [ag_,aw_];rw [e1,e2];constructor
 . rintro ⟨a,b,c,d⟩;exact ⟨a,c,b,d⟩
 . rintro ⟨a,b,c,d⟩;exact ⟨a,c,b,d⟩
theorem Pi {c:Cell} (h1:0<=c.1) (h2:0<=c.2):fAt (f0C C) c=if c∈C.bl then -1 else if c∈C.po then (C.po.idxOf c:Int)+1 else 0:=by
 have e:((c.1.toNat:Int),(c.2.toNat:Int))=c:=by rw [aD_ h1,aD_ h2]
 unfold fAt f0C kd;rw [e];by_cases hb:c∈C.bl
 . rw [ak_ (aZ_ _ hb),ak_ hb,b8_,ak_ hb,ak_ (List.idxOf_lt_length_of_mem hb)]
 . rw [ah_ hb];by_cases hp:c∈C.po
   . rw [ak_ (a7_ _ hp),ak_ hp,b8_,ah_ hb,ah_ (by omega)];omega
   . rw [ah_ (by simp [hb,hp]),ah_ hp]
theorem Rh (hw:cj C.w 1 16=true) (hk:cj C.h 1 16=true) (c:Cell):qe (wC C) (kC C) (f0C C) c=oy C c:=by
 unfold qe oy;rw [rp hw hk];cases hc:inB C c with
 |false=>rfl
 |true=>
  have hc':=hc;rw [<- rp hw hk]at hc';obtain ⟨a1,a2,a3,a4⟩:=jr.1 hc';rw [Pi a1 a3];simp only [aH_];rw [a6_];by_cases hb:c∈C.bl
  . simp [hb,bp_]
  . have:List.count c C.bl=0:=bp_.2 hb;rw [ah_ hb];simp only [this,beq_self_eq_true,iff_true];split
    . simp;omega
    . simp
theorem Cr (hw:cj C.w 1 16=true) (hk:cj C.h 1 16=true) (p:Pose):eu (wC C) (kC C) (f0C C) p=fu C p:=by unfold eu fu;rw [Rh hw hk,Rh hw hk]
theorem Ry (hw:cj C.w 1 16=true) (hk:cj C.h 1 16=true) {c:Cell} (hc:inB C c=true):yq (wC C) (kC C) (f0C C) c.1.toNat c.2.toNat=(decide (c∈C.bl)||my C c):=by
 have hc':=hc;rw [<- rp hw hk]at hc';obtain ⟨a1,a2,a3,a4⟩:=jr.1 hc';have e1:(c.1.toNat:Int)=c.1:=aD_ a1;have e2:(c.2.toNat:Int)=c.2:=aD_ a3;have hf:=Pi (C:=C) a1 a3;unfold yq;rw [Cr hw hk,Cr hw hk];rw [show f0C C c.1.toNat c.2.toNat=fAt (f0C C) c from rfl,hf];unfold fu east my;simp only [e1,e2];by_cases hb:c∈C.bl
 . simp [hb]
 . have ho:oy C (c.1,c.2)=true:=by unfold oy;rw [show ((c.1,c.2):Cell)=c from rfl,hc];simp [bp_.2 hb]
   rw [ah_ hb,ho]
   have hne:((if c∈C.po then (C.po.idxOf c:Int)+1 else 0) == -1)=false:=by
    split
    . simp;omega
    . rfl
   rw [hne];simp [hb]
theorem Ff {c:Cell}:uj C c=true↔c∈C.ro.flatMap dj:=by unfold uj;rw [bf_,aY_];refine exists_congr fun p=>and_congr_right fun _=>?_;rw [aw_,<- List.count_pos_iff];omega
theorem ax6 {c:Cell}:Ko C c<0↔c∉C.po:=by
 unfold Ko;split
 . rename_i h;simp [h]<;>omega
 . rename_i h;simp [h]
theorem f1_at (hw:cj C.w 1 16=true) (hk:cj C.h 1 16=true) {c:Cell} (hc:inB C c=true):fAt (f1 (wC C) (kC C) (f0C C)) c=if c∈C.bl then -1 else if my C c=true then (if c∈C.po then (C.po.idxOf c:Int)+1 else 0)else -2:=by
 have hc':=hc;rw [<- rp hw hk]at hc';obtain ⟨a1,a2,a3,a4⟩:=jr.1 hc';unfold fAt f1;rw [Ry hw hk hc,show f0C C c.1.toNat c.2.toNat=fAt (f0C C) c from rfl,Pi a1 a3];by_cases hb:c∈C.bl
 . simp [hb]
 . by_cases hs:my C c=true
   . simp [hb,hs]
   . simp [hb,hs]
theorem f3_at (hw:cj C.w 1 16=true) (hk:cj C.h 1 16=true) {c:Cell} (hc:inB C c=true):fAt (f3C C) c=if uj C c=true then -2 else if c∈C.bl then -1 else if my C c=true then (if c∈C.po then (C.po.idxOf c:Int)+1 else 0)else -2:=by
 have hc':=hc;rw [<- rp hw hk]at hc';obtain ⟨a1,a2,a3,a4⟩:=jr.1 hc';have e:((c.1.toNat:Int),(c.2.toNat:Int))=c:=by rw [aD_ a1,aD_ a3]
 have h1:=f1_at hw hk hc;unfold f3C fAt f2;rw [e];by_cases hh:c∈C.ro.flatMap dj
 . rw [ak_ hh,ak_ (Ff.2 hh)]
 . rw [ah_ hh,ah_ (fun q=>hh (Ff.1 q))];exact h1
theorem Kb (hw:cj C.w 1 16=true) (hk:cj C.h 1 16=true) (c:Cell):(inW (wC C) (kC C) c=true/\fAt (f3C C) c=0)↔ve C c=true:=by
 rw [rp hw hk];unfold ve oy;cases hc:inB C c with
 |false=>simp
 |true=>
  rw [f3_at hw hk hc];simp only [aH_,true_and,ag_,aw_,beq_iff_eq,Bool.not_eq_true',ax6,bp_];by_cases hh:uj C c=true
  . simp [hh]
  . have hh':uj C c=false:=by simpa using hh
    by_cases hb:c∈C.bl
    . simp [hh',hb]
    . by_cases hs:my C c=true
      . by_cases hp:c∈C.po
        . simp [hh',hb,hs,hp];omega
        . simp [hh',hb,hs,hp]
      . have hs':my C c=false:=by simpa using hs
        simp [hh',hb,hs']
theorem Zo:(∀n∈[C.un,C.ac,C.sp,C.tu,C.ho,C.re],cj n 1 1000=true)↔cj C.un 1 1000=true/\cj C.ac 1 1000=true/\cj C.sp 1 1000=true/\cj C.tu 1 1000=true/\cj C.ho 1 1000=true/\cj C.re 1 1000=true:=by simp only [al_,aK_,or_false,forall_eq_or_imp,forall_eq]
theorem E9:dx C↔al9 C:=by
 constructor
 . intro M;have hw:=M.laid.w;have hk:=M.laid.h;obtain ⟨e1,e2,w1,w2,k1,k2⟩:=uy hw hk;have hm:wC C*kC C<=16*16:=bw_ w2 k2;obtain ⟨s1,s2,s3,s4,s5,s6⟩:=Zo.1 M.six;have hnd:=a9_.1 M.laid.once;have hall:=M.laid.all;have hin:∀c∈C.bl++C.po,inB C c=true:=fun c hc=>by rw [<- rp hw hk];exact hall c hc
   have hpb:∀c∈C.po,my C c=true:=fun c hc=>by
    have hcin:=hin c (a7_ _ hc);have hcw:=hall c (a7_ _ hc);obtain ⟨a1,a2,a3,a4⟩:=jr.1 hcw;have hnb:c∉C.bl:=fun hb=>hnd.2.2 c hb c hc rfl;have hkeep:=Ry hw hk hcin;cases hs:my C c with
    |true=>rfl
    |false=>exfalso;have:=M.rob.plain c.1.toNat c.2.toNat (by omega) (by omega) (by rw [hkeep,hs];simp [hnb]);rw [show f0C C c.1.toNat c.2.toNat=fAt (f0C C) c from rfl,Pi a1 a3,ah_ hnb,ak_ hc]at this;omega
   refine ⟨?_,M.laid.po8,M.rob.r8,?_,fun c hc=>⟨hin c (aZ_ _ hc),bM_.1 hnd.1 c,bp_.2 fun hp=>hnd.2.2 c hc c hp rfl⟩,
    fun c hc=>⟨hin c (a7_ _ hc),bM_.1 hnd.2.1 c,?_,hpb c hc⟩,fun p hp=>by rw [<- Cr hw hk];exact M.rob.fit p hp,fun c _=>bM_.1 M.rob.once c,?_⟩
   . unfold qj;simp [hw,hk,M.ht,M.qu,M.bu,s1,s2,s3,s4,s5,s6]
   . have:=Ct (w:=wC C) (k:=kC C) hnd.1 (fun c hc=>hall c (aZ_ _ hc));omega
   . cases hh:uj C c with
     |false=>rfl
     |true=>exfalso;have:=M.rob.low c (Ff.1 hh);rw [f1_at hw hk (hin c (a7_ _ hc)),ah_ (fun hb=>hnd.2.2 c hb c hc rfl),ak_ (hpb c hc),ak_ hc]at this;omega
   . refine ⟨?_,fun s hs=>?_,M.sta.apart,M.sta.most,M.sta.nums,M.sta.once⟩
     . have:=Ct (w:=wC C) (k:=kC C) M.sta.apart (fun c hc=>by
        obtain ⟨s,hs,rfl⟩:=ba_.1 hc
        exact (M.sta.each s hs).1)
       rw [bq_]at this;omega
     . obtain ⟨q1,q2,q3⟩:=M.sta.each s hs;exact ⟨(Kb hw hk s.1).1 ⟨q1,q2⟩,q3⟩
 . intro M;have hn:=M.nums;unfold qj at hn;simp only [ag_]at hn;obtain ⟨hw,hk,hht,s1,s2,s3,s4,s5,s6,hqu,hbu⟩:=hn;obtain ⟨e1,e2,w1,w2,k1,k2⟩:=uy hw hk
   have hin:∀c∈C.bl++C.po,inW (wC C) (kC C) c=true:=fun c hc=>by
    rw [rp hw hk];rcases ao_.1 hc with h|h
    . exact (M.blk c h).1
    . exact (M.prt c h).1
   have hnb:C.bl.Nodup:=bM_.2 fun c=>by
    by_cases hc:c∈C.bl
    . exact (M.blk c hc).2.1
    . rw [bp_.2 hc];omega
   have hnp:C.po.Nodup:=bM_.2 fun c=>by
    by_cases hc:c∈C.po
    . exact (M.prt c hc).2.1
    . rw [bp_.2 hc];omega
   have hdis:∀a∈C.bl,∀b∈C.po,a≠b:=fun a ha b hb e=>by have:=(M.blk a ha).2.2;rw [bp_]at this;exact this (e▸hb)
   have hnd:(C.bl++C.po).Nodup:=a9_.2 ⟨hnb,hnp,hdis⟩
   have hlaid:T2 C:=⟨hw,hk,M.po8,by
    have:=Ct (w:=wC C) (k:=kC C) hnb (fun c hc=>hin c (aZ_ _ hc))
    rw [e1,e2,<- b6_];omega,hin,hnd⟩
   have hro:∀c∈C.ro.flatMap dj,inB C c=true/\c∉C.bl:=fun c hc=>by obtain ⟨p,hp,hcp⟩:=aY_.1 hc;have hf:=M.fit p hp;rw [<- Cr hw hk]at hf;obtain ⟨q1,q2⟩:=qx hf c hcp;obtain ⟨a1,a2,a3,a4⟩:=jr.1 q1;refine ⟨by rw [<- rp hw hk];exact q1,fun hb=>q2 ?_⟩;rw [Pi a1 a3,ak_ hb]
   refine ⟨Zo.2 ⟨s1,s2,s3,s4,s5,s6⟩,hht,hqu,hbu,hlaid,⟨M.ro8,fun x y hx hy hkp=>?_,fun p hp=>by rw [Cr hw hk];exact M.fit p hp,fun c hc=>?_,?_⟩,⟨fun s hs=>?_,M.bins.apart,M.bins.nums,M.bins.once,M.bins.most⟩⟩
   . have hcw:inW (wC C) (kC C) ((x:Int),(y:Int))=true:=jr.2 ⟨by simp,by simpa using hx,by simp,by simpa using hy⟩;have hcb:=hcw;rw [rp hw hk]at hcb;have hkeep:=Ry hw hk hcb;simp only [aP_]at hkeep;rw [hkp]at hkeep;have h0:=Pi (C:=C) (c:=((x:Int),(y:Int))) (by simp) (by simp);unfold fAt at h0;simp only [aP_]at h0;rw [h0];by_cases hp:((x:Int),(y:Int))∈C.po
     . have:=(M.prt _ hp).2.2.2;rw [this]at hkeep;simp at hkeep
     . rw [ah_ hp];split<;>omega
   . obtain ⟨q1,q2⟩:=hro c hc;rw [f1_at hw hk q1,ah_ q2];split
     . have hnp':c∉C.po:=fun hp=>by have:=(M.prt c hp).2.2.1;rw [Ff.2 hc]at this;cases this
       rw [ah_ hnp'];exact aS_ _
     . omega
   . exact bM_.2 fun c=>by
      by_cases hc:c∈C.ro.flatMap dj
      . exact M.once c hc
      . rw [bp_.2 hc];omega
   . obtain ⟨q1,q2⟩:=M.bins.each s hs;obtain ⟨q3,q4⟩:=(Kb hw hk s.1).2 q1;exact ⟨q3,q4,q2⟩
end
end
section
variable {C:Conf}
theorem ac4 (m:dx C) (x y:Nat):f3C C x y = -1↔f0C C x y = -1:=by unfold f3C;refine ac5 (fun c hc=>?_) x y;obtain ⟨p,hp,hcp⟩:=aY_.1 hc;exact (qx (m.rob.fit p hp) c hcp).2
theorem ay0 (m:dx C) (c:Cell):qe (wC C) (kC C) (f3C C) c=oy C c:=by rw [<- Rh m.laid.w m.laid.h];exact Bf (fun x y _ _=>ac4 m x y) c
theorem qm (m:dx C) (p:Pose):eu (wC C) (kC C) (f3C C) p=fu C p:=by rw [<- Cr m.laid.w m.laid.h];exact Bs (fun x y _ _=>ac4 m x y) p
theorem Xt (m:dx C) (c:Cell):numI (wC C) (kC C) c=numR C c:=by unfold numI numR;rw [rp m.laid.w m.laid.h,(uy m.laid.w m.laid.h).1]
end
def gu:=jq bC (jq (jq (jq (jq (jq @bz_ @yw) (jq @yv @pd)) (jq (jq @Bz @cf100) (jq @cf22 @cf60))) (jq (jq (jq @cf98 @cf99) (jq @eq30 @D1)) (jq (jq @Dz @vq) (jq @Dy (jq @Dx @R8))))) (jq (jq (jq (jq @fa48_1p @Lb) (jq @R7 @Yh)) (jq (jq @aa9 @aB8) (jq @Jm @ld26))) (jq (jq (jq @Ak @ld28) (jq @yp @ld3)) (jq (jq @ld30 @rz) (jq @ld3p (jq @ld4 @ne30p))))))
theorem Eu {G h:Hp} {p:Pose}:bn P_ G 100 #[mq p] h (fun u h'=>∃ip s,u = .slice s 4 4/\Slc dy 28 ip u (gj (p.x,p.y))/\Sep [ip,h] h'/\Dis G h'):=by
 refine bn.assume fun d=>aL0 (by simp) ?_;unfold S100;simp only [gu];intro x hx gx;generalize e1:Hp.set h x _=h1;obtain ⟨l1,d1,b1⟩:=boxed e1 hx d gx;have cx:∀j,bf G h1 ⟨x,j,none⟩=_:=fun j=>bm (bj b1);try simp (disch:=first|decide|omega) only [gu,Nat.reduceAdd,Nat.reduceMul,cx]
 intro b hb gb;refine ⟨noHp.set b _,some ⟨b,0,none⟩,rfl,⟨some b,4,[],rfl,bh,rfl⟩,(Sep.one.new (hb)).swap.cut l1 |>.swap,d1.set gb⟩
def vg (C:Conf) (m:Move) (i:Nat):Bool:=fu C (dv m.f m.d ((i:Int)+1))
def gf (C:Conf) (m:Move):Bool:=fu C m.f&&
 (if m.k=1 then cj m.n 1 16&&(cj m.d 0 3&&(decide (m.t=dv m.f m.d m.n)&&(List.range m.n.toNat).all (vg C m)))
  else if m.k=2 then (gj (m.f.x,m.f.y)).all (oy C)&&(decide (m.n=0)&&(decide (m.d=0)&&decide (m.t=Av m.f)))
  else decide (m.k=3\/m.k=4)&&(decide (m.n=0)&&(decide (m.d=0)&&decide (m.t=m.f))))
theorem ne_pose {p q:Pose}:(!((p.x==q.x&&p.y==q.y)&&(p.d==q.d))) = !decide (p=q):=by rw [sj]
theorem Ft {n:Int}:(n==0)=decide (n=0):=by rw [a6_];simp
theorem A5 {G h:Hp} {v:Value} {C:Conf} {m:Move} (hv:CV G h v C) (hL:C.bl.length<=100000000000000):bn P_ G 45 #[v,E7 m] h (fun u h'=>u = .bool (gf C m)/\h'=h):=by
 have hv0:=hv;obtain ⟨ab,cb,ap,cp,ar,cr,az,cs,rfl,ca⟩:=hv;refine bn.assume fun d=>quietly (enter45 (by simp) ?_);unfold S45;simp only [gu,Nat.reduceAdd];intro x hx gx;generalize e1:Hp.set h x _=h1;obtain ⟨l1,d1,b1⟩:=boxed e1 hx d gx;intro y hy gy;generalize e2:Hp.set h1 y _=h2;obtain ⟨l2,d2,b2⟩:=boxed e2 hy d1 gy;have L:=l1.trans l2;have bx:=l2 _ _ b1;have cx:∀j,bf G h2 ⟨x,j,none⟩=_:=fun j=>bm (bj bx);have cy:∀j,bf G h2 ⟨y,j,none⟩=_:=fun j=>bm (bj b2);have hv2:=hv0.up L d2;try simp only [gu,cx,cy]
 refine (vi (p:=m.f) hv2 hL).mono ?_;rintro _ h2 ⟨rfl,rfl⟩;have fin:∀b,gf C m=b->(Value.bool b = .bool (gf C m)/\h.le h2):=fun b e=>⟨by rw [e],L⟩;cases hf:fu C m.f with
 |false=>
  try simp only [gu]
  exact fin _ (by unfold gf;rw [hf];rfl)
 |true=>
 try simp only [gu]
 unfold aR8;try simp (disch:=decide) only [gu,Nat.reduceAdd,cy]
 by_cases hk1:m.k=1
 . have el:gf C m=(cj m.n 1 16&&(cj m.d 0 3&&(decide (m.t=dv m.f m.d m.n)&&(List.range m.n.toNat).all (vg C m)))):=by unfold gf;rw [ak_ hk1,hf,aH_]
   try simp only [gu,show (m.k==1)=true by simp [hk1]]
   refine ⟨h2,Hp.le.refl _,?_⟩;try simp only [gu,cy]
   refine (ix (n:=m.n) (a:=1) (b:=16)).mono ?_;rintro _ h2 ⟨rfl,rfl⟩;refine ⟨Hp.le.refl _,?_⟩;cases hn:cj m.n 1 16 with
   |false=>try simp only [gu];exact fin _ (by rw [el,hn];rfl)
   |true=>
   try simp only [gu,cy]
   refine (ix (n:=m.d) (a:=0) (b:=3)).mono ?_;rintro _ h2 ⟨rfl,rfl⟩;refine ⟨Hp.le.refl _,?_⟩;cases hd:cj m.d 0 3 with
   |false=>try simp only [gu];exact fin _ (by rw [el,hn,hd];rfl)
   |true=>
   try simp only [gu,Nat.reduceAdd,cy]
   refine (wg (p:=m.f) (dir:=m.d) (n:=m.n)).mono ?_;rintro _ h2 ⟨rfl,rfl⟩;refine ⟨Hp.le.refl _,?_⟩;try simp only [gu,ne_pose]
   cases ht:decide (m.t=dv m.f m.d m.n)with
   |false=>try simp only [gu];exact fin _ (by rw [el,hn,hd,ht];rfl)
   |true=>
   try simp only [gu]
   unfold aR7;obtain ⟨n1,n16⟩:=gh.1 hn
   refine dt (fun mm r h3=>∃i:Nat,mm=m.n.toNat-i/\i<=m.n.toNat/\r 2 = .pointer (some ⟨x,0,none⟩)/\r 3 = .pointer (some ⟨y,0,none⟩)/\r 5 = .int .i64 ((i:Int)+1)/\h3=h2/\∀j,j<i->vg C m j=true) ?_
    (m:=m.n.toNat) ⟨0,rfl,au_ _,by simp (disch:=decide) only [gu],by simp (disch:=decide) only [gu],by simp only [gu]<;>rfl,rfl,by simp⟩
   rintro mm r h3 ⟨i,rfl,hi,g2,g3,g5,rfl,hs⟩ X HX;unfold aR4;simp only [gu,g3,g5,cy];refine df (fun hle=>?_) (fun hgt=>?_);rotate_left
   . obtain rfl:i=m.n.toNat:=by omega
     try simp (disch:=first|decide|omega) only [gu,Nat.reduceAdd,Nat.reduceMul]
     unfold aR6;try simp only [gu]
     refine fin _ ?_;rw [el,hn,hd,ht];simp only [aH_,az_,aM_];exact fun j hj=>hs j hj
   unfold Qn;refine ⟨h3,Hp.le.refl _,?_⟩;try simp (disch:=decide) only [gu,Nat.reduceAdd,g2,g3,g5,cx,cy]
   refine (wg (p:=m.f) (dir:=m.d) (n:=(i:Int)+1)).mono ?_;rintro _ h3 ⟨rfl,rfl⟩;refine ⟨Hp.le.refl _,?_⟩;refine (vi (p:=dv m.f m.d ((i:Int)+1)) hv2 hL).mono ?_;rintro _ h3 ⟨rfl,rfl⟩;cases hb:fu C (dv m.f m.d ((i:Int)+1))with
   |false=>
    try simp only [gu]
    refine fin _ ?_;rw [el,hn,hd,ht];have:(List.range m.n.toNat).all (vg C m)=false:=by rw [bI_];exact ⟨i,aM_.2 (by omega),by unfold vg;rw [hb];simp⟩
    rw [this];rfl
   |true=>
    try simp only [gu]
    unfold Qm;try simp (disch:=first|decide|omega) only [gu,g5]
    exact HX (m.n.toNat-(i+1)) _ _ (by omega) ⟨i+1,rfl,by omega,by simp (disch:=decide) only [gu,g2],by simp (disch:=decide) only [gu,g3],by simp only [gu]<;>rfl,rfl,Bb hs hb⟩
 have ek1:(m.k==1)=false:=by simp [hk1]
 have el:gf C m=(if m.k=2 then (gj (m.f.x,m.f.y)).all (oy C)&&(decide (m.n=0)&&(decide (m.d=0)&&decide (m.t=Av m.f)))else decide (m.k=3\/m.k=4)&&(decide (m.n=0)&&(decide (m.d=0)&&decide (m.t=m.f)))):=by unfold gf;rw [ah_ hk1,hf,aH_]
 by_cases hk2:m.k=2
 . rw [ak_ hk2]at el;try simp only [gu,cy,ek1,show (m.k==2)=true by simp [hk2]]
   refine (Eu (p:=m.f)).mono ?_;rintro _ h4 ⟨ip,sa,rfl,o,s4,d4⟩;have hv4:=hv2.up (s4.in 1 rfl) d4;have cx4:∀j,bf G h4 ⟨x,j,none⟩=_:=fun j=>bm (bj (s4.at 1 rfl bx));have cy4:∀j,bf G h4 ⟨y,j,none⟩=_:=fun j=>bm (bj (s4.at 1 rfl b2));have fin:∀b,gf C m=b->(Value.bool b = .bool (gf C m)/\h.le h4):=fun b e=>⟨by rw [e],L.trans (s4.in 1 rfl)⟩
   refine dt (fun mm r h3=>∃i:Nat,mm=4-i/\i<=4/\r 2 = .pointer (some ⟨x,0,none⟩)/\r 3 = .pointer (some ⟨y,0,none⟩)/\r 6 = .slice sa 4 4/\r 7 = .int .i64 i/\h3=h4/\((gj (m.f.x,m.f.y)).take i).all (oy C)=true) ?_
    (m:=4) ⟨0,rfl,au_ _,by simp (disch:=decide) only [gu],by simp (disch:=decide) only [gu],by simp (disch:=decide) only [gu],by simp only [gu]<;>rfl,rfl,by simp⟩
   rintro mm r h3 ⟨i,rfl,hi,g2,g3,g6,g7,rfl,hs⟩ X HX;unfold aR3;simp only [gu,g7];refine df (fun hlt=>?_) (fun hge=>?_);rotate_left
   . obtain rfl:i=4:=by omega
     rw [am_ (show (gj (m.f.x,m.f.y)).length<=4 from aj_ 4)]at hs;rw [hs,aH_]at el;try simp (disch:=first|decide|omega) only [gu,Nat.reduceAdd,Nat.reduceMul]
     unfold aR5;try simp (disch:=decide) only [gu,g3,cy4,Ft]
     cases hn:decide (m.n=0)with
     |false=>try simp only [gu];exact fin _ (by rw [el,hn];rfl)
     |true=>
     try simp only [gu,g3,cy4,Ft]
     cases hd:decide (m.d=0)with
     |false=>try simp only [gu];exact fin _ (by rw [el,hn,hd];rfl)
     |true=>
     try simp only [gu,Nat.reduceAdd,g3,cy4]
     refine fin _ ?_;rw [el,hn,hd,<- sj];rfl
   have hlt':i<4:=by omega
   obtain ⟨c,hc⟩:∃c,(gj (m.f.x,m.f.y))[i]?=some c:=⟨_,aa_ (by simpa [gj]using hlt')⟩;obtain ⟨b,ofs,rfl,z0,z1⟩:=Sees.cell (L:=gj (m.f.x,m.f.y)) (G:=G) (o.sees (by decide) (s4.in 0 rfl)) hc;unfold L6;try simp (disch:=decide) only [gu,g2,g6,g7,cx4,tz (ac_ i) (show (i:Int)<(4:Nat)by omega),z0,z1]
   refine (si (c:=c) hv4 hL).mono ?_;rintro _ h3 ⟨rfl,rfl⟩;have hcm:c∈gj (m.f.x,m.f.y):=ab_ hc;cases hb:oy C c with
   |false=>
    try simp only [gu]
    refine fin _ ?_;have:(gj (m.f.x,m.f.y)).all (oy C)=false:=by rw [bI_];exact ⟨c,hcm,by simp [hb]⟩
    rw [el,this];rfl
   |true=>
    try simp only [gu]
    unfold L5;try simp (disch:=first|decide|omega) only [gu,g7]
    refine HX (4-(i+1)) _ _ (by omega) ⟨i+1,rfl,hlt',by simp (disch:=decide) only [gu,g2],by simp (disch:=decide) only [gu,g3],by simp (disch:=decide) only [gu,g6],by simp only [gu]<;>rfl,rfl,?_⟩;rw [aL_,hc];simp [hs,hb]
 have ek2:(m.k==2)=false:=by simp [hk2]
 rw [ah_ hk2]at el;by_cases hk34:m.k=3\/m.k=4;rotate_left
 . try simp only [gu,cy,ek1,ek2,show (m.k==3)=false by simp;omega,show (m.k==4)=false by simp;omega]
   unfold Gi;try simp (disch:=decide) only [gu]
   unfold S2;try simp only [gu]
   exact fin _ (by rw [el,ai_ hk34];rfl)
 rw [af_ hk34,aH_]at el
 have k12:∀r:Rg,r 3 = .pointer (some ⟨y,0,none⟩)->r 91 = .bool true->Gi G (retK P_ G [.tmp 4] fun u h'=>u = .bool (gf C m)/\h.le h') r h2:=by
  intro r g3 g91;unfold Gi;simp only [gu,g91,g3,cy,Ft];cases hn:decide (m.n=0)with
  |false=>try simp only [gu];exact fin _ (by rw [el,hn];rfl)
  |true=>
  try simp only [gu,g3,cy,Ft]
  cases hd:decide (m.d=0)with
  |false=>try simp only [gu];exact fin _ (by rw [el,hn,hd];rfl)
  |true=>
  try simp only [gu,Nat.reduceAdd,g3,cy]
  refine fin _ ?_;rw [el,hn,hd,<- sj];rfl
 rcases hk34 with h3|h4
 . try simp only [gu,cy,ek1,ek2,show (m.k==3)=true by simp [h3]]
   exact k12 _ (by simp (disch:=decide) only [gu]) (by simp only [gu])
 . try simp only [gu,cy,ek1,ek2,show (m.k==3)=false by simp [h4],show (m.k==4)=true by simp [h4]]
   exact k12 _ (by simp (disch:=decide) only [gu]) (by simp only [gu])
section
variable {C:Conf}
theorem Uj {p:Pose} (hp:PB p) {d:Int}:ir p d 0=p:=by obtain ⟨h1,h2⟩:=hp;unfold ir;rw [Int.zero_mul,Int.zero_mul,Int.add_zero,Int.add_zero,Ob h1,Ob h2]
theorem Lv {s:Nat->Bool} {n:Nat}:(List.range (n+1)).all s=(s 0&&(List.range n).all fun i=>s (i+1)):=by rw [List.range_succ_eq_map,List.all_cons,List.all_map];rfl
theorem Vi (m:dx C) {v:Move} (hp:PB v.f):wayB (wC C) (kC C) (f3C C) v=gf C v:=by
 have ho:=ay0 m;have hf:=qm m;unfold wayB gf;rw [hf];cases hfp:fu C v.f with
 |false=>rfl
 |true=>
 rw [aH_,aH_];by_cases hk1:v.k=1
 . rw [ak_ hk1,ak_ hk1,Lv];have e0:ry (wC C) (kC C) (f3C C) v 0=cj v.d 0 3:=by unfold ry okS;rw [hf,show ((0:Nat):Int)=0 from rfl,Uj hp,hfp,show cj 0 0 16=true from rfl];simp
   rw [e0];cases hd:cj v.d 0 3 with
   |false=>simp
   |true=>
   have hd2:=gh.1 hd;by_cases hn:1<=v.n
   . by_cases hn2:v.n<=16
     . rw [af_ hn,show cj v.n 1 16=true from gh.2 ⟨hn,hn2⟩,xy hp hd2]
       have:((List.range v.n.toNat).all fun i=>ry (wC C) (kC C) (f3C C) v (i+1))=(List.range v.n.toNat).all (vg C v):=by
        rw [a6_,az_,az_];have e:∀i∈List.range v.n.toNat,ry (wC C) (kC C) (f3C C) v (i+1)=vg C v i:=by intro i hi;have hi:=aM_.1 hi;unfold ry vg okS;rw [hd,show cj ((i+1:Nat):Int) 0 16=true from gh.2 (by omega),hf,xy hp hd2];rfl
        exact ⟨fun h i hi=>by rw [<- e i hi];exact h i hi,fun h i hi=>by rw [e i hi];exact h i hi⟩
       rw [this];simp only [aH_];rw [Bool.and_comm]
     . have h1:((List.range v.n.toNat).all fun i=>ry (wC C) (kC C) (f3C C) v (i+1))=false:=by rw [bI_];refine ⟨16,aM_.2 (by omega),?_⟩;unfold ry okS;rw [show cj ((16+1:Nat):Int) 0 16=false from rfl];simp
       have h2:cj v.n 1 16=false:=by
        cases h:cj v.n 1 16 with
        |false=>rfl
        |true=>exact absurd (gh.1 h).2 hn2
       rw [h1,h2];simp
   . have h2:cj v.n 1 16=false:=by
      cases h:cj v.n 1 16 with
      |false=>rfl
      |true=>exact absurd (gh.1 h).1 hn
     rw [ai_ hn,h2];simp
 . rw [ah_ hk1,ah_ hk1];have e1:decide (v.d=0/\v.n=0)=(decide (v.n=0)&&decide (v.d=0)):=by rw [a6_];simp [and_comm]
   rw [e1];by_cases hk2:v.k=2
   . rw [ak_ hk2,ak_ hk2];have e2:(gj (v.f.x,v.f.y)).all (qe (wC C) (kC C) (f3C C))=(gj (v.f.x,v.f.y)).all (oy C):=by congr 1;funext c;exact ho c
     rw [e2];cases decide (v.n=0)<;>cases decide (v.d=0)<;>simp
   . rw [ah_ hk2,ah_ hk2];cases decide (v.n=0)<;>cases decide (v.d=0)<;>simp
def mkR (p:Pose) (d n:Nat):Move:=⟨1,d,n,p,dv p d n,0,0⟩
def Kh (C:Conf) (p:Pose) (d:Nat):List Move:=jm (fun n=>gf C (mkR p d n)) (mkR p d) 1 16
def jn (C:Conf) (p:Pose):List Move:=if fu C p=true then ka (Kh C p) 0 4++(if gf C (jv p)=true then [jv p]else [])else []
theorem Ik {α:Type} {D E:Nat->List α}:∀{k i:Nat},(∀j,i<=j->j<i+k->D j=E j)->ka D i k=ka E i k
 |0,i,_=>rfl
 |k+1,i,h=>by unfold ka;rw [h i (aj_ _) (by omega),Ik fun j h1 h2=>h j (by omega) (by omega)]
theorem aw5 (m:dx C) {p:Pose} (hp:PB p) (hf:fu C p=true) {d:Nat} (hd:d<4):∀(k n:Nat),1<=n->n+k<=17->(∀j,1<=j->j<n->fu C (dv p d j)=true)->
 jm (E4 (wC C) (kC C) (f3C C) p d) (ym p d) n k=jm (fun n=>gf C (mkR p d n)) (mkR p d) n k
 |0,n,_,_,_=>rfl
 |k+1,n,h1,h2,h3=>by
  have hd2:(0:Int)<=(d:Int)/\(d:Int)<=3:=by omega
  have e1:E4 (wC C) (kC C) (f3C C) p d n=fu C (dv p d n):=by unfold E4;rw [qm m,xy hp hd2]
  have e2:ym p d n=mkR p d n:=by unfold ym mkR;rw [xy hp hd2]
  have e3:gf C (mkR p d n)=fu C (dv p d n):=by
   unfold gf;rw [show (mkR p d n).f=p from rfl,hf,aH_,ak_ (show (mkR p d n).k=1 from rfl),show cj (mkR p d n).n 1 16=true from gh.2 (show (1:Int)<=(n:Int)/\(n:Int)<=16 by omega),show cj (mkR p d n).d 0 3=true from gh.2 hd2,show decide ((mkR p d n).t=dv p (mkR p d n).d (mkR p d n).n)=true from af_ rfl,show (mkR p d n).n.toNat=(n-1)+1 from (by show (n:Int).toNat=_;omega),bO_,List.all_append];have e4:(List.range (n-1)).all (vg C (mkR p d n))=true:=by rw [az_];intro i hi;have hi:=aM_.1 hi;exact h3 (i+1) (by omega) (by omega)
   rw [e4];show (true&&(true&&(true&&(true&&(fu C (dv p d (((n-1:Nat):Int)+1))&&true)))))=_;rw [show ((n-1:Nat):Int)+1=(n:Int)by omega];simp
  unfold jm;rw [e1,e2,e3];cases hb:fu C (dv p d n)with
  |false=>rfl
  |true=>
   rw [ak_ rfl,ak_ rfl,aw5 m hp hf hd k (n+1) (by omega) (by omega) fun j a b=>by
    by_cases hj:j<n
    . exact h3 j a hj
    . obtain rfl:j=n:=by omega
      exact hb]
theorem E6 (m:dx C) {p:Pose} (hp:PB p):ml (wC C) (kC C) (f3C C) p=jn C p:=by
 unfold ml jn;rw [qm m,Vi m (v:=jv p) hp];cases hf:fu C p with
 |false=>rfl
 |true=>rw [ak_ rfl,ak_ rfl];congr 1;unfold Hz;exact Ik fun j _ hj=>aw5 m hp hf (by omega) 16 1 (aj_ _) (by decide) fun j a b=>absurd b (by omega)
theorem Ci {α:Type} {p:Nat->Bool} {mk:Nat->α} {n k:Nat}:i9 p mk n (k+1)=if p n=true then mk n::i9 p mk (n+1) k else i9 p mk (n+1) k:=rfl
end
def gm:List Cell->List Cell
 |[]=>[]
 |a::L=>match L with
  |[]=>[a]
  |b::_=>if a=b then gm L else a::gm L
theorem p9 {a b:Cell} {L:List Cell}:gm (a::b::L)=if a=b then gm (b::L)else a::gm (b::L):=rfl
theorem Im {x:Cell}:∀{L:List Cell},x∈gm L↔x∈L:=by
 intro L;induction L with
 |nil=>exact Iff.rfl
 |cons a L ih=>
  cases L with
  |nil=>exact Iff.rfl
  |cons b L=>
   rw [p9];by_cases h:a=b
   . rw [ak_ h,ih];subst h;simp
   . rw [ah_ h,al_,ih,al_ (a:=x) (b:=a)]
theorem Lj {n:Cell->Int} (inj:∀{L:List Cell},True):∀{L:List Cell},(∀a∈L,∀b∈L,n a=n b->a=b)->L.Pairwise (fun a b=>n a<=n b)->(gm L).Pairwise (fun a b=>n a<n b):=by
 intro L;induction L with
 |nil=>intro _ _;exact .nil
 |cons a L ih=>
  intro hi hp;obtain ⟨h1,h2⟩:=ap_.1 hp;cases L with
  |nil=>exact bR_ _ _
  |cons b L=>
   have rest:=ih (fun x hx y hy=>hi x (.tail _ hx) y (.tail _ hy)) h2;rw [p9];by_cases h:a=b
   . rw [ak_ h];exact rest
   . rw [ah_ h];refine ap_.2 ⟨fun x hx=>?_,rest⟩;rw [Im]at hx;have hab:n a<n b:=by have:=h1 b (.head _);have:n a≠n b:=fun e=>h (hi a (.head _) b (.tail _ (.head _)) e);omega
     rcases al_.1 hx with rfl|hx'
     . exact hab
     . have:=(ap_.1 h2).1 x hx';omega
theorem Ki {n:Cell->Int}:∀{L M:List Cell},L.Pairwise (fun a b=>n a<n b)->M.Pairwise (fun a b=>n a<n b)->(∀x,x∈L↔x∈M)->L=M:=by
 intro L;induction L with
 |nil=>
  intro M _ _ h;cases M with
  |nil=>rfl
  |cons a M=>exact absurd ((h a).2 (.head _)) (by simp)
 |cons a L ih=>
  intro M hL hM h;cases M with
  |nil=>exact absurd ((h a).1 (.head _)) (by simp)
  |cons b M=>
   obtain ⟨l1,l2⟩:=ap_.1 hL;obtain ⟨m1,m2⟩:=ap_.1 hM
   have e:a=b:=by
    rcases al_.1 ((h a).1 (.head _))with e|e
    . exact e
    . rcases al_.1 ((h b).2 (.head _))with e'|e'
      . exact e'.symm
      . have:=m1 a e;have:=l1 b e';omega
   subst e;rw [ih l2 m2 fun x=>?_];constructor
   . intro hx;rcases al_.1 ((h x).1 (.tail _ hx))with rfl|h2
     . have:=l1 _ hx;omega
     . exact h2
   . intro hx;rcases al_.1 ((h x).2 (.tail _ hx))with rfl|h2
     . have:=m1 _ hx;omega
     . exact h2
def mr (w k:Nat) (W:List Cell):List Cell:=ka (fun y=>i9 (fun x=>decide ((((x:Nat):Int),((y:Nat):Int))∈W)) (fun x=>(((x:Nat):Int),((y:Nat):Int))) 0 w) 0 k
def numW (w:Nat) (c:Cell):Int:=c.2*w+c.1
theorem E2 {α:Type} {p:Nat->Bool} {mk:Nat->α} {x:α}:∀{k n:Nat},x∈i9 p mk n k↔∃j,n<=j/\j<n+k/\p j=true/\x=mk j:=by
 intro k;induction k with
 |zero=>intro n;simp [i9];intro j h1 h2;omega
 |succ k ih=>
  intro n;rw [Ci];constructor
  . intro h;split at h
    . rename_i hp;rcases al_.1 h with rfl|h'
      . exact ⟨n,aj_ _,by omega,hp,rfl⟩
      . obtain ⟨j,a,b,c,e⟩:=ih.1 h';exact ⟨j,by omega,by omega,c,e⟩
    . obtain ⟨j,a,b,c,e⟩:=ih.1 h;exact ⟨j,by omega,by omega,c,e⟩
  . rintro ⟨j,a,b,c,rfl⟩;by_cases hj:j=n
    . subst hj;rw [ak_ c];exact .head _
    . have:=(ih (n:=n+1)).2 ⟨j,by omega,by omega,c,rfl⟩;split
      . exact .tail _ this
      . exact this
theorem pick_pw {α:Type} {p:Nat->Bool} {mk:Nat->α} {R:α->α->Prop} (h:∀i j,i<j->R (mk i) (mk j)):∀{k n:Nat},(i9 p mk n k).Pairwise R:=by
 intro k;induction k with
 |zero=>intro n;exact .nil
 |succ k ih=>
  intro n;rw [Ci];split
  . refine ap_.2 ⟨fun x hx=>?_,ih⟩;obtain ⟨j,a,_,_,rfl⟩:=E2.1 hx;exact h n j (by omega)
  . exact ih
theorem ra {w k:Nat} {W:List Cell} {x:Cell}:x∈mr w k W↔(0<=x.1/\x.1<w/\0<=x.2/\x.2<k)/\x∈W:=by
 unfold mr
 suffices H:∀(n i:Nat),x∈ka (fun y=>i9 (fun x=>decide ((((x:Nat):Int),((y:Nat):Int))∈W)) (fun x=>(((x:Nat):Int),((y:Nat):Int))) 0 w) i n↔∃y,i<=y/\y<i+n/\x∈i9 (fun x=>decide ((((x:Nat):Int),((y:Nat):Int))∈W)) (fun x=>(((x:Nat):Int),((y:Nat):Int))) 0 w by
  rw [H];constructor
  . rintro ⟨y,_,h2,h3⟩;obtain ⟨j,_,j2,j3,rfl⟩:=E2.1 h3;exact ⟨⟨by simp,by simp;omega,by simp,by simp;omega⟩,by simpa using j3⟩
  . rintro ⟨⟨a,b,c,d⟩,h⟩;obtain ⟨x1,x2⟩:=x;refine ⟨x2.toNat,by omega,by simp at d c;omega,E2.2 ⟨x1.toNat,by omega,by simp at a b;omega,?_,?_⟩⟩
    . simp only at a c;rw [show ((x1.toNat:Nat):Int)=x1 by omega,show ((x2.toNat:Nat):Int)=x2 by omega];simpa using h
    . simp only at a c;rw [show ((x1.toNat:Nat):Int)=x1 by omega,show ((x2.toNat:Nat):Int)=x2 by omega]
 intro n;induction n with
 |zero=>intro i;simp [ka];intro y h1 h2;omega
 |succ n ih=>
  intro i;rw [ka,ao_,ih];constructor
  . rintro (h|⟨y,a,b,c⟩)
    . exact ⟨i,aj_ _,by omega,h⟩
    . exact ⟨y,by omega,by omega,c⟩
  . rintro ⟨y,a,b,c⟩;by_cases e:y=i
    . subst e;exact .inl c
    . exact .inr ⟨y,by omega,by omega,c⟩
theorem uq {w k:Nat} {W:List Cell}:(mr w k W).Pairwise (fun a b=>numW w a<numW w b):=by
 unfold mr
 suffices H:∀(n i:Nat),(ka (fun y=>i9 (fun x=>decide ((((x:Nat):Int),((y:Nat):Int))∈W)) (fun x=>(((x:Nat):Int),((y:Nat):Int))) 0 w) i n).Pairwise (fun a b=>numW w a<numW w b)/\
  ∀x∈ka (fun y=>i9 (fun x=>decide ((((x:Nat):Int),((y:Nat):Int))∈W)) (fun x=>(((x:Nat):Int),((y:Nat):Int))) 0 w) i n,((i*w:Nat):Int)<=numW w x from (H k 0).1
 intro n;induction n with
 |zero=>intro i;exact ⟨.nil,fun _ h=>by cases h⟩
 |succ n ih=>
  intro i;rw [ka];obtain ⟨h1,h2⟩:=ih (i+1)
  have hrow:∀x∈i9 (fun x=>decide ((((x:Nat):Int),((i:Nat):Int))∈W)) (fun x=>(((x:Nat):Int),((i:Nat):Int))) 0 w,((i*w:Nat):Int)<=numW w x/\numW w x<(((i+1)*w:Nat):Int):=by
   intro x hx;obtain ⟨j,_,j2,_,rfl⟩:=E2.1 hx;unfold numW;simp only;have e1:(((i+1)*w:Nat):Int)=((i*w:Nat):Int)+(w:Int):=by rw [bD_];push_cast;rfl
   have e2:((i:Nat):Int)*(w:Int)=((i*w:Nat):Int):=by push_cast;rfl
   rw [e1,e2];omega
  refine ⟨bd_.2 ⟨pick_pw fun a b hab=>?_,h1,fun a ha b hb=>?_⟩,fun x hx=>?_⟩
  . unfold numW;simp only;omega
  . have:=(hrow a ha).2;have:=h2 b hb;omega
  . rcases ao_.1 hx with h|h
    . exact (hrow x h).1
    . have:=h2 x h;have e1:(((i+1)*w:Nat):Int)=((i*w:Nat):Int)+(w:Int):=by rw [bD_];push_cast;rfl
      omega
theorem N9 {w k:Nat} {W S:List Cell} (hw:0<w) (hin:∀c∈W,0<=c.1/\c.1<w/\0<=c.2/\c.2<k) (hp:S.Perm W) (hs:S.Pairwise fun a b=>numW w a<=numW w b):gm S=mr w k W:=by
 refine Ki (n:=numW w) (Lj (fun {_}=>trivial) (fun a ha b hb e=>?_) hs) uq fun x=>?_
 . obtain ⟨a1,a2,a3,a4⟩:=hin a (hp.mem_iff.1 ha);obtain ⟨b1,b2,b3,b4⟩:=hin b (hp.mem_iff.1 hb);obtain ⟨x,y⟩:=a;obtain ⟨x',y'⟩:=b;unfold numW at e;simp only at*
   have ey:y=y':=by
    rcases Int.lt_trichotomy y y' with h|h|h
    . have:(y+1)*(w:Int)<=y'*w:=Int.mul_le_mul_of_nonneg_right (by omega) (by omega);rw [Int.add_mul,Int.one_mul]at this;omega
    . exact h
    . have:(y'+1)*(w:Int)<=y*w:=Int.mul_le_mul_of_nonneg_right (by omega) (by omega);rw [Int.add_mul,Int.one_mul]at this;omega
   subst ey;rw [show x=x' by omega]
 . rw [Im,ra,hp.mem_iff];exact ⟨fun h=>⟨hin x h,h⟩,fun h=>h.2⟩
def jz:=jq bC (jq (jq @bz_ (jq @Wg @ix22)) (jq (jq @ld28 @yp) (jq @ln22 @ne28p)))
theorem as6 {P:Program} {G h:Hp} {α:Type} (c:Cod α) (d0:α) {T e:TypeId} (hu:P.underlying T=some (.slice e)) (hn:0<c.n) (hz:((P.info? e).bind (·.zero)).map (·.cells.toList)=some (c.enc d0)) {ty:TypeId} {b off n cap:Nat} {l:List Value} {e':TypeId}
 (hb:h b=some (.cells l.toArray e' (0,0))) (h0:0<n) (hfit:off+n*c.n<=l.length) {K:VK}
 (H:∀l':List Value,l'.length=l.length->l'.take off=l.take off->K (.tuple #[]) (h.set b (.cells l'.toArray e' (0,0)))):
 wpH P G (Builtin.clear_ #[T] ty #[.slice (some ⟨b,off,none⟩) n cap]) h K:=by
 cases hi:P.info? e with
 |none=>rw [hi]at hz;cases hz
 |some inf=>
 rw [hi]at hz;simp only [bl_]at hz;cases hzz:inf.zero with
 |none=>rw [hzz]at hz;cases hz
 |some z=>
 rw [hzz]at hz;simp only [a0_,Option.some.injEq]at hz;obtain ⟨n',rfl⟩:∃n',n=n'+1:=⟨n-1,by omega⟩;have hrow:=A0 c d0 (n'+1) z.cells hz.symm hn;have hsz:z.cells.size=c.n:=by rw [<- b1_,hz,c.len]
 have hcells:(Builtin.zeroCells z.cells (n'+1)).toList=c.rows (List.replicate (n'+1) d0):=by refine Eq.trans ?_ ((congrArg Array.toList hrow).trans (by simp));rw [<- hsz];rfl
 have key:wpH P G (storeCells ⟨b,off,none⟩ (c.rows (List.replicate (n'+1) d0))) h (fun _ h'=>K (.tuple #[]) h'):=by
  rw [m7 _ (k:=0) hb (by rw [c.rows_length,bG_];omega) (c.rows_one _)]
  exact H _ (Bc _ _ _) (by
   rw [ut _ _ _ (by rw [c.rows_length,bG_];omega),aC_,bu_ (by rw [aN_];omega),bc_,List.take_take,Nat.min_self])
 unfold Builtin.clear_ underlying;simp only [aV_,ar_,bind,dp,program,wpH,hu,pure];simp only [zeroValue,typeInfo,program,bind,dp,wpH,hi,hzz,pure];rw [hcells];exact key
theorem Pl {y x:Cell}:∀{T:List Cell},gm (T++[y,x])=if y=x then gm (T++[y])else gm (T++[y])++[x]
 |[]=>by
  show gm (y::[x])=if y=x then gm [y]else gm [y]++[x]
  rw [p9];by_cases h:y=x<;>simp [h,gm]
 |[a]=>by
  show gm (a::y::[x])=if y=x then gm (a::y::[])else gm (a::y::[])++[x]
  simp only [p9];by_cases h1:a=y<;>by_cases h2:y=x<;>simp [h1,h2,gm]
 |a::b::T=>by
  show gm (a::b::(T++[y,x]))=if y=x then gm (a::b::(T++[y]))else gm (a::b::(T++[y]))++[x]
  rw [p9,p9];have ih:=Pl (y:=y) (x:=x) (T:=b::T);simp only [b0_]at ih;rw [ih];by_cases h1:a=b<;>by_cases h2:y=x<;>simp [h1,h2]
theorem Cw {L:List Cell} {k:Nat} {y x:Cell} (hk:1<=k) (hy:L[k-1]?=some y) (hx:L[k]?=some x):gm (L.take (k+1))=if y=x then gm (L.take k)else gm (L.take k)++[x]:=by obtain ⟨j,rfl⟩:∃j,k=j+1:=⟨k-1,by omega⟩;rw [Nat.add_sub_cancel]at hy;rw [aL_,aL_,hx,hy];simp only [Option.toList,aC_,b0_,a8_];exact Pl
theorem Ll {L:List Cell} (h:L.length<2):gm L=L:=by
 match L,h with
 |[],_=>rfl
 |[a],_=>rfl
theorem st_elem {G h:Hp} {b i:Nat} {M:List Cell} {t:List Value} {x:Cell} {K:Unit->Hp->Prop} (hb:h b=some (.cells (dy.rows M++t).toArray 28 (0,0))) (hi:i<M.length):
 wpH P_ G (Instr.storeAt 28 (.pointer (some ⟨b,i*2,none⟩)) (.agg #[x.1,x.2])) h K=K () (h.set b (.cells (dy.rows (M.set i x)++t).toArray 28 (0,0))):=by rw [vd (n:=2) sz28 hb rfl (by rw [ae_,dy.rows_length,show dy.n=2 from rfl];omega) (by intro v hv;simp [Value.cells]at hv;rcases hv with rfl|rfl<;>rfl)];have:=dy.rows_put (t:=t) (x:=x) hi;rw [<- this];rfl
theorem Uq {G h:Hp} {b:Nat} {M:List Cell} {t:List Value} (hb:HL.look G h b=some (.cells (dy.rows M++t).toArray 28 (0,0))) {i:Nat} {x:Cell} (hx:M[i]?=some x):bf G h ⟨b,i*2,none⟩=some (.int .i64 x.1)/\bf G h ⟨b,i*2+1,none⟩=some (.int .i64 x.2):=by have g0:=dy.rows_get (t:=t) hx (j:=0) (by decide);have g1:=dy.rows_get (t:=t) hx (j:=1) (by decide);rw [show dy.n=2 from rfl]at g0 g1;exact ⟨(bm hb).trans g0,(bm hb).trans g1⟩
theorem Si {G h a:Hp} {R:List Hp} {v:Value} {L:List Cell} (s:HL.Sep (a::R) h) (o:Slc dy 28 a v L) (hL:L.length<=100000):bn P_ G 136 #[v] h (fun u h'=>∃a',Slc dy 28 a' u (gm L)/\HL.Sep (a'::R) h'/\Dis G h'):=by
 refine bn.assume fun d=>aI0 (by simp) ?_;unfold S136;obtain ⟨sa,cap,rfl,hcap⟩:=o.len (by decide);simp only [jz];refine df (fun hlt=>?_) (fun hge=>?_)
 . try simp (disch:=first|decide|omega) only [jz,Nat.reduceAdd,Nat.reduceMul]
   exact ⟨a,by rw [Ll (by omega)];exact o,s,d⟩
 unfold ai6;obtain ⟨ob,o'⟩:=id o;cases ob with
 |none=>exact absurd o'.2 (fun e=>by rw [e]at hge;simp at hge)
 |some b=>
 obtain ⟨cap',t,e9,hb,hbl⟩:=o';simp only [Value.slice.injEq,true_and]at e9;obtain ⟨rfl,rfl⟩:=e9;have hbh:=s.at 0 rfl hb;have rd:=fun {i:Nat} {x:Cell} (hx:L[i]?=some x)=>Uq (G:=G) (bj hbh) hx;try simp (disch:=first|decide|omega) only [jz,Nat.reduceAdd,Nat.reduceMul]
 generalize hKK:retK P_ G _ _=KK
 refine dt (fun m q h3=>∃k:Nat,m=L.length-k/\1<=k/\k<=L.length/\q 0 = .slice (some ⟨b,0,none⟩) L.length cap/\q 3 = .int .i64 k/\h3=h/\gm (L.take k)=L.take k) ?_
  (m:=L.length-1) ⟨1,rfl,aj_ _,by omega,by simp (disch:=decide) only [jz],by simp only [jz]<;>rfl,rfl,Ll (by rw [aN_];omega)⟩
 rintro m q h3 ⟨k,rfl,h1,hk,q0,q3,rfl,hc⟩ X HX;unfold ai4;simp only [jz,q0,q3];refine df (fun hlt=>?_) (fun hge2=>?_);rotate_left
 . obtain rfl:k=L.length:=by omega
   rw [am_ (aj_ _)]at hc;try simp (disch:=first|decide|omega) only [jz,Nat.reduceAdd,Nat.reduceMul]
   unfold ai5;rw [<- hKK];try simp (disch:=decide) only [jz,q0]
   exact ⟨a,by rw [hc];exact o,s,d⟩
 obtain ⟨x,hx⟩:∃x,L[k]?=some x:=⟨_,aa_ (by omega)⟩;obtain ⟨y,hy⟩:∃y,L[k-1]?=some y:=⟨_,aa_ (by omega)⟩;obtain ⟨x0,x1⟩:=rd hx;obtain ⟨y0,y1⟩:=rd hy;have ek:(k:Int)-1=((k-1:Nat):Int):=by omega
 unfold Mx;try simp (disch:=first|decide|omega) only [jz,q0,q3,ek,tz (ac_ k) hlt,tz (ac_ (k-1)) (show ((k-1:Nat):Int)<(L.length:Nat)by omega),aP_,x0,x1,y0,y1,Bw]
 refine nu (fun hb2=>?_) (fun hb2=>?_);rotate_left
 . unfold Ee;try simp (disch:=first|decide|omega) only [jz,q3]
   refine HX (L.length-(k+1)) _ _ (by omega) ⟨k+1,rfl,by omega,by omega,by simp (disch:=decide) only [jz,q0],by simp only [jz]<;>rfl,rfl,?_⟩;rw [Cw h1 hy hx,ah_ (fun e=>by rw [e,beq_self_eq_true]at hb2;cases hb2),hc,aL_,hx];rfl
 have exy:y=x:=(eq_of_beq hb2).symm;try simp (disch:=first|decide|omega) only [jz,Nat.reduceAdd,Nat.reduceMul,q0,q3]
 rw [pk un22 sz28 (by omega) (by omega) hcap];rw [aP_,ah_ (show ¬cap=k by omega),ox,a1_];have hmax:(dy.rows L++t).length=cap*2:=hbl;try simp (disch:=first|decide|omega) only [jz,Nat.reduceAdd,Nat.reduceMul]
 refine dt (fun m q h4=>∃(w j:Nat) (M:List Cell) (a:Hp),m=L.length-j/\k<=w/\w<j/\k+1<=j/\j<=L.length/\M.length=L.length/\q 0 = .slice (some ⟨b,0,none⟩) L.length cap/\q 3 = .int .i64 w/\q 4 = .slice (some ⟨b,k*2,none⟩) (L.length-k) (cap-k)/\q 5 = .int .i64 (((j-k:Nat):Nat):Int)/\
  a b=some (.cells (dy.rows M++t).toArray 28 (0,0))/\HL.Sep (a::R) h4/\Dis G h4/\M.take w=gm (L.take j)/\∀p,j-1<=p->M[p]?=L[p]?) ?_
  (m:=L.length-(k+1)) ⟨k,k+1,L,a,rfl,aj_ _,by omega,aj_ _,by omega,rfl,by simp (disch:=decide) only [jz,q0],by simp (disch:=decide) only [jz,q3],by simp (disch:=decide) only [jz],by simp only [jz]<;>(rw [show k+1-k=1 by omega];rfl),hb,s,d,by rw [Cw h1 hy hx,ak_ exy,hc],fun p _=>rfl⟩
 clear HX q0 q3 x0 x1 y0 y1 hc hx hy exy hb2 ek rd hbh hb o s d;rintro m q h4 ⟨w,j,M,a,rfl,hkw,hwj,hkj,hj,hM,q0,q3,q4,q5,hb,s,d,htk,hsame⟩ X HX;have hbh:=s.at 0 rfl hb;have rd:=fun {i:Nat} {x:Cell} (hx:M[i]?=some x)=>Uq (G:=G) (bj hbh) hx;unfold Mu;simp only [jz,q4,q5];refine df (fun hlt2=>?_) (fun hge3=>?_)
 . obtain ⟨x,hx⟩:∃x,L[j]?=some x:=⟨_,aa_ (by omega)⟩;obtain ⟨y,hy⟩:∃y,L[j-1]?=some y:=⟨_,aa_ (by omega)⟩;obtain ⟨x0,x1⟩:=rd ((hsame j (by omega)).trans hx);obtain ⟨y0,y1⟩:=rd ((hsame (j-1) (aj_ _)).trans hy);have ej:j*2=k*2+(j-k)*2:=by omega
   have ej1:(j-1)*2=k*2+(j-k-1)*2:=by omega
   rw [ej]at x0 x1;rw [ej1]at y0 y1;have e5:(((j-k:Nat):Nat):Int)-1=((j-k-1:Nat):Int):=by omega
   unfold Df;try simp (disch:=first|decide|omega) only [jz,q4,q5,e5,tz (ac_ (j-k)) hlt2,tz (ac_ (j-k-1)) (show ((j-k-1:Nat):Int)<((L.length-k:Nat):Int)by omega),aP_,x0,x1,y0,y1,Bw]
   have nxt:(((j-k:Nat):Nat):Int)+1=((j+1-k:Nat):Int):=by omega
   cases hxy:(x==y)with
   |true=>
    try simp only [jz]
    unfold tj;try simp (disch:=first|decide|omega) only [jz,q5]
    refine HX (L.length-(j+1)) _ _ (by omega) ⟨w,j+1,M,a,rfl,hkw,by omega,by omega,by omega,hM,by simp (disch:=decide) only [jz,q0],by simp (disch:=decide) only [jz,q3],by simp (disch:=decide) only [jz,q4],by simp only [jz]<;>rw [nxt],hb,s,d,?_,fun p hp=>hsame p (by omega)⟩;rw [htk,Cw (by omega) hy hx,ak_ (eq_of_beq hxy).symm]
   |false=>
    have hwl:(w:Int)<(L.length:Nat):=by omega
    try simp (disch:=first|decide|omega) only [jz,q0,q3,q4,q5,ix22 (ac_ (j-k)) hlt2,ix22 (ac_ w) hwl,aP_,x0,x1]
    rw [st_elem (x:=x) hbh (by omega)];have s5:=s.put (o := .cells (dy.rows (M.set w x)++t).toArray 28 (0,0)) hb;have d5:=d.set (o := .cells (dy.rows (M.set w x)++t).toArray 28 (0,0)) (d _ _ hbh);generalize Hp.set h4 b _=h5 at s5 d5 ⊢;try simp (disch:=first|decide|omega) only [jz,Nat.reduceAdd,Nat.reduceMul,q3]
    unfold tj;try simp (disch:=first|decide|omega) only [jz,q5]
    refine HX (L.length-(j+1)) _ _ (by omega) ⟨w+1,j+1,M.set w x,_,rfl,by omega,by omega,by omega,by omega,by rw [aX_,hM],by simp (disch:=decide) only [jz,q0],by simp (disch:=decide) only [jz]<;>rfl,by simp (disch:=decide) only [jz,q4],by simp only [jz]<;>rw [nxt],bh,s5,d5,?_,fun p hp=>?_⟩
    . rw [Cw (by omega) hy hx,ah_ (fun e=>by rw [e,beq_self_eq_true]at hxy;cases hxy),<- htk,aL_,aB_ (by omega),List.take_set_of_le (aj_ _)];rfl
    . rw [ax_ (by omega)];exact hsame p (by omega)
 . obtain rfl:j=L.length:=by omega
   rw [am_ (aj_ _)]at htk;clear HX;have hwl:w<L.length:=hwj;try simp (disch:=first|decide|omega) only [jz,Nat.reduceAdd,Nat.reduceMul]
   unfold Mw;try simp (disch:=decide) only [jz,q0,q3]
   rw [pk un22 sz28 (by omega) (by omega) hcap];rw [aP_,ah_ (show ¬cap=w by omega),ox,a1_];try simp (disch:=first|decide|omega) only [jz,Nat.reduceAdd,Nat.reduceMul]
   have hlen:(dy.rows M++t).length=cap*2:=by rw [ae_,dy.rows_length,hM,<- dy.rows_length,<- ae_,hmax]
   refine as6 dy ((0,0):Cell) un22 (by decide) (by kernel_rfl) hbh (by omega) (by rw [hlen,show dy.n=2 from rfl];omega) fun l' hl1 hl2=>?_;have s5:=s.put (o := .cells l'.toArray 28 (0,0)) hb;have d5:=d.set (o := .cells l'.toArray 28 (0,0)) (d _ _ hbh);generalize Hp.set h4 b _=h5 at s5 d5 ⊢;try simp (disch:=first|decide|omega) only [jz,Nat.reduceAdd,Nat.reduceMul,q0,q3]
   rw [Ay un22 sz28 (by omega) (by omega)];rw [aP_];rw [<- hKK];try simp only [jz]
   have hcl:gm L=M.take w:=htk.symm;have hml:(M.take w).length=w:=by rw [aN_];omega
   have hl3:l'=dy.rows (gm L)++l'.drop (w*2):=by rw [hcl];have:=dy.rows_take (L:=M) (t:=t) (k:=w) (by omega);rw [show dy.n=2 from rfl]at this;rw [<- this,<- hl2,bE_]
   refine ⟨_,⟨some b,cap,l'.drop (w*2),by rw [hcl,hml],?_,?_⟩,s5,d5⟩
   . rw [<- hl3];exact bh
   . rw [<- hl3,hl1,hlen];rfl
end Go.Proofs.YtfflipnhffknnaaGreatDoor
end
section
namespace Go.Proofs.YtfflipnhffknnaaGreatDoor
open Go Go.HL Go.Proofs
def C4:Go.Shelf.Ren:=⟨fun|6=>134|15=>161|14=>160|28=>179|29=>180|20=>171|21=>172|22=>173|23=>174|24=>175|25=>176|26=>177|27=>178|46=>188|47=>189|48=>190|49=>191|50=>192|57=>198|n=>n,fun|22=>22|24=>28|25=>247|3=>3|39=>272|0=>0|53=>159|55=>284|4=>4|46=>277|45=>276|50=>251|5=>5|9=>9|66=>289|70=>293|76=>299|77=>300|n=>n,fun|n=>n⟩
theorem an1:Go.Proofs.SlLaysF0.n6 P_ C4 where
 mixed:=by kernel_rfl
 f6:=⟨ "slices.SortFunc[[]skep/api.Cell,skep/api.Cell]",by decide,Tryz.func134.trans (congrArg some (by kernel_rfl))⟩
 f14:=⟨ "slices.pdqsortCmpFunc[skep/api.Cell]",by decide,Tryz.func160.trans (congrArg some (by kernel_rfl))⟩
 f15:=Tryz.func161.trans (congrArg some (by kernel_rfl))
 f20:=⟨ "slices.insertionSortCmpFunc[skep/api.Cell]",by decide,Tryz.func171.trans (congrArg some (by kernel_rfl))⟩
 f21:=⟨ "slices.heapSortCmpFunc[skep/api.Cell]",by decide,Tryz.func172.trans (congrArg some (by kernel_rfl))⟩
 f22:=⟨ "slices.breakPatternsCmpFunc[skep/api.Cell]",by decide,Tryz.func173.trans (congrArg some (by kernel_rfl))⟩
 f23:=⟨ "slices.choosePivotCmpFunc[skep/api.Cell]",by decide,Tryz.func174.trans (congrArg some (by kernel_rfl))⟩
 f24:=⟨ "slices.reverseRangeCmpFunc[skep/api.Cell]",by decide,Tryz.func175.trans (congrArg some (by kernel_rfl))⟩
 f25:=⟨ "slices.partialInsertionSortCmpFunc[skep/api.Cell]",by decide,Tryz.func176.trans (congrArg some (by kernel_rfl))⟩
 f26:=⟨ "slices.partitionEqualCmpFunc[skep/api.Cell]",by decide,Tryz.func177.trans (congrArg some (by kernel_rfl))⟩
 f27:=⟨ "slices.partitionCmpFunc[skep/api.Cell]",by decide,Tryz.func178.trans (congrArg some (by kernel_rfl))⟩
 f28:=Tryz.func179.trans (congrArg some (by kernel_rfl))
 f29:=Tryz.func180.trans (congrArg some (by kernel_rfl))
 f46:=⟨ "slices.siftDownCmpFunc[skep/api.Cell]",by decide,Tryz.func188.trans (congrArg some (by kernel_rfl))⟩
 f47:=Tryz.func189.trans (congrArg some (by kernel_rfl))
 f48:=Tryz.func190.trans (congrArg some (by kernel_rfl))
 f49:=⟨ "slices.medianAdjacentCmpFunc[skep/api.Cell]",by decide,Tryz.func191.trans (congrArg some (by kernel_rfl))⟩
 f50:=⟨ "slices.medianCmpFunc[skep/api.Cell]",by decide,Tryz.func192.trans (congrArg some (by kernel_rfl))⟩
 f57:=⟨ "slices.order2CmpFunc[skep/api.Cell]",by decide,Tryz.func198.trans (congrArg some (by kernel_rfl))⟩
 t0:=Tryz.underlying0
 a0:=Tryz.isAgg0
 z0:=Tryz.sizeOf0
 v0:=Tryz.zeroValue0
 t3:=Tryz.underlying3
 a3:=Tryz.isAgg3
 z3:=Tryz.sizeOf3
 v3:=Tryz.zeroValue3
 t4:=Tryz.underlying4
 a4:=Tryz.isAgg4
 z4:=Tryz.sizeOf4
 v4:=Tryz.zeroValue4
 t5:=Tryz.underlying5
 a5:=Tryz.isAgg5
 z5:=Tryz.sizeOf5
 v5:=Tryz.zeroValue5
 t9:=Tryz.underlying9
 a9:=Tryz.isAgg9
 z9:=Tryz.sizeOf9
 v9:=Tryz.zeroValue9
 t22:=Tryz.underlying22
 a22:=Tryz.isAgg22
 z22:=Tryz.sizeOf22
 v22:=Tryz.zeroValue22
 t25:=Tryz.underlying247
 a25:=Tryz.isAgg247
 z25:=Tryz.sizeOf247
 v25:=Tryz.zeroValue247
 t39:=Tryz.underlying272
 a39:=Tryz.isAgg272
 z39:=Tryz.sizeOf272
 v39:=Tryz.zeroValue272
 t45:=Tryz.underlying276
 a45:=Tryz.isAgg276
 z45:=Tryz.sizeOf276
 v45:=Tryz.zeroValue276
 t46:=Tryz.underlying277
 a46:=Tryz.isAgg277
 z46:=Tryz.sizeOf277
 v46:=Tryz.zeroValue277
 t50:=Tryz.underlying251
 a50:=Tryz.isAgg251
 z50:=Tryz.sizeOf251
 v50:=Tryz.zeroValue251
 t53:=Tryz.underlying159
 a53:=Tryz.isAgg159
 z53:=Tryz.sizeOf159
 v53:=Tryz.zeroValue159
 t55:=Tryz.underlying284
 a55:=Tryz.isAgg284
 z55:=Tryz.sizeOf284
 v55:=Tryz.zeroValue284
 t66:=Tryz.underlying289
 a66:=Tryz.isAgg289
 z66:=Tryz.sizeOf289
 v66:=Tryz.zeroValue289
 t70:=Tryz.underlying293
 a70:=Tryz.isAgg293
 z70:=Tryz.sizeOf293
 v70:=Tryz.zeroValue293
 t76:=Tryz.underlying299
 a76:=Tryz.isAgg299
 z76:=Tryz.sizeOf299
 v76:=Tryz.zeroValue299
 t77:=Tryz.underlying300
 a77:=Tryz.isAgg300
 z77:=Tryz.sizeOf300
 v77:=Tryz.zeroValue300
end Go.Proofs.YtfflipnhffknnaaGreatDoor
end
section
namespace Go.Proofs.YtfflipnhffknnaaGreatDoor
open Go Go.HL
def Ao:=jq bC (jq (jq (jq @sn @cf127) (jq @cf134 (jq @cf136 @cf88))) (jq (jq @yp @ld48) (jq @ld68 (jq @Vj @true_and))))
theorem Z2 {w k:Nat} {f:Nat->Nat->Int} {c:Cell} (h:qe w k f c=true):inW w k c=true:=by unfold qe at h;rw [ag_]at h;exact h.1
theorem way_in {w k:Nat} {f:Nat->Nat->Int} {m:Move} (h:wayB w k f m=true):∀c∈wayL m,inW w k c=true:=by
 intro c hc;unfold wayB at h;unfold wayL at hc;rw [ag_]at h;obtain ⟨hf,h⟩:=h;by_cases h1:m.k=1
 . rw [ak_ h1]at h hc;simp only [ag_,az_,aY_]at h hc;obtain ⟨i,hi,hc⟩:=hc;have:=h.2.1 i hi;unfold ry at this;rw [ag_]at this;exact (qx this.2 c hc).1
 . rw [ah_ h1]at h hc;by_cases h2:m.k=2
   . rw [ak_ h2]at h hc;simp only [ag_,az_]at h;exact Z2 (h.2.1 c hc)
   . rw [ah_ h2]at hc;exact (qx hf c hc).1
theorem K7 {D:Nat->List Cell} (h:∀i,(D i).length=2):∀n,((List.range n).flatMap D).length=2*n
 |0=>rfl
 |n+1=>by rw [bO_,be_,ae_,K7 h n];simp [h];omega
theorem way_len {w k:Nat} {f:Nat->Nat->Int} {m:Move} (h:wayB w k f m=true):(wayL m).length<=34/\wayL m≠[]:=by
 unfold wayB at h;rw [ag_]at h;obtain ⟨hf,h⟩:=h;unfold wayL;by_cases h1:m.k=1
 . rw [ak_ h1]at h ⊢;simp only [ag_,az_,aM_,aw_]at h;have:=h.2.1 m.n.toNat (by omega);unfold ry okS at this;simp only [ag_]at this;have hn:=gh.1 this.1.1;have e:=K7 (D:=fun (i:Nat)=>dj (ir m.f m.d i)) (fun i=>rfl) (m.n.toNat+1);refine ⟨by rw [e];omega,fun hn=>?_⟩;rw [hn]at e;simp at e
 . rw [ah_ h1];split
   . exact ⟨by simp [gj],by simp [gj]⟩
   . exact ⟨by simp [dj],by simp [dj]⟩
theorem Z3 {w k:Nat} {c:Cell} (h:inW w k c=true):numI w k c=numW w c:=by unfold numI numW;rw [ak_ h]
theorem in_bd {w k:Nat} {c:Cell} (h:inW w k c=true):0<=c.1/\c.1<w/\0<=c.2/\c.2<k:=by unfold inW at h;rw [ag_]at h;have h1:=gh.1 h.1;have h2:=gh.1 h.2;omega
theorem Rk {w k:Nat} {c:Cell} (hw:w<=16) (hk:k<=16) : -1<=numI w k c/\numI w k c<=1000:=by
 unfold numI;split
 . rename_i h;obtain ⟨a,b,c1,d⟩:=in_bd h;have h1:0<=c.2*(w:Int):=Int.mul_nonneg c1 (by omega);have h2:c.2*(w:Int)<=16*16:=bx_ (by omega) (by omega) (by omega) (by omega);omega
 . omega
theorem Fu {G h:Hp} {v0 w k:Nat} {f:Nat->Nat->Int} {g:Value} {a b:Cell} (hv:∀j,bf G h ⟨v0,j,none⟩=[g][j]?) (gs:GS G h g w k f):bn P_ G 135 #[ww a,ww b,.pointer (some ⟨v0,0,none⟩)] h (fun u h'=>u = .int .i64 (numI w k a-numI w k b)/\h'=h):=by
 obtain ⟨gp,kb,hgp,_⟩:=gs.ex;refine bn.assume fun d=>quietly (aI1 (by simp) ?_);unfold S135;simp only [Ao];intro x hx gx;generalize e1:Hp.set h x _=h1;obtain ⟨l1,d1,b1⟩:=boxed e1 hx d gx;intro y hy gy;generalize e2:Hp.set h1 y _=h2;obtain ⟨l2,d2,b2⟩:=boxed e2 hy d1 gy;have cx:∀j,bf G h2 ⟨x,j,none⟩=_:=fun j=>bm (bj (l2 _ _ b1));have cy:∀j,bf G h2 ⟨y,j,none⟩=_:=fun j=>bm (bj b2);have l02:=l1.trans l2;have cv:bf G h2 ⟨v0,0,none⟩=some g:=ku l02 d2 (hv 0);have gs2:=gs.up l02 d2;subst hgp;try simp only [Ao,cx,cy,cv]
 refine (qk (c:=a) gs2).mono ?_;rintro _ h3 ⟨rfl,rfl⟩;refine ⟨Hp.le.refl _,?_⟩;try simp (disch:=first|decide|omega) only [Ao,Nat.reduceAdd,Nat.reduceMul,cx,cy,cv]
 refine (qk (c:=b) gs2).mono ?_;rintro _ h3 ⟨rfl,rfl⟩;have ba:=Rk (c:=a) gs.w2 gs.k2;have bb:=Rk (c:=b) gs.w2 gs.k2;try simp (disch:=first|decide|omega) only [Ao]
 first|exact l02|exact ⟨rfl,l02⟩
instance:Inhabited Cell:=⟨(0,0)⟩
theorem swo_num (n:Cell->Int):Go.Sort.SWO (Go.Proofs.ltOf fun a b=>n a-n b):=by refine ⟨fun x=>?_,fun x y z h1 h2=>?_,fun x y z h1 h2=>?_⟩<;>simp only [Go.Proofs.ltOf,aw_,aR_]at * <;> omega
def me (w k:Nat) (f:Nat->Nat->Int) (m:Move):List Cell:=if wayB w k f m=true then mr w k (wayL m)else []
theorem Xb {G h:Hp} {g:Value} {w k:Nat} {f:Nat->Nat->Int} {m:Move} (gs:GS G h g w k f) (st:lg G) (mb:MB m):bn P_ G 90 #[g,E7 m] h (fun u h'=>∃ip,Slc dy 28 ip u (me w k f m)/\HL.Sep [ip,h] h'/\Dis G h'):=by
 obtain ⟨gp,kb,hgp,_⟩:=gs.ex;subst hgp;refine bn.assume fun d=>enter90 (by simp) ?_;unfold S90;simp only [Ao];intro x hx gx;generalize e1:Hp.set h x _=h1;obtain ⟨l1,d1,b1⟩:=boxed e1 hx d gx;intro y hy gy;generalize e2:Hp.set h1 y _=h2;obtain ⟨l2,d2,b2⟩:=boxed e2 hy d1 gy;have cx:∀j,bf G h2 ⟨x,j,none⟩=_:=fun j=>bm (bj (l2 _ _ b1));have cy:∀j,bf G h2 ⟨y,j,none⟩=_:=fun j=>bm (bj b2);have l02:=l1.trans l2;have gs2:=gs.up l02 d2;try simp only [Ao,cx,cy]
 refine (T4 (m:=m) gs2 st mb).mono ?_;rintro _ h3 ⟨ip,v,L,rfl,o,s3,d3,hL⟩;try simp only [Ao]
 cases hw:wayB w k f m with
 |false=>
  try simp only [Ao]
  refine ⟨noHp,?_,(s3.drop.cut l02).none,d3⟩;unfold me;rw [hw];exact Slc.nil
 |true=>
  obtain rfl:=hL hw;obtain ⟨wl,wn⟩:=way_len hw;try simp only [Ao]
  unfold aO0;obtain ⟨ob,o'⟩:=o;cases ob with
  |none=>exact absurd o'.2 wn
  |some b=>
  obtain ⟨cap,t,rfl,hb,hbl⟩:=o';try simp (disch:=decide) only [Ao]
  have hx3:h2 x=some _:=l2 _ _ b1
  refine bn.mono (f:=134) (an0 (ρ:=C4) an1 dy (by decide) Tryz.isAgg28 Tryz.sizeOf28 (swo_num (numI w k)) (g:=135) (cb:=#[.pointer (some ⟨x,0,none⟩)])
   (enters_of Tryz.func135 (by kernel_rfl) rfl) s3 d3 hb (fun p q h' s' d'=>Fu (a:=p) (b:=q) (fun j=>by rw [bm (bj (s'.in 0 rfl _ _ hx3))]) (gs2.up (s'.in 0 rfl) d')) (by omega)) ?_
  rintro _ h4 ⟨rfl,S,hp,hs,rfl⟩;have s4:=s3.put (o := .cells (dy.rows S++t).toArray 28 (0,0)) hb;have d4:=d3.set (o := .cells (dy.rows S++t).toArray 28 (0,0)) (d3 _ _ (s3.at 0 rfl hb));have hlS:S.length=(wayL m).length:=hp.length_eq;have o4:Slc dy 28 (ip.set b (.cells (dy.rows S++t).toArray 28 (0,0))) (.slice (some ⟨b,0,none⟩) (wayL m).length cap) S:=⟨some b,cap,t,by rw [hlS],bh,by rw [<- hbl,ae_,ae_,dy.rows_length,dy.rows_length,hlS]⟩;generalize Hp.set h3 b _=h4 at s4 d4 ⊢;generalize Hp.set ip b _=ip4 at s4 o4;try simp (disch:=first|decide|omega) only [Ao,Nat.reduceAdd,Nat.reduceMul]
  refine (Si s4 o4 (by omega)).mono ?_;rintro u5 h5 ⟨a5,o5,s5,d5⟩;try simp (disch:=first|decide|omega) only [Ao,Nat.reduceAdd,Nat.reduceMul]
  refine ⟨a5,?_,((s5.pick 1 rfl rfl).cut l02).pick 1 rfl rfl,d5⟩;have hin:=way_in hw
  have e:=N9 (w:=w) (k:=k) (W:=wayL m) (S:=S) (by have:=gs.w1;omega) (fun c hc=>in_bd (hin c hc)) hp (hs.imp_of_mem fun {a b} ha hb h=>by
   rw [Z3 (hin a (hp.mem_iff.1 ha)),Z3 (hin b (hp.mem_iff.1 hb))]at h
   omega)
  unfold me;rw [hw,ak_ rfl,<- e];exact o5
end Go.Proofs.YtfflipnhffknnaaGreatDoor
end
section
namespace Go.Proofs.Srch
open Go.Proofs.Resv
section
variable {P M:Type} [DecidableEq P]
inductive Rc (E:Env P M) (p0:P) (t0:Int):P->Nat->Int->Prop where
 |start {i:Nat} (h:inside (E.spans p0) t0=some i):Rc E p0 t0 p0 i t0
 |step {p:P} {i j:Nat} {t b:Int} {s0 s:Sp} {w:M × P × Int × List Sp} (h:Rc E p0 t0 p i t) (h0:(E.spans p)[i]?=some s0) (hw:w∈E.ways p) (hs:s∈w.2.2.2) (h1:s0.1<=s.1) (h2:s.2<=s0.2)
  (hb:t<=b) (hb2:s.1<=b) (he:sumI b w.2.2.1<=s.2) (he2:sumI b w.2.2.1<FV) (hj:inside (E.spans w.2.1) (sumI b w.2.2.1)=some j):Rc E p0 t0 w.2.1 j (sumI b w.2.2.1)
structure En (E:Env P M):Prop where
 ris:∀p,Ris (E.spans p)
 wris:∀p,∀w∈E.ways p,Ris w.2.2.2
 sub:∀p,∀w∈E.ways p,∀s∈w.2.2.2,∃s'∈E.spans w.2.1,s'.1<=s.1/\s.2<=s'.2
variable {E:Env P M}
theorem Cp {l:List Sp} (h:Ris l) {t:Int} {i:Nat} {s:Sp} (hs:l[i]?=some s) (h1:s.1<=t) (h2:t<s.2):inside l t=some i:=by unfold inside;rw [List.findIdx?_eq_some_iff_getElem];obtain ⟨hi,rfl⟩:=ad_.1 hs;refine ⟨hi,by simp [insB,h1,h2],fun j hj=>?_⟩;have:=aT_.1 h.pw j i (by omega) hi hj;simp [insB];intro _;omega
theorem Ji {l:List Sp} (h:Ris l) {i j:Nat} {s u:Sp} (hs:l[i]?=some s) (hu:l[j]?=some u) {t:Int} (h1:s.1<=t) (h2:t<=s.2) (h3:u.1<=t) (h4:t<=u.2):i=j:=by
 obtain ⟨hi,rfl⟩:=ad_.1 hs;obtain ⟨hj,rfl⟩:=ad_.1 hu;rcases Nat.lt_trichotomy i j with h5|h5|h5
 . have:=aT_.1 h.pw i j hi hj h5;omega
 . exact h5
 . have:=aT_.1 h.pw j i hj hi h5;omega
theorem av6 {a b d:Int} (h:a<=b):sumI a d<=sumI b d:=by unfold sumI cutI FV;split<;>split<;>omega
theorem X5 (r:En E) {p:P} {w:M × P × Int × List Sp} (hw:w∈E.ways p) {s:Sp} (hs:s∈w.2.2.2) {e e':Int} {j:Nat} (hj:inside (E.spans w.2.1) e=some j) (h1:s.1<=e') (h2:e'<=e) (h3:e<=s.2):inside (E.spans w.2.1) e'=some j:=by obtain ⟨s',hs',h4,h5⟩:=r.sub p w hw s hs;obtain ⟨i,hi,rfl⟩:=bj_ hs';obtain ⟨u,hu,h6,h7,_⟩:=wo hj;have:=Ji (r.ris w.2.1) (aa_ hi) hu (t:=e) (by omega) (by omega) h6 (by omega);subst this;rw [aa_ hi]at hu;cases hu;exact Cp (r.ris w.2.1) (aa_ hi) (by omega) (by omega)
def Up (S S':List (St P M)):Prop:=∀x∈S,∃x'∈S',x'.p=x.p/\x'.i=x.i/\x'.a<=x.a/\(x.dn=true->x'=x)
theorem Up.refl (S:List (St P M)):Up S S:=fun x hx=>⟨x,hx,rfl,rfl,aS_ _,fun _=>rfl⟩
theorem Up.trans {S S' S'':List (St P M)} (a:Up S S') (b:Up S' S''):Up S S'':=fun x hx=>by obtain ⟨y,hy,e1,e2,e3,e4⟩:=a x hx;obtain ⟨z,hz,f1,f2,f3,f4⟩:=b y hy;refine ⟨z,hz,f1.trans e1,f2.trans e2,by omega,fun hd=>?_⟩;have:=e4 hd;subst this;exact f4 hd
theorem Rl {p0:P} {t0 lo:Int} {z:M} {S:List (St P M)} (v:Inv E p0 t0 z lo S) {p:P} {t:Int} {m:M} {b:Int} (hlo:lo<=t):Up S (note E S p t m b)/\∀x∈note E S p t m b,x.dn=true->x∈S:=by
 unfold note;split
 . unfold Ai;split
   . rename_i k hk;obtain ⟨x,hx,e1,e2⟩:=vl hk;simp only [hx];split
     . rename_i hlt;have hkl:k<S.length:=(ad_.1 hx).1;have hxe:S[k]=x:=(ad_.1 hx).2
       have hnd:x.dn=false:=by
        cases hd:x.dn with
        |false=>rfl
        |true=>have:=v.dn x (ab_ hx) hd;omega
       refine ⟨fun y hy=>?_,fun y hy hd=>?_⟩
       . obtain ⟨j,hj,rfl⟩:=bj_ hy;by_cases hjk:j=k
         . subst hjk;rw [hxe];refine ⟨{ x with a:=t,mv:=m,b:=b },ab_ (i:=j) (by rw [aB_ hkl]),rfl,rfl,Int.le_of_lt hlt,fun hd=>?_⟩;rw [hnd]at hd;cases hd
         . exact ⟨_,ab_ (by rw [ax_ (Ne.symm hjk)];exact aa_ hj),rfl,rfl,aS_ _,fun _=>rfl⟩
       . rcases bb_ hy with h|rfl
         . exact h
         . rw [hnd]at hd;cases hd
     . exact ⟨.refl _,fun _ h _=>h⟩
   . refine ⟨fun y hy=>⟨y,aZ_ _ hy,rfl,rfl,aS_ _,fun _=>rfl⟩,fun y hy hd=>?_⟩;rcases ao_.1 hy with h|h
     . exact h
     . rw [aE_]at h;subst h;cases hd
 . exact ⟨.refl _,fun _ h _=>h⟩
theorem Va {S:List (St P M)} {p:P} {t:Int} {m:M} {b:Int} {j:Nat} (hj:inside (E.spans p) t=some j):∃y∈note E S p t m b,y.p=p/\y.i=j/\y.a<=t:=by
 unfold note;rw [hj];simp only;unfold Ai;cases hk:key S p j with
 |none=>exact ⟨_,a7_ _ (.head _),rfl,rfl,aS_ _⟩
 |some k=>
  obtain ⟨x,hx,e1,e2⟩:=vl hk;have hkl:k<S.length:=(ad_.1 hx).1;simp only [hx];split
  . exact ⟨{ x with a:=t,mv:=m,b:=b },ab_ (i:=k) (by rw [aB_ hkl]),e1,e2,aS_ _⟩
  . exact ⟨x,ab_ hx,e1,e2,by omega⟩
def Nv (E:Env P M) (S:List (St P M)) (x:St P M) (w:M × P × Int × List Sp) (s:Sp):Prop:=
 x.s.1<=s.1->s.2<=x.s.2->sumI (max x.a s.1) w.2.2.1<=s.2->sumI (max x.a s.1) w.2.2.1<FV->∀j,inside (E.spans w.2.1) (sumI (max x.a s.1) w.2.2.1)=some j->∃y∈S,y.p=w.2.1/\y.i=j/\y.a<=sumI (max x.a s.1) w.2.2.1
theorem Nv.up {S S':List (St P M)} {x:St P M} {w:M × P × Int × List Sp} {s:Sp} (n:Nv E S x w s) (u:Up S S'):Nv E S' x w s:=fun h1 h2 h3 h4 j hj=>by obtain ⟨y,hy,e1,e2,e3⟩:=n h1 h2 h3 h4 j hj;obtain ⟨z,hz,f1,f2,f3,_⟩:=u y hy;exact ⟨z,hz,f1.trans e1,f2.trans e2,by omega⟩
structure Cl (E:Env P M) (p0:P) (t0:Int) (S:List (St P M)):Prop where
 start:∀i,inside (E.spans p0) t0=some i->∃x∈S,x.p=p0/\x.i=i/\x.a<=t0
 closed:∀x∈S,x.dn=true->∀w∈E.ways x.p,∀s∈w.2.2.2,Nv E S x w s
theorem step_up (ok:rt E) {p0:P} {t0:Int} {z:M} {S:List (St P M)} {x:St P M} {k:Nat} (v:Inv E p0 t0 z x.a S) (ha:0<=x.a) {w:M × P × Int × List Sp} (hw:w∈E.ways x.p) {s:Sp}:
 Up S (ja E x k w S s)/\(∀y∈ja E x k w S s,y.dn=true->y∈S)/\Nv E (ja E x k w S s) x w s:=by
 unfold ja;split
 . rename_i h;exact ⟨.refl _,fun _ h _=>h,fun h1 h2=>by omega⟩
 . split
   . rename_i h;exact ⟨.refl _,fun _ h _=>h,fun h1 h2 h3 h4=>by omega⟩
   . rename_i h1 h2;have h4:=J7 (show 0<=max x.a s.1 by omega) (ok.lasts _ w hw).1 (by omega);have:=Rl v (p:=w.2.1) (t:=sumI (max x.a s.1) w.2.2.1) (m:=E.stamp w.1 (max x.a s.1) (sumI (max x.a s.1) w.2.2.1)) (b:=k) (by omega);exact ⟨this.1,this.2,fun _ _ _ _ j hj=>Va hj⟩
theorem av0 (ok:rt E) {p0:P} {t0:Int} {z:M} {x:St P M} {k:Nat} (hd:x.dn=true) (ha:0<=x.a) (hox:E.ok x.p) {w:M × P × Int × List Sp} (hw:w∈E.ways x.p):∀(l:List Sp) {S:List (St P M)},(∀s∈l,s∈w.2.2.2)->Inv E p0 t0 z x.a S->S[k]?=some x->
 Up S (l.foldl (ja E x k w) S)/\(∀y∈l.foldl (ja E x k w) S,y.dn=true->y∈S)/\∀s∈l,Nv E (l.foldl (ja E x k w) S) x w s
 |[],S,_,v,hx=>⟨.refl _,fun _ h _=>h,fun _ h=>by cases h⟩
 |s::l,S,hl,v,hx=>by
  obtain ⟨v1,h1⟩:=J9 ok v hx hd ha hox hw (hl s (.head _));obtain ⟨u1,d1,n1⟩:=step_up ok (k:=k) v ha hw (s:=s);obtain ⟨u2,d2,n2⟩:=av0 ok hd ha hox hw l (fun s hs=>hl s (.tail _ hs)) v1 h1;refine ⟨u1.trans u2,fun y hy hyd=>d1 y (d2 y hy hyd) hyd,fun u hu=>?_⟩;rcases al_.1 hu with rfl|hu
  . exact n1.up u2
  . exact n2 u hu
theorem Zh (ok:rt E) {p0:P} {t0:Int} {z:M} {x:St P M} {k:Nat} (hd:x.dn=true) (ha:0<=x.a) (hox:E.ok x.p):∀(l:List (M × P × Int × List Sp)) {S:List (St P M)},(∀w∈l,w∈E.ways x.p)->Inv E p0 t0 z x.a S->S[k]?=some x->
 Up S (l.foldl (vm E x k) S)/\(∀y∈l.foldl (vm E x k) S,y.dn=true->y∈S)/\∀w∈l,∀s∈w.2.2.2,Nv E (l.foldl (vm E x k) S) x w s
 |[],S,_,v,hx=>⟨.refl _,fun _ h _=>h,fun _ h=>by cases h⟩
 |w::l,S,hl,v,hx=>by
  obtain ⟨v1,h1⟩:=Q1 ok hd ha hox (hl w (.head _)) w.2.2.2 (fun _ h=>h) v hx;obtain ⟨u1,d1,n1⟩:=av0 ok (k:=k) hd ha hox (hl w (.head _)) w.2.2.2 (fun _ h=>h) v hx;obtain ⟨u2,d2,n2⟩:=Zh ok hd ha hox l (fun w hw=>hl w (.tail _ hw)) v1 h1;refine ⟨u1.trans u2,fun y hy hyd=>d1 y (d2 y hy hyd) hyd,fun u hu=>?_⟩;rcases al_.1 hu with rfl|hu
  . exact fun s hs=>(n1 s hs).up u2
  . exact n2 u hu
theorem take_up {S:List (St P M)} {k:Nat} {x:St P M} (hx:S[k]?=some x) (hnd:x.dn=false):(∀y∈S,∃y'∈take S k x,y'.p=y.p/\y'.i=y.i/\y'.a<=y.a)/\∀y∈take S k x,y.dn=true->y∈S\/y={ x with dn:=true }:=by
 have hkl:k<S.length:=(ad_.1 hx).1;have hxe:S[k]=x:=(ad_.1 hx).2;unfold take;refine ⟨fun y hy=>?_,fun y hy hd=>?_⟩
 . obtain ⟨j,hj,rfl⟩:=bj_ hy;by_cases hjk:j=k
   . subst hjk;rw [hxe];exact ⟨{ x with dn:=true },ab_ (i:=j) (by rw [aB_ hkl]),rfl,rfl,aS_ _⟩
   . exact ⟨_,ab_ (by rw [ax_ (Ne.symm hjk)];exact aa_ hj),rfl,rfl,aS_ _⟩
 . rcases bb_ hy with h|h
   . exact .inl h
   . exact .inr h
theorem aw8 (ok:rt E) {p0:P} {t0 lo:Int} {z:M} {S:List (St P M)} (v:Inv E p0 t0 z lo S) (c:Cl E p0 t0 S) {k:Nat} {x:St P M} (h:least E S=some (k,x)):
 Inv E p0 t0 z x.a (Bq E { x with dn:=true } k (take S k x))/\Cl E p0 t0 (Bq E { x with dn:=true } k (take S k x))/\
  (∀y∈Bq E { x with dn:=true } k (take S k x),y.dn=true->y∈S\/y={ x with dn:=true }):=by
 obtain ⟨hx,hnd,_⟩:=vk h;have hxm:=ab_ hx;obtain ⟨v1,h1⟩:=J3 v h;have ha:0<=x.a:=by obtain ⟨e1,e2,e3⟩:=v.at_ x hxm;have:=ok.pos x.p x.s (ab_ e1);omega
 have hox:=v.ok x hxm;obtain ⟨v2,_⟩:=Jz ok (x:={ x with dn:=true }) rfl ha hox (E.ways x.p) (fun _ h=>h) v1 h1;obtain ⟨u2,d2,n2⟩:=Zh ok (x:={ x with dn:=true }) rfl ha hox (E.ways x.p) (fun _ h=>h) v1 h1;obtain ⟨u1,d1⟩:=take_up hx hnd;refine ⟨v2,⟨fun i hi=>?_,fun y hy hd w hw s hs=>?_⟩,fun y hy hd=>d1 y (d2 y hy hd) hd⟩
 . obtain ⟨y,hy,e1,e2,e3⟩:=c.start i hi;obtain ⟨y1,hy1,f1,f2,f3⟩:=u1 y hy;obtain ⟨y2,hy2,g1,g2,g3,_⟩:=u2 y1 hy1;exact ⟨y2,hy2,by rw [g1,f1,e1],by rw [g2,f2,e2],by omega⟩
 . rcases d1 y (d2 y hy hd) hd with h3|rfl
   . intro q1 q2 q3 q4 j hj;obtain ⟨u,hu,e1,e2,e3⟩:=c.closed y h3 hd w hw s hs q1 q2 q3 q4 j hj;obtain ⟨y1,hy1,f1,f2,f3⟩:=u1 u hu;obtain ⟨y2,hy2,g1,g2,g3,_⟩:=u2 y1 hy1;exact ⟨y2,hy2,by rw [g1,f1,e1],by rw [g2,f2,e2],by omega⟩
   . exact n2 w hw s hs
theorem Ux (ok:rt E) (r:En E) {p0:P} {t0 lo:Int} {z:M} {S:List (St P M)} (v:Inv E p0 t0 z lo S) (c:Cl E p0 t0 S) {p:P} {i:Nat} {t:Int} (h:Rc E p0 t0 p i t):
 (∃x∈S,x.p=p/\x.i=i/\x.dn=true/\x.a<=t)\/∃y∈S,y.dn=false/\y.a<=t:=by
 induction h with
 |@start i h=>
  obtain ⟨x,hx,e1,e2,e3⟩:=c.start i h;cases hd:x.dn with
  |true=>exact .inl ⟨x,hx,e1,e2,hd,e3⟩
  |false=>exact .inr ⟨x,hx,hd,e3⟩
 |@step p i j t b s0 s w h h0 hw hs h1 h2 hb hb2 he he2 hj ih=>
  have hb0:0<=b:=by have:=(r.wris p w hw).bd s hs;omega
  have hlt:=J7 hb0 (ok.lasts _ w hw).1 he2;rcases ih with ⟨x,hx,rfl,rfl,hd,e3⟩|⟨y,hy,hd,e⟩
  . have hxs:x.s=s0:=by have:=(v.at_ x hx).1;rw [h0]at this;exact (Option.some.inj this).symm
    have hm:sumI (max x.a s.1) w.2.2.1<=sumI b w.2.2.1:=av6 (by omega);have hx0:0<=max x.a s.1:=by have:=(r.wris _ w hw).bd s hs;omega
    have hlt2:=J7 hx0 (ok.lasts _ w hw).1 (show sumI (max x.a s.1) w.2.2.1<FV by omega);have hj':=X5 r hw hs hj (e':=sumI (max x.a s.1) w.2.2.1) (by omega) hm he;obtain ⟨y,hy,f1,f2,f3⟩:=c.closed x hx hd w hw s hs (by rw [hxs];exact h1) (by rw [hxs];exact h2) (by omega) (by omega) j hj';cases hd2:y.dn with
    |true=>exact .inl ⟨y,hy,f1,f2,hd2,by omega⟩
    |false=>exact .inr ⟨y,hy,hd2,by omega⟩
  . exact .inr ⟨y,hy,hd,by omega⟩
theorem Zq (ok:rt E) (r:En E) {p0:P} {t0:Int} {z:M} {goal:P->Sp->Bool}:∀(n:Nat) {lo:Int} {S:List (St P M)},Inv E p0 t0 z lo S->Cl E p0 t0 S->(∀x∈S,x.dn=true->goal x.p x.s=false)->
 (∃lo' S' k x f,run E goal n S = .ok (path S' f k [])/\S'.length=f/\Inv E p0 t0 z lo' S'/\S'[k]?=some x/\goal x.p x.s=true/\∀p i t s,Rc E p0 t0 p i t->(E.spans p)[i]?=some s->goal p s=true->x.a<=t)\/
 (run E goal n S = .no 6/\∀p i t s,Rc E p0 t0 p i t->(E.spans p)[i]?=some s->goal p s=false)\/run E goal n S = .no 7
 |0,lo,S,v,c,g => .inr (.inr rfl)
 |n+1,lo,S,v,c,g=>by
  unfold run;cases h:least E S with
  |none=>
   refine .inr (.inl ⟨rfl,fun p i t s hr hs=>?_⟩);have hall:=Kv h;rcases Ux ok r v c hr with ⟨x,hx,rfl,rfl,hd,_⟩|⟨y,hy,hd,_⟩
   . have:=(v.at_ x hx).1;rw [hs]at this;rw [Option.some.inj this];exact g x hx hd
   . rw [hall y hy]at hd;cases hd
  |some q=>
   obtain ⟨k,x⟩:=q;simp only;obtain ⟨hx,hnd,hmin⟩:=vk h;by_cases hg:goal x.p x.s=true
   . rw [ak_ hg];obtain ⟨v1,h1⟩:=J3 v h;refine .inl ⟨_,take S k x,k,_,S.length,rfl,by simp [take],v1,h1,hg,fun p i t s hr hs hgs=>?_⟩;rcases Ux ok r v c hr with ⟨y,hy,rfl,rfl,hd,_⟩|⟨y,hy,hd,hle⟩
     . have:=(v.at_ y hy).1;rw [hs]at this;rw [Option.some.inj this,g y hy hd]at hgs;cases hgs
     . have:=hmin y hy hd;unfold ltK at this;simp only [aR_]at this;simp only;omega
   . rw [ah_ hg];obtain ⟨v2,c2,d2⟩:=aw8 ok v c h
     rcases Zq ok r n v2 c2 (fun y hy hd=>by
      rcases d2 y hy hd with h3|rfl
      . exact g y h3 hd
      . simpa using hg)with h|h|h
     . exact .inl h
     . exact .inr (.inl h)
     . exact .inr (.inr h)
theorem am7 (ok:rt E) {p0:P} {t0:Int} {z:M} (hok:E.ok p0):Inv E p0 t0 z t0 (note E [] p0 t0 z (-1))/\Cl E p0 t0 (note E [] p0 t0 z (-1))/\∀x∈note E [] p0 t0 z (-1),x.dn=false:=by
 refine ⟨Ks (Inv.start _ _ _ _) (aS_ _) hok (.inl ⟨rfl,rfl,rfl,rfl⟩),⟨fun i hi=>Va hi,fun x hx hd=>?_⟩,fun x hx=>?_⟩
 . have:=(Rl (Inv.start (E:=E) p0 t0 z t0) (p:=p0) (t:=t0) (m:=z) (b := -1) (aS_ _)).2 x hx hd;cases this
 . cases hd:x.dn with
   |false=>rfl
   |true=>have:=(Rl (Inv.start (E:=E) p0 t0 z t0) (p:=p0) (t:=t0) (m:=z) (b := -1) (aS_ _)).2 x hx hd;cases this
theorem aB5 (ok:rt E) (r:En E) {p0:P} {t0:Int} {z:M} {goal:P->Sp->Bool} (hok:E.ok p0) (n:Nat):
 (find E goal p0 t0 z n = .no 18/\inside (E.spans p0) t0=none)\/((inside (E.spans p0) t0).isSome=true/\
 ((∃lo' S' k x,find E goal p0 t0 z n = .ok (path S' S'.length k [])/\Inv E p0 t0 z lo' S'/\S'[k]?=some x/\goal x.p x.s=true/\∀p i t s,Rc E p0 t0 p i t->(E.spans p)[i]?=some s->goal p s=true->x.a<=t)\/
 (find E goal p0 t0 z n = .no 6/\∀p i t s,Rc E p0 t0 p i t->(E.spans p)[i]?=some s->goal p s=false)\/find E goal p0 t0 z n = .no 7)):=by
 unfold find;cases h:inside (E.spans p0) t0 with
 |none=>exact .inl ⟨rfl,rfl⟩
 |some i=>
  refine .inr ⟨rfl,?_⟩;obtain ⟨v,c,d⟩:=am7 ok (t0:=t0) (z:=z) hok;rcases Zq ok r (goal:=goal) n v c (fun x hx hd=>by rw [d x hx]at hd;cases hd)with ⟨lo',S',k,x,f,h1,rfl,h2⟩|h|h
  . exact .inl ⟨lo',S',k,x,h1,h2⟩
  . exact .inr (.inl h)
  . exact .inr (.inr h)
end
end Go.Proofs.Srch
end

/- Texts of the proof, one behind the other. -/
import Derived.Test.YtfflipnhffknnaaGreatDoorBM1
import Derived.Test.YtfflipnhffknnaaGreatDoorBH3
import Derived.Test.YtfflipnhffknnaaGreatDoorBH4
set_option linter.unusedSimpArgs false
set_option linter.unusedVariables false
set_option maxRecDepth 100000
set_option maxHeartbeats 2000000
set_option linter.defProp false
section
namespace Go.Proofs.YtfflipnhffknnaaGreatDoor
open Go Go.HL
def bRpA:=jq bC (jq (jq (jq @bz_ (jq @aH_ @xa)) (jq @pd (jq @Wg @zq))) (jq (jq @Bv (jq @D1 @Dz)) (jq (jq @yp @ld3) (jq @ln22 @true_and))))
abbrev Cell:=Int × Int
structure Pose where
 x:Int
 y:Int
 d:Bool
 deriving DecidableEq
structure Raw where
 x:Int
 y:Int
 a:Option Addr
 n:Nat
 c:Nat
structure Conf where
 w:Int
 h:Int
 ht:Int
 bl:List Cell
 po:List Cell
 ro:List Pose
 st:List (Cell × List Int)
 un:Int
 ac:Int
 sp:Int
 tu:Int
 ho:Int
 qu:Int
 re:Int
 bu:Int
 back:Bool
def dy:Cod Cell:=⟨2,fun x=>[.int .i64 x.1,.int .i64 x.2],fun _=>rfl,fun _ v hv=>by simp at hv;rcases hv with rfl|rfl<;>rfl⟩
def lk:Cod Pose:=⟨3,fun p=>[.int .i64 p.x,.int .i64 p.y,.bool p.d],fun _=>rfl,fun _ v hv=>by simp at hv;rcases hv with rfl|rfl|rfl<;>rfl⟩
def icC:Cod Int:=⟨1,fun x=>[.int .i64 x],fun _=>rfl,fun _ v hv=>by simp at hv;rcases hv with rfl;rfl⟩
def bcC:Cod Bool:=⟨1,fun x=>[.bool x],fun _=>rfl,fun _ v hv=>by simp at hv;rcases hv with rfl;rfl⟩
def rawC:Cod Raw:=⟨3,fun s=>[.int .i64 s.x,.int .i64 s.y,.slice s.a s.n s.c],fun _=>rfl,fun _ v hv=>by simp at hv;rcases hv with rfl|rfl|rfl<;>rfl⟩
abbrev ww (c:Cell):Value := .agg #[c.1,c.2]
abbrev mq (p:Pose):Value := .agg #[p.x,p.y,.bool p.d]
structure CA (G h:Hp) (C:Conf) (ab:Option Addr) (cb:Nat) (ap:Option Addr) (cp:Nat) (ar:Option Addr) (cr:Nat) (az:Option Addr) (cs:Nat):Prop where
 bl:Sees dy G h (.slice ab C.bl.length cb) C.bl
 po:Sees dy G h (.slice ap C.po.length cp) C.po
 ro:Sees lk G h (.slice ar C.ro.length cr) C.ro
 st:∃raw:List Raw,Sees rawC G h (.slice az C.st.length cs) raw/\∀(i:Nat) (r:Raw) (s:Cell × List Int),raw[i]?=some r->C.st[i]?=some s->(r.x,r.y)=s.1/\r.n=s.2.length/\Sees icC G h (.slice r.a s.2.length r.c) s.2
abbrev Wo (C:Conf) (ab:Option Addr) (cb:Nat) (ap:Option Addr) (cp:Nat) (ar:Option Addr) (cr:Nat) (az:Option Addr) (cs:Nat):Value:=
 .agg #[C.w,C.h,C.ht,.slice ab C.bl.length cb,.slice ap C.po.length cp,.slice ar C.ro.length cr,.slice az C.st.length cs,C.un,C.ac,C.sp,C.tu,C.ho,C.qu,C.re,C.bu,.bool C.back]
def CV (G h:Hp) (v:Value) (C:Conf):Prop:=∃ab cb ap cp ar cr az cs,v=Wo C ab cb ap cp ar cr az cs/\CA G h C ab cb ap cp ar cr az cs
theorem CA.up {G h h':Hp} {C:Conf} {ab:Option Addr} {cb:Nat} {ap:Option Addr} {cp:Nat} {ar:Option Addr} {cr:Nat} {az:Option Addr} {cs:Nat} (c:CA G h C ab cb ap cp ar cr az cs) (l:h.le h') (d:Dis G h'):CA G h' C ab cb ap cp ar cr az cs:=by obtain ⟨c1,c2,c3,raw,c4,c5⟩:=c;exact ⟨c1.up l d,c2.up l d,c3.up l d,raw,c4.up l d,fun i r s h1 h2=>let ⟨a,b,c⟩:=c5 i r s h1 h2;⟨a,b,c.up l d⟩⟩
theorem CV.up {G h h':Hp} {v:Value} {C:Conf} (c:CV G h v C) (l:h.le h') (d:Dis G h'):CV G h' v C:=by obtain ⟨ab,cb,ap,cp,ar,cr,az,cs,e,c⟩:=c;exact ⟨ab,cb,ap,cp,ar,cr,az,cs,e,c.up l d⟩
theorem CA.cv {G h:Hp} {C:Conf} {ab:Option Addr} {cb:Nat} {ap:Option Addr} {cp:Nat} {ar:Option Addr} {cr:Nat} {az:Option Addr} {cs:Nat} (c:CA G h C ab cb ap cp ar cr az cs):CV G h (Wo C ab cb ap cp ar cr az cs) C:=⟨ab,cb,ap,cp,ar,cr,az,cs,rfl,c⟩
def cj (n a b:Int):Bool:=decide (n>=a)&&decide (n<=b)
def inB (C:Conf) (c:Cell):Bool:=decide (c.1>=0)&&(decide (c.2>=0)&&(decide (c.1<C.w)&&decide (c.2<C.h)))
def oy (C:Conf) (c:Cell):Bool:=inB C c&&(C.bl.count c==0)
def wr (x:Int):Int:=IntKind.i64.wrap x
def east (p:Pose):Cell:=if p.d then (p.x,wr (p.y+1))else (wr (p.x+1),p.y)
def dj (p:Pose):List Cell:=[(p.x,p.y),east p]
def fu (C:Conf) (p:Pose):Bool:=oy C (p.x,p.y)&&oy C (east p)
def my (C:Conf) (c:Cell):Bool:=oy C (wr (c.1+1),c.2)||oy C (c.1,wr (c.2+1))
def uj (C:Conf) (c:Cell):Bool:=C.ro.any fun p=>decide (((dj p).count c:Int)>0)
def Ko (C:Conf) (c:Cell):Int:=if c∈C.po then (C.po.idxOf c:Int)else -1
def ve (C:Conf) (c:Cell):Bool:=oy C c&&(decide (Ko C c<0)&&(!uj C c&&my C c))
theorem ix {G h:Hp} {n a b:Int}:bn P_ G 98 #[n,a,b] h (fun u h'=>u = .bool (cj n a b)/\h'=h):=by
 refine quietly (enter98 (by simp) ?_);unfold S98;simp only [bRpA];unfold cj;cases hc:decide (n>=a)with
 |false=>simp only [bRpA,hc];exact ⟨rfl,Hp.le.refl h⟩
 |true=>simp only [bRpA,hc];exact Hp.le.refl h
theorem Jl {G h:Hp} {v:Value} {C:Conf} {c:Cell} (hv:CV G h v C):bn P_ G 82 #[v,ww c] h (fun u h'=>u = .bool (inB C c)/\h'=h):=by
 obtain ⟨ab,cb,ap,cp,ar,cr,az,cs,rfl,ca⟩:=hv;refine quietly (enter82 (by simp) ?_);unfold S82;simp only [bRpA];intro x hx gx y hy gy;have l:=(dw (o := .cells #[C.w,C.h,C.ht,.slice ab C.bl.length cb,.slice ap C.po.length cp,.slice ar C.ro.length cr,.slice az C.st.length cs,C.un,C.ac,C.sp,C.tu,C.ho,C.qu,C.re,C.bu,.bool C.back] 26 (0,0)) hx).trans (dw (o := .cells #[c.1,c.2] 28 (0,0)) hy);have exy:=ju hy;unfold inB;cases hc:decide (c.1>=0)with
 |false=>simp only [bRpA,hc];exact ⟨rfl,l⟩
 |true=>
 simp only [bRpA,hc];cases hc2:decide (c.2>=0)with
 |false=>simp only [bRpA,hc2];exact ⟨rfl,l⟩
 |true=>
 simp only [bRpA,hc2,bv exy];cases hc3:decide (c.1<C.w)with
 |false=>simp only [bRpA,hc3];exact ⟨rfl,l⟩
 |true=>
 simp only [bRpA,hc3,bv exy];exact l
theorem cget {G h:Hp} {b o i:Nat} {x:Cell} (e:∀j,j<dy.n->bf G h ⟨b,o+i*dy.n+j,none⟩=(dy.enc x)[j]?):
 bf G h ⟨b,o+i*2,none⟩=some (.int .i64 x.1)/\bf G h ⟨b,o+i*2+1,none⟩=some (.int .i64 x.2):=⟨e 0 (by decide),e 1 (by decide)⟩
theorem pget {G h:Hp} {b o i:Nat} {x:Pose} (e:∀j,j<lk.n->bf G h ⟨b,o+i*lk.n+j,none⟩=(lk.enc x)[j]?):
 bf G h ⟨b,o+i*3,none⟩=some (.int .i64 x.x)/\bf G h ⟨b,o+i*3+1,none⟩=some (.int .i64 x.y)/\bf G h ⟨b,o+i*3+2,none⟩=some (.bool x.d):=⟨e 0 (by decide),e 1 (by decide),e 2 (by decide)⟩
theorem Bw (x y:Cell):(x.1==y.1&&x.2==y.2)=(x==y):=rfl
theorem Sees.cell {G h:Hp} {sa:Option Addr} {cap:Nat} {L:List Cell} (s:Sees dy G h (.slice sa L.length cap) L) {i:Nat} {x:Cell} (hx:L[i]?=some x):
 ∃b o,sa=some ⟨b,o,none⟩/\bf G h ⟨b,o+i*2,none⟩=some (.int .i64 x.1)/\bf G h ⟨b,o+i*2+1,none⟩=some (.int .i64 x.2):=by obtain ⟨b,o,c,e1,e2⟩:=s.get hx;simp only [Value.slice.injEq]at e1;exact ⟨b,o,e1.1,cget e2⟩
theorem Sees.pose {G h:Hp} {sa:Option Addr} {cap:Nat} {L:List Pose} (s:Sees lk G h (.slice sa L.length cap) L) {i:Nat} {x:Pose} (hx:L[i]?=some x):
 ∃b o,sa=some ⟨b,o,none⟩/\bf G h ⟨b,o+i*3,none⟩=some (.int .i64 x.x)/\bf G h ⟨b,o+i*3+1,none⟩=some (.int .i64 x.y)/\bf G h ⟨b,o+i*3+2,none⟩=some (.bool x.d):=by obtain ⟨b,o,c,e1,e2⟩:=s.get hx;simp only [Value.slice.injEq]at e1;exact ⟨b,o,e1.1,pget e2⟩
theorem qz {G h:Hp} {v:Value} {L:List Cell} {c:Cell} (hv:Sees dy G h v L) (hL:L.length<=100000000000000):bn P_ G 83 #[v,ww c] h (fun u h'=>u = .int .i64 (L.count c)/\h'=h):=by
 obtain ⟨sa,cap,rfl⟩:=hv.len;refine bn.assume fun d=>quietly (enter83 (by simp) ?_);unfold S83;simp only [bRpA];intro x hx gx;have l:=dw (o := .cells #[c.1,c.2] 28 (0,0)) hx;have hs:=hv.up l (d.set gx);have hxx:(h.set x (.cells #[c.1,c.2] 28 (0,0))) x=some (.cells #[c.1,c.2] 28 (0,0)):=bh;generalize h.set x (.cells #[c.1,c.2] 28 (0,0))=h2 at*;have cx:∀k,bf G h2 ⟨x,k,none⟩=_:=fun k=>bm (bj hxx)
 refine dt (fun m r h3=>∃i:Nat,m=L.length-i/\i<=L.length/\r 0 = .slice sa L.length cap/\r 3 = .pointer (some ⟨x,0,none⟩)/\r 5 = .int .i64 ((L.take i).count c)/\r 6 = .int .i64 i/\h3=h2) ?_
  (m:=L.length) ⟨0,rfl,au_ _,by simp (disch:=decide) only [bRpA],by simp (disch:=decide) only [bRpA],by simp (disch:=decide) only [bRpA]<;>rfl,by simp only [bRpA]<;>rfl,rfl⟩
 rintro m r h3 ⟨i,rfl,hi,g0,g3,g5,g6,rfl⟩ X HX;unfold aO6;simp only [bRpA,g0,g6];refine df (fun hlt=>?_) (fun hge=>?_)
 . have hlt':i<L.length:=by omega
   obtain ⟨y,hy⟩:∃x,L[i]?=some x:=⟨_,aa_ hlt'⟩;obtain ⟨b,o,rfl,y0,y1⟩:=Sees.cell hs hy;have htk:L.take (i+1)=L.take i++[y]:=by rw [aL_,hy];rfl
   have hcnt:((L.take i).count c:Int)<=i:=by have:=List.count_le_length (a:=c) (l:=L.take i);rw [aN_]at this;omega
   unfold P3;simp (disch:=decide) only [bRpA,g0,g6,g3,tz (ac_ i) hlt,y0,y1,cx,Bw];cases hb:(y==c)with
   |true=>simp (disch:=first|decide|omega) only [bRpA,g5];unfold Cy;simp (disch:=first|decide|omega) only [bRpA,g6];refine HX (L.length-(i+1)) _ _ (by omega) ⟨i+1,rfl,hlt',by simp (disch:=decide) only [bRpA,g0],by simp (disch:=decide) only [bRpA,g3],?_,by simp only [bRpA]<;>rfl,rfl⟩;simp (disch:=decide) only [bRpA];rw [htk,List.count_append,List.count_singleton,hb];rfl
   |false=>simp only [bRpA];unfold Cy;simp (disch:=first|decide|omega) only [bRpA,g6];refine HX (L.length-(i+1)) _ _ (by omega) ⟨i+1,rfl,hlt',by simp (disch:=decide) only [bRpA,g0],by simp (disch:=decide) only [bRpA,g3],?_,by simp only [bRpA]<;>rfl,rfl⟩;simp (disch:=decide) only [bRpA,g5];rw [htk,List.count_append,List.count_singleton,hb];rfl
 . obtain rfl:i=L.length:=by omega
   rw [am_ (aj_ _)]at g5;show Y5 _ _ _ _;unfold Y5;simp (disch:=decide) only [bRpA,g5];exact l
end Go.Proofs.YtfflipnhffknnaaGreatDoor
end
section
namespace Go.Proofs.YtfflipnhffknnaaGreatDoor
open Go Go.HL Go.Proofs.Resv Go.Proofs.Srch
def bRtK:=jq bC (jq (jq (jq @kv @cf187) (jq @eq50s (jq @fa173_1 @aD4))) (jq (jq @aD3 @ld3) (jq @ld3p (jq @li @jc))))
def KR (G h:Hp) (kp:Nat) (U A V:Int):Prop:=∀j,j<3->bf G h ⟨kp,j,none⟩=[Value.int .i64 U,.int .i64 A,.int .i64 V][j]?
structure KB (U A V:Int):Prop where
 u1:1<=U
 u2:U<=1000
 a1:1<=A
 a2:A<=1000
 v1:1<=V
 v2:V<=1000
theorem Sl {a:Int} (ha:1<=a):∀(n:Nat) (v:Int),v<=1000->0<=brk a n v/\brk a n v<=n*1000
 |0,v,_=>by simp [brk]
 |n+1,v,h=>by
  unfold brk;split
  . have:=Sl ha n (v-a) (by omega);omega
  . omega
theorem ad7 {a:Int}:∀(n:Nat) {v:Int},v<=0->brk a n v=0
 |0,v,_=>rfl
 |n+1,v,h=>by unfold brk;rw [ah_ (by omega)]
theorem Fy {a s:Int} (ha:1<=a) (hs:s<=1000):0<=xu a s/\xu a s<=1000000:=by unfold xu;have:=Sl ha s.toNat (s-a) (by omega);omega
theorem minE {a b:Int}:(if b<a then b else a)=min a b:=by split<;>omega
theorem maxE {a b:Int}:(if b>a then b else a)=max a b:=by split<;>omega
theorem min2p {P:Program} {G h:Hp} {a b:Int} {K:Value->Prop}:pw P G h (Builtin.min_ #[3,3] 3 #[a,b]) K=K (.int .i64 (min a b)):=by rw [<- minE];rfl
theorem max2p {P:Program} {G h:Hp} {a b:Int} {K:Value->Prop}:pw P G h (Builtin.max_ #[3,3] 3 #[a,b]) K=K (.int .i64 (max a b)):=by rw [<- maxE];rfl
theorem max2w {P:Program} {G h:Hp} {a b:Int} {K:VK}:wpH P G (Builtin.max_ #[3,3] 3 #[a,b]) h K=K (.int .i64 (max a b)) h:=by rw [<- maxE];rfl
theorem min3w {P:Program} {G h:Hp} {a b c:Int} {K:VK}:wpH P G (Builtin.min_ #[3,3,3] 3 #[a,b,c]) h K=K (.int .i64 (min (min a b) c)) h:=by rw [<- minE,<- minE];rfl
theorem Yr {G h:Hp} {kp:Nat} {U A V q:Int} (kr:KR G h kp U A V) (kb:KB U A V) (h0:0<=q) (h1:q<=V):
 bn P_ G 187 #[.pointer (some ⟨kp,0,none⟩),q] h (fun v h'=>v = .int .i64 (xu A q)/\h'=h):=by
 have c1:bf G h ⟨kp,1,none⟩=some (.int .i64 A):=kr 1 (by decide);have c2:bf G h ⟨kp,2,none⟩=some (.int .i64 V):=kr 2 (by decide);obtain ⟨ku1,ku2,ka1,ka2,kv1,kv2⟩:=kb;refine quietly (aF4 (by simp) ?_);unfold S187;simp only [bRtK,c1];rw [kc (show ¬A<1 by omega)];simp only [bRtK];unfold af2;simp (disch:=first|decide|omega) only [bRtK,c1,c2,min2p,max2p];rw [show max 0 (min q V)=q by omega];have hbd:=Fy ka1 (show q<=1000 by omega)
 refine dt (fun m r h'=>h'=h/\r 0 = .pointer (some ⟨kp,0,none⟩)/\∃s v:Int,r 5 = .int .i64 s/\r 6 = .int .i64 v/\v.toNat=m/\v<=1000 /\ -1000<=v/\0<=s/\∃n:Nat,v<=n/\s+brk A n v=xu A q) ?_ (m:=(q-A).toNat)
  ⟨rfl,by simp (disch:=decide) only [bRtK],0,q-A,by simp (disch:=decide) only [bRtK],by simp only [bRtK],rfl,by omega,by omega,by omega,q.toNat,by omega,by unfold xu;omega⟩
 rintro m r h' ⟨rfl,g0,s,v,g5,g6,rfl,hv,hv2,hs,n,hn,hsum⟩ X hX;unfold af0;simp only [bRtK,g6];by_cases hp:v>0
 . rw [js hp];obtain ⟨n,rfl⟩:∃k,n=k+1:=⟨n-1,by omega⟩;unfold brk at hsum;rw [ak_ hp]at hsum;have hb:=Sl ka1 n (v-A) (by omega);simp only [bRtK];unfold Me;simp (disch:=first|decide|omega) only [bRtK,g5,g6];unfold Md;simp (disch:=first|decide|omega) only [bRtK,g0,g6,c1];refine hX (v-A).toNat _ _ (by omega) ⟨rfl,by simp (disch:=decide) only [bRtK,g0],s+v,v-A,by simp (disch:=decide) only [bRtK],by simp only [bRtK],rfl,by omega,by omega,by omega,n,by omega,by omega⟩
 . rw [kc hp];rw [ad7 n (by omega)]at hsum;simp only [bRtK];unfold af1;simp (disch:=decide) only [bRtK,g5];exact ⟨by rw [<- hsum];simp,Hp.le.refl _⟩
theorem ap3 {G h:Hp} {kp:Nat} {U A V x s v:Int} (kr:KR G h kp U A V) (kb:KB U A V) (hx1:1<=x) (hx2:x<=100000) (hs:0<=s) (hs2:s<=1000) (hv1:1<=v) (hv2:v<=V):
 bn P_ G 170 #[.pointer (some ⟨kp,0,none⟩),x,s,v] h (fun u h'=>u = .int .i64 (tt A x s v)/\h'=h):=by
 have c1:bf G h ⟨kp,1,none⟩=some (.int .i64 A):=kr 1 (by decide);have kb':=kb;obtain ⟨ku1,ku2,ka1,ka2,kv1,kv2⟩:=kb;refine quietly (aF6 (by simp) ?_);unfold S170;simp (disch:=first|decide|omega) only [bRtK,c1,min3w]
 refine dt (fun m r h'=>h'=h/\r 0 = .pointer (some ⟨kp,0,none⟩)/\r 1 = .int .i64 x/\∃q:Int,r 9 = .int .i64 q/\q.toNat=m/\q<=V/\1<=q/\∃n:Nat,q<=n/\dq A x n q=tt A x s v) ?_ (m:=(min (min (s+A) v) x).toNat)
  ⟨rfl,by simp (disch:=decide) only [bRtK],by simp (disch:=decide) only [bRtK],min (min (s+A) v) x,by simp only [bRtK],rfl,by omega,by omega,(min (min (s+A) v) x).toNat,by omega,rfl⟩
 rintro m r h' ⟨rfl,g0,g1,q,g9,rfl,hq,hq1,n,hn,hd⟩ X hX;unfold af4;simp only [bRtK,g0,g1,g9];obtain ⟨n,rfl⟩:∃k,n=k+1:=⟨n-1,by omega⟩;unfold dq at hd;by_cases hp:q>1
 . rw [js hp];simp (disch:=first|decide|omega) only [bRtK];refine (Yr kr kb' (by omega) hq).mono ?_;rintro _ _ ⟨rfl,rfl⟩;have hbd:=Fy ka1 (show q<=1000 by omega);simp only [bRtK];refine df (fun hb=>?_) (fun hb=>?_)
   . rw [ak_ ⟨hp,hb⟩]at hd;unfold Mh;simp (disch:=first|decide|omega) only [bRtK,g9];refine hX (q-1).toNat _ _ (by omega) ⟨rfl,by simp (disch:=decide) only [bRtK,g0],by simp (disch:=decide) only [bRtK,g1],q-1,by simp only [bRtK],rfl,by omega,by omega,n,by omega,hd⟩
   . rw [ah_ (by omega)]at hd;unfold S7;simp (disch:=decide) only [bRtK,g9];exact ⟨by rw [hd],Hp.le.refl _⟩
 . rw [kc hp];rw [ah_ (by omega)]at hd;simp only [bRtK];unfold S7;simp (disch:=decide) only [bRtK,g9];exact ⟨by rw [hd],Hp.le.refl _⟩
def ot:=jq bC (jq (jq (jq @cf170 @fa173_2) (jq @ld3 @ld4)) (jq (jq @ld50 @li) (jq @mx @jw)))
def KH (a:Hp) (kp:Nat) (U A V:Int):Prop:=∃l e,a kp=some (.cells l e (0,0))/\∀j,j<3->l[j]?=[Value.int .i64 U,.int .i64 A,.int .i64 V][j]?
theorem KH.kr {G a h:Hp} {kp:Nat} {U A V:Int} (k:KH a kp U A V) (l:a.le h):KR G h kp U A V:=by obtain ⟨cs,e,h1,h2⟩:=k;intro j hj;rw [bm (bj (l _ _ h1))];rw [aQ_];exact h2 j hj
abbrev plA (p:Int):Array Value:=#[p]
def Yf (G:Hp) (y:Value) (Y:List Int->Hp->Prop):Prop:=∀(L:List Int) (m:Int) (a q h:Hp),L.length<=16000->Y L a->Sep [a,q] h->Dis G h->
 y_ G (jh y (plA m)) h (fun v h'=>∃a',v = .bool true/\Sep [a',q] h'/\Dis G h'/\Y (L++[m]) a')
theorem T9 {G h a q:Hp} {y:Value} {Y:List Int->Hp->Prop} {kb fb sb pb eb kp:Nat} {U A V e:Int}
 (yl:Yf G y Y) (yk:∀L a,Y L a->KH a kp U A V) (kbd:KB U A V) (ya:Y [] a)
 (s:Sep [a,noHp.set sb (.cells #[(0:Int)] 3 (0,0)),noHp.set pb (.cells #[(0:Int)] 3 (0,0)),q] h)
 (h1:q kb=some (.cells #[.pointer (some ⟨kp,0,none⟩)] 50 (0,0))) (h2:q fb=some (.cells #[.bool false] 4 (0,0))) (h3:q eb=some (.cells #[e] 3 (0,0))) (he:0<=e) (he2:e<=16000):
 bn P_ G 169 #[y,.pointer (some ⟨kb,0,none⟩),.pointer (some ⟨fb,0,none⟩),.pointer (some ⟨sb,0,none⟩),.pointer (some ⟨pb,0,none⟩),.pointer (some ⟨eb,0,none⟩)] h
  (fun _ h'=>∃a',Sep [a',q] h'/\Dis G h'/\Y (prof A V e e.toNat 0 0) a'):=by
 obtain ⟨W,hW⟩:∃W,W=prof A V e e.toNat 0 0:=⟨_,rfl⟩;rw [<- hW];refine bn.assume fun d=>aF7 (by simp) ?_;have kb':=kbd;obtain ⟨ku1,ku2,ka1,ka2,kv1,kv2⟩:=kbd;have ck:bf G h ⟨kb,0,none⟩=some (.pointer (some ⟨kp,0,none⟩)):=by rw [bm (bj (s.at 3 rfl h1))];rfl
 have cf:bf G h ⟨fb,0,none⟩=some (.bool false):=by rw [bm (bj (s.at 3 rfl h2))];rfl
 have c2:bf G h ⟨kp,2,none⟩=some (.int .i64 V):=(yk _ _ ya).kr (s.in 0 rfl) 2 (by decide);unfold S169;simp only [ot,ck,cf,c2];unfold S8
 refine dt (fun m r h'=>∃(a':Hp) (M:List Int) (p sp:Int),m=(e-p).toNat/\r 0=y/\r 1 = .pointer (some ⟨kb,0,none⟩)/\r 2 = .pointer (some ⟨fb,0,none⟩)/\r 3 = .pointer (some ⟨sb,0,none⟩)/\r 4 = .pointer (some ⟨pb,0,none⟩)/\r 5 = .pointer (some ⟨eb,0,none⟩)/\r 7 = .int .i64 V/\
  Y M a'/\Sep [a',noHp.set sb (.cells #[sp] 3 (0,0)),noHp.set pb (.cells #[p] 3 (0,0)),q] h'/\Dis G h'/\0<=p/\0<=sp/\sp<=V/\p<=e/\∃n:Nat,e-p<=n/\M++prof A V e n p sp=W) ?_ (m:=(e-0).toNat)
  ⟨a,[],0,0,rfl,by simp (disch:=decide) only [ot],by simp (disch:=decide) only [ot],by simp (disch:=decide) only [ot],by simp (disch:=decide) only [ot],by simp (disch:=decide) only [ot],by simp (disch:=decide) only [ot],by simp (disch:=decide) only [ot],ya,s,d,by omega,by omega,by omega,by omega,e.toNat,by omega,hW.symm⟩
 rintro m r h' ⟨a',M,p,sp,rfl,g0,g1,g2,g3,g4,g5,g7,ya',s',d',hp0,hsp0,hspV,hpe,n,hn,hprof⟩ X hX;have cp:bf G h' ⟨pb,0,none⟩=some (.int .i64 p):=by rw [bm (bj (s'.at 2 rfl bh))];rfl
 have cs:bf G h' ⟨sb,0,none⟩=some (.int .i64 sp):=by rw [bm (bj (s'.at 1 rfl bh))];rfl
 have ce:bf G h' ⟨eb,0,none⟩=some (.int .i64 e):=by rw [bm (bj (s'.at 3 rfl h3))];rfl
 have ck':bf G h' ⟨kb,0,none⟩=some (.pointer (some ⟨kp,0,none⟩)):=by rw [bm (bj (s'.at 3 rfl h1))];rfl
 unfold af5;simp only [ot,g4,g5,cp,ce];by_cases hlt:p<e
 . rw [js hlt];simp only [ot];unfold Mi;simp (disch:=first|decide|omega) only [ot,g1,g5,g4,g3,g7,ck',ce,cp,cs];refine (ap3 ((yk _ _ ya').kr (s'.in 0 rfl)) kb' (x:=e-p) (s:=sp) (v:=V) (by omega) (by omega) hsp0 (by omega) (by omega) (by omega)).mono ?_;rintro _ h' ⟨rfl,rfl⟩;have hnx:=Z4 ka1 (show 1<=e-p by omega) hsp0 kv1;obtain ⟨n,rfl⟩:∃k,n=k+1:=⟨n-1,by omega⟩;unfold prof at hprof;rw [ak_ hlt]at hprof;generalize tt A (e-p) sp V=x at*;have hsb:h' sb=some (.cells [Value.int .i64 sp].toArray 3 (0,0)):=s'.at 1 rfl bh;rw [ec sz3 (v := .int .i64 x) rfl hsb (by simp)];try simp only [ot,bh_]
   have s1:=(s'.pick 1 rfl rfl).put (o := .cells #[x] 3 (0,0)) bh;rw [set_set]at s1;have d1:Dis G (h'.set sb (.cells #[x] 3 (0,0))):=d'.set (d' _ _ hsb);generalize Hp.set h' sb _=h4 at s1 d1 ⊢;have cf4:bf G h4 ⟨fb,0,none⟩=some (.bool false):=by rw [bm (bj (s1.at 3 rfl h2))];rfl
   simp only [ot,g2,cf4];unfold D9;have cp4:bf G h4 ⟨pb,0,none⟩=some (.int .i64 p):=by rw [bm (bj (s1.at 2 rfl bh))];rfl
   have cs4:bf G h4 ⟨sb,0,none⟩=some (.int .i64 x):=by rw [bm (bj (s1.at 0 rfl bh))];rfl
   have hpb:h4 pb=some (.cells [Value.int .i64 p].toArray 3 (0,0)):=s1.at 2 rfl bh;simp (disch:=first|decide|omega) only [ot,g3,g4,cp4,cs4];rw [ec sz3 (v := .int .i64 (p+x)) rfl hpb (by simp)];try simp only [ot,bh_]
   have s2:=(s1.pick 2 rfl rfl).put (o := .cells #[.int .i64 (p+x)] 3 (0,0)) bh;rw [set_set]at s2;have d2:Dis G (h4.set pb (.cells #[.int .i64 (p+x)] 3 (0,0))):=d1.set (d1 _ _ hpb);generalize Hp.set h4 pb _=h5 at s2 d2 ⊢;have cp5:bf G h5 ⟨pb,0,none⟩=some (.int .i64 (p+x)):=by rw [bm (bj (s2.at 0 rfl bh))];rfl
   try simp only [ot,g4,cp5,g0]
   obtain ⟨Q,s3,sQ⟩:=uz (s2.pick 2 rfl rfl).swap;obtain ⟨Q,s3,sQ⟩:∃b,Sep [a',b] h5/\Sep [noHp.set pb (.cells #[.int .i64 (p+x)] 3 (0,0)),noHp.set sb (.cells #[x] 3 (0,0)),q] b:=by obtain ⟨b,t1,t2⟩:=uz (s2.sel (L':=[noHp.set pb (.cells #[.int .i64 (p+x)] 3 (0,0)),noHp.set sb (.cells #[x] 3 (0,0)),q,a']) [0,1,3,2] (by decide) rfl);exact ⟨b,t1.swap,t2⟩
   refine kx (fun v h6 H=>?_) (yl M (p+x) a' Q h5 (by have e1:=congrArg List.length hprof;have e2:=E0 (a:=A) (v:=V) (e:=e) e.toNat 0 0;rw [hW]at e1;simp only [ae_]at e1;omega) ya' s3 d2);obtain ⟨a6,rfl,s6,d6,z6⟩:=H;have s7:Sep [a6,noHp.set pb (.cells #[.int .i64 (p+x)] 3 (0,0)),noHp.set sb (.cells #[x] 3 (0,0)),q] h6:=by have:=s6.split sQ;simpa using this
   simp only [ot];refine hX (e-(p+x)).toNat _ _ (by omega) ⟨a6,M++[p+x],p+x,x,rfl,by simp (disch:=decide) only [ot,g0],by simp (disch:=decide) only [ot,g1],by simp (disch:=decide) only [ot,g2],by simp (disch:=decide) only [ot,g3],by simp (disch:=decide) only [ot,g4],by simp (disch:=decide) only [ot,g5],by simp (disch:=decide) only [ot,g7],by simpa using z6,s7.sel [0,2,1,3] (by decide) rfl,d6,by omega,by omega,by omega,by omega,n,by omega,?_⟩;rw [<- hprof];simp
 . rw [kc hlt];simp only [ot]
   have hz:prof A V e n p sp=[]:=by
    cases n with
    |zero=>rfl
    |succ n=>unfold prof;rw [ah_ hlt]
   rw [hz,av_]at hprof;exact ⟨a',s'.sel [0,3] (by decide) rfl,d',by rw [<- hprof];exact ya'⟩
def Ls:=jq bC (jq (jq (jq @yu (jq @ff @Po)) (jq (jq @sn @cf152) (jq @aD6 @aD5))) (jq (jq (jq @Rw @ld261p) (jq @ld3p @ld50p)) (jq (jq @jc @mx) (jq @jw @true_and))))
theorem Xd {G h:Hp} {kp:Nat} {p s e:Int}:bn P_ G 152 #[.pointer (some ⟨kp,0,none⟩),p,s,e,.bool false] h (fun u h'=>∃b1 b2 b3 b4 b5,
 u = .func (.func 169) #[] #[.pointer (some ⟨b1,0,none⟩),.pointer (some ⟨b2,0,none⟩),.pointer (some ⟨b3,0,none⟩),.pointer (some ⟨b4,0,none⟩),.pointer (some ⟨b5,0,none⟩)]/\
 Sep [noHp.set b3 (.cells #[s] 3 (0,0)),noHp.set b4 (.cells #[p] 3 (0,0)),noHp.set b1 (.cells #[.pointer (some ⟨kp,0,none⟩)] 50 (0,0)),noHp.set b2 (.cells #[.bool false] 4 (0,0)),noHp.set b5 (.cells #[e] 3 (0,0)),h] h'/\Dis G h'):=by
 refine bn.assume fun d=>aG7 (by simp) ?_;unfold S152;simp only [Ls];intro x1 hx1 gx1 x2 hx2 gx2 x3 hx3 gx3 x4 hx4 gx4 x5 hx5 gx5;have s1:=(Sep.one (h:=h)).new (o := .cells #[.pointer (some ⟨kp,0,none⟩)] 50 (0,0)) hx1;have s2:=s1.new (o := .cells #[p] 3 (0,0)) hx2;have s3:=s2.new (o := .cells #[s] 3 (0,0)) hx3;have s4:=s3.new (o := .cells #[e] 3 (0,0)) hx4;have s5:=s4.new (o := .cells #[.bool false] 4 (0,0)) hx5;exact ⟨x1,x5,x3,x2,x4,rfl,s5.sel [2,3,4,0,1,5] (by decide) rfl,((((d.set gx1).set gx2).set gx3).set gx4).set gx5⟩
theorem ao9 {G:Hp} {a b c e f y:Value} {h:Hp} {K:VK}:opE P_ G (jh (.func (.func 169) #[] #[a,b,c,e,f]) #[y]) h K=bn P_ G 169 #[y,a,b,c,e,f] h K:=by kernel_rfl
def KYi (kp o rb l:Nat) (ob:Obj) (l0:List Value) (pb:Hp) (L:List Int) (b:Hp):Prop:=∃ip v,Slc icC 3 ip v L/\Sep [noHp.set kp (.cells (l0.set (o+3) v).toArray 173 (0,0)),ip,pb,noHp.set rb (.cells #[.pointer (some ⟨kp,o,none⟩)] 261 (0,0)),noHp.set l ob] b
theorem eoint8:iu P_ 3 icC.n 8:=eo3
theorem Ra {G:Hp} {y:Value} {kp o rb l:Nat} {oo:Option Exit->Obj} {l0:List Value} {pb:Hp} {r:Rg} (gl:G l=none) (ho:∀e,iy (oo e)=false) (hlen:o+3<l0.length) (g2:r 2 = .pointer (some ⟨rb,0,none⟩))
 (hy:∀(args:Array Value) (h1:Hp) (K1:Value->Hp->Prop),args.size=1->h1 l=some (oo none)->
  Tj G (setR 23 #[12] args r) h1 (fun e r2 h2=>e = .normal/\h2 l=some (oo none)/\∀ob,iy ob=false->Ti G r2 (h2.set l ob) (fun e _ h3=>h3 l=some ob/\match e with
   | .normal=>K1 (.bool true) (h3.set l (oo none))
   | .panic _=>False
   | .outgrown=>False
   |e=>K1 (.bool false) (h3.set l (oo (some e)))))->
  opH P_ G (jh y args) h1 K1):
 Yf G y (KYi kp o rb l (oo none) l0 pb):=by
 rintro L p b q h hL ⟨ip,v,sl,sb⟩ s d;have s1:Sep [q,noHp.set kp (.cells (l0.set (o+3) v).toArray 173 (0,0)),ip,pb,noHp.set rb (.cells #[.pointer (some ⟨kp,o,none⟩)] 261 (0,0)),noHp.set l (oo none)] h:=by have:=s.swap.split sb;simpa using this
 refine hy (plA p) h _ rfl (s1.at 5 rfl bh) ?_;rw [Zp (by decide)];unfold Tj;refine ⟨rfl,s1.at 5 rfl bh,fun ob hob=>?_⟩;have s2:=(s1.pick 5 rfl rfl).put (o:=ob) bh;rw [set_set]at s2;have d2:Dis G (h.set l ob):=d.set gl;generalize Hp.set h l ob=h2 at s2 d2 ⊢;obtain ⟨sa,cap,rfl,hcap⟩:=sl.len (by decide);obtain ⟨Q,s3,sQ⟩:=Gw (s2.sel (L':=[noHp.set rb (.cells #[.pointer (some ⟨kp,o,none⟩)] 261 (0,0)),noHp.set kp (.cells (l0.set (o+3) (.slice sa L.length cap)).toArray 173 (0,0)),ip,pb,noHp.set l ob,q]) [5,2,3,4,0,1] (by decide) rfl);have cr:bf G Q ⟨rb,0,none⟩=some (.pointer (some ⟨kp,o,none⟩)):=by rw [bm (bj (sQ.at 0 rfl bh))];rfl
 have ck:bf G Q ⟨kp,o+3,none⟩=some (.slice sa L.length cap):=by rw [bm (bj (sQ.at 1 rfl bh))];simp [hlen]
 unfold Ti;refine ⟨Q,s3.in 0 rfl,?_⟩;simp (disch:=decide) only [Ls,g2,cr,ck];intro x hx gx;have s4:=s3.past (o := .cells #[p] 3 (0,0)) hx;have d4:=d2.set (o := .cells #[p] 3 (0,0)) gx;have hxs:(h2.set x (.cells #[p] 3 (0,0))) x=some (.cells #[p] 3 (0,0)):=bh;generalize Hp.set h2 x _=h4 at s4 d4 hxs ⊢;refine fh icC (by decide) (L:=L) (M:=[p]) Ht eoint8 (by decide) (by decide) (s4.pick 1 rfl rfl) d4 sl (Sees.row hxs (by simp [icC,Cod.rows]) (by simp)) (by simp;omega) ?_;intro v' ip' h5 sl' s5 d5;refine ⟨s5.in 1 rfl,?_⟩
 have s6:Sep [noHp.set rb (.cells #[.pointer (some ⟨kp,o,none⟩)] 261 (0,0)),noHp.set kp (.cells (l0.set (o+3) (.slice sa L.length cap)).toArray 173 (0,0)),pb,noHp.set l ob,q,ip'] h5:=
  ((s5.pick 1 rfl rfl).open sQ).sel [0,1,3,4,5,2] (by decide) rfl
 obtain ⟨sa',cap',rfl,hcap'⟩:=sl'.len (by decide);have hk5:h5 kp=some (.cells (l0.set (o+3) (.slice sa L.length cap)).toArray 173 (0,0)):=s6.at 1 rfl bh;try simp (disch:=first|decide|omega) only [Ls,Nat.reduceAdd,Nat.reduceMul]
 rw [ec sz168 rfl hk5 (by simpa using hlen)];have s7:=(s6.pick 1 rfl rfl).put (o := .cells ((l0.set (o+3) (.slice sa L.length cap)).set (o+3) (.slice sa' (L++[p]).length cap')).toArray 173 (0,0)) bh;rw [set_set,List.set_set]at s7;rw [List.set_set];have d7:=d5.set (o := .cells (l0.set (o+3) (.slice sa' (L++[p]).length cap')).toArray 173 (0,0)) (d5 _ _ hk5);generalize Hp.set h5 kp _=h7 at s7 d7 ⊢;try simp (disch:=first|decide|omega) only [Ls,Nat.reduceAdd,Nat.reduceMul]
 have hl7:h7 l=some ob:=s7.at 3 rfl bh;refine ⟨hl7,?_⟩;have s8:=(s7.pick 3 rfl rfl).put (o:=oo none) bh;rw [set_set]at s8;obtain ⟨b',t1,t2⟩:=Sep.pack [_,_,_,_,_] (s8.sel (L':=[noHp.set kp (.cells (l0.set (o+3) (.slice sa' (L++[p]).length cap')).toArray 173 (0,0)),ip',pb,noHp.set rb (.cells #[.pointer (some ⟨kp,o,none⟩)] 261 (0,0)),noHp.set l (oo none),q]) [1,5,3,2,0,4] (by decide) rfl);exact ⟨b',t1,d7.set gl,ip',_,sl',t2⟩
theorem KYi.kh {kp o rb l:Nat} {ob:Obj} {l0:List Value} {pb b:Hp} {L:List Int} {U A V:Int} (k:KYi kp o rb l ob l0 pb L b) (ho:3<=o) (h:∀j,j<3->l0[j]?=[Value.int .i64 U,.int .i64 A,.int .i64 V][j]?):KH b kp U A V:=by obtain ⟨ip,v,_,s⟩:=k;refine ⟨_,_,s.at 0 rfl bh,fun j hj=>?_⟩;rw [aV_,ax_ (by omega)];exact h j hj
theorem Rb {G h q pb:Hp} {kb nb rb kp o:Nat} {l0:List Value} {U A V n:Int} (hl0:∀j,j<3->l0[j]?=[Value.int .i64 U,.int .i64 A,.int .i64 V][j]?) (ho:3<=o) (hlen:o+3<l0.length) (h3:l0[o+3]?=some (.slice none 0 0)) (kbd:KB U A V) (n1:1<=n) (n2:n<=16)
 (s:Sep [noHp.set kp (.cells l0.toArray 173 (0,0)),pb,noHp.set rb (.cells #[.pointer (some ⟨kp,o,none⟩)] 261 (0,0)),q] h) (h1:q kb=some (.cells #[.pointer (some ⟨kp,0,none⟩)] 50 (0,0))) (h2:q nb=some (.cells #[n] 3 (0,0))):
 bn P_ G 151 #[.pointer (some ⟨kb,0,none⟩),.pointer (some ⟨nb,0,none⟩),.pointer (some ⟨rb,0,none⟩)] h (fun v h'=>v = .tuple #[]/\∃ip v',Slc icC 3 ip v' (kq U A V n)/\
  Sep [noHp.set kp (.cells (l0.set (o+3) v').toArray 173 (0,0)),ip,pb,noHp.set rb (.cells #[.pointer (some ⟨kp,o,none⟩)] 261 (0,0)),q] h'/\Dis G h'):=by
 refine bn.assume fun d=>aG8 (by simp) ?_;have hnU:1*1<=n*U:=bx_ n1 kbd.u1 (by omega) (by omega);have hnU2:n*U<=16*1000:=bx_ n2 kbd.u2 (by have:=kbd.u1;omega) (by omega);have c1:bf G h ⟨kb,0,none⟩=some (.pointer (some ⟨kp,0,none⟩)):=by rw [bm (bj (s.at 3 rfl h1))];rfl
 have c2:bf G h ⟨nb,0,none⟩=some (.int .i64 n):=by rw [bm (bj (s.at 3 rfl h2))];rfl
 have c3:bf G h ⟨kp,0,none⟩=some (.int .i64 U):=by rw [bm (bj (s.at 0 rfl bh))];exact hl0 0 (by decide)
 unfold S151;simp (disch:=first|decide|omega) only [Ls,c1,c2,c3];refine Xd.mono ?_;rintro _ h4 ⟨b1,b2,b3,b4,b5,rfl,s4,d4⟩;intro y l oo hl gl hoo hy;rw [ao9];have yl:=Ra (kp:=kp) (o:=o) (rb:=rb) (l0:=l0) (pb:=pb) gl hoo hlen (by simp (disch:=decide) only [Ls]) hy
 have hself:l0.set (o+3) (.slice none 0 0)=l0:=by
  apply bg_;intro i;by_cases hi:o+3=i
  . subst hi;rw [aB_ hlen,h3]
  . rw [ax_ hi]
 have s5:Sep [noHp.set l (oo none),noHp.set b3 (.cells #[(0:Int)] 3 (0,0)),noHp.set b4 (.cells #[(0:Int)] 3 (0,0)),noHp.set b1 (.cells #[.pointer (some ⟨kp,0,none⟩)] 50 (0,0)),noHp.set b2 (.cells #[.bool false] 4 (0,0)),noHp.set b5 (.cells #[.int .i64 (n*U)] 3 (0,0)),
  noHp.set kp (.cells l0.toArray 173 (0,0)),pb,noHp.set rb (.cells #[.pointer (some ⟨kp,o,none⟩)] 261 (0,0)),q] (h4.set l (oo none)):=
  (((s4.pick 5 rfl rfl).open s).new (o:=oo none) hl).sel [0,5,6,7,8,9,1,2,3,4] (by decide) rfl
 have d5:Dis G (h4.set l (oo none)):=d4.set gl;obtain ⟨a,s6,sa⟩:=Sep.pack [_,_,_,_,_] (s5.none.sel (L':=[noHp.set kp (.cells l0.toArray 173 (0,0)),noHp,pb,noHp.set rb (.cells #[.pointer (some ⟨kp,o,none⟩)] 261 (0,0)),noHp.set l (oo none),noHp.set b1 (.cells #[.pointer (some ⟨kp,0,none⟩)] 50 (0,0)),noHp.set b2 (.cells #[.bool false] 4 (0,0)),noHp.set b5 (.cells #[.int .i64 (n*U)] 3 (0,0)),q,noHp.set b3 (.cells #[(0:Int)] 3 (0,0)),noHp.set b4 (.cells #[(0:Int)] 3 (0,0))]) [7,0,8,9,1,4,5,6,10,2,3] (by decide) rfl);obtain ⟨Q,s7,sQ⟩:=Sep.pack [_,_,_,_] (s6.sel (L':=[noHp.set b1 (.cells #[.pointer (some ⟨kp,0,none⟩)] 50 (0,0)),noHp.set b2 (.cells #[.bool false] 4 (0,0)),noHp.set b5 (.cells #[.int .i64 (n*U)] 3 (0,0)),q,a,noHp.set b3 (.cells #[(0:Int)] 3 (0,0)),noHp.set b4 (.cells #[(0:Int)] 3 (0,0))]) [1,2,3,4,0,5,6] (by decide) rfl);refine (T9 (kp:=kp) yl (fun L a h=>h.kh ho hl0) kbd (a:=a) (q:=Q) ⟨noHp,.slice none 0 0,Slc.nil,by rw [hself];exact sa⟩ (s7.sel [1,2,3,0] (by decide) rfl) (sQ.at 0 rfl bh) (sQ.at 1 rfl bh) (sQ.at 2 rfl bh) (by omega) (by omega)).mono ?_;rintro _ h8 ⟨a',s8,d8,ip,v',sl,sa'⟩;have hpl:prof A V (n*U) (n*U).toNat 0 0=kq U A V n:=by unfold kq;rw [ak_ ⟨n1,n2⟩]
 rw [hpl]at sl
 have s9:Sep [noHp.set kp (.cells (l0.set (o+3) v').toArray 173 (0,0)),ip,pb,noHp.set rb (.cells #[.pointer (some ⟨kp,o,none⟩)] 261 (0,0)),q,noHp.set l (oo none)] h8:=
  (((s8.open sa').pick 5 rfl rfl).open sQ).sel [4,5,6,7,3,8] (by decide) rfl
 obtain ⟨h9,s10,t10⟩:=Sep.pack [_,_,_,_,_] s9;refine ⟨h9,s10.in 0 rfl,?_,.inl ⟨s10.at 1 rfl bh,?_⟩⟩
 . rcases s10.apart (b:=noHp.set l (oo none)) (by simp) l with e|e
   . exact e
   . rw [bh]at e;cases e
 try simp only [Ls]
 exact ⟨ip,v',sl,t10,fun b o e=>d8 b o (s10.in 0 rfl _ _ e)⟩
def lm:=jq bC (jq (jq (jq (jq @al261 @and_true) (jq @W0 (jq @kv @sn))) (jq (jq @cf123 (jq @cf150 @eq50s)) (jq @fa170_0 (jq @fa170_1 @fa173_0)))) (jq (jq (jq @aD2 (jq @Kw @ld261)) (jq @ld3 (jq @ld3p @ld50))) (jq (jq @ld50p (jq @O1 @li)) (jq @jc (jq @nq @true_and)))))
abbrev RunE:=Bool × Option Addr × Nat × Nat
def runC:Cod RunE:=⟨4,fun x=>[.int .u32 (if x.1=true then 1 else 0),.int .i32 0,.int .u32 0,.slice x.2.1 x.2.2.1 x.2.2.2],fun _=>rfl,fun _ v hv=>by simp at hv;rcases hv with rfl|rfl|rfl|rfl<;>rfl⟩
def ov (U A V:Int) (R:List RunE):List Value := .int .i64 U :: .int .i64 A :: .int .i64 V::runC.rows R
def KP (a:Hp) (kp:Nat) (U A V:Int):Prop:=KB U A V/\∃(R:List RunE) (pb:Hp),R.length=17/\Sep [noHp.set kp (.cells (ov U A V R).toArray 173 (0,0)),pb] a/\
 ∀(i:Nat) (x:RunE),R[i]?=some x->(x.1=true->Slc icC 3 pb (.slice x.2.1 x.2.2.1 x.2.2.2) (kq U A V i))/\(x.1=false->x.2=(none,0,0))
theorem kcell {U A V:Int} {R:List RunE} {i j:Nat} {x:RunE} (h:R[i]?=some x) (hj:j<4):(ov U A V R)[i*4+3+j]?=(runC.enc x)[j]?:=by unfold ov;rw [show i*4+3+j=(i*4+j)+1+1+1 by omega,as_,as_,as_];have:=runC.rows_get (t:=[]) (j:=j) h hj;rw [av_]at this;exact this
theorem kdone {U A V:Int} {R:List RunE} {i:Nat} {x:RunE} (h:R[i]?=some x) {s:Option Addr} {n c:Nat}:
 ((((ov U A V R).set (i*4+3+1) (.int .i32 1)).set (i*4+3+3) (.slice s n c)).set (i*4+3) (.int .u32 1)).set (i*4+3+1) (.int .i32 0)=ov U A V (R.set i (true,s,n,c)):=by
 have hil:i<R.length:=(ad_.1 h).1;have c2:(runC.rows R)[i*4+2]?=some (.int .u32 0):=by have:=runC.rows_get (t:=[]) (j:=2) h (by decide);rw [av_]at this;exact this
 have hrl:(runC.rows R).length=R.length*4:=by rw [runC.rows_length];rfl
 have hp:=runC.rows_put (t:=[]) (x:=((true,s,n,c):RunE)) hil;rw [av_,av_]at hp;unfold ov;simp only [show i*4+3+1=(i*4+1)+1+1+1 by omega,show i*4+3+3=(i*4+3)+1+1+1 by omega,show i*4+3=(i*4)+1+1+1 by omega,b5_];rw [<- hp];simp only [List.cons.injEq,true_and];have e:putL (runC.rows R) (i*runC.n) (runC.enc (true,s,n,c))=((((runC.rows R).set (i*4) (.int .u32 1)).set (i*4+1) (.int .i32 0)).set (i*4+1+1) (.int .u32 0)).set (i*4+1+1+1) (.slice s n c):=rfl;rw [e];apply bg_;intro j;simp only [ci_,aX_];rw [hrl];repeat' split
 all_goals first
  |rfl
  |(exfalso;omega)
  |(rw [<- ‹i*4+1+1=j›];exact c2)
theorem un17:P_.underlying 171=some (.array 17 170):=by kernel_rfl
theorem szrun:(P_.info? 170).map (·.size)=some 4:=by kernel_rfl
theorem U7 {G h a:Hp} {R:List Hp} {kp:Nat} {U A V n:Int} (k:KP a kp U A V) (s:Sep (a::R) h) (hn : -9223372036854775808<=n/\n<=9223372036854775807):
 bn P_ G 123 #[.pointer (some ⟨kp,0,none⟩),n] h (fun v h'=>∃a' sa cap,v = .slice sa (kq U A V n).length cap/\KP a' kp U A V/\Sep (a'::R) h'/\Dis G h'):=by
 obtain ⟨kbd,L,pb,hL,sp,hr⟩:=id k;have kbd':=kbd;obtain ⟨ku1,ku2,ka1,ka2,kv1,kv2⟩:=kbd;refine bn.assume fun d=>aJ1 (by simp) ?_;unfold S123;simp only [lm];intro x hx gx y hy gy;have hxy:x≠y:=ju hy;have s1:=(s.open sp).new (o := .cells #[.pointer (some ⟨kp,0,none⟩)] 50 (0,0)) hx;have s2:=s1.new (o := .cells #[n] 3 (0,0)) hy;have d2:=(d.set (o := .cells #[.pointer (some ⟨kp,0,none⟩)] 50 (0,0)) gx).set (o := .cells #[n] 3 (0,0)) gy;generalize Hp.set (Hp.set h x _) y _=h2 at s2 d2 ⊢;have cx:bf G h2 ⟨x,0,none⟩=some (.pointer (some ⟨kp,0,none⟩)):=by rw [bm (bj (s2.at 1 rfl bh))];rfl
 have cy:bf G h2 ⟨y,0,none⟩=some (.int .i64 n):=by rw [bm (bj (s2.at 0 rfl bh))];rfl
 have c0:bf G h2 ⟨kp,0,none⟩=some (.int .i64 U):=by rw [bm (bj (s2.at 2 rfl bh))];rfl
 simp only [lm,cx,cy,c0,kc (show ¬U<1 by omega)]
 have out:¬(1<=n/\n<=16)->∃a' sa cap,(.slice none 0 0:Value) = .slice sa (kq U A V n).length cap/\KP a' kp U A V/\Sep (a'::R) h2/\Dis G h2:=fun hno=>by
  have e:kq U A V n=[]:=by unfold kq;rw [ah_ hno]
  rw [e];obtain ⟨a',t1,t2⟩:=Sep.pack [_,_] (s2.drop.drop);exact ⟨a',none,0,rfl,⟨kbd',L,pb,hL,t2,hr⟩,t1,d2⟩
 by_cases h1:n<1
 . simp only [lm,js h1,fq];exact out (by omega)
 by_cases h16:n>16
 . simp only [lm,cy,kc h1,js h16];exact out (by omega)
 simp only [lm,cy,kc h1,kc h16];unfold aj7;simp (disch:=decide) only [lm,cx,cy,Ky un17 szrun (show 0<=n by omega) (show n<(17:Nat)by omega)];intro z hz gz;have s3:=s2.new (o := .cells #[.pointer (some ⟨kp,n.toNat*4+3,none⟩)] 261 (0,0)) hz;have d3:=d2.set (o := .cells #[.pointer (some ⟨kp,n.toNat*4+3,none⟩)] 261 (0,0)) gz;rw [show 3+n.toNat*4=n.toNat*4+3 by omega];rw [ec sz261 rfl bh (by simp),set_set];try simp only [lm,bh_]
 generalize Hp.set h2 z _=h3 at s3 d3 ⊢;have cz:bf G h3 ⟨z,0,none⟩=some (.pointer (some ⟨kp,n.toNat*4+3,none⟩)):=by rw [bm (bj (s3.at 0 rfl bh))];rfl
 try simp (disch:=first|decide|omega) only [lm,Nat.reduceAdd,Nat.reduceMul,cz]
 obtain ⟨e,he⟩:∃e,L[n.toNat]?=some e:=⟨_,aa_ (by omega)⟩;obtain ⟨r1,r2⟩:=hr _ _ he;have hni:((n.toNat:Nat):Int)=n:=by omega
 have hkp:h3 kp=some (.cells (ov U A V L).toArray 173 (0,0)):=s3.at 3 rfl bh;cases hd:e.1 with
 |true=>
  have sl:=r1 hd;rw [hni]at sl;refine (On.ap1 hkp (by rw [kcell he (j:=0) (by decide)];simp [runC,hd])).mono ?_;rintro _ h3 ⟨rfl,rfl⟩;have c3:bf G h3 ⟨kp,n.toNat*4+3+3,none⟩=some (.slice e.2.1 e.2.2.1 e.2.2.2):=by rw [bm (bj hkp)];exact kcell he (j:=3) (by decide)
  try simp only [lm,cz,c3]
  obtain ⟨sa,cap,e2,_⟩:=sl.len (by decide);obtain ⟨a',t1,t2⟩:=Sep.pack [_,_] (s3.drop.drop.drop);exact ⟨a',sa,cap,e2,⟨kbd',L,pb,hL,t2,hr⟩,t1,d3⟩
 |false=>
  have sl:=r2 hd;obtain ⟨q,s4,sq⟩:=Sep.rest [_,_,_] ((s3.pick 3 rfl rfl).pick 4 rfl rfl).swap;have hcell:∀j,j<4->(ov U A V L)[n.toNat*4+3+j]?=(runC.enc e)[j]?:=fun j hj=>kcell he hj;have hlen:(ov U A V L).length=71:=by unfold ov;simp only [an_];rw [runC.rows_length,hL];rfl
  have c0':=hcell 0 (by decide);have c1':=hcell 1 (by decide);have c3':=hcell 3 (by decide);have s5:=s4.put (o := .cells ((ov U A V L).set (n.toNat*4+3+1) (.int .i32 1)).toArray 173 (0,0)) bh;rw [set_set]at s5
  have hpl:=(Rb (G:=G) (kp:=kp) (o:=n.toNat*4+3) (l0:=(ov U A V L).set (n.toNat*4+3+1) (.int .i32 1)) (n:=n) (fun j hj=>by rw [ax_ (by omega)];unfold ov;rcases (show j=0\/j=1\/j=2 by omega)with rfl|rfl|rfl<;>rfl) (by omega) (by rw [aX_,hlen];omega)
   (by rw [ax_ (by omega),c3'];simp [runC,sl]) kbd' (by omega) (by omega) s5 (sq.at 1 rfl bh) (sq.at 0 rfl bh))
  refine (On.Xs (Q:=fun l' h'=>∃ip v',l'=((ov U A V L).set (n.toNat*4+3+1) (.int .i32 1)).set (n.toNat*4+3+3) v'/\Slc icC 3 ip v' (kq U A V n)/\Sep [noHp.set kp (.cells l'.toArray 173 (0,0)),ip,pb,noHp.set z (.cells #[.pointer (some ⟨kp,n.toNat*4+3,none⟩)] 261 (0,0)),q] h'/\Dis G h')
   hkp (by rw [c0'];simp [runC,hd]) (by rw [c1'];rfl) (fun args w=>by kernel_rfl) (hpl.mono ?_)).mono ?_
  . rintro _ h' ⟨rfl,ip,v',sl',s6,d6⟩;refine ⟨rfl,_,s6.at 0 rfl bh,?_,?_,ip,v',rfl,sl',s6,d6⟩
    . rw [ax_ (by omega),ax_ (by omega),c0'];simp [runC,hd]
    . rw [ax_ (by omega),aB_ (by rw [hlen];omega)]
  . rintro _ h4 ⟨rfl,l',h1,⟨ip,v',rfl,sl',s6,d6⟩,hk1,rfl⟩;obtain ⟨sa,cap,rfl,hcap⟩:=sl'.len (by decide);rw [kdone he];have s7:=s6.put (o := .cells (ov U A V (L.set n.toNat (true,sa,(kq U A V n).length,cap))).toArray 173 (0,0)) bh;rw [set_set]at s7;have d7:=d6.set (o := .cells (ov U A V (L.set n.toNat (true,sa,(kq U A V n).length,cap))).toArray 173 (0,0)) (d6 _ _ hk1);generalize Hp.set h1 kp _=h7 at s7 d7 ⊢;have cz7:bf G h7 ⟨z,0,none⟩=some (.pointer (some ⟨kp,n.toNat*4+3,none⟩)):=by rw [bm (bj (s7.at 3 rfl bh))];rfl
    have he7:(L.set n.toNat (true,sa,(kq U A V n).length,cap))[n.toNat]?=some (true,sa,(kq U A V n).length,cap):=by rw [aB_ (by omega)]
    have c37:bf G h7 ⟨kp,n.toNat*4+3+3,none⟩=some (.slice sa (kq U A V n).length cap):=by rw [bm (bj (s7.at 0 rfl bh))];exact kcell he7 (j:=3) (by decide)
    try simp only [lm,cz7,c37]
    have s8:=Sep.unrest [_,_,_,_] s7 sq;obtain ⟨pb',s9,t9⟩:=Sep.pack [_,_] (((s8.pick 1 rfl rfl).pick 2 rfl rfl).swap);obtain ⟨a',s10,t10⟩:=Sep.pack [_,_] s9.swap;refine ⟨a',sa,cap,rfl,⟨kbd',_,pb',by rw [aX_];exact hL,t10,fun i u hu=>?_⟩,s10.swap.drop.swap.drop.swap.drop,d7⟩;by_cases hi:n.toNat=i
    . subst hi;rw [he7]at hu;cases hu;refine ⟨fun _=>?_,fun h=>by cases h⟩;rw [hni];exact sl'.le (t9.in 0 rfl)
    . rw [ax_ hi]at hu;obtain ⟨q1,q2⟩:=hr i u hu;exact ⟨fun h=>(q1 h).le (t9.in 1 rfl),q2⟩
theorem am3 {G h a:Hp} {R:List Hp} {kp:Nat} {U A V n:Int} (k:KP a kp U A V) (s:Sep (a::R) h) (hn : -9223372036854775808<=n/\n<=9223372036854775807):
 bn P_ G 72 #[.pointer (some ⟨kp,0,none⟩),n] h (fun v h'=>v = .int .i64 (Hu U A V n)/\∃a',KP a' kp U A V/\Sep (a'::R) h'/\Dis G h'):=by refine enter72 (by simp) ?_;unfold S72;simp only [lm];refine (U7 k s hn).mono ?_;rintro _ h1 ⟨a',sa,cap,rfl,k',s',d'⟩;simp only [lm];exact ⟨rfl,a',k',s',d'⟩
def Vm (U A V:Int):List RunE:=List.replicate 17 (false,none,0,0)
theorem bdkin {G h:Hp} {U A V:Int} {K:VK}:wpH P_ G (Instr.build 173 #[(0,.int .i64 U),(1,.int .i64 A),(2,.int .i64 V)]) h K=K (.agg (ov U A V (Vm U A V)).toArray) h:=by kernel_rfl
theorem aA0 {G h:Hp} {U A V:Int}:bn P_ G 29 #[U,A,V] h (fun v h'=>
 (KB U A V/\∃a kp,v = .tuple #[.pointer (some ⟨kp,0,none⟩),(0:Int)]/\KP a kp U A V/\Sep [a,h] h'/\Dis G h')\/(¬KB U A V/\v = .tuple #[.pointer none,(1:Int)]/\h'=h)):=by
 refine bn.assume fun d=>enter29 (by simp) ?_;unfold S29;simp only [lm]
 refine dt (fun m r h'=>∃i:Nat,m=3-i/\i<=3/\h'=h/\r 0 = .int .i64 U/\r 1 = .int .i64 A/\r 2 = .int .i64 V/\r 13 = .agg #[U,A,V]/\r 14 = .int .i64 i/\∀j x,j<i->[U,A,V][j]?=some x->1<=x/\x<=1000) ?_ (m:=3)
  ⟨0,rfl,by omega,rfl,by simp (disch:=decide) only [lm],by simp (disch:=decide) only [lm],by simp (disch:=decide) only [lm],by simp (disch:=decide) only [lm],by simp only [lm];rfl,fun j x hj=>by omega⟩
 rintro m r h' ⟨i,rfl,hi,rfl,g0,g1,g2,g13,g14,hall⟩ X hX;unfold aT0;simp only [lm,g14];by_cases h3:i<3
 . rw [js (show (i:Int)<3 by omega)];simp only [lm];obtain ⟨x,hx⟩:∃x,[U,A,V][i]?=some x:=⟨_,aa_ (by simpa using h3)⟩;have hix:∀(K:Value->Hp->Prop),wpH P_ G (Instr.index 155 (.agg #[U,A,V]) (.int .i64 (i:Int))) h' K=K x h':=by intro K;rcases (show i=0\/i=1\/i=2 by omega)with rfl|rfl|rfl<;>cases hx<;>kernel_rfl
   have hno:¬(1<=x/\x<=1000)->¬KB U A V:=fun hno kb=>by obtain ⟨q1,q2,q3,q4,q5,q6⟩:=kb;rcases (show i=0\/i=1\/i=2 by omega)with rfl|rfl|rfl<;>cases hx<;>omega
   unfold Qu;simp (disch:=decide) only [lm,g13,g14,hix];by_cases hx1:x<1
   . rw [js hx1];simp only [lm,fq];exact .inr (hno (by omega))
   . rw [kc hx1];simp only [lm];by_cases hx2:x>1000
     . rw [js hx2];simp only [lm];exact .inr (hno (by omega))
     . rw [kc hx2];simp only [lm];unfold Qt;simp (disch:=first|decide|omega) only [lm,g14];refine hX (3-(i+1)) _ _ (by omega) ⟨i+1,rfl,h3,rfl,by simp (disch:=decide) only [lm,g0],by simp (disch:=decide) only [lm,g1],by simp (disch:=decide) only [lm,g2],by simp (disch:=decide) only [lm,g13],by simp only [lm];rfl,fun j y hj hy=>?_⟩;rcases (show j<i\/j=i by omega)with hj|rfl
       . exact hall j y hj hy
       . rw [hx]at hy;cases hy;omega
 . obtain rfl:i=3:=by omega
   rw [kc (show ¬((3:Nat):Int)<3 by omega)];have kb:KB U A V:=by have a0:=hall 0 U (by omega) rfl;have a1:=hall 1 A (by omega) rfl;have a2:=hall 2 V (by omega) rfl;exact ⟨a0.1,a0.2,a1.1,a1.2,a2.1,a2.2⟩
   simp only [lm];unfold aT1;simp (disch:=decide) only [lm,g0,g1,g2,bdkin];intro x hx gx;refine .inl ⟨kb,noHp.set x (.cells (ov U A V (Vm U A V)).toArray 173 (0,0)),x,rfl,⟨kb,Vm U A V,noHp,by simp [Vm],Sep.one.none.swap,fun i e he=>?_⟩,Sep.one.new hx,d.set gx⟩
   have:e=(false,none,0,0):=by
    unfold Vm at he;rw [bS_]at he;split at he
    . exact (Option.some.inj he).symm
    . cases he
   subst this;exact ⟨fun h=>(by cases h),fun _=>rfl⟩
end Go.Proofs.YtfflipnhffknnaaGreatDoor
end
section
namespace Go.Proofs.YtfflipnhffknnaaGreatDoor
open Go Go.HL
def bRpB:=jq bC (jq (jq (jq (jq (jq @bz_ @aH_) (jq @yw @B1)) (jq (jq @Lo @cf159) (jq @cf40 (jq @cf60 @cf82)))) (jq (jq (jq @cf83 @cf84) (jq @cf85 @Wg)) (jq (jq @Ld @Sc) (jq @Sb (jq @Lc @ab3))))) (jq (jq (jq (jq @D1 @Dz) (jq @vq @Dy)) (jq (jq @ld22 @aa1) (jq @ld23 (jq @ld23p @ld26)))) (jq (jq (jq @Ak @ld28) (jq @yp (jq @ld3 @ld30))) (jq (jq @rz @ld4) (jq @ln22 (jq @ln23 @true_and))))))
theorem boxed {G h h1:Hp} {x:Nat} {o:Obj} (e:h.set x o=h1) (hx:h x=none) (d:Dis G h) (gx:G x=none):h.le h1/\Dis G h1/\h1 x=some o:=by subst e;exact ⟨dw hx,d.set gx,bh⟩
theorem si {G h:Hp} {v:Value} {C:Conf} {c:Cell} (hv:CV G h v C) (hL:C.bl.length<=100000000000000):bn P_ G 60 #[v,ww c] h (fun u h'=>u = .bool (oy C c)/\h'=h):=by
 have hv0:=hv;obtain ⟨ab,cb,ap,cp,ar,cr,az,cs,rfl,ca⟩:=hv;refine bn.assume fun d=>quietly (enter60 (by simp) ?_);unfold S60;simp only [bRpB];intro x hx gx;generalize e1:Hp.set h x _=h1;obtain ⟨l1,d1,b1⟩:=boxed e1 hx d gx;intro y hy gy;generalize e2:Hp.set h1 y _=h2;obtain ⟨l2,d2,b2⟩:=boxed e2 hy d1 gy;have cx:∀k,bf G h2 ⟨x,k,none⟩=_:=fun k=>bm (bj (l2 _ _ b1));have cy:∀k,bf G h2 ⟨y,k,none⟩=_:=fun k=>bm (bj b2);have ca2:=ca.up (l1.trans l2) d2;try simp only [bRpB,cx,cy]
 refine (Jl ca2.cv).mono ?_;rintro _ _ ⟨rfl,rfl⟩;unfold oy;cases hc:inB C c with
 |false=>simp only [bRpB,hc];exact ⟨rfl,l1.trans l2⟩
 |true=>
 simp only [bRpB,hc,cx,cy];refine (qz ca2.bl hL).mono ?_;rintro _ _ ⟨rfl,rfl⟩;simp only [bRpB];refine ⟨?_,l1.trans l2⟩;congr 1;rw [a6_];simp
theorem Xl {G h:Hp} {v:Value} {C:Conf} {c:Cell} (hv:CV G h v C) (hL:C.po.length<=100000000000000):bn P_ G 159 #[v,ww c] h (fun u h'=>u = .int .i64 (Ko C c)/\h'=h):=by
 obtain ⟨ab,cb,ap,cp,ar,cr,az,cs,rfl,ca⟩:=hv;refine bn.assume fun d=>quietly (aG0 (by simp) ?_);unfold S159;simp only [bRpB];intro x hx gx;generalize e1:Hp.set h x _=h1;obtain ⟨l1,d1,b1⟩:=boxed e1 hx d gx;intro y hy gy;generalize e2:Hp.set h1 y _=h2;obtain ⟨l2,d2,b2⟩:=boxed e2 hy d1 gy;have cx:∀k,bf G h2 ⟨x,k,none⟩=_:=fun k=>bm (bj (l2 _ _ b1));have cy:∀k,bf G h2 ⟨y,k,none⟩=_:=fun k=>bm (bj b2);have ca2:=ca.up (l1.trans l2) d2
 refine dt (fun m r h3=>∃i:Nat,m=C.po.length-i/\i<=C.po.length/\r 2 = .pointer (some ⟨x,0,none⟩)/\r 3 = .pointer (some ⟨y,0,none⟩)/\r 5 = .int .i64 i/\c∉C.po.take i/\h3=h2) ?_
  (m:=C.po.length) ⟨0,rfl,au_ _,by simp (disch:=decide) only [bRpB],by simp (disch:=decide) only [bRpB],by simp only [bRpB]<;>rfl,by simp,rfl⟩
 rintro m r h3 ⟨i,rfl,hi,g2,g3,g5,hni,rfl⟩ X HX;unfold af7;simp only [bRpB,g2,g5,cx];refine df (fun hlt=>?_) (fun hge=>?_)
 . have hlt':i<C.po.length:=by omega
   obtain ⟨z,hz⟩:∃x,C.po[i]?=some x:=⟨_,aa_ hlt'⟩;obtain ⟨b,o,rfl,y0,y1⟩:=Sees.cell ca2.po hz;have htk:C.po.take (i+1)=C.po.take i++[z]:=by rw [aL_,hz];rfl
   unfold Mk;simp (disch:=decide) only [bRpB,g2,g5,g3,cx,cy,tz (ac_ i) hlt,y0,y1,Bw];cases hb:(z==c)with
   |true=>
    simp only [bRpB,g5];have hzc:z=c:=by simpa using hb
    subst hzc;refine ⟨?_,l1.trans l2⟩;have hm:z∈C.po:=ab_ hz;unfold Ko;rw [ak_ hm];congr 1;have h1:C.po=C.po.take i++z::C.po.drop (i+1):=by have:=ad_.1 hz;conv=>lhs;rw [<- bE_ i C.po,br_ hlt',this.2]
    rw [h1,b8_,ah_ hni,List.idxOf_cons_self,aN_];omega
   |false=>
    simp only [bRpB];unfold Mj;simp (disch:=first|decide|omega) only [bRpB,g5];refine HX (C.po.length-(i+1)) _ _ (by omega) ⟨i+1,rfl,hlt',by simp (disch:=decide) only [bRpB,g2],by simp (disch:=decide) only [bRpB,g3],by simp only [bRpB]<;>rfl,?_,rfl⟩;rw [htk,ao_,aE_];rintro (h|rfl)
    . exact hni h
    . simp at hb
 . obtain rfl:i=C.po.length:=by omega
   rw [am_ (aj_ _)]at hni;show Tg _ _ _ _;unfold Tg;simp only [bRpB];refine ⟨?_,l1.trans l2⟩;unfold Ko;rw [ah_ hni]
theorem ny {G h:Hp} {p:Pose}:bn P_ G 40 #[mq p] h (fun u h'=>∃b,u = .slice (some ⟨b,0,none⟩) 2 2/\h b=none/\G b=none/\h'=h.set b (.cells #[p.x,p.y,(east p).1,(east p).2] 28 (0,0))):=by
 refine bn.assume fun d=>bn.less (enter40 (by simp) (R:=fun u h'=>∃b,u = .slice (some ⟨b,0,none⟩) 2 2/\h b=none/\G b=none/\(h.set b (.cells #[p.x,p.y,(east p).1,(east p).2] 28 (0,0))).le h') ?_) ?_;rotate_left
 . rintro v h' ⟨b,e,h1,h2,h3⟩;exact ⟨_,h3,b,e,h1,h2,rfl⟩
 unfold S40;simp only [bRpB];intro x hx gx;generalize e1:Hp.set h x _=h1;obtain ⟨l1,d1,b1⟩:=boxed e1 hx d gx;have cx:∀k,bf G h1 ⟨x,k,none⟩=_:=fun k=>bm (bj b1);try simp (disch:=first|decide|omega) only [bRpB,Nat.reduceAdd,Nat.reduceMul,cx]
 unfold east wr;cases hd:p.d with
 |true=>
  try simp only [bRpB,cx]
  intro b hb gb;exact ⟨b,rfl,l1.none hb,gb,l1.both⟩
 |false=>
  try simp only [bRpB,cx]
  unfold aS2;simp (disch:=decide) only [bRpB,cx];intro b hb gb;exact ⟨b,rfl,l1.none hb,gb,l1.both⟩
theorem vi {G h:Hp} {v:Value} {C:Conf} {p:Pose} (hv:CV G h v C) (hL:C.bl.length<=100000000000000):bn P_ G 22 #[v,mq p] h (fun u h'=>u = .bool (fu C p)/\h'=h):=by
 obtain ⟨ab,cb,ap,cp,ar,cr,az,cs,rfl,ca⟩:=hv;refine bn.assume fun d=>quietly (enter22 (by simp) ?_);unfold S22;simp only [bRpB];intro x hx gx;generalize e1:Hp.set h x _=h1;obtain ⟨l1,d1,b1⟩:=boxed e1 hx d gx;intro y hy gy;generalize e2:Hp.set h1 y _=h2;obtain ⟨l2,d2,b2⟩:=boxed e2 hy d1 gy;have cy:∀k,bf G h2 ⟨y,k,none⟩=_:=fun k=>bm (bj b2);try simp (disch:=first|decide|omega) only [bRpB,Nat.reduceAdd,Nat.reduceMul,cy]
 refine ny.mono ?_;rintro _ _ ⟨b,rfl,hb,gb,rfl⟩;generalize e3:Hp.set h2 b _=h3;obtain ⟨l3,d3,b3⟩:=boxed e3 hb d2 gb;have L:=(l1.trans l2).trans l3;have cx:∀k,bf G h3 ⟨x,k,none⟩=_:=fun k=>bm (bj (l3 _ _ (l2 _ _ b1)));have cb3:∀k,bf G h3 ⟨b,k,none⟩=_:=fun k=>bm (bj b3);have ca3:=ca.up L d3;try simp only [bRpB,cx,cb3,tz (by decide:(0:Int)<=0) (by decide:(0:Int)<(2:Nat)),ca_,bH_]
 refine (si (c:=(p.x,p.y)) ca3.cv hL).mono ?_;rintro _ _ ⟨rfl,rfl⟩;unfold fu;cases hc:oy C (p.x,p.y)with
 |false=>simp only [bRpB,hc];exact ⟨rfl,L⟩
 |true=>
 try simp only [bRpB,Nat.reduceAdd,cx,cb3,tz (by decide:(0:Int)<=1) (by decide:(1:Int)<(2:Nat)),Int.toNat_one,Nat.one_mul]
 refine (si (c:=east p) ca3.cv hL).mono ?_;rintro _ _ ⟨rfl,rfl⟩;try simp only [bRpB]
 first|exact L|exact ⟨by simp,L⟩
theorem Ex {G h:Hp} {v:Value} {C:Conf} {c:Cell} (hv:CV G h v C) (hL:C.bl.length<=100000000000000):bn P_ G 85 #[v,ww c] h (fun u h'=>u = .bool (my C c)/\h'=h):=by
 obtain ⟨ab,cb,ap,cp,ar,cr,az,cs,rfl,ca⟩:=hv;refine bn.assume fun d=>quietly (enter85 (by simp) ?_);unfold S85;simp only [bRpB];intro x hx gx;generalize e1:Hp.set h x _=h1;obtain ⟨l1,d1,b1⟩:=boxed e1 hx d gx;intro y hy gy;generalize e2:Hp.set h1 y _=h2;obtain ⟨l2,d2,b2⟩:=boxed e2 hy d1 gy;have L:=l1.trans l2;have cx:∀k,bf G h2 ⟨x,k,none⟩=_:=fun k=>bm (bj (l2 _ _ b1));have cy:∀k,bf G h2 ⟨y,k,none⟩=_:=fun k=>bm (bj b2);have ca2:=ca.up L d2;try simp only [bRpB,cx,cy]
 refine (si (c:=(IntKind.i64.wrap (c.1+1),c.2)) ca2.cv hL).mono ?_;rintro _ _ ⟨rfl,rfl⟩;unfold my wr;cases hc:oy C (IntKind.i64.wrap (c.1+1),c.2)with
 |true=>simp only [bRpB,hc];first|exact L|exact ⟨rfl,L⟩
 |false=>
 try simp only [bRpB,cx,cy]
 refine (si (c:=(c.1,IntKind.i64.wrap (c.2+1))) ca2.cv hL).mono ?_;rintro _ _ ⟨rfl,rfl⟩;try simp (disch:=first|decide|omega) only [bRpB,Nat.reduceAdd,Nat.reduceMul]
 first|exact L|exact ⟨by simp,L⟩
theorem Kj {G h:Hp} {v:Value} {C:Conf} {c:Cell} (hv:CV G h v C) (hL:C.ro.length<=100000000000000):bn P_ G 84 #[v,ww c] h (fun u h'=>u = .bool (uj C c)/\h'=h):=by
 obtain ⟨ab,cb,ap,cp,ar,cr,az,cs,rfl,ca⟩:=hv;refine bn.assume fun d=>quietly (enter84 (by simp) ?_);unfold S84;simp only [bRpB];intro x hx gx;generalize e1:Hp.set h x _=h1;obtain ⟨l1,d1,b1⟩:=boxed e1 hx d gx;intro y hy gy;generalize e2:Hp.set h1 y _=h2;obtain ⟨l2,d2,b2⟩:=boxed e2 hy d1 gy;have L:=l1.trans l2;have b1':=l2 _ _ b1;have ca2:=ca.up L d2
 refine dt (fun m r h3=>∃i:Nat,m=C.ro.length-i/\i<=C.ro.length/\r 2 = .pointer (some ⟨x,0,none⟩)/\r 3 = .pointer (some ⟨y,0,none⟩)/\r 5 = .int .i64 i/\((C.ro.take i).any fun p=>decide (((dj p).count c:Int)>0))=false/\h2.le h3/\Dis G h3) ?_
  (m:=C.ro.length) ⟨0,rfl,au_ _,by simp (disch:=decide) only [bRpB],by simp (disch:=decide) only [bRpB],by simp only [bRpB]<;>rfl,by simp,Hp.le.refl _,d2⟩
 rintro m r h3 ⟨i,rfl,hi,g2,g3,g5,hni,l3,d3⟩ X HX;have cx:∀k,bf G h3 ⟨x,k,none⟩=_:=fun k=>bm (bj (l3 _ _ b1'));unfold aO5;simp only [bRpB,g2,g5,cx];refine df (fun hlt=>?_) (fun hge=>?_)
 . have hlt':i<C.ro.length:=by omega
   obtain ⟨z,hz⟩:∃x,C.ro[i]?=some x:=⟨_,aa_ hlt'⟩;have ca3:=ca2.up l3 d3;obtain ⟨b,o,rfl,y0,y1,y2⟩:=Sees.pose ca3.ro hz;have htk:C.ro.take (i+1)=C.ro.take i++[z]:=by rw [aL_,hz];rfl
   unfold P1;refine ⟨h3,Hp.le.refl _,?_⟩;simp (disch:=decide) only [bRpB,g2,g5,g3,cx,Ib (ac_ i) hlt,y0,y1,y2];refine (ny (p:=z)).mono ?_;rintro _ _ ⟨b',rfl,hb,gb,rfl⟩;generalize e4:Hp.set h3 b' _=h4;obtain ⟨l4,d4,b4⟩:=boxed e4 hb d3 gb;have cy:∀k,bf G h3 ⟨y,k,none⟩=_:=fun k=>bm (bj (l3 _ _ b2));refine ⟨l4,?_⟩;try simp only [bRpB,g3,cy]
   refine (qz (L:=dj z) (c:=c) (Sees.row b4 rfl (aj_ _)) (by simp [dj])).mono ?_;rintro _ _ ⟨rfl,rfl⟩;try simp only [bRpB]
   cases hb:decide (((dj z).count c:Int)>0)with
   |true=>
    try simp only [bRpB,hb]
    refine ⟨?_,(L.trans l3).trans l4⟩;unfold uj;congr 1;symm;rw [bf_];exact ⟨z,ab_ hz,hb⟩
   |false=>
    try simp only [bRpB,hb]
    unfold P0;simp (disch:=first|decide|omega) only [bRpB,g5];refine HX (C.ro.length-(i+1)) _ _ (by omega) ⟨i+1,rfl,hlt',by simp (disch:=decide) only [bRpB,g2],by simp (disch:=decide) only [bRpB,g3],by simp only [bRpB]<;>rfl,?_,l3.trans l4,d4⟩;rw [htk,List.any_append,hni];simp only [List.any_cons,List.any_nil,hb];rfl
 . obtain rfl:i=C.ro.length:=by omega
   rw [am_ (aj_ _)]at hni;show Y4 _ _ _ _;unfold Y4;simp only [bRpB];refine ⟨?_,L.trans l3⟩;unfold uj;rw [hni]
theorem N0 {G h:Hp} {v:Value} {C:Conf} {c:Cell} (hv:CV G h v C) (hL:C.bl.length<=100000000000000) (hP:C.po.length<=100000000000000) (hR:C.ro.length<=100000000000000):bn P_ G 133 #[v,ww c] h (fun u h'=>u = .bool (ve C c)/\h'=h):=by
 obtain ⟨ab,cb,ap,cp,ar,cr,az,cs,rfl,ca⟩:=hv;refine bn.assume fun d=>quietly (aI2 (by simp) ?_);unfold S133;simp only [bRpB];intro x hx gx;generalize e1:Hp.set h x _=h1;obtain ⟨l1,d1,b1⟩:=boxed e1 hx d gx;intro y hy gy;generalize e2:Hp.set h1 y _=h2;obtain ⟨l2,d2,b2⟩:=boxed e2 hy d1 gy;have L:=l1.trans l2;have cx:∀k,bf G h2 ⟨x,k,none⟩=_:=fun k=>bm (bj (l2 _ _ b1));have cy:∀k,bf G h2 ⟨y,k,none⟩=_:=fun k=>bm (bj b2);have ca2:=ca.up L d2;unfold ve;try simp only [bRpB,cx,cy]
 refine (si ca2.cv hL).mono ?_;rintro _ _ ⟨rfl,rfl⟩;cases hc:oy C c with
 |false=>simp only [bRpB,hc];exact ⟨by simp,L⟩
 |true=>
 try simp only [bRpB,cx,cy]
 refine (Xl ca2.cv hP).mono ?_;rintro _ _ ⟨rfl,rfl⟩;try simp only [bRpB]
 cases hc2:decide (Ko C c<0)with
 |false=>simp only [bRpB,hc2];exact ⟨by simp,L⟩
 |true=>
 try simp only [bRpB,cx,cy]
 refine (Kj ca2.cv hR).mono ?_;rintro _ _ ⟨rfl,rfl⟩;try simp only [bRpB]
 cases hc3:uj C c with
 |true=>simp only [bRpB,hc3];exact ⟨by simp,L⟩
 |false=>
 try simp only [bRpB,cx,cy]
 refine (Ex ca2.cv hL).mono ?_;rintro _ _ ⟨rfl,rfl⟩;try simp only [bRpB]
 first|exact L|exact ⟨by simp,L⟩
def bRpC:=jq bC (jq (jq (jq (jq @bz_ (jq @aH_ @kv)) (jq @cf98 (jq @Wg @Le))) (jq (jq @zq (jq @Bv @Cv)) (jq @Fp (jq @ab6 @ab5)))) (jq (jq (jq @Fo (jq @aC1 @ab2)) (jq @Ha (jq @Sa @R9))) (jq (jq @ld24p (jq @yp @ld3)) (jq @ld3p (jq @O1 @true_and)))))
def qj (C:Conf):Bool:=cj C.w 1 16&&(cj C.h 1 16&&(cj C.ht 1 8&&(cj C.un 1 1000&&(cj C.ac 1 1000&&(cj C.sp 1 1000&&(cj C.tu 1 1000&&(cj C.ho 1 1000&&(cj C.re 1 1000&&(cj C.qu 1 16&&(cj C.bu 1 1048576))))))))))
theorem Ri {G h:Hp} {v:Value} {C:Conf} (hv:CV G h v C):bn P_ G 81 #[v] h (fun u h'=>u = .bool (qj C)/\h'=h):=by
 obtain ⟨ab,cb,ap,cp,ar,cr,az,cs,rfl,ca⟩:=hv;refine bn.assume fun d=>quietly (enter81 (by simp) ?_);unfold S81;simp only [bRpC];intro x hx gx;generalize e1:Hp.set h x _=h1;obtain ⟨l1,d1,b1⟩:=boxed e1 hx d gx;have cx:∀k,bf G h1 ⟨x,k,none⟩=_:=fun k=>bm (bj b1);unfold qj;try simp (disch:=first|decide|omega) only [bRpC,Nat.reduceAdd,Nat.reduceMul,cx]
 refine (ix (n:=C.w) (a:=1) (b:=16)).mono ?_;rintro _ _ ⟨rfl,rfl⟩;cases hc0:cj C.w 1 16 with
 |false=>try simp only [bRpC,hc0];exact ⟨by simp,l1⟩
 |true=>
 try simp only [bRpC,cx]
 refine (ix (n:=C.h) (a:=1) (b:=16)).mono ?_;rintro _ _ ⟨rfl,rfl⟩;cases hc1:cj C.h 1 16 with
 |false=>try simp only [bRpC,hc1];exact ⟨by simp,l1⟩
 |true=>
 try simp only [bRpC,cx]
 refine (ix (n:=C.ht) (a:=1) (b:=8)).mono ?_;rintro _ _ ⟨rfl,rfl⟩;cases hc2:cj C.ht 1 8 with
 |false=>try simp only [bRpC,hc2];exact ⟨by simp,l1⟩
 |true=>
 try simp only [bRpC,cx]
 refine (ix (n:=C.un) (a:=1) (b:=1000)).mono ?_;rintro _ _ ⟨rfl,rfl⟩;cases hc3:cj C.un 1 1000 with
 |false=>try simp only [bRpC,hc3];exact ⟨by simp,l1⟩
 |true=>
 try simp only [bRpC,cx]
 refine (ix (n:=C.ac) (a:=1) (b:=1000)).mono ?_;rintro _ _ ⟨rfl,rfl⟩;cases hc4:cj C.ac 1 1000 with
 |false=>try simp only [bRpC,hc4];exact ⟨by simp,l1⟩
 |true=>
 try simp only [bRpC,cx]
 refine (ix (n:=C.sp) (a:=1) (b:=1000)).mono ?_;rintro _ _ ⟨rfl,rfl⟩;cases hc5:cj C.sp 1 1000 with
 |false=>try simp only [bRpC,hc5];exact ⟨by simp,l1⟩
 |true=>
 try simp only [bRpC,cx]
 refine (ix (n:=C.tu) (a:=1) (b:=1000)).mono ?_;rintro _ _ ⟨rfl,rfl⟩;cases hc6:cj C.tu 1 1000 with
 |false=>try simp only [bRpC,hc6];exact ⟨by simp,l1⟩
 |true=>
 try simp only [bRpC,cx]
 refine (ix (n:=C.ho) (a:=1) (b:=1000)).mono ?_;rintro _ _ ⟨rfl,rfl⟩;cases hc7:cj C.ho 1 1000 with
 |false=>try simp only [bRpC,hc7];exact ⟨by simp,l1⟩
 |true=>
 try simp only [bRpC,cx]
 refine (ix (n:=C.re) (a:=1) (b:=1000)).mono ?_;rintro _ _ ⟨rfl,rfl⟩;cases hc8:cj C.re 1 1000 with
 |false=>try simp only [bRpC,hc8];exact ⟨by simp,l1⟩
 |true=>
 try simp only [bRpC,cx]
 refine (ix (n:=C.qu) (a:=1) (b:=16)).mono ?_;rintro _ _ ⟨rfl,rfl⟩;cases hc9:cj C.qu 1 16 with
 |false=>try simp only [bRpC,hc9];exact ⟨by simp,l1⟩
 |true=>
 try simp only [bRpC,cx]
 refine (ix (n:=C.bu) (a:=1) (b:=1048576)).mono ?_;rintro _ _ ⟨rfl,rfl⟩;try simp only [bRpC]
 first|exact l1|exact ⟨by simp,l1⟩
theorem icget {G h:Hp} {b o i:Nat} {x:Int} (e:∀j,j<icC.n->bf G h ⟨b,o+i*icC.n+j,none⟩=(icC.enc x)[j]?):bf G h ⟨b,o+i*1,none⟩=some (.int .i64 x):=e 0 (by decide)
theorem Sees.int {G h:Hp} {sa:Option Addr} {n cap:Nat} {L:List Int} (s:Sees icC G h (.slice sa n cap) L) {i:Nat} {x:Int} (hx:L[i]?=some x):
 ∃b o,sa=some ⟨b,o,none⟩/\bf G h ⟨b,o+i,none⟩=some (.int .i64 x):=by obtain ⟨b,o,c,e1,e2⟩:=s.get hx;simp only [Value.slice.injEq]at e1;have:=icget e2;rw [aW_]at this;exact ⟨b,o,e1.1,this⟩
theorem CA.stk {G h:Hp} {C:Conf} {ab:Option Addr} {cb:Nat} {ap:Option Addr} {cp:Nat} {ar:Option Addr} {cr:Nat} {az:Option Addr} {cs:Nat} (ca:CA G h C ab cb ap cp ar cr az cs) {i:Nat} {s:Cell × List Int} (hs:C.st[i]?=some s):
 ∃b o a c,az=some ⟨b,o,none⟩/\bf G h ⟨b,o+i*3,none⟩=some (.int .i64 s.1.1)/\bf G h ⟨b,o+i*3+1,none⟩=some (.int .i64 s.1.2)/\bf G h ⟨b,o+i*3+2,none⟩=some (.slice a s.2.length c)/\Sees icC G h (.slice a s.2.length c) s.2:=by
 obtain ⟨raw,h1,h2⟩:=ca.st;obtain ⟨sa,cp2,e⟩:=h1.len;have hl:C.st.length=raw.length:=by simp only [Value.slice.injEq]at e;exact e.2.1
 have hi:i<raw.length:=by rw [<- hl];exact (ad_.1 hs).1
 have hr:raw[i]?=some raw[i]:=aa_ hi;obtain ⟨k1,k2,k3⟩:=h2 i _ s hr hs;obtain ⟨b,o,c,e1,e2⟩:=h1.get hr;simp only [Value.slice.injEq]at e1;have z0:=e2 0 (by decide);have z1:=e2 1 (by decide);have z2:=e2 2 (by decide);simp only [rawC,bc_,ar_,as_]at z0 z1 z2;refine ⟨b,o,_,_,e1.1,?_,?_,?_,k3⟩
 . rw [z0,<- k1]
 . rw [z1,<- k1]
 . rw [z2,k2]
structure Zg (C:Conf):Prop where
 few:C.st.length<=257
 each:∀s∈C.st,ve C s.1=true/\(s.2.length:Int)<=C.ht
 apart:(C.st.map Prod.fst).Nodup
 most:(C.st.flatMap Prod.snd).length<=512
 nums:∀b∈C.st.flatMap Prod.snd,cj b 1 1000000000=true
 once:(C.st.flatMap Prod.snd).Nodup
theorem aM5 {G h:Hp} {C:Conf} {ab:Option Addr} {cb:Nat} {ap:Option Addr} {cp:Nat} {ar:Option Addr} {cr:Nat} {az:Option Addr} {cs:Nat} (ca:CA G h C ab cb ap cp ar cr az cs) {x:Nat}
 (cx:∀k,bf G h ⟨x,k,none⟩=[Value.int .i64 C.w,.int .i64 C.h,.int .i64 C.ht,.slice ab C.bl.length cb,.slice ap C.po.length cp,.slice ar C.ro.length cr,.slice az C.st.length cs,.int .i64 C.un,.int .i64 C.ac,.int .i64 C.sp,.int .i64 C.tu,.int .i64 C.ho,.int .i64 C.qu,.int .i64 C.re,.int .i64 C.bu,.bool C.back][k]?)
 {i:Nat} {s:Cell × List Int} (hs:C.st[i]?=some s) (hi:i<1000) {KK:EK} (r:Rg) (g1:r 1 = .pointer (some ⟨x,0,none⟩)) (g4:r 4 = .int .i64 i) (g5:r 5 = .int .i64 0)
 (H1:s.1∉(C.st.take i).map Prod.fst->∀r':Rg,r' 1=r 1->r' 3=r 3->r' 4=r 4->KK (.exit 2) r' h)
 (H2:s.1∈(C.st.take i).map Prod.fst->∀r':Rg,r' 2 = .bool false->KK .ret r' h):du (B5 G) r h KK:=by
 have hil:i<C.st.length:=(ad_.1 hs).1;obtain ⟨b,o,a,c,e1,z0,z1,z2,z3⟩:=ca.stk hs
 refine dt (fun m r2 h3=>∃k:Nat,m=i-k/\k<=i/\r2 1=r 1/\r2 3=r 3/\r2 4=r 4/\r2 5 = .int .i64 k/\h3=h/\s.1∉(C.st.take k).map Prod.fst) ?_
  (m:=i) ⟨0,rfl,au_ _,rfl,rfl,rfl,by rw [g5];rfl,rfl,by simp⟩
 rintro m r2 h3 ⟨k,rfl,hk,k1,k3,k4,k5,rfl,hn⟩ X HX;rw [g1]at k1;rw [g4]at k4;unfold B5;simp only [bRpC,k4,k5];refine df (fun hlt=>?_) (fun hge=>?_)
 . have hlt':k<i:=by omega
   obtain ⟨t,ht⟩:∃x,C.st[k]?=some x:=⟨_,aa_ (by omega)⟩;obtain ⟨b',o',a',c',e1',y0,y1,y2,y3⟩:=ca.stk ht;subst e1;cases e1';have htk:C.st.take (k+1)=C.st.take k++[t]:=by rw [aL_,ht];rfl
   unfold Ar;simp (disch:=decide) only [bRpC,k1,k4,k5,cx,Vo (ac_ k) (show (k:Int)<C.st.length by omega),Vo (ac_ i) (show (i:Int)<C.st.length by omega),z0,z1,y0,y1,Bw];cases hb:(t.1==s.1)with
   |true=>
    try simp only [bRpC]
    refine H2 ?_ _ (by simp only [bRpC]);have:t.1=s.1:=by simpa using hb
    rw [<- this];exact List.mem_map_of_mem (f:=Prod.fst) (ab_ (i:=k) (by rw [List.getElem?_take,ak_ hlt',ht]))
   |false=>
    try simp only [bRpC]
    unfold Aq;simp (disch:=first|decide|omega) only [bRpC,k5];refine HX (i-(k+1)) _ _ (by omega) ⟨k+1,rfl,hlt',by simp (disch:=decide) only [bRpC,k1,g1],by simp (disch:=decide) only [bRpC,k3],by simp (disch:=decide) only [bRpC,k4,g4],by simp only [bRpC]<;>rfl,rfl,?_⟩;rw [htk,bQ_,ao_];rintro (q|q)
    . exact hn q
    . simp at q;rw [q]at hb;simp at hb
 . obtain rfl:k=i:=by omega
   exact H1 hn _ (by simp (disch:=decide) only [bRpC,k1,g1]) (by simp (disch:=decide) only [bRpC,k3]) (by simp (disch:=decide) only [bRpC,k4,g4])
theorem eoint:iu P_ 3 icC.n 8:=⟨by kernel_rfl,by kernel_rfl,by kernel_rfl⟩
theorem aM4 {G h:Hp} {v:Value} {L:List Int} (sv:Sees icC G h v L) {i:Nat} {y:Int} (hy:L[i]?=some y) (hi:i<100000) {KK:EK} (r:Rg) (g3:r 3=v) (g6:r 6 = .int .i64 i) (g7:r 7 = .int .i64 0)
 (H1:y∉L.take i->∀r':Rg,r' 3=r 3->r' 6=r 6->KK (.exit 6) r' h)
 (H2:y∈L.take i->∀r':Rg,r' 2 = .bool false->KK .ret r' h):du (Hf G) r h KK:=by
 have hil:i<L.length:=(ad_.1 hy).1;obtain ⟨sa,cap,rfl⟩:=sv.len;obtain ⟨b,o,e1,z0⟩:=Sees.int sv hy
 refine dt (fun m r2 h3=>∃k:Nat,m=i-k/\k<=i/\r2 3=r 3/\r2 6=r 6/\r2 7 = .int .i64 k/\h3=h/\y∉L.take k) ?_
  (m:=i) ⟨0,rfl,au_ _,rfl,rfl,by rw [g7];rfl,rfl,by simp⟩
 rintro m r2 h3 ⟨k,rfl,hk,k3,k6,k7,rfl,hn⟩ X HX;rw [g3]at k3;rw [g6]at k6;subst e1;unfold Hf;simp only [bRpC,k6,k7];refine df (fun hlt=>?_) (fun hge=>?_)
 . have hlt':k<i:=by omega
   obtain ⟨t,ht⟩:∃x,L[k]?=some x:=⟨_,aa_ (by omega)⟩;obtain ⟨b',o',e1',y0⟩:=Sees.int sv ht;cases e1';have htk:L.take (k+1)=L.take k++[t]:=by rw [aL_,ht];rfl
   unfold Ga;simp (disch:=decide) only [bRpC,k3,k6,k7,X4 (ac_ k) (show (k:Int)<L.length by omega),X4 (ac_ i) (show (i:Int)<L.length by omega),aW_,z0,y0];cases hb:(t==y)with
   |true=>
    try simp only [bRpC]
    refine H2 ?_ _ (by simp only [bRpC]);have:t=y:=by simpa using hb
    rw [<- this];exact ab_ (i:=k) (by rw [List.getElem?_take,ak_ hlt',ht])
   |false=>
    try simp only [bRpC]
    unfold Dc;simp (disch:=first|decide|omega) only [bRpC,k7];refine HX (i-(k+1)) _ _ (by omega) ⟨k+1,rfl,hlt',by simp (disch:=decide) only [bRpC,k3,g3],by simp (disch:=decide) only [bRpC,k6,g6],by simp only [bRpC]<;>rfl,rfl,?_⟩;rw [htk,ao_];rintro (q|q)
    . exact hn q
    . simp at q;rw [q]at hb;simp at hb
 . obtain rfl:k=i:=by omega
   exact H1 hn _ (by simp (disch:=decide) only [bRpC,k3,g3]) (by simp (disch:=decide) only [bRpC,k6,g6])
theorem ik {α:Type} {L:List α} {i:Nat} {x:α} (hx:L[i]?=some x):L.take (i+1)=L.take i++[x]:=by rw [aL_,hx];rfl
theorem Aj {α:Type} {L:List α} {i:Nat} {x:α} (hx:L[i]?=some x) (h1:(L.take i).Nodup) (h2:x∉L.take i):(L.take (i+1)).Nodup:=by rw [ik hx];exact a9_.2 ⟨h1,by simp,fun a ha b hb=>by simp at hb;subst hb;exact fun e=>h2 (e▸ha)⟩
theorem yg {α:Type} {L:List α} {i:Nat} {x:α} (hx:L[i]?=some x) (h2:x∈L.take i):¬L.Nodup:=by intro h;have:(L.take (i+1)).Nodup:=h.sublist (List.take_sublist _ _);rw [ik hx]at this;exact (a9_.1 this).2.2 x h2 x (by simp) rfl
theorem aM3 {G h:Hp} {v:Value} {L:List Int} (sv:Sees icC G h v L) (hL:L.length<=10000) (R:Bool->Prop) {h0:Hp} (h0l:h0.le h) (r:Rg) (g3:r 3=v)
 (H1:L.length<=512->(∀b∈L,cj b 1 1000000000=true)->L.Nodup->R true) (H2:L.length>512\/(∃b∈L,cj b 1 1000000000=false)\/¬L.Nodup->R false):
 Y3 G (retK P_ G [.tmp 2] fun u h'=>(∃b,u = .bool b/\R b)/\h0.le h') r h:=by
 obtain ⟨sa,cap,hve⟩:=sv.len;unfold Y3;simp only [bRpC,g3,hve];by_cases hlen:L.length<=512;rotate_left
 . have e:decide ((L.length:Int)>512)=true:=by rw [decide_eq_true_iff];omega
   simp only [bRpC,e];exact ⟨⟨_,rfl,H2 (.inl (by omega))⟩,h0l⟩
 have e:decide ((L.length:Int)>512)=false:=by rw [aR_];omega
 simp only [bRpC,e];unfold aO4
 refine dt (fun m r2 h3=>∃i:Nat,m=L.length-i/\i<=L.length/\r2 3=v/\r2 6 = .int .i64 i/\h3=h/\(∀b∈L.take i,cj b 1 1000000000=true)/\(L.take i).Nodup) ?_
  (m:=L.length) ⟨0,rfl,au_ _,by simp (disch:=decide) only [bRpC,g3,hve],by simp only [bRpC]<;>rfl,rfl,by simp,by simp⟩
 rintro m r2 h3 ⟨i,rfl,hi,k3,k6,rfl,hw,hnd⟩ X HX;unfold aO2;simp only [bRpC,k3,hve,k6];refine df (fun hlt=>?_) (fun hge=>?_);rotate_left
 . obtain rfl:i=L.length:=by omega
   rw [am_ (aj_ _)]at hw hnd;try simp (disch:=first|decide|omega) only [bRpC,Nat.reduceAdd,Nat.reduceMul]
   unfold aO3;simp only [bRpC];exact ⟨⟨_,rfl,H1 hlen hw hnd⟩,h0l⟩
 have hlt':i<L.length:=by omega
 obtain ⟨y,hy⟩:∃x,L[i]?=some x:=⟨_,aa_ hlt'⟩;rw [hve]at sv;obtain ⟨b,o,rfl,z0⟩:=Sees.int sv hy;unfold Pz;simp (disch:=decide) only [bRpC,k3,hve,k6,Vp (ac_ i) (show (i:Int)<L.length by omega),aW_,z0];refine (ix (n:=y) (a:=1) (b:=1000000000)).mono ?_;rintro _ _ ⟨rfl,rfl⟩;cases hb:cj y 1 1000000000 with
 |false=>
  try simp only [bRpC]
  exact ⟨⟨_,rfl,H2 (.inr (.inl ⟨y,ab_ hy,hb⟩))⟩,h0l⟩
 |true=>
  try simp only [bRpC]
  unfold Px;refine aM4 sv hy (by omega) _ (by simp (disch:=decide) only [bRpC,k3,hve]) (by simp (disch:=decide) only [bRpC,k6]) (by simp only [bRpC]) (fun hn r' j3 j6=>?_) (fun hm r' j2=>?_)
  . simp only [ky,if_true,ff,jj];unfold Py;have j6':r' 6 = .int .i64 i:=j6.trans (by simp (disch:=decide) only [bRpC,k6]);simp (disch:=first|decide|omega) only [bRpC,j6'];refine HX (L.length-(i+1)) _ _ (by omega) ⟨i+1,rfl,hlt',?_,by simp only [bRpC]<;>rfl,rfl,?_,Aj hy hnd hn⟩
    . simp (disch:=decide) only [bRpC,j3,k3]
    . rw [ik hy];intro c hc;rcases ao_.1 hc with hc|hc
      . exact hw c hc
      . simp at hc;rw [hc];exact hb
  . simp only [bRpC,j2];exact ⟨⟨_,rfl,H2 (.inr (.inr (yg hy hm)))⟩,h0l⟩
def bRpD:=jq bC (jq (jq (jq (jq @B1 @cf133) (jq @Le @ab8)) (jq (jq @V7 @fa26_2p) (jq @Yi @ab2))) (jq (jq (jq @Kw @Rw) (jq @ld24 @ld24p)) (jq (jq @Ak @yp) (jq @ld3p (jq @ln168p @ln24)))))
theorem aB4 {C:Conf} {L:List (Cell × List Int)} (h:∀s∈L,(s.2.length:Int)<=C.ht) (ht:C.ht<=8):(L.flatMap Prod.snd).length<=8*L.length:=by
 induction L with
 |nil=>simp
 |cons s L ih=>have h1:=h s (.head _);have h2:=ih fun t ht=>h t (.tail _ ht);rw [bv_,ae_,an_];omega
theorem at7 {G h:Hp} {v:Value} {C:Conf} (hv:CV G h v C) (ht:C.ht<=8) (hL:C.bl.length<=100000000000000) (hP:C.po.length<=100000000000000) (hR:C.ro.length<=100000000000000):
 bn P_ G 86 #[v] h (fun u h'=>(∃b,u = .bool b/\(b=true↔Zg C))/\h'=h):=by
 obtain ⟨ab,cb,ap,cp,ar,cr,az,cs,rfl,ca⟩:=hv;refine bn.assume fun d=>quietly (enter86 (by simp) ?_);unfold S86;simp only [bRpD];intro x hx gx;generalize e1:Hp.set h x _=h1;obtain ⟨l1,d1,b1⟩:=boxed e1 hx d gx
 refine dt (fun m r h3=>∃(i:Nat) (lp:Hp) (v3:Value),m=C.st.length-i/\i<=C.st.length/\i<=257/\r 1 = .pointer (some ⟨x,0,none⟩)/\r 3=v3/\r 4 = .int .i64 i/\
  (∀s∈C.st.take i,ve C s.1=true/\(s.2.length:Int)<=C.ht)/\((C.st.take i).map Prod.fst).Nodup/\Slc icC 3 lp v3 ((C.st.take i).flatMap Prod.snd)/\Sep [lp,h1] h3/\Dis G h3) ?_
  (m:=C.st.length) ⟨0,noHp,_,rfl,au_ _,au_ _,by simp (disch:=decide) only [bRpD],by simp (disch:=decide) only [bRpD]<;>rfl,by simp only [bRpD]<;>rfl,by simp,by simp,Slc.nil,Sep.one.none,d1⟩
 rintro m r h3 ⟨i,lp,v3,rfl,hi,hi2,g1,g3,g4,hok,hnd,o3,s3,d3⟩ X HX;have l3:h1.le h3:=s3.in 1 rfl;have cx:∀k,bf G h3 ⟨x,k,none⟩=_:=fun k=>bm (bj (l3 _ _ b1));have ca3:=ca.up (l1.trans l3) d3;have hfl:=aB4 (C:=C) (fun s hs=>(hok s hs).2) ht;rw [aN_,bN_ hi]at hfl;unfold ae2;simp only [bRpD,g1,g4,cx];refine df (fun hlt=>?_) (fun hge=>?_);rotate_left
 . obtain rfl:i=C.st.length:=by omega
   rw [am_ (aj_ _)]at hok hnd o3 hfl;try simp (disch:=first|decide|omega) only [bRpD,Nat.reduceAdd,Nat.reduceMul]
   refine aM3 (v:=v3) (o3.sees (by decide) s3.hd) (by omega) (fun b=>b=true↔Zg C) (l1.trans l3) _ (by simp (disch:=decide) only [bRpD,g3]) (fun h1 h2 h3=>?_) (fun hbad=>?_)
   . exact ⟨fun _=>⟨hi2,hok,hnd,h1,h2,h3⟩,fun _=>rfl⟩
   . refine ⟨fun e=>absurd e (by decide),fun B=>?_⟩;exfalso;rcases hbad with hb|⟨b,hb1,hb2⟩|hb
     . have:=B.most;omega
     . have:=B.nums b hb1;rw [hb2]at this;cases this
     . exact hb B.once
 have hlt':i<C.st.length:=by omega
 obtain ⟨s,hs⟩:∃x,C.st[i]?=some x:=⟨_,aa_ hlt'⟩;have hsm:s∈C.st:=ab_ hs;obtain ⟨b,o,a,c,rfl,z0,z1,z2,z3⟩:=ca3.stk hs;have no:∀{P:Prop},¬P->(false=true↔P):=fun h=>⟨fun e=>absurd e (by decide),fun p=>(h p).elim⟩;unfold Iw;by_cases h257:i<257;rotate_left
 . have e:decide ((i:Int)>256)=true:=by rw [decide_eq_true_iff];omega
   simp (disch:=decide) only [bRpD,g4,e];exact ⟨⟨_,rfl,no fun B=>by have:=B.few;omega⟩,l1.trans l3⟩
 have e:decide ((i:Int)>256)=false:=by rw [aR_];omega
 simp (disch:=decide) only [bRpD,g4,e,g1,cx,Vo (ac_ i) hlt,z0,z1,z2];refine (N0 (c:=s.1) ca3.cv hL hP hR).mono ?_;rintro _ _ ⟨rfl,rfl⟩;cases hst:ve C s.1 with
 |false=>
  try simp only [bRpD]
  exact ⟨⟨_,rfl,no fun B=>by have:=(B.each s hsm).1;rw [hst]at this;cases this⟩,l1.trans l3⟩
 |true=>
 try simp only [bRpD,g1,cx,Vo (ac_ i) hlt,z2]
 by_cases hlen:(s.2.length:Int)<=C.ht;rotate_left
 . have e:decide ((s.2.length:Int)>C.ht)=true:=by rw [decide_eq_true_iff];omega
   simp only [bRpD,e];exact ⟨⟨_,rfl,no fun B=>hlen (B.each s hsm).2⟩,l1.trans l3⟩
 have e:decide ((s.2.length:Int)>C.ht)=false:=by rw [aR_];omega
 simp only [bRpD,e];unfold Iv;refine aM5 ca3 cx hs (by omega) _ (by simp (disch:=decide) only [bRpD,g1]) (by simp (disch:=decide) only [bRpD,g4]) (by simp only [bRpD]) (fun hn r' j1 j3 j4=>?_) (fun hm r' j2=>?_)
 . simp only [ky,if_true,ff,jj];have j1':r' 1 = .pointer (some ⟨x,0,none⟩):=j1.trans (by simp (disch:=decide) only [bRpD,g1]);have j3':r' 3=v3:=j3.trans (by simp (disch:=decide) only [bRpD,g3]);have j4':r' 4 = .int .i64 i:=j4.trans (by simp (disch:=decide) only [bRpD,g4]);unfold Iu;simp only [bRpD,j1',j3',j4',cx,ix24 (ac_ i) hlt,z2];refine fh icC (by decide) Ht eoint (by decide) (by decide) s3 d3 o3 z3 (by omega) fun v' a' h' o' s' d'=>?_;unfold B6;simp (disch:=first|decide|omega) only [bRpD,j4'];refine HX (C.st.length-(i+1)) _ _ (by omega) ⟨i+1,a',v',rfl,hlt',by omega,by simp (disch:=decide) only [bRpD,j1'],by simp (disch:=decide) only [bRpD],by simp only [bRpD]<;>rfl,?_,?_,?_,s',d'⟩
   . rw [ik hs];intro t ht';rcases ao_.1 ht' with q|q
     . exact hok t q
     . simp at q;rw [q];exact ⟨hst,hlen⟩
   . rw [ik hs,bQ_];exact a9_.2 ⟨hnd,by simp,fun p hp q hq=>by simp at hq;subst hq;exact fun e=>hn (e▸hp)⟩
   . rw [ik hs,be_];simpa using o'
 . simp only [bRpD,j2];refine ⟨⟨_,rfl,no fun B=>?_⟩,l1.trans l3⟩;refine yg (L:=C.st.map Prod.fst) (i:=i) (x:=s.1) (by rw [aO_,hs];rfl) ?_ B.apart;rw [<- List.map_take];exact hm
def bRpE:=jq bC (jq (jq (jq (jq @kv (jq @B1 @cf22)) (jq (jq @cf40 @cf81) (jq @cf82 @cf83))) (jq (jq @cf84 (jq @cf85 @cf86)) (jq (jq @Ld @Sd) (jq @Sc @Sb)))) (jq (jq (jq @Lc (jq @ab3 @ld22)) (jq (jq @aa1 @ld23) (jq @ld23p @ld26))) (jq (jq @Ak (jq @ld28 @yp)) (jq (jq @ld30 @rz) (jq @ln22 @ln23)))))
structure al9 (C:Conf):Prop where
 nums:qj C=true
 po8:C.po.length<=8
 ro8:C.ro.length<=8
 bl256:C.bl.length<=256
 blk:∀c∈C.bl,inB C c=true/\C.bl.count c<=1/\C.po.count c=0
 prt:∀c∈C.po,inB C c=true/\C.po.count c<=1/\uj C c=false/\my C c=true
 fit:∀p∈C.ro,fu C p=true
 once:∀c∈C.ro.flatMap dj,(C.ro.flatMap dj).count c<=1
 bins:Zg C
theorem may_bl {G h:Hp} {C:Conf} {ab:Option Addr} {cb:Nat} {ap:Option Addr} {cp:Nat} {ar:Option Addr} {cr:Nat} {az:Option Addr} {cs:Nat} (ca:CA G h C ab cb ap cp ar cr az cs) {x:Nat}
 (cx:∀k,bf G h ⟨x,k,none⟩=[Value.int .i64 C.w,.int .i64 C.h,.int .i64 C.ht,.slice ab C.bl.length cb,.slice ap C.po.length cp,.slice ar C.ro.length cr,.slice az C.st.length cs,.int .i64 C.un,.int .i64 C.ac,.int .i64 C.sp,.int .i64 C.tu,.int .i64 C.ho,.int .i64 C.qu,.int .i64 C.re,.int .i64 C.bu,.bool C.back][k]?) {KK:EK} (hL:C.bl.length<=256) (hP:C.po.length<=8) (r:Rg) (g1:r 1 = .pointer (some ⟨x,0,none⟩)) (g3:r 3 = .int .i64 0)
 (H1:(∀c∈C.bl,inB C c=true/\C.bl.count c<=1/\C.po.count c=0)->∀r':Rg,r' 1=r 1->KK (.exit 0) r' h)
 (H2:(∃c∈C.bl,¬(inB C c=true/\C.bl.count c<=1/\C.po.count c=0))->∀r':Rg,r' 2 = .bool false->KK .ret r' h):du (S3 G) r h KK:=by
 refine dt (fun m r2 h3=>∃i:Nat,m=C.bl.length-i/\i<=C.bl.length/\r2 1=r 1/\r2 3 = .int .i64 i/\h3=h/\(∀c∈C.bl.take i,inB C c=true/\C.bl.count c<=1/\C.po.count c=0)) ?_
  (m:=C.bl.length) ⟨0,rfl,au_ _,rfl,by rw [g3];rfl,rfl,by simp⟩
 rintro m r2 h3 ⟨i,rfl,hi,k1,k3,rfl,hw⟩ X HX;rw [g1]at k1;unfold S3;simp only [bRpE,k1,cx,k3];refine df (fun hlt=>?_) (fun hge=>?_);rotate_left
 . obtain rfl:i=C.bl.length:=by omega
   rw [am_ (aj_ _)]at hw;exact H1 hw _ (by simp (disch:=decide) only [bRpE,k1,g1])
 have hlt':i<C.bl.length:=by omega
 obtain ⟨y,hy⟩:∃x,C.bl[i]?=some x:=⟨_,aa_ hlt'⟩;have hym:y∈C.bl:=ab_ hy;obtain ⟨b,o,rfl,z0,z1⟩:=Sees.cell ca.bl hy;unfold I2;simp (disch:=decide) only [bRpE,k1,cx,k3,tz (ac_ i) hlt,z0,z1];refine (Jl (c:=y) ca.cv).mono ?_;rintro _ _ ⟨rfl,rfl⟩;cases h1:inB C y with
 |false=>
  try simp only [bRpE]
  exact H2 ⟨y,hym,fun q=>by rw [h1]at q;exact absurd q.1 (by decide)⟩ _ (by simp only [bRpE])
 |true=>
 try simp only [bRpE,k1,cx,k3,tz (ac_ i) hlt,z0,z1]
 refine (qz (c:=y) ca.bl (by omega)).mono ?_;rintro _ _ ⟨rfl,rfl⟩;try simp only [bRpE]
 by_cases h2:C.bl.count y<=1;rotate_left
 . have e:decide ((C.bl.count y:Int)>1)=true:=by rw [decide_eq_true_iff];omega
   simp only [bRpE,e];exact H2 ⟨y,hym,fun q=>h2 q.2.1⟩ _ (by simp only [bRpE])
 have e:decide ((C.bl.count y:Int)>1)=false:=by rw [aR_];omega
 try simp only [bRpE,e,k1,cx,k3,tz (ac_ i) hlt,z0,z1]
 refine (qz (c:=y) ca.po (by omega)).mono ?_;rintro _ _ ⟨rfl,rfl⟩;try simp only [bRpE]
 by_cases h3:C.po.count y=0;rotate_left
 . have e:decide ((C.po.count y:Int)>0)=true:=by rw [decide_eq_true_iff];omega
   simp only [bRpE,e];exact H2 ⟨y,hym,fun q=>h3 q.2.2⟩ _ (by simp only [bRpE])
 have e:decide ((C.po.count y:Int)>0)=false:=by rw [aR_];omega
 simp only [bRpE,e];unfold I1;simp (disch:=first|decide|omega) only [bRpE,k3];refine HX (C.bl.length-(i+1)) _ _ (by omega) ⟨i+1,rfl,hlt',by simp (disch:=decide) only [bRpE,k1,g1],by simp only [bRpE]<;>rfl,rfl,?_⟩;rw [ik hy];intro c hc;rcases ao_.1 hc with q|q
 . exact hw c q
 . simp at q;rw [q];exact ⟨h1,h2,h3⟩
theorem may_po {G h:Hp} {C:Conf} {ab:Option Addr} {cb:Nat} {ap:Option Addr} {cp:Nat} {ar:Option Addr} {cr:Nat} {az:Option Addr} {cs:Nat} (ca:CA G h C ab cb ap cp ar cr az cs) {x:Nat}
 (cx:∀k,bf G h ⟨x,k,none⟩=[Value.int .i64 C.w,.int .i64 C.h,.int .i64 C.ht,.slice ab C.bl.length cb,.slice ap C.po.length cp,.slice ar C.ro.length cr,.slice az C.st.length cs,.int .i64 C.un,.int .i64 C.ac,.int .i64 C.sp,.int .i64 C.tu,.int .i64 C.ho,.int .i64 C.qu,.int .i64 C.re,.int .i64 C.bu,.bool C.back][k]?) {KK:EK} (hL:C.bl.length<=256) (hP:C.po.length<=8) (hR:C.ro.length<=8) (r:Rg) (g1:r 1 = .pointer (some ⟨x,0,none⟩)) (g4:r 4 = .int .i64 0)
 (H1:(∀c∈C.po,inB C c=true/\C.po.count c<=1/\uj C c=false/\my C c=true)->∀r':Rg,r' 1=r 1->KK (.exit 2) r' h)
 (H2:(∃c∈C.po,¬(inB C c=true/\C.po.count c<=1/\uj C c=false/\my C c=true))->∀r':Rg,r' 2 = .bool false->KK .ret r' h):du (S4 G) r h KK:=by
 refine dt (fun m r2 h3=>∃i:Nat,m=C.po.length-i/\i<=C.po.length/\r2 1=r 1/\r2 4 = .int .i64 i/\h3=h/\(∀c∈C.po.take i,inB C c=true/\C.po.count c<=1/\uj C c=false/\my C c=true)) ?_
  (m:=C.po.length) ⟨0,rfl,au_ _,rfl,by rw [g4];rfl,rfl,by simp⟩
 rintro m r2 h3 ⟨i,rfl,hi,k1,k4,rfl,hw⟩ X HX;rw [g1]at k1;unfold S4;simp only [bRpE,k1,cx,k4];refine df (fun hlt=>?_) (fun hge=>?_);rotate_left
 . obtain rfl:i=C.po.length:=by omega
   rw [am_ (aj_ _)]at hw;exact H1 hw _ (by simp (disch:=decide) only [bRpE,k1,g1])
 have hlt':i<C.po.length:=by omega
 obtain ⟨y,hy⟩:∃x,C.po[i]?=some x:=⟨_,aa_ hlt'⟩;have hym:y∈C.po:=ab_ hy;obtain ⟨b,o,rfl,z0,z1⟩:=Sees.cell ca.po hy;unfold I4;simp (disch:=decide) only [bRpE,k1,cx,k4,tz (ac_ i) hlt,z0,z1];refine (Jl (c:=y) ca.cv).mono ?_;rintro _ _ ⟨rfl,rfl⟩;cases h1:inB C y with
 |false=>
  try simp only [bRpE]
  exact H2 ⟨y,hym,fun q=>by rw [h1]at q;exact absurd q.1 (by decide)⟩ _ (by simp only [bRpE])
 |true=>
 try simp only [bRpE,k1,cx,k4,tz (ac_ i) hlt,z0,z1]
 refine (qz (c:=y) ca.po (by omega)).mono ?_;rintro _ _ ⟨rfl,rfl⟩;try simp only [bRpE]
 by_cases h2:C.po.count y<=1;rotate_left
 . have e:decide ((C.po.count y:Int)>1)=true:=by rw [decide_eq_true_iff];omega
   simp only [bRpE,e];exact H2 ⟨y,hym,fun q=>h2 q.2.1⟩ _ (by simp only [bRpE])
 have e:decide ((C.po.count y:Int)>1)=false:=by rw [aR_];omega
 try simp only [bRpE,e,k1,cx,k4,tz (ac_ i) hlt,z0,z1]
 refine (Kj (c:=y) ca.cv (by omega)).mono ?_;rintro _ _ ⟨rfl,rfl⟩;cases h3:uj C y with
 |true=>
  try simp only [bRpE]
  exact H2 ⟨y,hym,fun q=>by rw [h3]at q;exact absurd q.2.2.1 (by decide)⟩ _ (by simp only [bRpE])
 |false=>
 try simp only [bRpE,k1,cx,k4,tz (ac_ i) hlt,z0,z1]
 refine (Ex (c:=y) ca.cv (by omega)).mono ?_;rintro _ _ ⟨rfl,rfl⟩;cases h4:my C y with
 |false=>
  try simp only [bRpE]
  exact H2 ⟨y,hym,fun q=>by rw [h4]at q;exact absurd q.2.2.2 (by decide)⟩ _ (by simp only [bRpE])
 |true=>
 try simp only [bRpE]
 unfold I3;simp (disch:=first|decide|omega) only [bRpE,k4];refine HX (C.po.length-(i+1)) _ _ (by omega) ⟨i+1,rfl,hlt',by simp (disch:=decide) only [bRpE,k1,g1],by simp only [bRpE]<;>rfl,rfl,?_⟩;rw [ik hy];intro c hc;rcases ao_.1 hc with q|q
 . exact hw c q
 . simp at q;rw [q];exact ⟨h1,h2,h3,h4⟩
theorem eocell:iu P_ 28 dy.n 16:=⟨by kernel_rfl,by kernel_rfl,by kernel_rfl⟩
theorem K8 (L:List Pose):(L.flatMap dj).length=2*L.length:=by
 induction L with
 |nil=>rfl
 |cons p L ih=>rw [bv_,ae_,ih,an_];simp [dj];omega
theorem may_ro {G h0:Hp} {C:Conf} {ab:Option Addr} {cb:Nat} {ap:Option Addr} {cp:Nat} {ar:Option Addr} {cr:Nat} {az:Option Addr} {cs:Nat} (ca:CA G h0 C ab cb ap cp ar cr az cs) {x:Nat} (d0:Dis G h0)
 (bx:h0 x=some (.cells #[C.w,C.h,C.ht,.slice ab C.bl.length cb,.slice ap C.po.length cp,.slice ar C.ro.length cr,.slice az C.st.length cs,C.un,C.ac,C.sp,C.tu,C.ho,C.qu,C.re,C.bu,.bool C.back] 26 (0,0)))
 {KK:EK} (hL:C.bl.length<=256) (hR:C.ro.length<=8) (r:Rg) (g1:r 1 = .pointer (some ⟨x,0,none⟩)) (g5:r 5 = .slice none 0 0) (g6:r 6 = .int .i64 0)
 (H1:(∀p∈C.ro,fu C p=true)->∀(r':Rg) h' lp,r' 1=r 1->h0.le h'->Dis G h'->lp.le h'->Slc dy 28 lp (r' 5) (C.ro.flatMap dj)->KK (.exit 4) r' h')
 (H2:(∃p∈C.ro,fu C p=false)->∀(r':Rg) h',h0.le h'->r' 2 = .bool false->KK .ret r' h'):du (Zb G) r h0 KK:=by
 refine dt (fun m r2 h3=>∃(i:Nat) (lp:Hp),m=C.ro.length-i/\i<=C.ro.length/\r2 1=r 1/\r2 6 = .int .i64 i/\(∀p∈C.ro.take i,fu C p=true)/\Slc dy 28 lp (r2 5) ((C.ro.take i).flatMap dj)/\Sep [lp,h0] h3/\Dis G h3) ?_
  (m:=C.ro.length) ⟨0,noHp,rfl,au_ _,rfl,by rw [g6];rfl,by simp,by rw [g5];exact Slc.nil,Sep.one.none,d0⟩
 rintro m r2 h3 ⟨i,lp,rfl,hi,k1,k6,hw,o3,s3,d3⟩ X HX;rw [g1]at k1;have l3:h0.le h3:=s3.in 1 rfl;have cx:∀k,bf G h3 ⟨x,k,none⟩=_:=fun k=>bm (bj (l3 _ _ bx));have ca3:=ca.up l3 d3;unfold Zb;simp only [bRpE,k1,cx,k6];refine df (fun hlt=>?_) (fun hge=>?_);rotate_left
 . obtain rfl:i=C.ro.length:=by omega
   rw [am_ (aj_ _)]at hw o3;exact H1 hw _ _ lp (by simp (disch:=decide) only [bRpE,k1,g1]) l3 d3 s3.hd (by simp (disch:=decide) only [bRpE];exact o3)
 have hlt':i<C.ro.length:=by omega
 obtain ⟨y,hy⟩:∃x,C.ro[i]?=some x:=⟨_,aa_ hlt'⟩;have hym:y∈C.ro:=ab_ hy;obtain ⟨b,o,rfl,z0,z1,z2⟩:=Sees.pose ca3.ro hy;unfold Mb;simp (disch:=decide) only [bRpE,k1,cx,k6,Ib (ac_ i) hlt,z0,z1,z2];refine (vi (p:=y) ca3.cv (by omega)).mono ?_;rintro _ h3 ⟨rfl,rfl⟩;cases h1:fu C y with
 |false=>
  try simp only [bRpE]
  exact H2 ⟨y,hym,h1⟩ _ _ l3 (by simp only [bRpE])
 |true=>
 try simp only [bRpE]
 unfold L9;simp (disch:=decide) only [bRpE,k1,cx,k6,ix23 (ac_ i) hlt,z0,z1,z2];refine (ny (p:=y)).mono ?_;rintro _ _ ⟨b',rfl,hb,gb,rfl⟩;generalize e4:Hp.set h3 b' _=h4;obtain ⟨l4,d4,b4⟩:=boxed e4 hb d3 gb;have hlen:=K8 (C.ro.take i);rw [aN_]at hlen;have s4:Sep [lp,h0] h4:=s3.le l4;try simp (disch:=first|decide|omega) only [bRpE,Nat.reduceAdd,Nat.reduceMul]
 refine fh dy (by decide) un22 eocell (by decide) (by decide) (M:=dj y) s4 d4 o3 (Sees.row b4 rfl (aj_ _)) (by rw [hlen,show (dj y).length=2 from rfl];omega) fun v' a' h' o' s' d'=>?_;unfold Ma;simp (disch:=first|decide|omega) only [bRpE,k6];refine HX (C.ro.length-(i+1)) _ _ (by omega) ⟨i+1,a',rfl,hlt',by simp (disch:=decide) only [bRpE,k1,g1],by simp only [bRpE]<;>rfl,?_,?_,s',d'⟩
 . rw [ik hy];intro c hc;rcases ao_.1 hc with q|q
   . exact hw c q
   . simp at q;rw [q];exact h1
 . simp (disch:=decide) only [bRpE];rw [ik hy,be_];simpa using o'
theorem az2 {G h:Hp} {L:List Cell} {v:Value} (sv:Sees dy G h v L) (hL:L.length<=1000) {KK:EK} (r:Rg) (g5:r 5=v) (g7:r 7 = .int .i64 0)
 (H1:(∀c∈L,L.count c<=1)->∀r':Rg,r' 1=r 1->KK (.exit 6) r' h)
 (H2:(∃c∈L,¬L.count c<=1)->∀r':Rg,r' 2 = .bool false->KK .ret r' h):du (Zc G) r h KK:=by
 obtain ⟨sa,cap,rfl⟩:=sv.len
 refine dt (fun m r2 h3=>∃i:Nat,m=L.length-i/\i<=L.length/\r2 1=r 1/\r2 5=r 5/\r2 7 = .int .i64 i/\h3=h/\(∀c∈L.take i,L.count c<=1)) ?_
  (m:=L.length) ⟨0,rfl,au_ _,rfl,rfl,by rw [g7];rfl,rfl,by simp⟩
 rintro m r2 h3 ⟨i,rfl,hi,k1,k5,k7,rfl,hw⟩ X HX;rw [g5]at k5;unfold Zc;simp only [bRpE,k5,k7];refine df (fun hlt=>?_) (fun hge=>?_);rotate_left
 . obtain rfl:i=L.length:=by omega
   rw [am_ (aj_ _)]at hw;exact H1 hw _ (by simp (disch:=decide) only [bRpE,k1])
 have hlt':i<L.length:=by omega
 obtain ⟨y,hy⟩:∃x,L[i]?=some x:=⟨_,aa_ hlt'⟩;obtain ⟨b,o,rfl,z0,z1⟩:=Sees.cell sv hy;unfold Qs;simp (disch:=decide) only [bRpE,k5,k7,ix22 (ac_ i) hlt,z0,z1];refine (qz (c:=y) sv (by omega)).mono ?_;rintro _ _ ⟨rfl,rfl⟩;try simp only [bRpE]
 by_cases h2:L.count y<=1;rotate_left
 . have e:decide ((L.count y:Int)>1)=true:=by rw [decide_eq_true_iff];omega
   simp only [bRpE,e];exact H2 ⟨y,ab_ hy,h2⟩ _ (by simp only [bRpE])
 have e:decide ((L.count y:Int)>1)=false:=by rw [aR_];omega
 simp only [bRpE,e];unfold Qq;simp (disch:=first|decide|omega) only [bRpE,k7];refine HX (L.length-(i+1)) _ _ (by omega) ⟨i+1,rfl,hlt',by simp (disch:=decide) only [bRpE,k1],by simp (disch:=decide) only [bRpE,k5,g5],by simp only [bRpE]<;>rfl,rfl,?_⟩;rw [ik hy];intro c hc;rcases ao_.1 hc with q|q
 . exact hw c q
 . simp at q;rw [q];exact h2
theorem ao1 {G h:Hp} {v:Value} {C:Conf} (hv:CV G h v C):
 bn P_ G 38 #[v] h (fun u h'=>(∃b,u = .bool b/\(b=true↔al9 C))/\h'=h):=by
 obtain ⟨ab,cb,ap,cp,ar,cr,az,cs,rfl,ca⟩:=hv;refine bn.assume fun d=>quietly (enter38 (by simp) ?_);unfold S38;simp only [bRpE];intro x hx gx;generalize e1:Hp.set h x _=h1;obtain ⟨l1,d1,b1⟩:=boxed e1 hx d gx;have cx:∀k,bf G h1 ⟨x,k,none⟩=_:=fun k=>bm (bj b1);have ca1:=ca.up l1 d1;have no:∀{P:Prop},¬P->(false=true↔P):=fun h=>⟨fun e=>absurd e (by decide),fun p=>(h p).elim⟩;try simp (disch:=first|decide|omega) only [bRpE,Nat.reduceAdd,Nat.reduceMul,cx]
 refine (Ri ca1.cv).mono ?_;rintro _ _ ⟨rfl,rfl⟩;cases hn:qj C with
 |false=>
  try simp only [bRpE]
  exact ⟨⟨_,rfl,no fun M=>by have:=M.nums;rw [hn]at this;cases this⟩,l1⟩
 |true=>
 have hht:C.ht<=8:=by unfold qj cj at hn;simp only [ag_,aw_]at hn;exact hn.2.2.1.2
 try simp only [bRpE,cx]
 by_cases hP:C.po.length<=8;rotate_left
 . have e:decide ((C.po.length:Int)>8)=true:=by rw [decide_eq_true_iff];omega
   simp only [bRpE,e];exact ⟨⟨_,rfl,no fun M=>hP M.po8⟩,l1⟩
 have e:decide ((C.po.length:Int)>8)=false:=by rw [aR_];omega
 try simp only [bRpE,e,cx]
 by_cases hR:C.ro.length<=8;rotate_left
 . have e:decide ((C.ro.length:Int)>8)=true:=by rw [decide_eq_true_iff];omega
   simp only [bRpE,e];exact ⟨⟨_,rfl,no fun M=>hR M.ro8⟩,l1⟩
 have e:decide ((C.ro.length:Int)>8)=false:=by rw [aR_];omega
 try simp only [bRpE,e,cx]
 by_cases hL:C.bl.length<=256;rotate_left
 . have e:decide ((C.bl.length:Int)>256)=true:=by rw [decide_eq_true_iff];omega
   simp only [bRpE,e];exact ⟨⟨_,rfl,no fun M=>hL M.bl256⟩,l1⟩
 have e:decide ((C.bl.length:Int)>256)=false:=by rw [aR_];omega
 simp only [bRpE,e];unfold aS7;refine may_bl ca1 cx hL hP _ (by simp (disch:=decide) only [bRpE]) (by simp only [bRpE]) (fun hbl r' j1=>?_) (fun ⟨c,hc,hbad⟩ r' j2=>?_);rotate_left
 . simp only [bRpE,j2];exact ⟨⟨_,rfl,no fun M=>hbad (M.blk c hc)⟩,l1⟩
 simp only [ky,if_true,ff,jj];have j1':r' 1 = .pointer (some ⟨x,0,none⟩):=j1.trans (by simp (disch:=decide) only [bRpE]);unfold aS6;refine may_po ca1 cx hL hP hR _ (by simp (disch:=decide) only [bRpE,j1']) (by simp only [bRpE]) (fun hpo r'' j1=>?_) (fun ⟨c,hc,hbad⟩ r' j2=>?_);rotate_left
 . simp only [bRpE,j2];exact ⟨⟨_,rfl,no fun M=>hbad (M.prt c hc)⟩,l1⟩
 simp only [ky,if_true,ff,jj];have j1'':r'' 1 = .pointer (some ⟨x,0,none⟩):=j1.trans (by simp (disch:=decide) only [bRpE,j1']);unfold aS5;refine may_ro ca1 d1 b1 hL hR _ (by simp (disch:=decide) only [bRpE,j1'']) (by simp (disch:=decide) only [bRpE]) (by simp only [bRpE]) (fun hro r3 h3 lp j1 l3 d3 llp o3=>?_) (fun ⟨p,hp,hbad⟩ r3 h3 l3 j2=>?_);rotate_left
 . simp only [bRpE,j2];exact ⟨⟨_,rfl,no fun M=>by have:=M.fit p hp;rw [hbad]at this;cases this⟩,l1.trans l3⟩
 simp only [ky,if_true,ff,jj];have j31:r3 1 = .pointer (some ⟨x,0,none⟩):=j1.trans (by simp (disch:=decide) only [bRpE,j1'']);unfold aS4;refine az2 (o3.sees (by decide) llp) (by rw [K8];omega) _ (by simp (disch:=decide) only [bRpE]) (by simp only [bRpE]) (fun hon r4 j1=>?_) (fun ⟨c,hc,hbad⟩ r4 j2=>?_);rotate_left
 . simp only [bRpE,j2];exact ⟨⟨_,rfl,no fun M=>hbad (M.once c hc)⟩,l1.trans l3⟩
 simp only [ky,if_true,ff,jj];have j41:r4 1 = .pointer (some ⟨x,0,none⟩):=j1.trans (by simp (disch:=decide) only [bRpE,j31]);have cx3:∀k,bf G h3 ⟨x,k,none⟩=_:=fun k=>bm (bj (l3 _ _ b1));unfold aS3;simp only [bRpE,j41,cx3];refine (at7 (ca1.up l3 d3).cv hht (by omega) (by omega) (by omega)).mono ?_;rintro _ h3 ⟨⟨b,rfl,hb⟩,rfl⟩;try simp (disch:=first|decide|omega) only [bRpE,Nat.reduceAdd,Nat.reduceMul]
 exact ⟨⟨_,rfl,hb.trans ⟨fun B=>⟨hn,hP,hR,hL,hbl,hpo,hro,hon,B⟩,fun M=>M.bins⟩⟩,l1.trans l3⟩
section
variable (G:Hp) (K:EK) (r:Rg) (h:Hp)
def md25:Nat->Hint
 |_=>m0_
def Ho (G:Hp) (K:EK) (r:Rg) (h:Hp):Prop:=
 K .ret (u2 r 14 (r 5) 4 (r 5)) h
def S25:Prop:=
 o_ G (binOp .rem 3 (r 0) (r 1)) h fun g h=>o_ G (z2_ g (0:Int)) h fun j h=>
 cond j
 (o_ G (z1_ g (r 1)) h fun s h'=>
 Ho G K (upd (u10 r 4 (.int .i64 0) 6 (r 0) 7 (r 1) 8 g 5 g 9 g 10 j 11 g 12 (r 1) 13 s) 5 s) h')
 (Ho G K (u7 r 4 (.int .i64 0) 6 (r 0) 7 (r 1) 8 g 5 g 9 g 10 j) h)
theorem ad0:Ent 15 25 [.tmp 4] S25:=ent_ (m:=md25) (c:=(Tryz.f25.body.getD .skip)) (fun _ _ _ _=>by kernel_rfl) Tryz.func25 rfl rfl rfl
def md37:Nat->Hint
 |_=>m0_
def aS8 (G:Hp) (K:EK) (r:Rg) (h:Hp):Prop:=
 K .ret (u3 r 9 (r 4) 2 (r 4) 3 (.int .i64 0)) h
def S37:Prop:=
 o_ G (Instr.box 26 (r 0)) h fun g h=>o_ G (l_ 26 g) h fun j h=>
 c_ G 80 #[j] h fun s h=>
 y_ G (xEq .eql 68 (.tmp 0) (.const .nilFunc) s (.pointer none)) h fun u h=>
 (fun q=>cond u
 (K .ret (u2 q 2 (.pointer none) 3 (.int .i64 5)) h)
 (aS8 G K q h))
 (u8 r 1 g 2 (.pointer none) 3 (.int .i64 0) 5 j 6 s 4 s 7 s 8 u)
theorem enter37:Ent 10 37 [.tmp 2,.tmp 3] S37:=ent_ (m:=md37) (c:=(Tryz.f37.body.getD .skip)) (fun _ _ _ _=>by kernel_rfl) Tryz.func37 rfl rfl rfl
def md155:Nat->Hint
 |3=>mh false [0,1,3,0,0,16,48,112,248,511,1023,2047,4095] [n_,n_,m_,n_,n_,n_,n_,m_,n_,n_,n_,n_,.store] (fs 13) false
 |4=>mh false [0,1,3,0,0,16,48,112,248,511,1023,2047,4095] [n_,n_,m_,n_,n_,n_,n_,m_,n_,n_,n_,n_,.store] (fs 13) false
 |_=>m0_
def af9:Prop:=
 p_ (f_ 30 (r 5) 0) h fun g h'=>
 p_ (f_ 28 g 0) h' fun j h'=>
 w_ G h (l_ 3 j) h' fun s h'=>
 p_ (i_ 245 (.pointer (some ⟨0,0,none⟩)) (r 2)) h' fun u h'=>
 p_ (f_ 28 u 0) h' fun w h'=>
 w_ G h (l_ 3 w) h' fun z h=>
 p_ (z4_ (r 3) z) h fun C h=>
 p_ (z1_ s C) h fun D h=>
 p_ (f_ 30 (r 5) 0) h fun E h=>
 p_ (f_ 28 E 0) h fun F h=>
 y_ G (x_ 3 F D) h fun I h=>
 p_ (f_ 30 (r 5) 0) h fun I h'=>
 p_ (f_ 28 I 1) h' fun J h'=>
 w_ G h (l_ 3 J) h' fun L h'=>
 p_ (i_ 245 (.pointer (some ⟨0,0,none⟩)) (r 2)) h' fun M h'=>
 p_ (f_ 28 M 1) h' fun N h'=>
 w_ G h (l_ 3 N) h' fun O h=>
 p_ (z4_ (r 3) O) h fun P h=>
 p_ (z1_ L P) h fun Q h=>
 p_ (f_ 30 (r 5) 0) h fun U h=>
 p_ (f_ 28 U 1) h fun V h=>
 y_ G (x_ 3 V Q) h fun W h=>o_ G (l_ 30 (r 5)) h fun W h=>
 y_ G (x_ 30 (r 8) W) h fun Y h=>
 K .ret (u6 (u10 (u10 r 19 g 20 j 21 s 22 (r 3) 23 (r 2) 24 u 25 w 26 z 27 C 28 D) 29 E 30 F 31 I 32 J 33 L 34 (r 3) 35 (r 2) 36 M 37 N 38 O) 39 P 40 Q 41 U 42 V 43 W 9 (.bool true)) h
def S155:Prop:=
 o_ G (Instr.box 30 (r 1)) h fun g h=>o_ G (Instr.alloc 30 true (.tuple #[])) h fun j h=>
 c_ G 129 #[r 3,(.int .i64 0),(.int .i64 16)] h fun s h=>o_ G (Op.unary .not s) h fun u h=>g_ u false (fun K1=>K1 (r 2) h) h fun w h=>g_ u false (c_ G 129 #[w,(.int .i64 0),(.int .i64 3)] h) h fun z h=>g_ u false (o_ G (Op.unary .not z) h) h fun C h=>
 y_ G (dh u (.bool true) C) h fun D h=>
 cond D
 (o_ G (Instr.build 30 #[]) h fun E h'=>
 y_ G (x_ 30 j E) h' fun F h'=>
 K .ret (u3 (u10 r 5 g 8 j 9 (.bool false) 10 (r 3) 11 s 12 u 13 u 14 w 15 z 16 C) 17 D 18 E 9 (.bool false)) h')
 (af9 G K (upd (u10 r 5 g 8 j 9 (.bool false) 10 (r 3) 11 s 12 u 13 u 14 w 15 z 16 C) 17 D) h)
theorem aG4:Ent 44 155 [.cell 8 30,.tmp 9] S155:=ent_ (m:=md155) (c:=(Tryz.f155.body.getD .skip)) (fun _ _ _ _=>by kernel_rfl) Tryz.func155 rfl rfl rfl
def md89:Nat->Hint
 |_=>m0_
def Sw:Prop:=
 o_ G (f_ 30 (r 3) 0) h fun g h=>o_ G (l_ 28 g) h fun j h=>o_ G (f_ 30 (r 3) 0) h fun s h=>o_ G (f_ 28 s 0) h fun u h=>o_ G (l_ 3 u) h fun w h=>o_ G (f_ 28 (r 5) 0) h fun z h=>o_ G (l_ 3 z) h fun C h=>o_ G (z1_ w C) h fun D h=>o_ G (f_ 30 (r 3) 0) h fun E h=>o_ G (f_ 28 E 1) h fun F h=>o_ G (l_ 3 F) h fun I h=>o_ G (f_ 28 (r 5) 1) h fun J h=>o_ G (l_ 3 J) h fun L h=>o_ G (z1_ I L) h fun M h=>o_ G (Instr.build 28 #[(0,D),(1,M)]) h fun N h=>o_ G (Instr.buildSlice 22 2 #[(0,j),(1,N)]) h fun O h=>
 K .ret (u7 (u10 r 12 g 13 j 14 s 15 u 16 w 17 z 18 C 19 D 20 E 21 F) 22 I 23 J 24 L 25 M 26 N 27 O 4 O) h
def S89:Prop:=
 o_ G (Instr.box 30 (r 1)) h fun g h=>o_ G (i_ 245 (.pointer (some ⟨0,0,none⟩)) (.int .i64 1)) h fun j h=>o_ G (l_ 28 j) h fun s h=>o_ G (Instr.alloc 28 true (.tuple #[])) h fun u h=>
 y_ G (x_ 28 u s) h fun w h=>o_ G (f_ 30 g 1) h fun w h=>o_ G (l_ 4 w) h fun z h=>
 cond z
 (o_ G (i_ 245 (.pointer (some ⟨0,0,none⟩)) (.int .i64 2)) h fun C h'=>o_ G (l_ 28 C) h' fun D h'=>
 y_ G (x_ 28 u D) h' fun E h'=>
 Sw G K (u9 r 3 g 4 (.slice none 0 0) 6 j 7 s 5 u 8 w 9 z 10 C 11 D) h')
 (Sw G K (u7 r 3 g 4 (.slice none 0 0) 6 j 7 s 5 u 8 w 9 z) h)
theorem enter89:Ent 28 89 [.tmp 4] S89:=ent_ (m:=md89) (c:=(Tryz.f89.body.getD .skip)) (fun _ _ _ _=>by kernel_rfl) Tryz.func89 rfl rfl rfl
def md61:Nat->Hint
 |_=>m0_
def S61:Prop:=
 o_ G (Instr.box 30 (r 1)) h fun g h=>o_ G (l_ 30 g) h fun j h=>
 c_ G 89 #[r 0,j] h fun s h=>o_ G (i_ 22 s (.int .i64 0)) h fun u h=>o_ G (l_ 28 u) h fun w h=>
 c_ G 62 #[r 0,w] h fun z h=>g_ z true (fun K1=>K1 (r 0) h) h fun C h=>g_ z true (fun K1=>K1 s h) h fun D h=>g_ z true (o_ G (i_ 22 D (.int .i64 1)) h) h fun E h=>g_ z true (o_ G (l_ 28 E) h) h fun F h=>g_ z true (c_ G 62 #[C,F] h) h fun I h=>
 y_ G (dh z I (.bool false)) h fun J h=>
 K .ret (u9 (u10 r 3 g 4 (.bool false) 6 (r 0) 7 j 8 s 5 s 9 (r 0) 10 s 11 u 12 w) 13 z 14 z 15 C 16 D 17 E 18 F 19 I 20 J 4 J) h
theorem enter61:Ent 21 61 [.tmp 4] S61:=ent_ (m:=md61) (c:=(Tryz.f61.body.getD .skip)) (fun _ _ _ _=>by kernel_rfl) Tryz.func61 rfl rfl rfl
def md149:Nat->Hint
 |_=>m0_
def S149:Prop:=
 o_ G (Instr.box 68 (r 0)) h fun g h=>o_ G (Instr.box 30 (r 1)) h fun j h=>
 K .ret (u5 r 2 g 3 j 4 .nilFunc 5 (.func (.func 165) #[] #[g,j]) 4 (.func (.func 165) #[] #[g,j])) h
theorem aG9:Ent 6 149 [.tmp 4] S149:=ent_ (m:=md149) (c:=(Tryz.f149.body.getD .skip)) (fun _ _ _ _=>by kernel_rfl) Tryz.func149 rfl rfl rfl
def md78:Nat->Hint
 |_=>m0_
def S78:Prop:=
 o_ G (Instr.box 48 (r 1)) h fun g h=>o_ G (l_ 48 g) h fun j h=>
 c_ G 127 #[r 0,j] h fun s h=>o_ G (Instr.extract s 0) h fun u h=>o_ G (Instr.extract s 1) h fun w h=>
 K .ret (u2 (u10 r 3 g 4 (.bool false) 8 (r 0) 9 j 10 s 7 s 11 u 12 w 5 u 6 w) 13 w 4 w) h
theorem enter78:Ent 14 78 [.tmp 4] S78:=ent_ (m:=md78) (c:=(Tryz.f78.body.getD .skip)) (fun _ _ _ _=>by kernel_rfl) Tryz.func78 rfl rfl rfl
def md62:Nat->Hint
 |_=>m0_
def S62:Prop:=
 o_ G (Instr.box 28 (r 1)) h fun g h=>o_ G (l_ 28 g) h fun j h=>
 c_ G 88 #[r 0,j] h fun s h=>o_ G (z5_ s (0:Int)) h fun u h=>g_ u true (fun K1=>K1 (r 0) h) h fun w h=>g_ u true (opH P_ G (xNil w) h) h fun z h=>g_ u true (o_ G (f_ 215 z 2) h) h fun C h=>g_ u true (o_ G (l_ 168 C) h) h fun D h=>g_ u true (fun K1=>K1 s h) h fun E h=>g_ u true (o_ G (i_ 168 D E) h) h fun F h=>g_ u true (o_ G (l_ 3 F) h) h fun I h=>g_ u true (opH P_ G (xEq .neq 3 (.tmp 0) (.const .nilFunc) I (.int .i64 (-1))) h) h fun J h=>
 y_ G (dh u J (.bool false)) h fun L h=>
 K .ret (u9 (u10 r 3 g 4 (.bool false) 6 (r 0) 7 j 8 s 5 s 9 s 10 u 11 u 12 w) 13 z 14 C 15 D 16 E 17 F 18 I 19 J 20 L 4 L) h
theorem enter62:Ent 21 62 [.tmp 4] S62:=ent_ (m:=md62) (c:=(Tryz.f62.body.getD .skip)) (fun _ _ _ _=>by kernel_rfl) Tryz.func62 rfl rfl rfl
def md158:Nat->Hint
 |_=>m0_
def S158:Prop:=
 o_ G (Instr.box 28 (r 1)) h fun g h=>o_ G (l_ 28 g) h fun j h=>
 c_ G 88 #[r 0,j] h fun s h=>o_ G (z5_ s (0:Int)) h fun u h=>g_ u true (fun K1=>K1 (r 0) h) h fun w h=>g_ u true (opH P_ G (xNil w) h) h fun z h=>g_ u true (o_ G (f_ 215 z 2) h) h fun C h=>g_ u true (o_ G (l_ 168 C) h) h fun D h=>g_ u true (fun K1=>K1 s h) h fun E h=>g_ u true (o_ G (i_ 168 D E) h) h fun F h=>g_ u true (o_ G (l_ 3 F) h) h fun I h=>g_ u true (opH P_ G (xEq .eql 3 (.tmp 0) (.const .nilFunc) I (.int .i64 0)) h) h fun J h=>
 y_ G (dh u J (.bool false)) h fun L h=>
 K .ret (u9 (u10 r 3 g 4 (.bool false) 6 (r 0) 7 j 8 s 5 s 9 s 10 u 11 u 12 w) 13 z 14 C 15 D 16 E 17 F 18 I 19 J 20 L 4 L) h
theorem aG1:Ent 21 158 [.tmp 4] S158:=ent_ (m:=md158) (c:=(Tryz.f158.body.getD .skip)) (fun _ _ _ _=>by kernel_rfl) Tryz.func158 rfl rfl rfl
def md88:Nat->Hint
 |1=>⟨false,[0,1,3,7,15,7,39,103,231,487,1023,2047,4095,8191,16383,32767,16383,81919,212991,475135,999423,2097151,4194303,8388607],[.pureN,.pureM,.pureN,.pureN,.pureM,.pureN,.pureN,.pureN,.pureM,.pureN,.eff,.pureN,.pureN,.pureN,.pureN,.pureM,.pureN,.pureN,.pureN,.pureM,.pureN,.eff,.pureN,.pureN],[.pureN,.pureM,.pureN,.pureN,.pureM,.pureN,.pureN,.pureN,.pureM,.pureN,.eff,.pureN,.pureN,.pureN,.pureN,.late,.pureN,.pureN,.pureN,.late,.pureN,.eff,.pureN,.pureN],(fs 24),false⟩
 |3=>mh false [0,1,0,4,12,28,63,0,128,511,1023] [n_,m_,n_,n_,n_,m_,n_,n_,m_,n_,n_] (fs 11) false
 |_=>m0_
def aO1:Prop:=
 p_ (f_ 28 (r 3) 1) h fun g h'=>
 w_ G h (l_ 3 g) h' fun j h'=>
 dl P_ noHp noHp (xNil (r 0)) h' fun s h'=>
 p_ (f_ 215 s 0) h' fun u h'=>
 w_ G h (l_ 3 u) h' fun w h'=>
 p_ (z4_ j w) h' fun z h'=>
 p_ (f_ 28 (r 3) 0) h' fun C h'=>
 w_ G h (l_ 3 C) h' fun D h=>
 p_ (z1_ z D) h fun E h=>
 K .ret (upd (u10 r 29 g 30 j 31 (r 0) 32 s 33 u 34 w 35 z 36 C 37 D 38 E) 4 E) h
def S88:Prop:=
 o_ G (Instr.box 28 (r 1)) h fun g h=>
 dl P_ G h (xEq .eql 68 (.tmp 0) (.const .nilFunc) (r 0) (.pointer none)) h fun j h'=>g_ j false (p_ (f_ 28 g 0) h') h' fun s h'=>g_ j false (w_ G h (l_ 3 s) h') h' fun u h'=>g_ j false (fun K1=>K1 (r 0) h') h' fun w h'=>g_ j false (dl P_ noHp noHp (xNil w) h') h' fun z h'=>g_ j false (p_ (f_ 215 z 0) h') h' fun C h'=>g_ j false (w_ G h (l_ 3 C) h') h' fun D h=>g_ j false (p_ (z3_ D (1:Int)) h) h fun E h=>g_ j false (c_ G 129 #[u,(.int .i64 0),E] h) h fun F h=>g_ j false (p_ (Op.unary .not F) h) h fun I h=>
 dl P_ noHp noHp (dh j (.bool true) I) h fun J h=>g_ J false (p_ (f_ 28 g 1) h) h fun L h=>g_ J false (w_ G h (l_ 3 L) h) h fun M h=>g_ J false (fun K1=>K1 (r 0) h) h fun N h=>g_ J false (dl P_ noHp noHp (xNil N) h) h fun O h=>g_ J false (p_ (f_ 215 O 1) h) h fun P h=>g_ J false (w_ G h (l_ 3 P) h) h fun Q h=>g_ J false (p_ (z3_ Q (1:Int)) h) h fun U h=>g_ J false (c_ G 129 #[M,(.int .i64 0),U] h) h fun V h=>g_ J false (p_ (Op.unary .not V) h) h fun W h=>
 dl P_ noHp noHp (dh J (.bool true) W) h fun Y h=>
 (fun q=>cond Y
 (K .ret (upd q 4 (.int .i64 (-1))) h)
 (aO1 G K q h))
 (u6 (u10 (u10 r 3 g 4 (.int .i64 0) 5 (r 0) 6 j 7 j 8 s 9 u 10 w 11 z 12 C) 13 D 14 E 15 F 16 I 17 J 18 J 19 L 20 M 21 N 22 O) 23 P 24 Q 25 U 26 V 27 W 28 Y)
theorem enter88:Ent 39 88 [.tmp 4] S88:=ent_ (m:=md88) (c:=(Tryz.f88.body.getD .skip)) (fun _ _ _ _=>by kernel_rfl) Tryz.func88 rfl rfl rfl
def md80:Nat->Hint
 |_=>m0_
def aO8 (G:Hp) (K:EK) (r:Rg) (h:Hp):Prop:=
 K .ret (u2 r 68 (r 5) 2 (r 5)) h
def aO9:Prop:=
 o_ G (l_ 26 (r 1)) h fun g h=>
 c_ G 130 #[g] h fun j h=>o_ G (Instr.extract j 0) h fun s h=>o_ G (Instr.extract j 1) h fun u h=>o_ G (Op.unary .not u) h fun w h=>g_ w false (fun K1=>K1 s h) h fun z h=>g_ w false (o_ G (f_ 26 (r 1) 5) h) h fun C h=>g_ w false (o_ G (l_ 23 C) h) h fun D h=>g_ w false (c_ G 131 #[z,D] h) h fun E h=>g_ w false (o_ G (Op.unary .not E) h) h fun F h=>
 y_ G (dh w (.bool true) F) h fun I h=>g_ I false (fun K1=>K1 s h) h fun J h=>g_ I false (o_ G (f_ 26 (r 1) 6) h) h fun L h=>g_ I false (o_ G (l_ 24 L) h) h fun M h=>g_ I false (o_ G (f_ 26 (r 1) 2) h) h fun N h=>g_ I false (o_ G (l_ 3 N) h) h fun O h=>g_ I false (c_ G 132 #[J,M,O] h) h fun P h=>g_ I false (o_ G (Op.unary .not P) h) h fun Q h=>
 y_ G (dh I (.bool true) Q) h fun U h=>
 (fun q=>cond U
 (K .ret (upd q 2 (.pointer none)) h)
 (aO8 G K q h))
 (u5 (u10 (u10 r 46 g 47 j 45 j 48 s 49 u 5 s 6 u 50 u 51 w 52 w) 53 z 54 C 55 D 56 E 57 F 58 I 59 I 60 J 61 L 62 M) 63 N 64 O 65 P 66 Q 67 U)
def aP0:Prop:=
 o_ G (f_ 26 (r 1) 2) h fun g h=>o_ G (l_ 3 g) h fun j h=>
 c_ G 129 #[j,(.int .i64 1),(.int .i64 8)] h fun s h=>o_ G (Op.unary .not s) h fun u h=>g_ u false (o_ G (f_ 26 (r 1) 12) h) h fun w h=>g_ u false (o_ G (l_ 3 w) h) h fun z h=>g_ u false (c_ G 129 #[z,(.int .i64 1),(.int .i64 16)] h) h fun C h=>g_ u false (o_ G (Op.unary .not C) h) h fun D h=>
 y_ G (dh u (.bool true) D) h fun E h=>g_ E false (o_ G (f_ 26 (r 1) 14) h) h fun F h=>g_ E false (o_ G (l_ 3 F) h) h fun I h=>g_ E false (c_ G 129 #[I,(.int .i64 1),(.int .i64 1048576)] h) h fun J h=>g_ E false (o_ G (Op.unary .not J) h) h fun L h=>
 y_ G (dh E (.bool true) L) h fun M h=>
 (fun q=>cond M
 (K .ret (upd q 2 (.pointer none)) h)
 (aO9 G K q h))
 (u6 (u10 r 29 g 30 j 31 s 32 u 33 u 34 w 35 z 36 C 37 D 38 E) 39 E 40 F 41 I 42 J 43 L 44 M)
def P4:Prop:=
 o_ G (z1_ (r 21) (1:Int)) h fun g h=>
 K .normal (u2 r 28 g 21 g) h
def P5:Prop:=
 o_ G (i_ 168 (r 19) (r 21)) h fun g h=>o_ G (l_ 3 g) h fun j h=>
 c_ G 129 #[j,(.int .i64 1),(.int .i64 1000)] h fun s h=>o_ G (Op.unary .not s) h fun u h=>
 (fun q=>cond u
 (K .ret (upd q 2 (.pointer none)) h)
 (P4 G K q h))
 (u6 r 23 g 24 j 4 j 25 j 26 s 27 u)
def aO7 (r:Rg) (h:Hp) (K:EK):Prop:=
 o_ G (z2_ (r 21) (r 20)) h fun g h=>
 cond g
 (P5 G K (upd r 22 g) h)
 (K (.exit 0) (upd r 22 g) h)
def S80:Prop:=
 o_ G (Instr.box 26 (r 0)) h fun g h=>o_ G (f_ 26 g 7) h fun j h=>o_ G (l_ 3 j) h fun s h=>o_ G (f_ 26 g 8) h fun u h=>o_ G (l_ 3 u) h fun w h=>o_ G (f_ 26 g 9) h fun z h=>o_ G (l_ 3 z) h fun C h=>o_ G (f_ 26 g 10) h fun D h=>o_ G (l_ 3 D) h fun E h=>o_ G (f_ 26 g 11) h fun F h=>o_ G (l_ 3 F) h fun I h=>o_ G (f_ 26 g 13) h fun J h=>o_ G (l_ 3 J) h fun L h=>o_ G (Instr.buildSlice 168 6 #[(0,s),(1,w),(2,C),(3,E),(4,I),(5,L)]) h fun M h=>o_ G (k_ 168 M) h fun N h=>
 du (aO7 G) (u7 (u10 r 1 g 2 (.pointer none) 7 j 8 s 9 u 10 w 11 z 12 C 13 D 14 E) 15 F 16 I 17 J 18 L 19 M 20 N 21 (.int .i64 0)) h (dc 0 (di (aP0 G K) K))
theorem enter80:Ent 69 80 [.tmp 2] S80:=ent_ (m:=md80) (c:=(Tryz.f80.body.getD .skip)) (fun _ _ _ _=>by kernel_rfl) Tryz.func80 rfl rfl rfl
def md129:Nat->Hint
 |_=>m0_
def S129:Prop:=
 o_ G (z5_ (r 0) (r 1)) h fun g h=>g_ g true (fun K1=>K1 (r 0) h) h fun j h=>g_ g true (fun K1=>K1 (r 2) h) h fun s h=>g_ g true (o_ G (z7_ j s) h) h fun u h=>
 y_ G (dh g u (.bool false)) h fun w h=>
 K .ret (u10 r 6 (.bool false) 7 (r 0) 8 (r 1) 9 g 10 g 11 j 12 s 13 u 14 w 6 w) h
theorem aI6:Ent 15 129 [.tmp 6] S129:=ent_ (m:=md129) (c:=(Tryz.f129.body.getD .skip)) (fun _ _ _ _=>by kernel_rfl) Tryz.func129 rfl rfl rfl
def md165:Nat->Hint
 |_=>m0_
def S9:Prop:=
 o_ G (l_ 30 (r 2)) h fun g h=>o_ G (f_ 30 (r 2) 0) h fun j h=>o_ G (l_ 28 j) h fun s h=>o_ G (f_ 30 (r 2) 1) h fun u h=>o_ G (l_ 4 u) h fun w h=>o_ G (Op.unary .not w) h fun z h=>o_ G (Instr.build 30 #[(0,s),(1,z)]) h fun C h=>o_ G (Instr.build 48 #[(0,(.int .i64 2)),(3,g),(4,C)]) h fun D h=>o_ G (Instr.alloc 48 true (.tuple #[])) h fun E h=>
 y_ G (x_ 48 E D) h fun F h=>o_ G (l_ 68 (r 1)) h fun F h=>o_ G (l_ 48 E) h fun I h=>
 c_ G 78 #[F,I] h fun J h=>
 cond J
 (o_ G (l_ 178 (r 3)) h fun L h'=>o_ G (l_ 48 E) h' fun M h'=>
 y_ G (jh L #[M]) h' fun N h'=>
 K .normal (u5 (u10 r 18 g 19 j 20 s 21 u 22 w 23 z 24 C 25 D 5 E 26 F) 27 I 28 J 29 L 30 M 31 N) h')
 (K .normal (u2 (u10 r 18 g 19 j 20 s 21 u 22 w 23 z 24 C 25 D 5 E 26 F) 27 I 28 J) h)
def Tc (r:Rg) (h:Hp) (K:EK):Prop:=
 o_ G (Instr.alloc 48 true (.tuple #[])) h fun g h=>
 y_ G (x_ 48 g (r 13)) h fun j h=>
 K .normal (upd r 4 g) h
def Ta (r:Rg) (h:Hp) (K:EK):Prop:=
 o_ G (l_ 178 (r 3)) h fun g h=>o_ G (l_ 48 (r 4)) h fun j h=>
 y_ G (jh g #[j]) h fun s h=>o_ G (Op.unary .not s) h fun u h=>
 cond u
 (K .ret (u4 r 14 g 15 j 16 s 17 u) h)
 (K .normal (u4 r 14 g 15 j 16 s 17 u) h)
def af6:Prop:=
 o_ G (l_ 68 (r 1)) h fun g h=>o_ G (l_ 30 (r 2)) h fun j h=>
 c_ G 166 #[g,j] h fun s h=>
 Nu P_ G 1 (Tc G) (Ta G) (setR 32 #[13]) s (u3 r 10 g 11 j 12 s) h (dc 0 (di (S9 G K) K))
def S165:Prop:=
 o_ G (Instr.box 178 (r 0)) h fun g h=>o_ G (l_ 68 (r 1)) h fun j h=>o_ G (l_ 30 (r 2)) h fun s h=>
 c_ G 61 #[j,s] h fun u h=>o_ G (Op.unary .not u) h fun w h=>
 cond w
 (K .ret (u5 r 3 g 6 j 7 s 8 u 9 w) h)
 (af6 G K (u5 r 3 g 6 j 7 s 8 u 9 w) h)
theorem aF9:Ent 32 165 [] S165:=ent_ (m:=md165) (c:=(Tryz.f165.body.getD .skip)) (fun _ _ _ _=>by kernel_rfl) Tryz.func165 rfl rfl rfl
def md166:Nat->Hint
 |_=>m0_
def S166:Prop:=
 o_ G (Instr.box 68 (r 0)) h fun g h=>o_ G (Instr.box 30 (r 1)) h fun j h=>
 K .ret (u5 r 2 g 3 j 4 .nilFunc 5 (.func (.func 182) #[] #[g,j]) 4 (.func (.func 182) #[] #[g,j])) h
theorem aF8:Ent 6 166 [.tmp 4] S166:=ent_ (m:=md166) (c:=(Tryz.f166.body.getD .skip)) (fun _ _ _ _=>by kernel_rfl) Tryz.func166 rfl rfl rfl
def md127:Nat->Hint
 |17=>mh false [0,0,2,6,14,30,62,30,254,510,31,2047] [n_,n_,m_,n_,n_,n_,m_,m_,m_,n_,n_,n_] (fs 12) false
 |26=>mh false [0,0,2,0,8,24,0,64,192,448,1016,2046,1,8191] [n_,n_,m_,n_,n_,m_,n_,n_,m_,n_,n_,m_,n_,n_] (fs 14) false
 |29=>mh false [0,0,2,7,0,16,0,64,240,15,1023] [n_,n_,m_,e_,n_,m_,n_,m_,m_,n_,n_] (fs 3++[true]++fs 7) true
 |_=>m0_
def C1 (G:Hp) (K:EK) (r:Rg) (h:Hp):Prop:=
 K .ret (u2 r 4 (.slice none 0 0) 5 (.bool false)) h
def Tu:Prop:=
 p_ (f_ 48 (r 3) 2) h fun g h'=>
 w_ G h (l_ 3 g) h' fun j h'=>
 p_ (z5_ j (1:Int)) h' fun s h'=>g_ s true (p_ (f_ 48 (r 3) 4) h') h' fun u h'=>g_ s true (w_ G h (l_ 30 u) h') h' fun w h'=>g_ s true (w_ G h (l_ 30 (r 7)) h') h' fun z h'=>g_ s true (dl P_ G h (xEq .eql 30 (.tmp 0) (.tmp 0) w z) h') h' fun C h=>
 dl P_ noHp noHp (dh s C (.bool false)) h fun D h=>
 K .ret (u2 (u10 r 68 (r 6) 69 g 70 j 71 s 72 s 73 u 74 w 75 z 76 C 77 D) 4 (r 6) 5 D) h
def M9:Prop:=
 o_ G (z1_ (r 8) (1:Int)) h fun g h=>
 K .normal (u3 r 42 (r 8) 43 g 8 g) h
def M8:Prop:=
 o_ G (l_ 30 (r 9)) h fun g h=>
 c_ G 89 #[r 0,g] h fun j h=>o_ G (Builtin.append_ #[22,22] 22 #[r 6,j]) h fun s h=>o_ G (l_ 30 (r 9)) h fun u h=>
 y_ G (x_ 30 (r 7) u) h fun w h=>
 M9 G K (u7 r 62 (r 6) 63 (r 0) 64 g 65 j 66 s 6 s 67 u) h
def Na:Prop:=
 o_ G (f_ 48 (r 3) 3) h fun g h=>o_ G (l_ 30 g) h fun j h=>o_ G (f_ 48 (r 3) 1) h fun s h=>o_ G (l_ 3 s) h fun u h=>
 c_ G 155 #[r 0,j,u,r 8] h fun w h=>o_ G (Instr.extract w 0) h fun z h=>o_ G (Instr.extract w 1) h fun C h=>o_ G (Instr.alloc 30 true (.tuple #[])) h fun D h=>
 y_ G (x_ 30 D z) h fun E h=>o_ G (Op.unary .not C) h fun E h=>g_ E false (fun K1=>K1 (r 0) h) h fun F h=>g_ E false (o_ G (l_ 30 D) h) h fun I h=>g_ E false (c_ G 61 #[F,I] h) h fun J h=>g_ E false (o_ G (Op.unary .not J) h) h fun L h=>
 y_ G (dh E (.bool true) L) h fun M h=>
 (fun q=>cond M
 (K .ret (u2 q 4 (.slice none 0 0) 5 (.bool false)) h)
 (M8 G K q h))
 (u10 (u10 r 45 (r 0) 46 g 47 j 48 s 49 u 50 (r 8) 51 w 44 w 52 z 53 C) 9 D 10 C 54 C 55 E 56 E 57 F 58 I 59 J 60 L 61 M)
def Ts (r:Rg) (h:Hp) (K:EK):Prop:=
 o_ G (f_ 48 (r 3) 2) h fun g h=>o_ G (l_ 3 g) h fun j h=>o_ G (z7_ (r 8) j) h fun s h=>
 cond s
 (Na G K (u4 r 38 (r 8) 39 g 40 j 41 s) h)
 (K (.exit 1) (u4 r 38 (r 8) 39 g 40 j 41 s) h)
def Tt:Prop:=
 p_ (f_ 48 (r 3) 4) h fun g h'=>
 w_ G h (l_ 30 g) h' fun j h'=>
 p_ (f_ 48 (r 3) 3) h' fun s h'=>
 p_ (f_ 30 s 0) h' fun u h'=>
 w_ G h (l_ 28 u) h' fun w h'=>
 p_ (f_ 48 (r 3) 3) h' fun z h'=>
 p_ (f_ 30 z 1) h' fun C h'=>
 w_ G h (l_ 4 C) h' fun D h'=>
 p_ (Op.unary .not D) h' fun E h'=>
 p_ (Instr.build 30 #[(0,w),(1,E)]) h' fun F h'=>
 dl P_ G h (xEq .eql 30 (.tmp 0) (.tmp 0) j F) h' fun I h=>
 K .ret (u4 (u10 r 95 (r 11) 96 g 97 j 98 s 99 u 100 w 101 z 102 C 103 D 104 E) 105 F 106 I 4 (r 11) 5 I) h
def Gm:Prop:=
 o_ G (z1_ (r 86) (1:Int)) h fun g h=>
 K .normal (u2 r 94 g 86 g) h
def Gn:Prop:=
 o_ G (i_ 22 (r 84) (r 86)) h fun g h=>o_ G (l_ 28 g) h fun j h=>o_ G (Instr.alloc 28 true (.tuple #[])) h fun s h=>
 y_ G (x_ 28 s j) h fun u h=>o_ G (l_ 28 s) h fun u h=>
 c_ G 62 #[r 0,u] h fun w h=>o_ G (Op.unary .not w) h fun z h=>
 (fun q=>cond z
 (K .ret (u2 q 4 (.slice none 0 0) 5 (.bool false)) h)
 (Gm G K q h))
 (u7 r 88 g 89 j 13 s 90 (r 0) 91 u 92 w 93 z)
def Nb (r:Rg) (h:Hp) (K:EK):Prop:=
 o_ G (z2_ (r 86) (r 85)) h fun g h=>
 cond g
 (Gn G K (upd r 87 g) h)
 (K (.exit 3) (upd r 87 g) h)
def Cc:Prop:=
 cond (r 107)
 (∃h':Hp,h'.le h/\
 p_ (f_ 48 (r 3) 3) h fun g ha=>
 w_ G h' (l_ 30 g) ha fun j ha=>
 c_ G 89 #[r 0,j] ha fun s ha=>h'.le ha/\
 p_ (f_ 48 (r 3) 4) ha fun u ha=>
 w_ G h' (l_ 30 u) ha fun w ha=>
 p_ (f_ 48 (r 3) 3) ha fun z ha=>
 w_ G h' (l_ 30 z) ha fun C ha=>
 dl P_ G h' (xEq .eql 30 (.tmp 0) (.tmp 0) w C) ha fun D h'=>
 K .ret (upd (u10 r 110 (r 0) 111 g 112 j 113 s 114 u 115 w 116 z 117 C 118 D 4 s) 5 D) h')
 (C1 G K r h)
def Tv:Prop:=
 o_ G (f_ 48 (r 3) 0) h fun g h=>o_ G (l_ 3 g) h fun j h=>
 y_ G (xEq .eql 3 (.tmp 0) (.const .nilFunc) j (.int .i64 1)) h fun s h=>
 cond s
 (o_ G (f_ 48 (r 3) 3) h fun u h'=>o_ G (l_ 30 u) h' fun w h'=>o_ G (Instr.alloc 30 true (.tuple #[])) h' fun z h'=>
 y_ G (x_ 30 z w) h' fun C h'=>
 du (Ts G) (u9 r 32 g 33 j 35 s 34 s 6 (.slice none 0 0) 36 u 37 w 7 z 8 (.int .i64 0)) h' (dc 1 (di (Tu G K) (dc 0 (di (C1 G K) K)))))
 (opH P_ G (xEq .eql 3 (.tmp 0) (.const .nilFunc) j (.int .i64 2)) h fun u h=>
 cond u
 (o_ G (f_ 48 (r 3) 3) h fun w h'=>o_ G (f_ 30 w 0) h' fun z h'=>o_ G (l_ 28 z) h' fun C h'=>
 c_ G 156 #[C] h' fun D h'=>o_ G (k_ 22 D) h' fun E h'=>
 du (Nb G) (u4 (u10 r 32 g 33 j 35 s 34 s 79 u 78 u 80 w 81 z 82 C 83 D) 11 D 84 D 85 E 86 (.int .i64 0)) h' (dc 3 (di (Tt G K) (dc 0 (di (C1 G K) K)))))
 (opH P_ G (xEq .eql 3 (.tmp 0) (.const .nilFunc) j (.int .i64 3)) h fun w h=>
 cond w
 (Cc G K (u8 r 32 g 33 j 35 s 34 s 79 u 78 u 108 w 107 w) h)
 (opH P_ G (xEq .eql 3 (.tmp 0) (.const .nilFunc) j (.int .i64 4)) h fun z h=>
 Cc G K (u10 r 32 g 33 j 35 s 34 s 79 u 78 u 108 w 107 w 109 z 107 z) h)))
def aj5:Prop:=
 o_ G (f_ 48 (r 3) 0) h fun g h=>o_ G (l_ 3 g) h fun j h=>
 y_ G (xEq .neq 3 (.tmp 0) (.const .nilFunc) j (.int .i64 1)) h fun s h=>g_ s true (o_ G (f_ 48 (r 3) 1) h) h fun u h=>g_ s true (o_ G (l_ 3 u) h) h fun w h=>g_ s true (opH P_ G (xEq .neq 3 (.tmp 0) (.const .nilFunc) w (.int .i64 0)) h) h fun z h=>g_ s true (fun K1=>K1 z h) h fun C h=>g_ C false (o_ G (f_ 48 (r 3) 2) h) h fun D h=>g_ C false (o_ G (l_ 3 D) h) h fun E h=>g_ C false (opH P_ G (xEq .neq 3 (.tmp 0) (.const .nilFunc) E (.int .i64 0)) h) h fun F h=>g_ s true (opH P_ G (dh C (.bool true) F) h) h fun I h=>
 y_ G (dh s I (.bool false)) h fun J h=>
 (fun q=>cond J
 (K .ret (u2 q 4 (.slice none 0 0) 5 (.bool false)) h)
 (Tv G K q h))
 (u3 (u10 r 19 g 20 j 21 s 22 s 23 u 24 w 25 z 26 C 27 D 28 E) 29 F 30 I 31 J)
def S127:Prop:=
 o_ G (Instr.box 48 (r 1)) h fun g h=>o_ G (f_ 48 g 3) h fun j h=>o_ G (l_ 30 j) h fun s h=>
 c_ G 61 #[r 0,s] h fun u h=>o_ G (Op.unary .not u) h fun w h=>
 (fun q=>cond w
 (K .ret (u2 q 4 (.slice none 0 0) 5 (.bool false)) h)
 (aj5 G K q h))
 (u8 r 3 g 4 (.slice none 0 0) 5 (.bool false) 14 (r 0) 15 j 16 s 17 u 18 w)
theorem aI7:Ent 119 127 [.tmp 4,.tmp 5] S127:=ent_ (m:=md127) (c:=(Tryz.f127.body.getD .skip)) (fun _ _ _ _=>by kernel_rfl) Tryz.func127 rfl rfl rfl
def md130:Nat->Hint
 |3=>mh false [0,1,0,4,0,16,0,64,240,496,1023,2047,4095] [n_,m_,n_,m_,n_,m_,n_,m_,n_,e_,n_,.alloc,n_] (fs 9++[true]++fs 3) true
 |5=>⟨false,[0,1,3,0,8,31,63,0],[.pureN,.pureM,.eff,.pureN,.pureM,.eff,.pureM,.pureN],[.pureN,.pureM,.eff,.pureN,.pureM,.eff,.late,.pureN],(fs 2++[true]++fs 5),true⟩
 |14=>mh false [0,1,3,7,0,0,0,64,192,480,992,2047,4095] [n_,n_,n_,m_,n_,n_,n_,m_,m_,n_,n_,n_,.store] (fs 13) false
 |_=>m0_
def aj3 (G:Hp) (K:EK) (r:Rg) (h:Hp):Prop:=
 K .ret (u3 r 104 (r 4) 2 (r 4) 3 (.bool true)) h
def Ac:Prop:=
 o_ G (z1_ (r 61) (1:Int)) h fun g h=>
 K .normal (u2 r 103 g 61 g) h
def M6:Prop:=
 o_ G (i_ 90 (r 5) (r 8)) h fun g h=>
 y_ G (x_ 4 g (.bool true)) h fun j h=>
 y_ G (xNil (r 4)) h fun j h=>o_ G (f_ 215 j 2) h fun s h=>o_ G (l_ 168 s) h fun u h=>o_ G (i_ 168 u (r 8)) h fun w h=>
 y_ G (x_ 3 w (.int .i64 (-1))) h fun z h=>o_ G (f_ 26 (r 1) 3) h fun z h=>o_ G (l_ 22 z) h fun C h=>o_ G (k_ 22 C) h fun D h=>o_ G (z5_ (r 6) D) h fun E h=>
 cond E
 (dl P_ noHp noHp (xNil (r 4)) h fun F h'=>
 p_ (f_ 215 F 2) h' fun I h'=>
 w_ G h (l_ 168 I) h' fun J h'=>
 p_ (f_ 26 (r 1) 3) h' fun L h'=>
 w_ G h (l_ 22 L) h' fun M h'=>
 w_ G h (k_ 22 M) h' fun N h'=>
 p_ (z3_ (r 6) N) h' fun O h'=>
 p_ (z1_ O (1:Int)) h' fun P h'=>
 p_ (i_ 168 J (r 8)) h' fun Q h'=>
 y_ G (x_ 3 Q P) h' fun U h'=>
 Ac G K (u6 (u10 (u10 r 77 (r 5) 78 (r 8) 79 g 80 (r 4) 81 j 82 s 83 u 84 (r 8) 85 w 86 (r 6)) 87 z 88 C 89 D 90 E 91 (r 4) 92 F 93 I 94 J 95 (r 8) 96 (r 6)) 97 L 98 M 99 N 100 O 101 P 102 Q) h')
 (Ac G K (u4 (u10 r 77 (r 5) 78 (r 8) 79 g 80 (r 4) 81 j 82 s 83 u 84 (r 8) 85 w 86 (r 6)) 87 z 88 C 89 D 90 E) h)
def M7:Prop:=
 o_ G (i_ 22 (r 59) (r 61)) h fun g h=>o_ G (l_ 28 g) h fun j h=>o_ G (Instr.alloc 28 true (.tuple #[])) h fun s h=>
 y_ G (x_ 28 s j) h fun u h=>o_ G (l_ 28 s) h fun u h=>
 c_ G 88 #[r 4,u] h fun w h=>o_ G (z2_ w (0:Int)) h fun z h=>g_ z false (fun K1=>K1 (r 5) h) h fun C h=>g_ z false (fun K1=>K1 w h) h fun D h=>g_ z false (o_ G (i_ 90 C D) h) h fun E h=>g_ z false (o_ G (l_ 4 E) h) h fun F h=>
 y_ G (dh z (.bool true) F) h fun I h=>
 (fun q=>cond I
 (K .ret (u2 q 2 (.pointer none) 3 (.bool false)) h)
 (M6 G K q h))
 (u7 (u10 r 63 (r 61) 64 g 65 j 7 s 6 (r 61) 66 (r 4) 67 u 68 w 8 w 69 w) 70 z 71 z 72 C 73 D 74 E 75 F 76 I)
def Tr (r:Rg) (h:Hp) (K:EK):Prop:=
 o_ G (z2_ (r 61) (r 60)) h fun g h=>
 cond g
 (M7 G K (upd r 62 g) h)
 (K (.exit 0) (upd r 62 g) h)
def aj4:Prop:=
 ∃h':Hp,h'.le h/\
 p_ (f_ 26 (r 1) 0) h fun g h=>
 w_ G h' (l_ 3 g) h fun j h=>
 p_ (f_ 26 (r 1) 1) h fun s h=>
 w_ G h' (l_ 3 s) h fun u h=>
 p_ (f_ 26 (r 1) 0) h fun w h=>
 w_ G h' (l_ 3 w) h fun z h=>
 p_ (f_ 26 (r 1) 1) h fun C h=>
 w_ G h' (l_ 3 C) h fun D h=>
 p_ (z4_ z D) h fun E h=>o_ G (Instr.makeSlice 168 E E) h fun F h=>h'.le h/\
 p_ (Instr.build 215 #[(0,j),(1,u),(2,F)]) h fun I h=>o_ G (Instr.box 215 I) h fun J h=>o_ G (f_ 26 (r 1) 0) h fun L h=>o_ G (l_ 3 L) h fun M h=>o_ G (f_ 26 (r 1) 1) h fun N h=>o_ G (l_ 3 N) h fun O h=>o_ G (z4_ M O) h fun P h=>o_ G (Instr.makeSlice 90 P P) h fun Q h=>
 ∃h':Hp,h'.le h/\
 p_ (f_ 26 (r 1) 3) h fun U h=>
 w_ G h' (l_ 22 U) h fun V h=>
 c_ G 157 #[V] h fun W h=>h'.le h/\
 p_ (f_ 26 (r 1) 4) h fun Y h=>
 w_ G h' (l_ 22 Y) h fun Z h=>o_ G (Builtin.append_ #[22,22] 22 #[W,Z]) h fun aa h=>
 w_ G h (k_ 22 aa) h fun ab h=>
 du (Tr G) (u8 (u10 (u10 r 36 g 37 j 38 s 39 u 40 w 41 z 42 C 43 D 44 E 45 F) 46 I 47 J 4 J 48 L 49 M 50 N 51 O 52 P 53 Q 5 Q) 54 U 55 V 56 W 57 Y 58 Z 59 aa 60 ab 61 (.int .i64 0)) h (dc 0 (di (aj3 G K) K))
def S130:Prop:=
 o_ G (Instr.box 26 (r 0)) h fun g h=>o_ G (f_ 26 g 0) h fun j h=>o_ G (l_ 3 j) h fun s h=>
 c_ G 129 #[s,(.int .i64 1),(.int .i64 16)] h fun u h=>o_ G (Op.unary .not u) h fun w h=>g_ w false (o_ G (f_ 26 g 1) h) h fun z h=>g_ w false (o_ G (l_ 3 z) h) h fun C h=>g_ w false (c_ G 129 #[C,(.int .i64 1),(.int .i64 16)] h) h fun D h=>g_ w false (o_ G (Op.unary .not D) h) h fun E h=>
 y_ G (dh w (.bool true) E) h fun F h=>g_ F false (o_ G (f_ 26 g 4) h) h fun I h=>g_ F false (o_ G (l_ 22 I) h) h fun J h=>g_ F false (o_ G (k_ 22 J) h) h fun L h=>g_ F false (o_ G (z6_ L (8:Int)) h) h fun M h=>
 y_ G (dh F (.bool true) M) h fun N h=>g_ N false (o_ G (f_ 26 g 3) h) h fun O h=>g_ N false (o_ G (l_ 22 O) h) h fun P h=>g_ N false (o_ G (k_ 22 P) h) h fun Q h=>g_ N false (o_ G (f_ 26 g 0) h) h fun U h=>g_ N false (o_ G (l_ 3 U) h) h fun V h=>g_ N false (o_ G (f_ 26 g 1) h) h fun W h=>g_ N false (o_ G (l_ 3 W) h) h fun Y h=>g_ N false (o_ G (z4_ V Y) h) h fun Z h=>g_ N false (o_ G (z6_ Q Z) h) h fun aa h=>
 y_ G (dh N (.bool true) aa) h fun ab h=>
 (fun q=>cond ab
 (K .ret (u2 q 2 (.pointer none) 3 (.bool false)) h)
 (aj4 G K q h))
 (u10 (u10 (u10 r 1 g 2 (.pointer none) 3 (.bool false) 9 j 10 s 11 u 12 w 13 w 14 z 15 C) 16 D 17 E 18 F 19 F 20 I 21 J 22 L 23 M 24 N 25 N) 26 O 27 P 28 Q 29 U 30 V 31 W 32 Y 33 Z 34 aa 35 ab)
theorem aI5:Ent 105 130 [.tmp 2,.tmp 3] S130:=ent_ (m:=md130) (c:=(Tryz.f130.body.getD .skip)) (fun _ _ _ _=>by kernel_rfl) Tryz.func130 rfl rfl rfl
def md131:Nat->Hint
 |6=>mh false [0,0,2,6,14,31,0,0,128,384,896,1984,4095,8191,0,32767] [n_,n_,n_,n_,m_,n_,n_,n_,n_,n_,m_,n_,n_,n_,.alloc,.store] (fs 16) false
 |_=>m0_
def aj0 (G:Hp) (K:EK) (r:Rg) (h:Hp):Prop:=
 K .ret (upd r 4 (.bool true)) h
def M3:Prop:=
 o_ G (z1_ (r 81) (1:Int)) h fun g h=>
 K .normal (u2 r 124 g 81 g) h
def Cb:Prop:=
 o_ G (z1_ (r 93) (1:Int)) h fun g h=>
 K .normal (u2 r 123 g 93 g) h
def Ca:Prop:=
 o_ G (i_ 90 (r 7) (r 12)) h fun g h=>
 y_ G (x_ 4 g (.bool true)) h fun j h=>
 y_ G (xNil (r 0)) h fun j h=>o_ G (f_ 215 j 2) h fun s h=>o_ G (l_ 168 s) h fun u h=>o_ G (i_ 168 u (r 12)) h fun w h=>
 y_ G (x_ 3 w (.int .i64 (-2))) h fun z h=>
 Cb G K (u9 r 114 (r 7) 115 (r 12) 116 g 117 (r 0) 118 j 119 s 120 u 121 (r 12) 122 w) h
def Dj:Prop:=
 o_ G (i_ 22 (r 91) (r 93)) h fun g h=>o_ G (l_ 28 g) h fun j h=>o_ G (Instr.alloc 28 true (.tuple #[])) h fun s h=>
 y_ G (x_ 28 s j) h fun u h=>o_ G (l_ 28 s) h fun u h=>
 c_ G 88 #[r 0,u] h fun w h=>o_ G (i_ 90 (r 7) w) h fun z h=>o_ G (l_ 4 z) h fun C h=>g_ C false (fun K1=>K1 (r 0) h) h fun D h=>g_ C false (opH P_ G (xNil D) h) h fun E h=>g_ C false (o_ G (f_ 215 E 2) h) h fun F h=>g_ C false (o_ G (l_ 168 F) h) h fun I h=>g_ C false (fun K1=>K1 w h) h fun J h=>g_ C false (o_ G (i_ 168 I J) h) h fun L h=>g_ C false (o_ G (l_ 3 L) h) h fun M h=>g_ C false (o_ G (z6_ M (0:Int)) h) h fun N h=>
 y_ G (dh C (.bool true) N) h fun O h=>
 (fun q=>cond O
 (K .ret (upd q 4 (.bool false)) h)
 (Ca G K q h))
 (upd (u10 (u10 r 95 g 96 j 11 s 97 (r 0) 98 u 99 w 12 w 100 (r 7) 101 w 102 z) 103 C 104 C 105 D 106 E 107 F 108 I 109 J 110 L 111 M 112 N) 113 O)
def Eg (r:Rg) (h:Hp) (K:EK):Prop:=
 o_ G (z2_ (r 93) (r 92)) h fun g h=>
 cond g
 (Dj G K (upd r 94 g) h)
 (K (.exit 4) (upd r 94 g) h)
def M1:Prop:=
 o_ G (l_ 30 (r 9)) h fun g h=>
 c_ G 89 #[r 0,g] h fun j h=>o_ G (k_ 22 j) h fun s h=>
 du (Eg G) (u5 r 89 (r 0) 90 g 91 j 92 s 93 (.int .i64 0)) h (dc 4 (dc 3 (di (M3 G K) K)))
def M4:Prop:=
 o_ G (i_ 23 (r 79) (r 81)) h fun g h=>o_ G (l_ 30 g) h fun j h=>o_ G (Instr.alloc 30 true (.tuple #[])) h fun s h=>
 y_ G (x_ 30 s j) h fun u h=>o_ G (l_ 30 s) h fun u h=>
 c_ G 61 #[r 0,u] h fun w h=>o_ G (Op.unary .not w) h fun z h=>
 (fun q=>cond z
 (K .ret (upd q 4 (.bool false)) h)
 (M1 G K q h))
 (u7 r 83 g 84 j 9 s 85 (r 0) 86 u 87 w 88 z)
def ai9 (r:Rg) (h:Hp) (K:EK):Prop:=
 o_ G (z2_ (r 81) (r 80)) h fun g h=>
 cond g
 (M4 G K (upd r 82 g) h)
 (K (.exit 2) (upd r 82 g) h)
def aj1:Prop:=
 y_ G (xNil (r 0)) h fun g h=>o_ G (f_ 215 g 2) h fun j h=>o_ G (l_ 168 j) h fun s h=>o_ G (k_ 168 s) h fun u h=>o_ G (Instr.makeSlice 90 u u) h fun w h=>o_ G (k_ 23 (r 1)) h fun z h=>
 du (ai9 G) (u10 r 73 (r 0) 74 g 75 j 76 s 77 u 78 w 7 w 79 (r 1) 80 z 81 (.int .i64 0)) h (dc 2 (di (aj0 G K) K))
def uw:Prop:=
 o_ G (z1_ (r 21) (1:Int)) h fun g h=>
 K .normal (u2 r 72 g 21 g) h
def Gj:Prop:=
 y_ G (xNil (r 0)) h fun g h=>o_ G (f_ 215 g 2) h fun j h=>o_ G (l_ 168 j) h fun s h=>o_ G (i_ 168 s (r 5)) h fun u h=>
 y_ G (x_ 3 u (.int .i64 (-2))) h fun w h=>
 uw G K (u6 r 66 (r 0) 67 g 68 j 69 s 70 (r 5) 71 u) h
def Gk:Prop:=
 y_ G (xNil (r 0)) h fun g h=>o_ G (f_ 215 g 2) h fun j h=>o_ G (l_ 168 j) h fun s h=>o_ G (i_ 168 s (r 5)) h fun u h=>o_ G (l_ 3 u) h fun w h=>o_ G (z6_ w (0:Int)) h fun z h=>
 (fun q=>cond z
 (K .ret (upd q 4 (.bool false)) h)
 (Gj G K q h))
 (u8 r 58 (r 0) 59 g 60 j 61 s 62 (r 5) 63 u 64 w 65 z)
def Gl:Prop:=
 dl P_ noHp noHp (xNil (r 0)) h fun g h'=>
 p_ (f_ 215 g 0) h' fun j h'=>
 w_ G h (l_ 3 j) h' fun s h'=>
 p_ (binOp .rem 3 (r 21) s) h' fun u h'=>
 dl P_ noHp noHp (xNil (r 0)) h' fun w h'=>
 p_ (f_ 215 w 0) h' fun z h'=>
 w_ G h (l_ 3 z) h' fun C h=>
 p_ (binOp .quo 3 (r 21) C) h fun D h=>
 p_ (Instr.build 28 #[(0,u),(1,D)]) h fun E h=>
 p_ (Instr.build 30 #[(0,E)]) h fun F h=>o_ G (Instr.alloc 30 true (.tuple #[])) h fun I h=>
 y_ G (x_ 30 I F) h fun J h=>
 y_ G (xNil (r 0)) h fun J h=>o_ G (f_ 215 J 2) h fun L h=>o_ G (l_ 168 L) h fun M h=>o_ G (i_ 168 M (r 21)) h fun N h=>o_ G (l_ 3 N) h fun O h=>
 y_ G (xEq .eql 3 (.tmp 0) (.const .nilFunc) O (.int .i64 (-1))) h fun P h=>g_ P false (fun K1=>K1 (r 0) h) h fun Q h=>g_ P false (o_ G (l_ 30 I) h) h fun U h=>g_ P false (c_ G 61 #[Q,U] h) h fun V h=>
 y_ G (dh P (.bool true) V) h fun W h=>g_ W false (fun K1=>K1 (r 0) h) h fun Y h=>g_ W false (o_ G (f_ 30 I 0) h) h fun Z h=>g_ W false (o_ G (l_ 28 Z) h) h fun aa h=>g_ W false (o_ G (Instr.build 30 #[(0,aa),(1,(.bool true))]) h) h fun ab h=>g_ W false (c_ G 61 #[Y,ab] h) h fun ac h=>
 y_ G (dh W (.bool true) ac) h fun ae h=>
 (fun q=>cond ae
 (uw G K q h)
 (Gk G K q h))
 (u7 (u10 (u10 (u10 r 23 (r 21) 5 (r 21) 24 (r 21) 25 (r 0) 26 g 27 j 28 s 29 u 30 (r 21) 31 (r 0)) 32 w 33 z 34 C 35 D 36 E 37 F 6 I 38 (r 0) 39 J 40 L) 41 M 42 (r 21) 43 N 44 O 45 P 46 P 47 Q 48 U 49 V 50 W) 51 W 52 Y 53 Z 54 aa 55 ab 56 ac 57 ae)
def M5 (r:Rg) (h:Hp) (K:EK):Prop:=
 o_ G (z2_ (r 21) (r 20)) h fun g h=>
 cond g
 (Gl G K (upd r 22 g) h)
 (K (.exit 0) (upd r 22 g) h)
def aj2:Prop:=
 y_ G (xNil (r 0)) h fun g h=>o_ G (f_ 215 g 2) h fun j h=>o_ G (l_ 168 j) h fun s h=>o_ G (k_ 168 s) h fun u h=>
 du (M5 G) (u6 r 16 (r 0) 17 g 18 j 19 s 20 u 21 (.int .i64 0)) h (dc 0 (di (aj1 G K) K))
def S131:Prop:=
 o_ G (k_ 23 (r 1)) h fun g h=>o_ G (z6_ g (8:Int)) h fun j h=>
 (fun q=>cond j
 (K .ret (upd q 4 (.bool false)) h)
 (aj2 G K q h))
 (u4 r 4 (.bool false) 13 (r 1) 14 g 15 j)
theorem aI4:Ent 125 131 [.tmp 4] S131:=ent_ (m:=md131) (c:=(Tryz.f131.body.getD .skip)) (fun _ _ _ _=>by kernel_rfl) Tryz.func131 rfl rfl rfl
def md132:Nat->Hint
 |_=>m0_
def ai8 (G:Hp) (K:EK) (r:Rg) (h:Hp):Prop:=
 K .ret (upd r 6 (.bool true)) h
def Mz:Prop:=
 o_ G (z1_ (r 22) (1:Int)) h fun g h=>
 K .normal (u2 r 77 g 22 g) h
def Dh:Prop:=
 o_ G (z1_ (r 56) (1:Int)) h fun g h=>
 K .normal (u2 r 76 g 56 g) h
def Dg:Prop:=
 y_ G (su (Instr.mapUpdate 269 (r 8) (r 12) (.int .i64 1))) h fun g h=>
 Dh G K (u2 r 74 (r 8) 75 (r 12)) h
def Di:Prop:=
 o_ G (i_ 168 (r 54) (r 56)) h fun g h=>o_ G (l_ 3 g) h fun j h=>
 c_ G 129 #[j,(.int .i64 1),(.int .i64 1000000000)] h fun s h=>o_ G (Op.unary .not s) h fun u h=>g_ u false (fun K1=>K1 (r 8) h) h fun w h=>g_ u false (fun K1=>K1 j h) h fun z h=>g_ u false (o_ G (Instr.lookup 269 w z false) h) h fun C h=>g_ u false (o_ G (z6_ C (0:Int)) h) h fun D h=>
 y_ G (dh u (.bool true) D) h fun E h=>g_ E false (fun K1=>K1 (r 8) h) h fun F h=>g_ E false (o_ G (k_ 269 F) h) h fun I h=>g_ E false (opH P_ G (xEq .eql 3 (.tmp 0) (.const .nilFunc) I (.int .i64 512)) h) h fun J h=>
 y_ G (dh E (.bool true) J) h fun L h=>
 (fun q=>cond L
 (K .ret (upd q 6 (.bool false)) h)
 (Dg G K q h))
 (u7 (u10 r 58 g 59 j 12 j 60 j 61 s 62 u 63 u 64 w 65 z 66 C) 67 D 68 E 69 E 70 F 71 I 72 J 73 L)
def Ef (r:Rg) (h:Hp) (K:EK):Prop:=
 o_ G (z2_ (r 56) (r 55)) h fun g h=>
 cond g
 (Di G K (upd r 57 g) h)
 (K (.exit 2) (upd r 57 g) h)
def My:Prop:=
 o_ G (f_ 234 (r 10) 0) h fun g h=>o_ G (l_ 28 g) h fun j h=>
 c_ G 88 #[r 0,j] h fun s h=>o_ G (i_ 90 (r 7) s) h fun u h=>
 y_ G (x_ 4 u (.bool true)) h fun w h=>o_ G (f_ 234 (r 10) 1) h fun w h=>o_ G (l_ 168 w) h fun z h=>o_ G (k_ 168 z) h fun C h=>
 du (Ef G) (u10 r 47 (r 7) 48 (r 0) 49 g 50 j 51 s 52 u 53 w 54 z 55 C 56 (.int .i64 0)) h (dc 2 (dc 1 (di (Mz G K) K)))
def M0:Prop:=
 o_ G (i_ 24 (r 20) (r 22)) h fun g h=>o_ G (l_ 234 g) h fun j h=>o_ G (Instr.alloc 234 true (.tuple #[])) h fun s h=>
 y_ G (x_ 234 s j) h fun u h=>o_ G (f_ 234 s 0) h fun u h=>o_ G (l_ 28 u) h fun w h=>
 c_ G 158 #[r 0,w] h fun z h=>o_ G (Op.unary .not z) h fun C h=>g_ C false (fun K1=>K1 (r 7) h) h fun D h=>g_ C false (fun K1=>K1 (r 0) h) h fun E h=>g_ C false (o_ G (f_ 234 s 0) h) h fun F h=>g_ C false (o_ G (l_ 28 F) h) h fun I h=>g_ C false (c_ G 88 #[E,I] h) h fun J h=>g_ C false (o_ G (i_ 90 D J) h) h fun L h=>g_ C false (o_ G (l_ 4 L) h) h fun M h=>
 y_ G (dh C (.bool true) M) h fun N h=>g_ N false (o_ G (f_ 234 s 1) h) h fun O h=>g_ N false (o_ G (l_ 168 O) h) h fun P h=>g_ N false (o_ G (k_ 168 P) h) h fun Q h=>g_ N false (fun K1=>K1 (r 2) h) h fun U h=>g_ N false (o_ G (z6_ Q U) h) h fun V h=>
 y_ G (dh N (.bool true) V) h fun W h=>
 (fun q=>cond W
 (K .ret (upd q 6 (.bool false)) h)
 (My G K q h))
 (u4 (u10 (u10 r 24 g 25 j 10 s 26 (r 0) 27 u 28 w 29 z 30 C 31 C 32 D) 33 E 34 F 35 I 36 J 37 L 38 M 39 N 40 N 41 O 42 P) 43 Q 44 U 45 V 46 W)
def ai7 (r:Rg) (h:Hp) (K:EK):Prop:=
 o_ G (z2_ (r 22) (r 21)) h fun g h=>
 cond g
 (M0 G K (upd r 23 g) h)
 (K (.exit 0) (upd r 23 g) h)
def S132:Prop:=
 y_ G (xNil (r 0)) h fun g h=>o_ G (f_ 215 g 2) h fun j h=>o_ G (l_ 168 j) h fun s h=>o_ G (k_ 168 s) h fun u h=>o_ G (Instr.makeSlice 90 u u) h fun w h=>o_ G (Instr.makeMap 269 none) h fun z h=>o_ G (k_ 24 (r 1)) h fun C h=>
 du (ai7 G) (u3 (u10 r 6 (.bool false) 13 (r 0) 14 g 15 j 16 s 17 u 18 w 7 w 19 z 8 z) 20 (r 1) 21 C 22 (.int .i64 0)) h (dc 0 (di (ai8 G K) K))
theorem aI3:Ent 78 132 [.tmp 6] S132:=ent_ (m:=md132) (c:=(Tryz.f132.body.getD .skip)) (fun _ _ _ _=>by kernel_rfl) Tryz.func132 rfl rfl rfl
def md182:Nat->Hint
 |_=>m0_
def D8:Prop:=
 o_ G (z1_ (r 8) (1:Int)) h fun g h=>
 K .normal (u2 r 37 g 8 g) h
def De:Prop:=
 o_ G (z1_ (r 5) (1:Int)) h fun g h=>
 K .normal (u3 r 11 (r 5) 12 g 5 g) h
def Dd:Prop:=
 o_ G (l_ 30 (r 2)) h fun g h=>o_ G (l_ 30 (r 6)) h fun j h=>o_ G (Instr.build 48 #[(0,(.int .i64 1)),(1,(r 4)),(2,(r 5)),(3,g),(4,j)]) h fun s h=>
 y_ G (jh (r 0) #[s]) h fun u h=>o_ G (Op.unary .not u) h fun w h=>
 (fun q=>cond w
 (K .ret q h)
 (De G K q h))
 (u8 r 29 (r 0) 30 (r 4) 31 (r 5) 32 g 33 j 34 s 35 u 36 w)
def Mf (r:Rg) (h:Hp) (K:EK):Prop:=
 o_ G (l_ 68 (r 1)) h fun g h=>o_ G (l_ 30 (r 2)) h fun j h=>
 c_ G 155 #[g,j,r 4,r 5] h fun s h=>o_ G (Instr.extract s 0) h fun u h=>o_ G (Instr.extract s 1) h fun w h=>o_ G (Instr.alloc 30 true (.tuple #[])) h fun z h=>
 y_ G (x_ 30 z u) h fun C h=>o_ G (Op.unary .not w) h fun C h=>g_ C false (o_ G (l_ 68 (r 1)) h) h fun D h=>g_ C false (o_ G (l_ 30 z) h) h fun E h=>g_ C false (c_ G 61 #[D,E] h) h fun F h=>g_ C false (o_ G (Op.unary .not F) h) h fun I h=>
 y_ G (dh C (.bool true) I) h fun J h=>
 (fun q=>cond J
 (K (.exit 1) q h)
 (Dd G K q h))
 (u8 (u10 r 14 g 15 j 16 (r 4) 17 (r 5) 18 s 13 s 19 u 20 w 6 z 7 w) 21 w 22 C 23 C 24 D 25 E 26 F 27 I 28 J)
def Mg:Prop:=
 du (Mf G) (u3 r 10 (r 8) 4 (r 8) 5 (.int .i64 1)) h (dc 2 (dc 1 (di (D8 G K) K)))
def af3 (r:Rg) (h:Hp) (K:EK):Prop:=
 o_ G (z2_ (r 8) (4:Int)) h fun g h=>
 cond g
 (Mg G K (upd r 9 g) h)
 (K (.exit 0) (upd r 9 g) h)
def S182:Prop:=
 du (af3 G) (upd r 8 (.int .i64 0)) h (dc 0 (xq K))
theorem aF5:Ent 38 182 [] S182:=ent_ (m:=md182) (c:=(Tryz.f182.body.getD .skip)) (fun _ _ _ _=>by kernel_rfl) Tryz.func182 rfl rfl rfl
def md156:Nat->Hint
 |_=>m0_
def S156:Prop:=
 o_ G (Instr.box 28 (r 0)) h fun g h=>o_ G (l_ 28 g) h fun j h=>o_ G (f_ 28 g 0) h fun s h=>o_ G (l_ 3 s) h fun u h=>o_ G (z1_ u (1:Int)) h fun w h=>o_ G (f_ 28 g 1) h fun z h=>o_ G (l_ 3 z) h fun C h=>o_ G (Instr.build 28 #[(0,w),(1,C)]) h fun D h=>o_ G (f_ 28 g 0) h fun E h=>o_ G (l_ 3 E) h fun F h=>o_ G (f_ 28 g 1) h fun I h=>o_ G (l_ 3 I) h fun J h=>o_ G (z1_ J (1:Int)) h fun L h=>o_ G (Instr.build 28 #[(0,F),(1,L)]) h fun M h=>o_ G (f_ 28 g 0) h fun N h=>o_ G (l_ 3 N) h fun O h=>o_ G (z1_ O (1:Int)) h fun P h=>o_ G (f_ 28 g 1) h fun Q h=>o_ G (l_ 3 Q) h fun U h=>o_ G (z1_ U (1:Int)) h fun V h=>o_ G (Instr.build 28 #[(0,P),(1,V)]) h fun W h=>o_ G (Instr.buildSlice 22 4 #[(0,j),(1,D),(2,M),(3,W)]) h fun Y h=>
 K .ret (u4 (u10 (u10 r 1 g 2 (.slice none 0 0) 3 j 4 s 5 u 6 w 7 z 8 C 9 D 10 E) 11 F 12 I 13 J 14 L 15 M 16 N 17 O 18 P 19 Q 20 U) 21 V 22 W 23 Y 2 Y) h
theorem aG3:Ent 24 156 [.tmp 2] S156:=ent_ (m:=md156) (c:=(Tryz.f156.body.getD .skip)) (fun _ _ _ _=>by kernel_rfl) Tryz.func156 rfl rfl rfl
def md157:Nat->Hint
 |_=>m0_
def af8:Prop:=
 o_ G (k_ 22 (r 0)) h fun g h=>o_ G (Instr.makeSlice 22 g g) h fun j h=>o_ G (Builtin.copy_ #[22,22] 3 #[j,r 0]) h fun s h=>
 K .ret (u9 r 7 (r 0) 8 g 9 j 3 j 10 j 11 (r 0) 12 s 13 j 2 j) h
def S157:Prop:=
 o_ G (k_ 22 (r 0)) h fun g h=>
 y_ G (xEq .eql 3 (.tmp 0) (.const .nilFunc) g (.int .i64 0)) h fun j h=>
 (fun q=>cond j
 (K .ret (upd q 2 (.slice none 0 0)) h)
 (af8 G K q h))
 (u4 r 2 (.slice none 0 0) 4 (r 0) 5 g 6 j)
theorem aG2:Ent 14 157 [.tmp 2] S157:=ent_ (m:=md157) (c:=(Tryz.f157.body.getD .skip)) (fun _ _ _ _=>by kernel_rfl) Tryz.func157 rfl rfl rfl
end
def bRpF:=jq bC (jq (jq (jq (jq @aH_ (jq @al28 @yw)) (jq (jq @xa @pd) (jq @yu @Lo))) (jq (jq @Wq (jq @cf88 @eq68sp)) (jq (jq @V8 @aC7) (jq @Fq @D1)))) (jq (jq (jq @ab1 (jq @Dz @ab0)) (jq (jq @vq @Dy) (jq @Kw @ld28))) (jq (jq @ld3 (jq @ld3p @ld4)) (jq (jq @li @jc) (jq @Ud @true_and)))))
theorem un81:P_.underlying 245=some (.array 4 28):=by kernel_rfl
theorem ix81 {G h:Hp} {a:Addr} {k:IntKind} {i:Int} {K:VK} (h1:0<=i) (h2:i<(4:Nat)):wpH P_ G (Instr.indexAt 245 (.pointer (some a)) (.int k i)) h K=K (.pointer (some (a.add (i.toNat*2)))) h:=G5 un81 sz28 h1 h2
theorem aa5 {G h:Hp} {a:Addr} {k:IntKind} {i:Int} {K:Value->Prop} (h1:0<=i) (h2:i<(4:Nat)):pw P_ G h (Instr.indexAt 245 (.pointer (some a)) (.int k i)) K=K (.pointer (some (a.add (i.toNat*2)))):=Ky un81 sz28 h1 h2
def Hv:List Value:=[.int .i64 0,.int .i64 (-1),.int .i64 1,.int .i64 0,.int .i64 0,.int .i64 1,.int .i64 (-1),.int .i64 0]
def lg (G:Hp):Prop:=∃e f,G 0=some (.cells Hv.toArray e f)
theorem lg.cell {G h:Hp} (s:lg G) (d:Dis G h) (k:Nat):bf G h ⟨0,k,none⟩=Hv[k]?:=by obtain ⟨e,f,s⟩:=s;rw [Wr d s rfl];simp [zf]
theorem lg.free {G h:Hp} (s:lg G) (d:Dis G h):h 0=none:=by
 obtain ⟨e,f,s⟩:=s;cases q:h 0 with
 |none=>rfl
 |some o=>rw [d _ _ q]at s;cases s
theorem lg.under {G h a:Hp} (s:lg G) (d:Dis G h) (l:a.le h):lg (under G h a):=by have h0:=s.free d;obtain ⟨e,f,s⟩:=s;refine ⟨e,f,?_⟩;unfold HL.under HL.look;rw [l.none h0,h0];simpa using s
def lw {α:Type} (w h:Nat) (f:Nat->Nat->α):List α:=(List.range (w*h)).map fun n=>f (n % w) (n / w)
theorem gv {α:Type} {w h:Nat} {f:Nat->Nat->α}:(lw w h f).length=w*h:=by simp [lw]
theorem yr {α:Type} {w h:Nat} {f:Nat->Nat->α} {x y:Nat} (hx:x<w) (hy:y<h):(lw w h f)[y*w+x]?=some (f x y):=by
 have hlt:y*w+x<w*h:=by have:(y+1)*w<=h*w:=aU_ _ hy;rw [bD_]at this;rw [bi_ w h];omega
 unfold lw;rw [aO_,List.getElem?_range hlt,a0_];rw [bi_ y w,Nat.mul_add_mod,Nat.mod_eq_of_lt hx,Nat.mul_add_div (by omega),Nat.div_eq_of_lt hx,bc_]
theorem yt {α:Type} {w h:Nat} {f:Nat->Nat->α} {n:Nat} (hn:n<w*h):(lw w h f)[n]?=some (f (n % w) (n / w)):=by unfold lw;rw [aO_,List.getElem?_range hn,a0_]
theorem Pb {α:Type} {w h:Nat} {f:Nat->Nat->α} {x y:Nat} {v:α} (hx:x<w):(lw w h f).set (y*w+x) v=lw w h (fun a b=>if a=x/\b=y then v else f a b):=by
 apply bg_;intro n;rw [ci_];by_cases hn:n<w*h
 . rw [yt hn,yt hn,gv];have hw:0<w:=by omega
   by_cases e:y*w+x=n
   . subst e;rw [ak_ rfl,ak_ hn,bi_ y w,Nat.mul_add_mod,Nat.mod_eq_of_lt hx,Nat.mul_add_div hw,Nat.div_eq_of_lt hx,bc_];simp
   . rw [ah_ e,ah_];rintro ⟨e1,e2⟩;apply e;rw [<- e1,<- e2,bi_];exact b3_ n w
 . rw [a4_ (by rw [gv];omega),a4_ (by rw [gv];omega)];split
   . rw [ah_ (by rw [gv];omega)]
   . rfl
structure GS (G h:Hp) (g:Value) (w k:Nat) (f:Nat->Nat->Int):Prop where
 ex:∃gp kb,g = .pointer (some ⟨gp,0,none⟩)/\(∀j,j<3->bf G h ⟨gp,j,none⟩=[Value.int .i64 w,.int .i64 k,.slice (some ⟨kb,0,none⟩) (w*k) (w*k)][j]?)/\(∀n x,(lw w k f)[n]?=some x->bf G h ⟨kb,n,none⟩=some (.int .i64 x))
 w1:1<=w
 w2:w<=16
 k1:1<=k
 k2:k<=16
theorem GS.up {G h h':Hp} {g:Value} {w k:Nat} {f:Nat->Nat->Int} (s:GS G h g w k f) (l:h.le h') (d:Dis G h'):GS G h' g w k f:=by obtain ⟨⟨gp,kb,e,h1,h2⟩,a,b,c,e2⟩:=s;refine ⟨⟨gp,kb,e,fun j hj=>?_,fun n x hx=>ku l d (h2 n x hx)⟩,a,b,c,e2⟩;have:=h1 j hj;rw [aa_ (by simpa using hj)]at this ⊢;exact ku l d this
def inW (w k:Nat) (c:Cell):Bool:=cj c.1 0 (w-1)&&cj c.2 0 (k-1)
def numI (w k:Nat) (c:Cell):Int:=if inW w k c=true then c.2*w+c.1 else -1
def fAt (f:Nat->Nat->Int) (c:Cell):Int:=f c.1.toNat c.2.toNat
def qe (w k:Nat) (f:Nat->Nat->Int) (c:Cell):Bool:=inW w k c && !(fAt f c == -1)
theorem jr {w k:Nat} {c:Cell}:inW w k c=true↔0<=c.1/\c.1<w/\0<=c.2/\c.2<k:=by unfold inW cj;simp only [ag_,aw_];omega
theorem kw {G h:Hp} {n a b:Int}:bn P_ G 129 #[n,a,b] h (fun u h'=>u = .bool (cj n a b)/\h'=h):=by
 refine quietly (aI6 (by simp) ?_);unfold S129;simp only [bRpF];unfold cj;cases hc:decide (n>=a)with
 |false=>simp only [bRpF,hc];exact ⟨rfl,Hp.le.refl h⟩
 |true=>simp only [bRpF,hc];exact Hp.le.refl h
theorem qk {G h:Hp} {g:Value} {w k:Nat} {f:Nat->Nat->Int} {c:Cell} (s:GS G h g w k f):bn P_ G 88 #[g,ww c] h (fun u h'=>u = .int .i64 (numI w k c)/\h'=h):=by
 have s0:=s;obtain ⟨⟨gp,kb,rfl,g1,g2⟩,w1,w2,k1,k2⟩:=s;refine bn.assume fun d=>quietly (enter88 (by simp) ?_);unfold S88;simp only [bRpF];intro x hx gx;generalize e1:Hp.set h x _=h1;obtain ⟨l1,d1,b1⟩:=boxed e1 hx d gx;have cx:∀j,bf G h1 ⟨x,j,none⟩=_:=fun j=>bm (bj b1);have y0:bf G h1 ⟨gp,0,none⟩=some (.int .i64 w):=ku l1 d1 (g1 0 (by decide));have y1:bf G h1 ⟨gp,1,none⟩=some (.int .i64 k):=ku l1 d1 (g1 1 (by decide));try simp (disch:=first|decide|omega) only [bRpF,cx,y0,y1]
 try rw [ng (by omega) (by omega)]
 refine (kw (n:=c.1) (a:=0) (b:=(w:Int)-1)).mono ?_;rintro _ _ ⟨rfl,rfl⟩;unfold numI inW;cases h1:cj c.1 0 ((w:Int)-1)with
 |false=>try simp only [bRpF];exact ⟨by simp,l1⟩
 |true=>
 try simp (disch:=first|decide|omega) only [bRpF,cx,y0,y1]
 try rw [ng (by omega) (by omega)]
 refine (kw (n:=c.2) (a:=0) (b:=(k:Int)-1)).mono ?_;rintro _ _ ⟨rfl,rfl⟩;cases h2:cj c.2 0 ((k:Int)-1)with
 |false=>try simp only [bRpF];exact ⟨by simp,l1⟩
 |true=>
 unfold cj at h1 h2;simp only [ag_,aw_]at h1 h2;have hm:0<=c.2*(w:Int)/\c.2*(w:Int)<=15*16:=⟨Int.mul_nonneg (by omega) (by omega),bx_ (by omega) (by omega) (by omega) (by omega)⟩;try simp only [bRpF]
 unfold aO1;try simp (disch:=first|decide|omega) only [bRpF,cx,y0,y1]
 try rw [ng (x:=c.2*(w:Int)) (by omega) (by omega)]
 try rw [ng (by omega) (by omega)]
 first|exact l1|exact ⟨by simp,l1⟩
theorem GS.kind {G h:Hp} {g:Value} {w k:Nat} {f:Nat->Nat->Int} (s:GS G h g w k f) {c:Cell} (hc:inW w k c=true):
 ∃gp kb,g = .pointer (some ⟨gp,0,none⟩)/\bf G h ⟨gp,2,none⟩=some (.slice (some ⟨kb,0,none⟩) (w*k) (w*k))/\bf G h ⟨kb,(numI w k c).toNat,none⟩=some (.int .i64 (fAt f c))/\0<=numI w k c/\numI w k c<((w*k:Nat):Int):=by
 obtain ⟨⟨gp,kb,rfl,g1,g2⟩,w1,w2,k1,k2⟩:=s;obtain ⟨a1,a2,a3,a4⟩:=jr.1 hc;have hn:numI w k c=((c.2.toNat*w+c.1.toNat:Nat):Int):=by unfold numI;rw [ak_ hc];rw [Int.natCast_add,b6_,aD_ a1,aD_ a3]
 refine ⟨gp,kb,rfl,g1 2 (by decide),?_,by omega,?_⟩
 . rw [hn,aP_];exact g2 _ _ (yr (by omega) (by omega))
 . rw [hn];have:(c.2.toNat+1)*w<=k*w:=aU_ _ (by omega);rw [bD_]at this;rw [bi_ w k];omega
theorem Kr {w k:Nat} {c:Cell} (h:inW w k c=false):numI w k c = -1:=by unfold numI;rw [h];rfl
theorem ix57k {G h:Hp} {kb n:Nat} {i:Int} {K:VK} (h1:0<=i) (h2:i<(n:Int)):wpH P_ G (Instr.indexAt 168 (.slice (some ⟨kb,0,none⟩) n n) (.int .i64 i)) h K=K (.pointer (some ⟨kb,i.toNat,none⟩)) h:=by rw [Vp h1 h2];simp only [ox,a1_,aW_]
theorem Ck {G h:Hp} {g:Value} {w k:Nat} {f:Nat->Nat->Int} {c:Cell} (s:GS G h g w k f):bn P_ G 62 #[g,ww c] h (fun u h'=>u = .bool (qe w k f c)/\h'=h):=by
 refine bn.assume fun d=>quietly (enter62 (by simp) ?_);unfold S62;simp only [bRpF];intro x hx gx;generalize e1:Hp.set h x _=h1;obtain ⟨l1,d1,b1⟩:=boxed e1 hx d gx;have cx:∀j,bf G h1 ⟨x,j,none⟩=_:=fun j=>bm (bj b1);try simp (disch:=first|decide|omega) only [bRpF,Nat.reduceAdd,Nat.reduceMul,cx]
 refine (qk (c:=c) (s.up l1 d1)).mono ?_;rintro _ _ ⟨rfl,rfl⟩;unfold qe;cases hc:inW w k c with
 |false=>
  try simp only [bRpF,Kr hc,show decide ((-1:Int)>=0)=false from rfl]
  first|exact l1|exact ⟨by simp,l1⟩
 |true=>
  obtain ⟨gp,kb,rfl,z2,zk,n0,n1⟩:=(s.up l1 d1).kind hc;try simp only [bRpF,show decide (numI w k c>=0)=true from af_ n0,z2,ix57k n0 n1,zk]
  first|exact l1|exact ⟨by simp [bne],l1⟩
theorem Q6 {G h:Hp} {g:Value} {w k:Nat} {f:Nat->Nat->Int} {c:Cell} (s:GS G h g w k f):bn P_ G 158 #[g,ww c] h (fun u h'=>u = .bool (inW w k c&&(fAt f c==0))/\h'=h):=by
 refine bn.assume fun d=>quietly (aG1 (by simp) ?_);unfold S158;simp only [bRpF];intro x hx gx;generalize e1:Hp.set h x _=h1;obtain ⟨l1,d1,b1⟩:=boxed e1 hx d gx;have cx:∀j,bf G h1 ⟨x,j,none⟩=_:=fun j=>bm (bj b1);try simp (disch:=first|decide|omega) only [bRpF,Nat.reduceAdd,Nat.reduceMul,cx]
 refine (qk (c:=c) (s.up l1 d1)).mono ?_;rintro _ _ ⟨rfl,rfl⟩;cases hc:inW w k c with
 |false=>
  try simp only [bRpF,Kr hc,show decide ((-1:Int)>=0)=false from rfl]
  first|exact l1|exact ⟨by simp,l1⟩
 |true=>
  obtain ⟨gp,kb,rfl,z2,zk,n0,n1⟩:=(s.up l1 d1).kind hc;try simp only [bRpF,show decide (numI w k c>=0)=true from af_ n0,z2,ix57k n0 n1,zk]
  first|exact l1|exact ⟨by simp,l1⟩
def Bd (x:Int):Prop := -9223372036854775808<=x/\x<=9223372036854775807
def PB (p:Pose):Prop:=Bd p.x/\Bd p.y
theorem qy {G h:Hp} {g:Value} {p:Pose} (st:lg G) (hp:PB p):bn P_ G 89 #[g,mq p] h (fun u h'=>∃b,u = .slice (some ⟨b,0,none⟩) 2 2/\h b=none/\G b=none/\h'=h.set b (.cells #[p.x,p.y,(east p).1,(east p).2] 28 (0,0))):=by
 obtain ⟨⟨p1,p2⟩,p3,p4⟩:=hp;refine bn.assume fun d=>bn.less (enter89 (by simp) (R:=fun u h'=>∃b,u = .slice (some ⟨b,0,none⟩) 2 2/\h b=none/\G b=none/\(h.set b (.cells #[p.x,p.y,(east p).1,(east p).2] 28 (0,0))).le h') ?_) ?_;rotate_left
 . rintro v h' ⟨b,e,h1,h2,h3⟩;exact ⟨_,h3,b,e,h1,h2,rfl⟩
 unfold S89;simp only [bRpF];intro x hx gx;generalize e1:Hp.set h x _=h1;obtain ⟨l1,d1,b1⟩:=boxed e1 hx d gx;have c0:=fun j=>st.cell d1 j;try simp (disch:=first|decide|exact b8|exact bw|omega|rfl) only [bRpF,Nat.reduceAdd,ix81 (by decide:(0:Int)<=1) (by decide:(1:Int)<(4:Nat)),Int.toNat_one,Nat.one_mul,c0,Hv]
 intro y hy gy;generalize e2:Hp.set h1 y _=h2;obtain ⟨l2,d2,b2⟩:=boxed e2 hy d1 gy;have cx:∀j,bf G h2 ⟨x,j,none⟩=_:=fun j=>bm (bj (l2 _ _ b1));have cy:∀j,bf G h2 ⟨y,j,none⟩=_:=fun j=>bm (bj b2);have L:=l1.trans l2;try simp only [bRpF,cx]
 unfold east wr;cases hd:p.d with
 |false=>
  try simp only [bRpF]
  unfold Sw;try simp (disch:=first|decide|omega) only [bRpF,cx,cy]
  rw [show (p.y+0:Int)=p.y by omega];intro b hb gb;exact ⟨b,rfl,L.none hb,gb,L.both⟩
 |true=>
  have c2:=fun j=>st.cell d2 j;try simp only [bRpF,Nat.reduceAdd,Nat.reduceMul,ix81 (by decide:(0:Int)<=2) (by decide:(2:Int)<(4:Nat)),show Int.toNat 2=2 from rfl,c2,Hv]
  rw [vd sz28 b2 (by simp [ou]) (by simp) (by simp [ou,ls])];have nxy:x≠y:=il b1 hy;generalize e3:Hp.set h2 y _=h3;have cx3:∀j,bf G h3 ⟨x,j,none⟩=[Value.int .i64 p.x,.int .i64 p.y,.bool p.d][j]?:=fun j=>by rw [<- e3,bv nxy];exact cx j
  have cy3:∀j,bf G h3 ⟨y,j,none⟩=[Value.int .i64 0,.int .i64 1][j]?:=fun j=>by rw [<- e3,bm (bj bh)];first|rfl|simp [putL,ou]
  have L3:h.le h3:=by rw [<- e3];exact L.set (l1.none hy)
  unfold Sw;try simp (disch:=first|decide|omega) only [bRpF,cx3,cy3]
  rw [show (p.x+0:Int)=p.x by omega];intro b hb gb;exact ⟨b,rfl,L3.none hb,gb,L3.both⟩
def bRpG:=jq bC (jq (jq @aH_ (jq @cf62 @cf89)) (jq @ld28 (jq @ld30 @true_and)))
def eu (w k:Nat) (f:Nat->Nat->Int) (p:Pose):Bool:=qe w k f (p.x,p.y)&&qe w k f (east p)
theorem p8 {G h:Hp} {g:Value} {w k:Nat} {f:Nat->Nat->Int} {p:Pose} (s:GS G h g w k f) (st:lg G) (hp:PB p):bn P_ G 61 #[g,mq p] h (fun u h'=>u = .bool (eu w k f p)/\h'=h):=by
 refine bn.assume fun d=>quietly (enter61 (by simp) ?_);unfold S61;simp only [bRpG];intro x hx gx;generalize e1:Hp.set h x _=h1;obtain ⟨l1,d1,b1⟩:=boxed e1 hx d gx;have cx:∀j,bf G h1 ⟨x,j,none⟩=_:=fun j=>bm (bj b1);try simp (disch:=first|decide|omega) only [bRpG,Nat.reduceAdd,Nat.reduceMul,cx]
 refine (qy (g:=g) (p:=p) st hp).mono ?_;rintro _ _ ⟨b,rfl,hb,gb,rfl⟩;generalize e3:Hp.set h1 b _=h3;obtain ⟨l3,d3,b3⟩:=boxed e3 hb d1 gb;have L:=l1.trans l3;have cb3:∀k,bf G h3 ⟨b,k,none⟩=_:=fun k=>bm (bj b3);try simp only [bRpG,cb3,ix22 (by decide:(0:Int)<=0) (by decide:(0:Int)<(2:Nat)),ca_,bH_]
 refine (Ck (c:=(p.x,p.y)) (s.up L d3)).mono ?_;rintro _ _ ⟨rfl,rfl⟩;unfold eu;cases hc:qe w k f (p.x,p.y)with
 |false=>simp only [bRpG,hc];exact ⟨rfl,L⟩
 |true=>
 try simp only [bRpG,Nat.reduceAdd,cb3,ix22 (by decide:(0:Int)<=1) (by decide:(1:Int)<(2:Nat)),Int.toNat_one,Nat.one_mul]
 refine (Ck (c:=east p) (s.up L d3)).mono ?_;rintro _ _ ⟨rfl,rfl⟩;try simp only [bRpG]
 first|exact L|exact ⟨by simp,L⟩
theorem Uo {α:Type} (c:Cod α) (hn:c.n=1) {L:List α} {i:Nat} {x:α} {v:Value} (hv:c.enc x=[v]) (hi:i<L.length):(c.rows L).set i v=c.rows (L.set i x):=by have h:=c.rows_put (t:=[]) (x:=x) hi;rw [av_,av_,hn,aW_,hv]at h;rw [<- h,ut _ _ _ (by rw [c.rows_length,hn];simp;omega)];rw [b4_,ak_ (by rw [c.rows_length,hn];omega)];simp
theorem us {α:Type} (c:Cod α) (hn:c.n=1) {L:List α} {i:Nat} {x:α} {v:Value} (hv:c.enc x=[v]) (hx:L[i]?=some x):(c.rows L)[i]?=some v:=by have h:=c.rows_get (t:=[]) (j:=0) hx (by omega);rw [av_,hn,aW_,bc_,hv]at h;exact h
structure GO (a:Hp) (gp kb:Nat) (w k:Nat) (f:Nat->Nat->Int):Prop where
 hd:a gp=some (.cells #[w,k,.slice (some ⟨kb,0,none⟩) (w*k) (w*k)] 215 (0,0))
 row:a kb=some (.cells (icC.rows (lw w k f)).toArray 3 (0,0))
 w1:1<=w
 w2:w<=16
 k1:1<=k
 k2:k<=16
theorem GO.ne {a:Hp} {gp kb w k:Nat} {f:Nat->Nat->Int} (g:GO a gp kb w k f):gp≠kb:=fun e=>by have h1:=g.hd;have h2:=g.row;rw [e,h2]at h1;simp at h1
theorem GO.le {a h:Hp} {gp kb w k:Nat} {f:Nat->Nat->Int} (g:GO a gp kb w k f) (l:a.le h):GO h gp kb w k f:=⟨l _ _ g.hd,l _ _ g.row,g.w1,g.w2,g.k1,g.k2⟩
theorem GO.gs {G a:Hp} {gp kb w k:Nat} {f:Nat->Nat->Int} (g:GO a gp kb w k f):GS G a (.pointer (some ⟨gp,0,none⟩)) w k f:=
 ⟨⟨gp,kb,rfl,fun j hj=>bm (bj g.hd),fun n x hx=>by rw [bm (bj g.row)];exact us icC rfl rfl hx⟩,g.w1,g.w2,g.k1,g.k2⟩
theorem GO.put {a:Hp} {gp kb w k:Nat} {f:Nat->Nat->Int} (g:GO a gp kb w k f) {x y:Nat} {v:Int} (hx:x<w) (hy:y<k):
 GO (a.set kb (.cells ((icC.rows (lw w k f)).set (y*w+x) (.int .i64 v)).toArray 3 (0,0))) gp kb w k (fun p q=>if p=x/\q=y then v else f p q):=by refine ⟨by rw [ci g.ne];exact g.hd,?_,g.w1,g.w2,g.k1,g.k2⟩;rw [bh,Uo icC rfl (x:=v) rfl,Pb hx];rw [gv];have:(y+1)*w<=k*w:=aU_ _ hy;rw [bD_]at this;rw [bi_ w k];omega
def MK (a:Hp) (mb w k:Nat) (f:Nat->Nat->Bool):Prop:=a mb=some (.cells (bcC.rows (lw w k f)).toArray 4 (0,0))
theorem MK.put {a:Hp} {mb w k:Nat} {f:Nat->Nat->Bool} (g:MK a mb w k f) {x y:Nat} {v:Bool} (hx:x<w) (hy:y<k):
 MK (a.set mb (.cells ((bcC.rows (lw w k f)).set (y*w+x) (.bool v)).toArray 4 (0,0))) mb w k (fun p q=>if p=x/\q=y then v else f p q):=by unfold MK;rw [bh,Uo bcC rfl (x:=v) rfl,Pb hx];rw [gv];have:(y+1)*w<=k*w:=aU_ _ hy;rw [bD_]at this;rw [bi_ w k];omega
theorem yf {w k:Nat} {c:Cell} (hc:inW w k c=true):numI w k c=((c.2.toNat*w+c.1.toNat:Nat):Int)/\c.1.toNat<w/\c.2.toNat<k/\c.2.toNat*w+c.1.toNat<w*k:=by
 obtain ⟨a1,a2,a3,a4⟩:=jr.1 hc;refine ⟨?_,by omega,by omega,?_⟩
 . unfold numI;rw [ak_ hc];rw [Int.natCast_add,b6_,aD_ a1,aD_ a3]
 . have:(c.2.toNat+1)*w<=k*w:=aU_ _ (by omega);rw [bD_]at this;rw [bi_ w k];omega
def kd (T:List Cell) (nb:Nat) (x y:Nat):Int:=if ((x:Int),(y:Int))∈T then (if T.idxOf ((x:Int),(y:Int))<nb then -1 else (T.idxOf ((x:Int),(y:Int)):Int)-nb+1)else 0
def jk (T:List Cell) (x y:Nat):Bool:=decide (((x:Int),(y:Int))∈T)
theorem kd_snoc {T:List Cell} {nb:Nat} {c:Cell} (hc:c∉T) (h1:0<=c.1) (h2:0<=c.2):kd (T++[c]) nb=fun p q=>if p=c.1.toNat/\q=c.2.toNat then (if T.length<nb then -1 else (T.length:Int)-nb+1)else kd T nb p q:=by
 funext p q;unfold kd;by_cases hpq:p=c.1.toNat/\q=c.2.toNat
 . have e:((p:Int),(q:Int))=c:=by rw [hpq.1,hpq.2,aD_ h1,aD_ h2]
   rw [ak_ hpq,e,ak_ (by simp),b8_,ah_ hc,List.idxOf_cons_self,a1_]
 . have e:((p:Int),(q:Int))≠c:=fun e=>hpq (by rw [<- e];simp);rw [ah_ hpq];by_cases hm:((p:Int),(q:Int))∈T
   . rw [ak_ (by simp [hm]),ak_ hm,b8_,ak_ hm]
   . rw [ah_ (by simp [hm,e]),ah_ hm]
theorem Gy {T:List Cell} {c:Cell} (h1:0<=c.1) (h2:0<=c.2):jk (T++[c])=fun p q=>if p=c.1.toNat/\q=c.2.toNat then true else jk T p q:=by
 funext p q;unfold jk;by_cases hpq:p=c.1.toNat/\q=c.2.toNat
 . have e:((p:Int),(q:Int))=c:=by rw [hpq.1,hpq.2,aD_ h1,aD_ h2]
   rw [ak_ hpq,e];simp
 . have e:((p:Int),(q:Int))≠c:=fun e=>hpq (by rw [<- e];simp);rw [ah_ hpq];simp [e]
def bRpH:=jq bC (jq (jq (jq (jq @a3_.{0} @al28) (jq @xa @cf88)) (jq (jq @Fq @aC6) (jq @Ld (jq @Sd @Kw)))) (jq (jq (jq @Rw @ld22) (jq @aa1 (jq @ld28 @ld4))) (jq (jq @ln22 @ln22p) (jq @li (jq @jc @Ud)))))
theorem O2 {G h:Hp} {v:Value} {L:List Cell} (sv:Sees dy G h v L) (hL:L.length<=1000):bn P_ G 157 #[v] h (fun u h'=>∃b,Slc dy 28 b u L/\Sep [b,h] h'/\Dis G h'):=by
 obtain ⟨sa,cap,rfl⟩:=sv.len;refine bn.assume fun d=>aG2 (by simp) ?_;unfold S157;simp only [bRpH];by_cases hL0:L=[]
 . subst hL0;try simp only [bRpH,a3_,show (((0:Nat):Int)==0)=true from rfl]
   exact ⟨noHp,Slc.nil,Sep.one.none,d⟩
 . have hpos:=bB_.2 hL0
   have e:((L.length:Int)==0)=false:=by
    have:(L.length:Int)≠0:=by omega
    simpa using this
   try simp only [bRpH,e]
   unfold af8;try simp (disch:=decide) only [bRpH]
   rw [tf dy (0,0) (by decide) un22 eocell (by kernel_rfl) (by omega) (by omega)];intro x hx gx;have d1:=d.set (o := .cells (dy.rows (List.replicate L.length (0,0))).toArray 28 (0,0)) gx;rw [Wn dy (by decide) un22 eocell (L:=L) bh (by simp) (sv.up (dw hx) d1) hL0 rfl,set_set];try simp (disch:=first|decide|omega) only [bRpH,Nat.reduceAdd,Nat.reduceMul]
   exact ⟨noHp.set x _,⟨some x,_,[],rfl,by rw [bh,av_],by rw [av_,dy.rows_length]⟩,Sep.one.new hx,d.set gx⟩
structure T2 (C:Conf):Prop where
 w:cj C.w 1 16=true
 h:cj C.h 1 16=true
 po8:C.po.length<=8
 few:(C.bl.length:Int)<=C.w*C.h
 all:∀c∈C.bl++C.po,inW C.w.toNat C.h.toNat c=true
 once:(C.bl++C.po).Nodup
theorem G4 {G h:Hp} {mb n:Nat} {i:Nat} {K:VK} (h2:i<n):wpH P_ G (Instr.indexAt 90 (.slice (some ⟨mb,0,none⟩) n n) (.int .i64 (i:Int))) h K=K (.pointer (some ⟨mb,i,none⟩)) h:=by rw [ix90 (by omega) (by omega)];simp only [ox,a1_,aW_,aP_]
theorem O6 {G h:Hp} {kb n:Nat} {i:Nat} {K:VK} (h2:i<n):wpH P_ G (Instr.indexAt 168 (.slice (some ⟨kb,0,none⟩) n n) (.int .i64 (i:Int))) h K=K (.pointer (some ⟨kb,i,none⟩)) h:=by rw [Vp (by omega) (by omega)];simp only [ox,a1_,aW_,aP_]
theorem ix57np {G h:Hp} {kb n:Nat} {i:Nat} {K:Value->Prop} (h2:i<n):pw P_ G h (Instr.indexAt 168 (.slice (some ⟨kb,0,none⟩) n n) (.int .i64 (i:Int))) K=K (.pointer (some ⟨kb,i,none⟩)):=by rw [X4 (by omega) (by omega)];simp only [ox,a1_,aW_,aP_]
theorem Xv {G a h:Hp} {mb w k:Nat} {f:Nat->Nat->Bool} (m:MK a mb w k f) (l:a.le h) {x y:Nat} (hx:x<w) (hy:y<k):bf G h ⟨mb,y*w+x,none⟩=some (.bool (f x y)):=by rw [bm (bj (l _ _ m))];exact us bcC rfl rfl (yr hx hy)
theorem aq3 {G h1:Hp} {C:Conf} {ab:Option Addr} {cb:Nat} {x gp kb mb w k:Nat} {ip:Hp} {iv:Value} {T:List Cell} {KK:EK}
 (cx0:∀h3,h1.le h3->Dis G h3->bf G h3 ⟨x,3,none⟩=some (.slice ab C.bl.length cb)) (hT:T.length<=1000) (hB:C.bl.length<=1000) (o:Slc dy 28 ip iv T) (hk:1<=w/\w<=16/\1<=k/\k<=16)
 (r:Rg) (h:Hp) (ga ma:Hp) (g1:r 1 = .pointer (some ⟨x,0,none⟩)) (g4:r 4 = .pointer (some ⟨gp,0,none⟩)) (g5:r 5 = .slice (some ⟨mb,0,none⟩) (w*k) (w*k)) (g59:r 59=iv) (g60:r 60 = .int .i64 T.length) (g61:r 61 = .int .i64 0)
 (go:GO ga gp kb w k (kd [] C.bl.length)) (mk:MK ma mb w k (jk [])) (s:Sep [ga,ma,ip,h1] h) (d:Dis G h)
 (H1:(∀c∈T,inW w k c=true)->T.Nodup->∀(r':Rg) h' ga',r' 4=r 4->GO ga' gp kb w k (kd T C.bl.length)->Sep [ga',h1] h'->Dis G h'->KK (.exit 0) r' h')
 (H2:¬((∀c∈T,inW w k c=true)/\T.Nodup)->∀(r':Rg) h',r' 2 = .pointer none->r' 3 = .bool false->h1.le h'->Dis G h'->KK .ret r' h'):du (Tr G) r h KK:=by
 obtain ⟨sa,cap,rfl,hcap⟩:=o.len (by decide)
 refine dt (fun m r2 h3=>∃(i:Nat) (ga ma:Hp),m=T.length-i/\i<=T.length/\r2 1=r 1/\r2 4=r 4/\r2 5=r 5/\r2 59=r 59/\r2 60=r 60/\r2 61 = .int .i64 i/\(∀c∈T.take i,inW w k c=true)/\(T.take i).Nodup/\
  GO ga gp kb w k (kd (T.take i) C.bl.length)/\MK ma mb w k (jk (T.take i))/\Sep [ga,ma,ip,h1] h3/\Dis G h3) ?_
  (m:=T.length) ⟨0,ga,ma,rfl,au_ _,rfl,rfl,rfl,rfl,rfl,by rw [g61];rfl,by simp,by simp,by simpa using go,by simpa using mk,s,d⟩
 rintro m r2 h3 ⟨i,ga,ma,rfl,hi,q1,q4,q5,q59,q60,q61,hin,hnd,go,mk,s3,d3⟩ X HX;rw [g1]at q1;rw [g4]at q4;rw [g5]at q5;rw [g59]at q59;rw [g60]at q60;unfold Tr;simp only [bRpH,q60,q61];refine df (fun hlt=>?_) (fun hge=>?_);rotate_left
 . obtain rfl:i=T.length:=by omega
   rw [am_ (aj_ _)]at hin hnd go;exact H1 hin hnd _ _ ga (by simp (disch:=decide) only [bRpH,q4,g4]) go ((s3.pick 3 rfl rfl).swap.take 2 rfl) d3
 have hlt':i<T.length:=by omega
 obtain ⟨y,hy⟩:∃x,T[i]?=some x:=⟨_,aa_ hlt'⟩;obtain ⟨b,ofs,rfl,z0,z1⟩:=Sees.cell (G:=G) (o.sees (by decide) (s3.in 2 rfl)) hy;unfold M7;simp (disch:=first|decide|exact b8|exact bw|omega|rfl) only [bRpH,q59,q61,ix22 (ac_ i) hlt,z0,z1];intro t ht gt;have s4:=s3.past (o := .cells #[y.1,y.2] 28 (0,0)) ht;have d4:=d3.set (o := .cells #[y.1,y.2] 28 (0,0)) gt;try simp only [bRpH,q4]
 generalize Hp.set h3 t _=h4 at s4 d4 ⊢;refine (qk (c:=y) ((go.gs (G:=G)).up s4.hd d4)).mono ?_;rintro _ h4 ⟨rfl,rfl⟩;have hyT:y∈T:=ab_ hy;cases hc:inW w k y with
 |false=>
  try simp only [bRpH,Kr hc,show decide ((-1:Int)<0)=true from rfl]
  refine H2 (fun q=>?_) _ _ (by simp (disch:=decide) only [bRpH]) (by simp only [bRpH]) (s4.in 3 rfl) d4;have:=q.1 y hyT;rw [hc]at this;cases this
 |true=>
 obtain ⟨hn,hx,hyk,hlt2⟩:=yf hc;have hxy:((y.1.toNat:Int),(y.2.toNat:Int))=y:=by obtain ⟨a1,a2,a3,a4⟩:=jr.1 hc;rw [aD_ a1,aD_ a3]
 obtain ⟨a1,a2,a3,a4⟩:=jr.1 hc;have mg:=Xv (G:=G) mk (s4.in 1 rfl) hx hyk;rw [show jk (T.take i) y.1.toNat y.2.toNat=decide (y∈T.take i)by unfold jk;rw [hxy]]at mg;rw [hn];generalize hnn:y.2.toNat*w+y.1.toNat=n at hn hlt2 mg;try simp only [bRpH,show decide ((n:Int)<0)=false from ai_ (by omega),q5,G4 hlt2,mg]
 by_cases hmem:y∈T.take i
 . try simp only [bRpH,af_ hmem]
   exact H2 (fun q=>yg hy hmem q.2) _ _ (by simp (disch:=decide) only [bRpH]) (by simp only [bRpH]) (s4.in 3 rfl) d4
 try simp only [bRpH,ai_ hmem]
 unfold M6;have mb4:=s4.at 1 rfl mk;try simp (disch:=decide) only [bRpH,q5,G4 hlt2]
 rw [ec sz4 rfl mb4 (by rw [bcC.rows_length,gv];simp [bcC];exact hlt2)];have s5:=(s4.pick 1 rfl rfl).put (o := .cells ((bcC.rows (lw w k (jk (T.take i)))).set n (.bool true)).toArray 4 (0,0)) mk;have d5:Dis G (h4.set mb (.cells ((bcC.rows (lw w k (jk (T.take i)))).set n (.bool true)).toArray 4 (0,0))):=d4.set (d4 _ _ mb4);generalize Hp.set h4 mb _=h5 at s5 d5 ⊢;have g5h:=s5.at 1 rfl go.hd;have cg5:∀j,bf G h5 ⟨gp,j,none⟩=_:=fun j=>bm (bj g5h);try simp only [bRpH,q4,cg5,O6 hlt2]
 have kb5:=s5.at 1 rfl go.row;rw [ec sz3 rfl kb5 (by rw [icC.rows_length,gv];simp [icC];exact hlt2)];have go6:=go.put (v := -1) hx hyk;rw [hnn]at go6;have s6:=(s5.pick 1 rfl rfl).put (o := .cells ((icC.rows (lw w k (kd (T.take i) C.bl.length))).set n (.int .i64 (-1))).toArray 3 (0,0)) go.row;have d6:Dis G (h5.set kb (.cells ((icC.rows (lw w k (kd (T.take i) C.bl.length))).set n (.int .i64 (-1))).toArray 3 (0,0))):=d5.set (d5 _ _ kb5);generalize Hp.set h5 kb _=h6 at s6 d6 ⊢;have c3:=cx0 h6 (s6.in 3 rfl) d6;have mk6:=mk.put (v:=true) hx hyk;rw [hnn]at mk6;have htl:(T.take i).length=i:=by rw [aN_];omega
 have next:∀(r3:Rg) h7 ga7,r3 1=r2 1->r3 4=r2 4->r3 5=r2 5->r3 59=r2 59->r3 60=r2 60->r3 61=r2 61->GO ga7 gp kb w k (kd (T.take (i+1)) C.bl.length)->Sep [ga7,ma.set mb (.cells ((bcC.rows (lw w k (jk (T.take i)))).set n (.bool true)).toArray 4 (0,0)),ip,h1] h7->Dis G h7->Ac G (di X KK) r3 h7:=by
  intro r3 h7 ga7 w1 w4 w5 w59 w60 w61 go7 s7 d7;unfold Ac;have w61':=w61.trans q61;simp (disch:=first|decide|omega) only [bRpH,w61'];refine HX (T.length-(i+1)) _ _ (by omega) ⟨i+1,ga7,_,rfl,hlt',by simp (disch:=decide) only [bRpH,w1,q1,g1],by simp (disch:=decide) only [bRpH,w4,q4,g4],by simp (disch:=decide) only [bRpH,w5,q5,g5],by simp (disch:=decide) only [bRpH,w59,q59,g59],by simp (disch:=decide) only [bRpH,w60,q60,g60],by simp only [bRpH]<;>rfl,?_,Aj hy hnd hmem,go7,?_,s7,d7⟩
  . rw [ik hy];intro c hc';rcases ao_.1 hc' with q|q
    . exact hin c q
    . simp at q;rw [q];exact hc
  . rw [ik hy,Gy a1 a3];exact mk6
 have kds:=kd_snoc (nb:=C.bl.length) hmem a1 a3;rw [<- ik hy,htl]at kds;try simp (disch:=first|decide|omega) only [bRpH,q1,c3,q61]
 by_cases hib:i<C.bl.length
 . have e:decide ((i:Int)>=(C.bl.length:Int))=false:=ai_ (by omega);try simp only [bRpH,e]
   refine next _ _ _ (by simp (disch:=decide) only [bRpH,q1]) (by simp (disch:=decide) only [bRpH,q4]) (by simp (disch:=decide) only [bRpH,q5]) (by simp (disch:=decide) only [bRpH,q59]) (by simp (disch:=decide) only [bRpH,q60]) (by simp (disch:=decide) only [bRpH,q61]) ?_ (s6.swap.swap) d6
   rw [kds,ak_ hib];exact go6
 . have e:decide ((i:Int)>=(C.bl.length:Int))=true:=af_ (by omega);have g6h:=s6.at 0 rfl go6.hd;have cg6:∀j,bf G h6 ⟨gp,j,none⟩=_:=fun j=>bm (bj g6h);try simp only [bRpH,e,q4,cg6,q1,c3,ix57np hlt2]
   have kb6:=s6.at 0 rfl go6.row;rw [ec sz3 rfl kb6 (by rw [icC.rows_length,gv];simp [icC];exact hlt2)];have go7:=go6.put (v:=(i:Int)-C.bl.length+1) hx hyk;rw [hnn]at go7;have s7:=s6.put (o := .cells ((icC.rows (lw w k fun p q=>if p=y.1.toNat/\q=y.2.toNat then -1 else kd (T.take i) C.bl.length p q)).set n (.int .i64 ((i:Int)-C.bl.length+1))).toArray 3 (0,0)) go6.row;refine next _ _ _ (by simp (disch:=decide) only [bRpH,q1]) (by simp (disch:=decide) only [bRpH,q4]) (by simp (disch:=decide) only [bRpH,q5]) (by simp (disch:=decide) only [bRpH,q59]) (by simp (disch:=decide) only [bRpH,q60]) (by simp (disch:=decide) only [bRpH,q61]) ?_ s7 (d6.set (d6 _ _ kb6))
   rw [kds,ah_ hib];have e2:(fun p q=>if p=y.1.toNat/\q=y.2.toNat then (i:Int)-C.bl.length+1 else if p=y.1.toNat/\q=y.2.toNat then -1 else kd (T.take i) C.bl.length p q)=fun p q=>if p=y.1.toNat/\q=y.2.toNat then (i:Int)-C.bl.length+1 else kd (T.take i) C.bl.length p q:=by funext p q;by_cases h:p=y.1.toNat/\q=y.2.toNat<;>simp [h]
   rw [<- e2];exact go7
def bRpJ:=jq bC (jq (jq (jq (jq @Sn @kv) (jq @yu (jq @Wq @cf157))) (jq (jq @zq @ab7) (jq @Bv (jq @ab4 @Ld)))) (jq (jq (jq @Sd @Sc) (jq @Sb (jq @ld22 @aa1))) (jq (jq @ld3 @ld3p) (jq @ln22 (jq @ln22p @nq)))))
theorem wq {α:Type} {w k:Nat} {d:α}:lw w k (fun _ _=>d)=List.replicate (w*k) d:=by
 apply bg_;intro n;by_cases hn:n<w*k
 . rw [yt hn,bS_,ak_ hn]
 . rw [a4_ (by rw [gv];omega),a4_ (by simp;omega)]
theorem kd_nil {nb:Nat}:kd [] nb=fun _ _=>0:=by funext x y;simp [kd]
theorem Kf:jk []=fun _ _=>false:=by funext x y;simp [jk]
theorem eobool:iu P_ 4 bcC.n 1:=⟨by kernel_rfl,by kernel_rfl,by kernel_rfl⟩
def LaidR (G h:Hp) (C:Conf) (u:Value) (h':Hp):Prop:=h.le h'/\Dis G h'/\
 ((T2 C/\∃ga gp kb,u = .tuple #[.pointer (some ⟨gp,0,none⟩),.bool true]/\GO ga gp kb C.w.toNat C.h.toNat (kd (C.bl++C.po) C.bl.length)/\Sep [ga,h] h')\/(¬T2 C/\u = .tuple #[.pointer none,.bool false]))
theorem aq2 {G h:Hp} {v:Value} {C:Conf} (hv:CV G h v C):bn P_ G 130 #[v] h (LaidR G h C):=by
 obtain ⟨ab,cb,ap,cp,ar,cr,az,cs,rfl,ca⟩:=hv;refine bn.assume fun d=>aI5 (by simp) ?_;unfold S130;simp (disch:=decide) only [bRpJ];intro x hx gx;have s1:=Sep.one.past (h:=h) (o := .cells #[C.w,C.h,C.ht,.slice ab C.bl.length cb,.slice ap C.po.length cp,.slice ar C.ro.length cr,.slice az C.st.length cs,C.un,C.ac,C.sp,C.tu,C.ho,C.qu,C.re,C.bu,.bool C.back] 26 (0,0)) hx;generalize e1:Hp.set h x _=h1 at s1;obtain ⟨l1,d1,b1⟩:=boxed e1 hx d gx;have cx:∀j,bf G h1 ⟨x,j,none⟩=_:=fun j=>bm (bj b1);try simp (disch:=first|decide|omega) only [bRpJ,Nat.reduceAdd,Nat.reduceMul,cx]
 refine (kw (n:=C.w) (a:=1) (b:=16)).mono ?_;rintro _ _ ⟨rfl,rfl⟩;cases hw:cj C.w 1 16 with
 |false=>
  try simp only [bRpJ]
  exact ⟨l1,d1,.inr ⟨fun q=>absurd (q.w.symm.trans hw) (by decide),rfl⟩⟩
 |true=>
 try simp only [bRpJ,cx]
 refine (kw (n:=C.h) (a:=1) (b:=16)).mono ?_;rintro _ h1 ⟨rfl,rfl⟩;cases hk:cj C.h 1 16 with
 |false=>
  try simp only [bRpJ]
  exact ⟨l1,d1,.inr ⟨fun q=>absurd (q.h.symm.trans hk) (by decide),rfl⟩⟩
 |true=>
 have hw':=hw;have hk':=hk;unfold cj at hw' hk';simp only [ag_,aw_]at hw' hk';obtain ⟨w,hwn⟩:∃w:Nat,C.w=w:=⟨C.w.toNat,by omega⟩;obtain ⟨k,hkn⟩:∃k:Nat,C.h=k:=⟨C.h.toNat,by omega⟩;try simp only [bRpJ,cx]
 by_cases hP:C.po.length<=8;rotate_left
 . try simp only [bRpJ,show decide ((C.po.length:Int)>8)=true from af_ (by omega)]
   exact ⟨l1,d1,.inr ⟨fun q=>hP q.po8,rfl⟩⟩
 have hm:C.w*C.h=((w*k:Nat):Int):=by rw [hwn,hkn,b6_]
 have hm2:w*k<=16*16:=bw_ (by omega) (by omega);have hwr:IntKind.i64.wrap (C.w*C.h)=((w*k:Nat):Int):=by rw [hm,ng (by omega) (by omega)]
 try simp only [bRpJ,show decide ((C.po.length:Int)>8)=false from ai_ (by omega),cx,hwr]
 by_cases hB:C.bl.length<=w*k;rotate_left
 . try simp only [bRpJ,show decide ((C.bl.length:Int)>((w*k:Nat):Int))=true from af_ (by omega)]
   exact ⟨l1,d1,.inr ⟨fun q=>hB (by have:=q.few;rw [hm]at this;omega),rfl⟩⟩
 try simp only [bRpJ,show decide ((C.bl.length:Int)>((w*k:Nat):Int))=false from ai_ (by omega)]
 unfold aj4;refine ⟨h1,Hp.le.refl _,?_⟩;try simp (disch:=decide) only [bRpJ,cx,hwr]
 rw [tf icC 0 (by decide) Ht eoint (by kernel_rfl) (by omega) (by omega)];intro kb hkb gkb;refine ⟨dw hkb,?_⟩;try simp only [bRpJ]
 intro gp hgp ggp;have s2:=(Sep.one.new (o := .cells (icC.rows (List.replicate (w*k) 0)).toArray 3 (0,0)) hkb).grow (o := .cells #[C.w,C.h,.slice (some ⟨kb,0,none⟩) (w*k) (w*k)] 215 (0,0)) hgp;have d2:=(d1.set (o := .cells (icC.rows (List.replicate (w*k) 0)).toArray 3 (0,0)) gkb).set (o := .cells #[C.w,C.h,.slice (some ⟨kb,0,none⟩) (w*k) (w*k)] 215 (0,0)) ggp;have ngk:kb≠gp:=ju hgp
 have go0:GO ((noHp.set kb (.cells (icC.rows (List.replicate (w*k) 0)).toArray 3 (0,0))).set gp (.cells #[C.w,C.h,.slice (some ⟨kb,0,none⟩) (w*k) (w*k)] 215 (0,0))) gp kb w k (kd [] C.bl.length):=
  ⟨by rw [bh,hwn,hkn],by rw [ci ngk,bh,kd_nil,wq],by omega,by omega,by omega,by omega⟩
 generalize (noHp.set kb (.cells (icC.rows (List.replicate (w*k) 0)).toArray 3 (0,0))).set gp (.cells #[C.w,C.h,.slice (some ⟨kb,0,none⟩) (w*k) (w*k)] 215 (0,0))=ga at s2 go0;generalize Hp.set (Hp.set h1 kb _) gp _=h2 at s2 d2 ⊢;have cx2:∀j,bf G h2 ⟨x,j,none⟩=_:=fun j=>bm (bj (s2.in 1 rfl _ _ b1));try simp only [bRpJ,cx2,hwr]
 rw [tf bcC false (by decide) un90 eobool (by kernel_rfl) (by omega) (by omega)];intro mb hmb gmb;have s3:=s2.new (o := .cells (bcC.rows (List.replicate (w*k) false)).toArray 4 (0,0)) hmb;have d3:=d2.set (o := .cells (bcC.rows (List.replicate (w*k) false)).toArray 4 (0,0)) gmb;have mk0:MK (noHp.set mb (.cells (bcC.rows (List.replicate (w*k) false)).toArray 4 (0,0))) mb w k (jk []):=by unfold MK;rw [bh,Kf,wq]
 generalize noHp.set mb (.cells (bcC.rows (List.replicate (w*k) false)).toArray 4 (0,0))=ma at s3 mk0;generalize Hp.set h2 mb _=h3 at s3 d3 ⊢;have l3:h1.le h3:=s3.in 2 rfl;have cx3:∀j,bf G h3 ⟨x,j,none⟩=_:=fun j=>bm (bj (l3 _ _ b1));have ca3:=ca.up (l1.trans l3) d3;refine ⟨h3,Hp.le.refl _,?_⟩;try simp only [bRpJ,cx3]
 refine (O2 ca3.bl (by omega)).mono ?_;rintro v4 h4 ⟨ip,o4,s4,d4⟩;refine ⟨s4.in 1 rfl,?_⟩;try simp (disch:=first|decide|omega) only [bRpJ,Nat.reduceAdd,Nat.reduceMul,cx3]
 refine fh dy (by decide) un22 eocell (by decide) (by decide) s4 d4 o4 (ca3.po.up (s4.in 1 rfl) d4) (by omega) fun v5 ip5 h5 o5 s5 d5=>?_;have s6:=(s5.split s3).pick 2 rfl rfl;have s7:Sep [ga,ma,ip5,h1] h5:=s6.pick 2 rfl rfl |>.swap
 obtain ⟨sa5,cp5,rfl,_⟩:=o5.len (by decide);try simp only [bRpJ]
 refine aq3 (C:=C) (ab:=ab) (cb:=cb) (x:=x) (T:=C.bl++C.po) (fun h6 l6 d6=>by rw [bm (bj (l6 _ _ b1))];rfl) (by rw [ae_];omega) (by omega) o5 ⟨by omega,by omega,by omega,by omega⟩ _ _ ga ma
  (by simp (disch:=decide) only [bRpJ]) (by simp (disch:=decide) only [bRpJ]) (by simp (disch:=decide) only [bRpJ]) (by simp (disch:=decide) only [bRpJ]) (by simp (disch:=decide) only [bRpJ]) (by simp only [bRpJ]) go0 mk0 s7 d5 (fun hin hnd r' h' ga' j4 go' s' d'=>?_) (fun hbad r' h' j2 j3 l' d'=>?_)
 . simp only [ky,if_true,jj];have j4':r' 4 = .pointer (some ⟨gp,0,none⟩):=j4.trans (by simp (disch:=decide) only [bRpJ]);unfold aj3;simp (disch:=decide) only [bRpJ,j4'];refine ⟨l1.trans (s'.in 1 rfl),d',.inl ⟨⟨hw,hk,hP,by rw [hm];omega,by rw [hwn,hkn];exact hin,hnd⟩,ga',gp,kb,rfl,by rw [hwn,hkn];exact go',?_⟩⟩;exact (s'.swap.cut l1).swap
 . simp only [bRpJ,j2,j3];exact ⟨l1.trans l',d',.inr ⟨fun q=>hbad ⟨by have:=q.all;rw [hwn,hkn]at this;exact this,q.once⟩,rfl⟩⟩
end Go.Proofs.YtfflipnhffknnaaGreatDoor
end

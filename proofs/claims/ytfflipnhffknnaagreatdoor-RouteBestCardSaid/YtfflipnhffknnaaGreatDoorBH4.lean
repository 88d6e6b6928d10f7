/- The layer of step rules over owned blocks. -/
import Derived.Test.YtfflipnhffknnaaGreatDoorBH3
import Derived.Test.YtfflipnhffknnaaGreatDoorBH2
set_option linter.unusedVariables false
set_option linter.unusedSimpArgs false
namespace Go.HL
open Go
theorem fq {w:Bool} {X:(Value->Hp->Prop)->Prop} {h:Hp} {K:VK}:gd (J1 undef w) X h K=K undef h:=by cases w<;>rfl
theorem boxed {G h h1:Hp} {x:Nat} {o:Obj} (e:h.set x o=h1) (hx:h x=none) (d:Dis G h) (gx:G x=none):h.le h1/\Dis G h1/\h1 x=some o:=by subst e;exact ⟨dw hx,d.set gx,bh⟩
theorem Xh {h h1:Hp} {b:Nat} {o:Obj} (e:h.set b o=h1):h1 b=some o:=by rw [<- e];exact bh
theorem Gv {h h1:Hp} {b c:Nat} {o:Obj} (e:h.set b o=h1) (hc:c≠b):h1 c=h c:=by rw [<- e];exact ci hc
theorem Zp {n d:Nat} {v:Value} {r:Rg} (hd:d<n):setR n #[d] #[v] r=upd r d v:=by unfold setR;simp [putR,hd]
theorem Gw {x y h:Hp} {R:List Hp} (s:Sep (x::y::R) h):∃b,Sep (b::R) h/\Sep [x,y] b:=by
 obtain ⟨s1,ap⟩:=s.join
 exact ⟨_,s1,⟨fun a ha=>by
  simp only [al_,aK_,or_false]at ha;rcases ha with rfl|rfl
  . exact Hp.le_join
  . exact Hp.le_join2 ap,by simp [ap]⟩⟩
theorem uz {x y z h:Hp} {R:List Hp} (s:Sep (x::y::z::R) h):∃b,Sep (b::R) h/\Sep [x,y,z] b:=by
 have s1:Sep (y::z::x::R) h:=s.rot.rot;obtain ⟨s2,a2⟩:=s1.join;obtain ⟨s3,a3⟩:=s2.swap.join;refine ⟨_,s3,fun a ha=>?_,(bd_ (l₁:=[x,y,z]) (l₂:=R)).1 s.2 |>.1⟩;simp only [al_,aK_,or_false]at ha;rcases ha with rfl|rfl|rfl
 . exact Hp.le_join
 . exact Hp.le_join.trans (Hp.le_join2 a3)
 . exact (Hp.le_join2 a2).trans (Hp.le_join2 a3)
section
variable {P:Program} {G:Hp} {α:Type}
theorem Hy {T e:TypeId} {n:Nat} (hu:P.underlying T=some (.slice e)) (hs:(P.info? e).map (·.size)=some n) {h:Hp} {K:VK}:
 wpH P G (Instr.sliceAt T (.slice none 0 0) (some (.int .i64 0)) none none) h K=K (.slice none 0 0) h:=by
 cases hi:P.info? e with
 |none=>rw [hi]at hs;cases hs
 |some x=>rw [hi]at hs;simp at hs;subst hs;simp [Instr.sliceAt,Instr.slice,Instr.sliceBounds,Instr.sliceBound,asIntOf,underlying,program,bind,Sem.bind,pure,wpH,dp,hu,sizeOf,typeInfo,hi]
theorem ad4 (c:Cod α) (hn:0<c.n) {T e:TypeId} {bytes:Nat} (hu:P.underlying T=some (.slice e)) (k:iu P e c.n bytes) {ty:TypeId} {h:Hp} {b off nd cap:Nat} {e':TypeId} {x:Value} {l:List Value} {M:List α}
 (hb:h b=some (.cells l.toArray e' (0,0))) (s:Src G h c.n x M.length (c.rows M)) (hle:M.length<=nd) (hfit:off+M.length*c.n<=l.length) {K:VK}:
 wpH P G (Builtin.copy_ #[T,T] ty #[.slice (some ⟨b,off,none⟩) nd cap,x]) h K=K (.int .i64 M.length) (h.set b (.cells (l.take off++c.rows M++l.drop (off+M.length*c.n)).toArray e' (0,0))):=by obtain ⟨i,z,hi,hsz,rfl,hz,hzc⟩:=k.get;have hb':∀(α β:Type) (s:Sem α) (g:α->Sem β),(s >>= g)=s.bind g:=fun _ _ _ _=>rfl;have hs:i.size=c.n:=hsz;simp only [Builtin.copy_,hb',underlying,program,sizeOf,typeInfo,Sem.bind,pure];simp only [wpH,dp,hu,hi,aV_,ar_,as_,yo s,hs];rw [show Nat.min M.length nd=M.length from bN_ hle,je s];rw [m7 (i:=off) (k:=0) (c.rows M).toArray.toList hb (by simp [c.rows_length];omega) (by simpa using c.rows_one M)];rw [ut _ _ _ (by simp [c.rows_length];omega)];simp [c.rows_length,goInt]
theorem Pk (c:Cod α) (hn:0<c.n) {T e:TypeId} {bytes:Nat} (hu:P.underlying T=some (.slice e)) (k:iu P e c.n bytes) {ty:TypeId} {h:Hp} {b off nd cap q oq m cx:Nat} {e':TypeId} {l:List Value} {M:List α}
 (hb:h b=some (.cells l.toArray e' (0,0))) (hm:Nat.min m nd=M.length) (s:∀j,j<(c.rows M).length->bf G h ⟨q,oq+j,none⟩=(c.rows M)[j]?) (hfit:off+M.length*c.n<=l.length) {K:VK}:
 wpH P G (Builtin.copy_ #[T,T] ty #[.slice (some ⟨b,off,none⟩) nd cap,.slice (some ⟨q,oq,none⟩) m cx]) h K=K (.int .i64 M.length) (h.set b (.cells (l.take off++c.rows M++l.drop (off+M.length*c.n)).toArray e' (0,0))):=by obtain ⟨i,z,hi,hsz,rfl,hz,hzc⟩:=k.get;have hb':∀(α β:Type) (s:Sem α) (g:α->Sem β),(s >>= g)=s.bind g:=fun _ _ _ _=>rfl;have hs:i.size=c.n:=hsz;have sr:Src G h c.n (.slice (some ⟨q,oq,none⟩) M.length cx) M.length (c.rows M):=⟨c.rows_length M,.inr ⟨q,oq,cx,rfl,s⟩⟩;have hl0:∀{h2:Hp} {K2:Nat->Hp->Prop},wpH P G (Builtin.lenOf (.slice (some ⟨q,oq,none⟩) m cx)) h2 K2=K2 m h2:=rfl;have hfc:∀{k:Nat},Builtin.firstCells c.n k (.slice (some ⟨q,oq,none⟩) m cx)=Builtin.firstCells c.n k (.slice (some ⟨q,oq,none⟩) M.length cx):=rfl;simp only [Builtin.copy_,hb',underlying,program,sizeOf,typeInfo,Sem.bind,pure];simp only [wpH,dp,hu,hi,aV_,ar_,as_,hl0,hs];rw [hm,hfc,je sr];rw [m7 (i:=off) (k:=0) (c.rows M).toArray.toList hb (by simp [c.rows_length];omega) (by simpa using c.rows_one M)];rw [ut _ _ _ (by simp [c.rows_length];omega)];simp [c.rows_length,goInt]
theorem W2 {T I e:TypeId} {κ:IntKind} {n bytes:Nat} (hu:P.underlying T=some (.slice e)) (hI:P.underlying I=some (.int κ)) (k:iu P e n bytes) (hb0:0<bytes) {ty:TypeId} {h:Hp} {base:Option Addr} {len cap m:Nat} {os:List Value}
 (s0:Src G h n (.slice base len cap) len os) (hc:cap<len+m) (hmax:(2*(len+m)+192)*bytes<=281474976710656) (hmax2:len+m<=1099511627776) {K:VK}
 (H:∀r cap' zs,h r=none->G r=none->len+m<=cap'->(os++zs).length=cap'*n->K (.slice (some ⟨r,0,none⟩) (len+m) cap') (h.set r (.cells (os++zs).toArray e (0,0)))):
 wpH P G (Builtin.append_ #[T,I] ty #[.slice base len cap,.int .i64 m]) h K:=by
 obtain ⟨i,z,hi,rfl,rfl,hz,hzc⟩:=k.get;have hb':∀(α β:Type) (s:Sem α) (g:α->Sem β),(s >>= g)=s.bind g:=fun _ _ _ _=>rfl;have c1:¬len+m<=cap:=by omega
 have hol:os.length=len*i.size:=s0.1;have c2:¬(((len+m:Nat):Int)>IntKind.i64.max/\(True\/i.bytes=0)):=by rintro ⟨h1,_⟩;have:IntKind.i64.max=9223372036854775807:=rfl;omega
 have c3:¬Builtin.nextslicecap (len+m) cap*i.bytes>2 ^ 48:=by have:=aU_ i.bytes (Rm (show cap<len+m from hc));omega
 have hmb:m*i.bytes<=281474976710656:=bo_ (aU_ _ (by omega)) hmax;have hw:IntKind.i64.wrap (m:Int)=(m:Int):=ng (by omega) (by omega);have c4:¬((m:Int)<0):=by omega
 have c5:¬((m:Int)*(i.bytes:Int)>2 ^ 48):=by have:=Int.ofNat_le.2 hmb;rw [b6_]at this;omega
 simp only [Builtin.append_,hb',underlying,program,sizeOf,typeInfo,Sem.bind,pure,zeroValue,asInt,asIntOf];simp only [wpH,dp,hu,hI,hi,aV_,ar_,as_,bL_,aI_,if_true,if_false,hw,ah_ c4,ah_ c5,aP_,ah_ c1];rw [ah_ (by simpa using c2)];simp only [wpH,dp,hi];rw [ah_ c3];have cf:Question.forced (.appendCap (len+m) cap e)=false:=rfl;by_cases hz0:m*i.size=0
 . simp only [wpH,dp,choose,cf,vy,hi,hz,je s0,newRow,newObj,bind,pure,aI_,if_false,Question.cut,bW_,ak_ hz0];intro t r hr gr
   have:=H r (len+m+t % (2 ^ 63-(len+m))) (#[]++Builtin.zeroCells z.cells (len+m+t % (2 ^ 63-(len+m))-(len+m))).toList hr gr (by omega) (by
    simp [Builtin.zeroCells,hzc,hol];rw [bK_,bK_,hz0]
    omega)
   have e1:∀Z:Array Value,os.toArray++#[]++Z=(os++(#[]++Z).toList).toArray:=fun Z=>by apply Array.ext';simp
   rw [e1];exact this
 . simp only [wpH,dp,choose,cf,vy,hi,hz,je s0,newRow,newObj,bind,pure,aI_,if_false,Question.cut,bW_,ah_ hz0];intro t r hr gr
   have:=H r (len+m+t % (2 ^ 63-(len+m))) (Builtin.zeroCells z.cells m++Builtin.zeroCells z.cells (len+m+t % (2 ^ 63-(len+m))-(len+m))).toList hr gr (by omega) (by
    simp [Builtin.zeroCells,hzc,hol];rw [bK_,bK_]
    omega)
   have e1:∀Y Z:Array Value,os.toArray++Y++Z=(os++(Y++Z).toList).toArray:=fun Y Z=>by apply Array.ext';simp
   rw [e1];exact this
end
end Go.HL
set_option linter.unusedVariables false
namespace Go.HL
open Go
def Yl {α:Type} (P:Program) (enc:α->Array Value) (G:Hp) (y:Value) (Y Z:List α->Hp->Prop) (c:List α->Bool):Prop:=
 ∀(L:List α) (m:α) (a q h:Hp),Y L a->Sep [a,q] h->Dis G h->
  opH P G (jh y (enc m)) h (fun v h'=>∃a',v = .bool (c (L++[m]))/\Sep [a',q] h'/\Dis G h'/\(if c (L++[m])=true then Y (L++[m]) a' else Z (L++[m]) a'))
def feed {α:Type} (c:List α->Bool):List α->List α->List α × Bool
 |L,[]=>(L,true)
 |L,m::M=>if c (L++[m])=true then feed c (L++[m]) M else (L++[m],false)
theorem La {α:Type} {c:List α->Bool} {L M:List α} {m:α} (h:c (L++[m])=true):feed c L (m::M)=feed c (L++[m]) M:=by rw [feed,ak_ h]
theorem R6 {α:Type} {c:List α->Bool} {L M:List α} {m:α} (h:c (L++[m])=false):feed c L (m::M)=(L++[m],false):=by rw [feed,ah_ (by simp [h])]
def C7 {α:Type} (k:Int) (L:List α):Bool:=decide ((L.length:Int)<k)
theorem Cu {α:Type} {k:Int}:∀{M L:List α},(L.length:Int)<k->feed (C7 k) L M=(L++M.take (k.toNat-L.length),decide (((L++M).length:Int)<k))
 |[],L,h=>by simp [feed,h]
 |m::M,L,h=>by
  have e1:k.toNat-L.length=(k.toNat-(L++[m]).length)+1:=by rw [ae_,a2_];omega
  by_cases h2:((L++[m]).length:Int)<k
  . rw [La (by unfold C7;exact af_ h2),Cu h2,e1,cd_];simp
  . rw [R6 (by unfold C7;exact ai_ h2)];rw [ae_,a2_]at h2;have e2:k.toNat-(L++[m]).length=0:=by rw [ae_,a2_];omega
    rw [e1,e2];simp only [cd_,List.take_zero,ae_,an_,Prod.mk.injEq,true_and];symm;apply ai_;omega
def Fin {α:Type} (T:List α × Bool) (Y Z:List α->Hp->Prop) (a:Hp):Prop:=if T.2=true then Y T.1 a else Z T.1 a
def Db {α:Type} (G q:Hp) (Y Z:List α->Hp->Prop) (T:List α × Bool) (h':Hp):Prop:=∃a',Sep [a',q] h'/\Dis G h'/\Fin T Y Z a'
theorem Db.go {α:Type} {G q a h':Hp} {Y Z:List α->Hp->Prop} {T:List α × Bool} {L:List α} {c:List α->Bool} (s:Sep [a,q] h') (d:Dis G h') (y:Y L a) (e:feed c L []=T):Db G q Y Z T h':=by subst e;exact ⟨a,s,d,by unfold Fin;rw [feed];exact y⟩
theorem Db.no {α:Type} {G q a h':Hp} {Y Z:List α->Hp->Prop} {T:List α × Bool} {L M:List α} {m:α} {c:List α->Bool} (s:Sep [a,q] h') (d:Dis G h') (z:Z (L++[m]) a) (hc:c (L++[m])=false) (e:feed c L (m::M)=T):Db G q Y Z T h':=by subst e;exact ⟨a,s,d,by unfold Fin;rw [R6 hc];simpa using z⟩
def GY {α:Type} (c:Cod α) (e T:TypeId) (most:Int) (lb mb:Nat) (L:List α) (a:Hp):Prop:=∃ip v,Slc c e ip v L/\Sep [ip,noHp.set lb (.cells #[v] T (0,0)),noHp.set mb (.cells #[.int .i64 most] 3 (0,0))] a
def GYb {α:Type} (c:Cod α) (e T:TypeId) (most:Int) (lb mb:Nat) (L:List α) (a:Hp):Prop:=GY c e T most lb mb L a/\(L.length:Int)<most
end Go.HL
set_option linter.unusedVariables false
set_option linter.unusedSimpArgs false
set_option linter.unusedSectionVars false
namespace Go.HL
open Go
section
variable {P:Program} {G:Hp} {κ:Type} [BEq κ] [LawfulBEq κ]
def kidx (L:List (κ × Value)) (k:κ):Option Nat:=L.findIdx? fun p=>p.1==k
def kget (L:List (κ × Value)) (k:κ):Option Value:=(kidx L k).bind fun j=>(L[j]?).map (·.2)
def kput (L:List (κ × Value)) (k:κ) (v:Value):List (κ × Value):=match kidx L k with
 |some j=>L.set j (k,v)
 |none=>L++[(k,v)]
structure Qw (P:Program) (kt:TypeId) (ke:κ->Value):Prop where
 str:∃fs,P.underlying kt=some (.struct fs)
 eq:∀a b,Det P (Op.equal kt (ke a) (ke b)) (a==b)
 chk:∀b a,Det P (Instr.checkKey b 10000 kt (ke a)) ()
 bits:∀a,Instr.sameBits 10000 (ke a) (ke a)=true
def KMap (ke:κ->Value) (o:Obj) (L:List (κ × Value)):Prop:=∃es clock,o = .map es clock/\es.toList.map (fun e=>(e.key,e.val))=L.map (fun p=>(ke p.1,p.2))/\(es.toList.map (·.born)).Nodup/\∀b∈es.toList.map (·.born),b<clock
theorem KMap.empty {ke:κ->Value}:KMap ke (.map #[] 0) []:=⟨#[],0,rfl,rfl,List.nodup_nil,fun _ h=>by cases h⟩
theorem Ys {es:Array MapEntry} {e:MapEntry} {clock:Nat} (h1:(es.toList.map (·.born)).Nodup) (h2:∀b∈es.toList.map (·.born),b<clock) (he:e.born=clock):((es.push e).toList.map (·.born)).Nodup/\∀b∈(es.push e).toList.map (·.born),b<clock+1:=by
 rw [Array.toList_push,bQ_,bC_,List.map_nil,he];refine ⟨a9_.2 ⟨h1,by simp,fun a ha b hb=>?_⟩,fun b hb=>?_⟩
 . simp at hb;have:=h2 a ha;omega
 . rcases ao_.1 hb with hb|hb
   . exact Nat.lt_succ_of_lt (h2 b hb)
   . simp at hb;omega
theorem F1 {es:Array MapEntry} {i:Nat} {f:MapEntry->MapEntry} (hf:∀e,(f e).born=e.born):(es.modify i f).toList.map (·.born)=es.toList.map (·.born):=by
 apply bg_;intro q;simp only [aO_,aQ_,bk_];by_cases hq:i=q
 . subst hq;cases es[i]?<;>simp [hf]
 . simp [hq]
theorem asking {kt:TypeId} {ke:κ->Value} (ok:Qw P kt ke) {k:κ}:∀(es:List MapEntry) (L:List (κ × Value)) (i:Nat),es.map (fun e=>(e.key,e.val))=L.map (fun p=>(ke p.1,p.2))->
 Det P (Instr.findAsking kt (ke k) es i) ((kidx L k).bind fun j=>(L[j]?).map fun p=>(i+j,p.2))
 |[],[],i,_=>Det.pure
 |[],_::_,i,h=>by simp at h
 |_::_,[],i,h=>by simp at h
 |e::es,p::L,i,h=>by
  simp only [bC_,List.cons.injEq,Prod.mk.injEq]at h;obtain ⟨⟨h1,h2⟩,h3⟩:=h;unfold Instr.findAsking;rw [h1];refine Det.bind (ok.eq k p.1) ?_;unfold kidx;rw [List.findIdx?_cons];cases hk:(k==p.1)with
  |true=>
   have:(p.1==k)=true:=by rw [eq_of_beq hk];exact beq_self_eq_true _
   simp only [this,if_true];rw [h2];simp only [bl_,ar_,a0_,bc_];exact Det.pure
  |false=>
   have:(p.1==k)=false:=by
    cases hh:(p.1==k)with
    |false=>rfl
    |true=>rw [eq_of_beq hh,beq_self_eq_true]at hk;cases hk
   simp only [this,aI_,if_false];have ih:=asking ok (k:=k) es L (i+1) h3;unfold kidx at ih;cases hf:List.findIdx? (fun p=>p.1==k) L with
   |none=>rw [hf]at ih;simpa using ih
   |some j=>rw [hf]at ih;simp only [a0_,bl_,as_]at ih ⊢;rw [show i+(j+1)=i+1+j by omega];exact ih
theorem finding {kt:TypeId} {ke:κ->Value} (ok:Qw P kt ke) {k:κ} {es:List MapEntry} {L:List (κ × Value)} (he:es.map (fun e=>(e.key,e.val))=L.map (fun p=>(ke p.1,p.2))):
 Det P (Instr.findKey kt (ke k) es) ((kidx L k).bind fun j=>(L[j]?).map fun p=>(j,p.2)):=by
 obtain ⟨fs,hs⟩:=ok.str;have ha:=asking ok (k:=k) es L 0 he;unfold Instr.findKey;refine Det.bind (a:=(.struct fs:TypeDesc)) ?_ ?_
 . exact ⟨by intro G h K;unfold underlying;simp only [bind,dp,program,wpH,hs,pure],by intro G h K;unfold underlying;simp only [bind,py,program,pw,hs,pure]⟩
 . cases es with
   |nil=>
    cases L with
    |nil=>exact Det.pure
    |cons _ _=>simp at he
   |cons e es=>show Det P (Instr.findAsking kt (ke k) (e::es)) _;simpa using ha
theorem O5 {L:List (κ × Value)} {k:κ}:kget L k=((kidx L k).bind fun j=>(L[j]?).map fun p=>(j,p.2)).map (·.2):=by
 unfold kget;cases kidx L k with
 |none=>rfl
 |some j=>cases h:L[j]?<;>simp [h]
section
variable {T kt et:TypeId} {ke:κ->Value} {z:Value} {b:Nat} {o:Obj} {L:List (κ × Value)} {h:Hp} {k:κ}
theorem H7 (ok:Qw P kt ke) (hT:P.underlying T=some (.map kt et)) (hz:qv P et=some z) (hb:look G h b=some o) (m:KMap ke o L) {K:Value->Prop}:
 pw P G h (Instr.lookup T (.map (some b)) (ke k) false) K=K ((kget L k).getD z):=by
 obtain ⟨es,clock,rfl,he,hnd,hbc⟩:=m;unfold qv at hz;cases hi:P.info? et with
 |none=>rw [hi]at hz;cases hz
 |some i=>
 rw [hi]at hz;simp only [bl_]at hz;rw [O5];unfold Instr.lookup underlying getObj;simp only [bind,py,program,pw,hT,pure,hb,Option.some.injEq,exists_eq_left',iy,true_and,(ok.chk _ _).p,(finding ok he).p];cases ((kidx L k).bind fun j=>(L[j]?).map fun p=>(j,p.2))with
 |some q=>rfl
 |none=>simp [pw,py,zeroValue,typeInfo,program,bind,pure,hi,hz,Sem.bind]
theorem Rq (ok:Qw P kt ke) (hT:P.underlying T=some (.map kt et)) (hz:qv P et=some z) (hb:look G h b=some o) (m:KMap ke o L) {K:Value->Prop}:
 pw P G h (Instr.lookup T (.map (some b)) (ke k) true) K=K (.tuple #[(kget L k).getD z,.bool (kget L k).isSome]):=by
 obtain ⟨es,clock,rfl,he,hnd,hbc⟩:=m;unfold qv at hz;cases hi:P.info? et with
 |none=>rw [hi]at hz;cases hz
 |some i=>
 rw [hi]at hz;simp only [bl_]at hz;rw [O5];unfold Instr.lookup underlying getObj;simp only [bind,py,program,pw,hT,pure,hb,Option.some.injEq,exists_eq_left',iy,true_and,(ok.chk _ _).p,(finding ok he).p];cases ((kidx L k).bind fun j=>(L[j]?).map fun p=>(j,p.2))with
 |some q=>rfl
 |none=>simp [pw,py,zeroValue,typeInfo,program,bind,pure,hi,hz,Sem.bind]
theorem Xw (ok:Qw P kt ke) (hT:P.underlying T=some (.map kt et)) (hb:h b=some o) (m:KMap ke o L) {v:Value} {K:Unit->Hp->Prop}
 (H:∀o',KMap ke o' (kput L k v)->K () (h.set b o')):wpH P G (Instr.mapUpdate T (.map (some b)) (ke k) v) h K:=by
 obtain ⟨es,clock,rfl,he,hnd,hbc⟩:=m;have hlk:look G h b=some (.map es clock):=by unfold look;rw [hb]
 unfold Instr.mapUpdate underlying getObj;simp only [bind,dp,program,wpH,hT,pure,hlk,Option.some.injEq,exists_eq_left',iy,true_and,(ok.chk _ _).w,(finding ok he).w];unfold kput at H;have hl:=congrArg List.length he;simp only [bq_,b1_]at hl;cases hm:kidx L k with
 |none=>rw [hm]at H;simp only [Option.bind_none];unfold setObj;refine ⟨⟨_,hb,rfl⟩,H _ ⟨_,_,rfl,?_,Ys hnd hbc rfl⟩⟩;simp [he]
 |some j=>
  rw [hm]at H;have hj:j<L.length:=by unfold kidx at hm;exact (List.findIdx?_eq_some_iff_getElem.1 hm).1
  have hkey:(L[j]).1=k:=by unfold kidx at hm;exact eq_of_beq (List.findIdx?_eq_some_iff_getElem.1 hm).2.1
  have hej:j<es.size:=by omega
  have hent:(es[j].key,es[j].val)=(ke (L[j]).1,(L[j]).2):=by have:=congrArg (fun l=>l[j]?) he;simp only [aO_,aQ_,aJ_ hej,aa_ hj,a0_,Option.some.injEq]at this;exact this
  simp only [aa_ hj,bl_,a0_];have hks:∀K:Value->Hp->Prop,wpH P G (Instr.keyThatStays (((es[j]?).map (·.key)).getD (ke k)) (ke k)) h K=K (ke k) h:=by intro K;rw [aJ_ hej];simp only [a0_,bs_];rw [show es[j].key=ke k by rw [<- hkey];exact (Prod.mk.inj hent).1];unfold Instr.keyThatStays;rw [ok.bits];rfl
  simp only [dp,hks];unfold setObj;refine ⟨⟨_,hb,rfl⟩,H _ ⟨_,_,rfl,?_,by rw [F1 (f:=fun e=>{ e with key:=ke k,val:=v }) (fun _=>rfl)];exact hnd,by rw [F1 (f:=fun e=>{ e with key:=ke k,val:=v }) (fun _=>rfl)];exact hbc⟩⟩;apply bg_;intro q;simp only [aO_,aQ_,bk_,ci_];have heq:=congrArg (fun l=>l[q]?) he;simp only [aO_,aQ_]at heq;by_cases hq:j=q
  . subst hq;simp [aJ_ hej,hj]
  . simp [hq,heq]
end
end
end Go.HL
set_option linter.unusedVariables false
set_option linter.unusedSimpArgs false
set_option linter.unusedSectionVars false
namespace Go.HL
open Go
theorem Sep.sel {L L':List Hp} {h:Hp} (s:Sep L h) (is:List Nat) (nd:is.Nodup) (e:is.filterMap (fun i=>L[i]?)=L'):Sep L' h:=by
 subst e;refine ⟨fun a ha=>?_,?_⟩
 . obtain ⟨i,_,hi⟩:=cf_.1 ha;exact s.1 a (ab_ hi)
 . have key:∀(i j:Nat) (a b:Hp),i≠j->L[i]?=some a->L[j]?=some b->r9 a b:=by
    intro i j a b hij ha hb;obtain ⟨hi,rfl⟩:=ad_.1 ha;obtain ⟨hj,rfl⟩:=ad_.1 hb;rcases Nat.lt_or_gt_of_ne hij with h1|h1
    . exact aT_.1 s.2 i j hi hj h1
    . exact (aT_.1 s.2 j i hj hi h1).symm
   clear s;induction is with
   |nil=>exact List.Pairwise.nil
   |cons i is ih=>
    rw [bP_]at nd;rw [List.filterMap_cons];cases ha:L[i]? with
    |none=>exact ih nd.2
    |some a=>refine List.Pairwise.cons (fun b hb=>?_) (ih nd.2);obtain ⟨j,hj,hbj⟩:=cf_.1 hb;exact key i j a b (fun e=>nd.1 (e▸hj)) ha hbj
section
variable {P:Program} {G:Hp} {κ:Type} [BEq κ] [LawfulBEq κ]
variable {T kt et:TypeId} {ke:κ->Value} {z:Value} {b:Nat} {o:Obj} {L:List (κ × Value)} {h:Hp} {k:κ}
def aU0 (ke:κ->Value) (o:Obj) (L:List (κ × Value)) (k:κ) (st:Nat):Prop:=∃es clock,o = .map es clock/\es.toList.map (fun e=>(e.key,e.val))=L.map (fun p=>(ke p.1,p.2))/\(es.toList.map (·.born)).Nodup/\(∀b∈es.toList.map (·.born),b<clock)/\
 ∃(i:Nat) (e:MapEntry),es[i]?=some e/\e.born=st/\kidx L k=some i
theorem aU0.map {st:Nat} (m:aU0 ke o L k st):KMap ke o L:=by obtain ⟨es,clock,rfl,h1,h2,h3,_⟩:=m;exact ⟨es,clock,rfl,h1,h2,h3⟩
end
end Go.HL
set_option linter.unusedVariables false
namespace Go.HL
open Go
theorem Sep.open {b h:Hp} {L R:List Hp} (s:Sep (b::R) h) (t:Sep L b):Sep (L++R) h:=(s.none.split t).drop
theorem Sep.pack:∀(A:List Hp) {R:List Hp} {h:Hp},Sep (A++R) h->∃b,Sep (b::R) h/\Sep A b
 |[],R,h,s=>⟨noHp,s.none,(fun _ hx=>by cases hx),List.Pairwise.nil⟩
 |[a],R,h,s=>⟨a,s,Sep.one⟩
 |a::c::A,R,h,s=>by
  have s1:Sep ((c::A)++(a::R)) h:=by refine ⟨fun x hx=>s.1 x (by simp only [b0_,al_,ao_]at hx ⊢;rcases hx with h|h|h|h<;>simp [h]),?_⟩;refine List.Pairwise.perm s.2 ?_ (fun h=>h.symm);show (a::((c::A)++R)).Perm ((c::A)++(a::R));exact List.perm_middle.symm
  obtain ⟨b,t1,t2⟩:=Sep.pack (c::A) s1;obtain ⟨b',u1,u2⟩:=Gw t1.swap;refine ⟨b',u1,?_⟩;have:=u2.swap.open t2
  have h3:Sep ((c::A)++[a]) b':=this;refine ⟨fun x hx=>h3.1 x (by simp only [al_,ao_]at hx ⊢;rcases hx with h|h|h<;>simp [h]),?_⟩;refine List.Pairwise.perm h3.2 ?_ (fun h=>h.symm);exact bA_ a (c::A)
theorem Sep.perm {L L':List Hp} {h:Hp} (s:Sep L h) (p:L.Perm L'):Sep L' h:=
 ⟨fun x hx=>s.1 x (p.mem_iff.2 hx),List.Pairwise.perm s.2 p (fun h=>h.symm)⟩
theorem Sep.rest (A:List Hp) {R:List Hp} {h:Hp} (s:Sep (A++R) h):∃Q,Sep (A++[Q]) h/\Sep R Q:=by obtain ⟨Q,t1,t2⟩:=Sep.pack R (s.perm List.perm_append_comm);exact ⟨Q,t1.perm (bA_ Q A).symm,t2⟩
theorem Sep.unrest (A:List Hp) {R:List Hp} {Q h:Hp} (s:Sep (A++[Q]) h) (t:Sep R Q):Sep (A++R) h:=
 ((s.perm (bA_ Q A)).open t).perm List.perm_append_comm
def YlN {α:Type} (P:Program) (enc:α->Array Value) (Q:α->Prop) (N:Nat) (G:Hp) (y:Value) (Y:List α->Hp->Prop):Prop:=∀(L:List α) (m:α) (a q h:Hp),L.length<=N->Q m->Y L a->Sep [a,q] h->Dis G h->
 opH P G (jh y (enc m)) h (fun v h'=>∃a',v = .bool true/\Sep [a',q] h'/\Dis G h'/\Y (L++[m]) a')
def Ap {α:Type} (G q:Hp) (Y:List α->Hp->Prop) (W:List α) (h':Hp):Prop:=∃a',Sep [a',q] h'/\Dis G h'/\Y W a'
theorem Ap.go {α:Type} {G q a h':Hp} {Y:List α->Hp->Prop} {L W:List α} (s:Sep [a,q] h') (d:Dis G h') (y:Y L a) (e:L=W):Ap G q Y W h':=⟨a,s,d,e▸y⟩
def but (h:Hp) (x:Nat):Hp:=fun y=>if y=x then none else h y
theorem but_le {h:Hp} {x:Nat}:(but h x).le h:=fun y o e=>by
 unfold but at e;split at e
 . cases e
 . exact e
theorem Sk {h:Hp} {x y:Nat} (e:y≠x):but h x y=h y:=ah_ e
theorem Sep.but {h:Hp} {x:Nat} {o:Obj} {R:List Hp} (s:Sep (noHp.set x o::R) h):Sep [noHp.set x o,but h x] h/\Sep R (HL.but h x):=by
 refine ⟨⟨fun a ha=>?_,?_⟩,⟨fun a ha=>?_,s.drop.2⟩⟩
 . rcases al_.1 ha with rfl|ha
   . exact s.hd
   . rw [aE_]at ha;subst ha;exact but_le
 . refine ap_.2 ⟨fun b hb=>?_,bR_ _ _⟩;rw [aE_]at hb;subst hb;intro y;by_cases e:y=x
   . subst e;exact .inr (ak_ rfl)
   . left;rw [ci e];rfl
 . intro y p e
   have hy:y≠x:=fun e2=>by
    subst e2;rcases s.apart ha y with e3|e3
    . rw [bh]at e3;cases e3
    . rw [e]at e3;cases e3
   rw [Sk hy];exact s.1 a (.tail _ ha) _ _ e
end Go.HL

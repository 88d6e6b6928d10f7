/- The layer of step rules over owned blocks. -/
import Derived.Test.YtfflipnhffknnaaGreatDoorBHF
import Derived.Laws.StructEq
import Derived.WalkKit
import Derived.ProofKit
import Derived.OpenShut
import Derived.ChangeAt
import Derived.ChangeSlices
import Derived.Carry
import Derived.ChangeSame
namespace Go.HL
open Go
instance iV:Coe Int Value:=⟨.int .i64⟩
instance iW:Coe Nat Value:=⟨fun n=>.int .i64 n⟩
def sv (s:Sem Value):Sem Next:=s.bind fun a => .pure (.value a)
def su (s:Sem Unit):Sem Next:=s.bind fun _ => .pure .skip
def dh (c a b:Value):Sem Next:=(asBool c).bind fun t => .pure (.value (if t=true then a else b))
def xNil (x:Value):Sem Next:=execOp (fun _=>x) { dst:=none,op := .nilCheck (.tmp 0),type:=0,pos := "",after:=#[],guard:=none }
def xEq (op:BinOp) (T:TypeId) (cx cy:Operand) (x y:Value):Sem Next:=sv ((eqGuard op T cx cy x y).bind fun _=>binOp op T x y)
section
variable {P:Program} {G:Hp}
theorem ay2 {s:Sem Value} {h:Hp} {K:VK}:opH P G (sv s) h K=wpH P G s h K:=propext (dp s _)
theorem opH_su {s:Sem Unit} {h:Hp} {K:VK}:opH P G (su s) h K=wpH P G s h (fun _ h'=>K undef h'):=propext (dp s _)
theorem py {α β:Type} {h0:Hp} (s:Sem α) (f:α->Sem β):∀{K:β->Prop},pw P G h0 (s.bind f) K↔pw P G h0 s (fun a=>pw P G h0 (f a) K):=by
 induction s with
 |pure a=>intro K;exact Iff.rfl
 |load m a k ih=>intro K;simp only [Sem.bind,pw,ih]
 |shape r k ih=>intro K;simp only [Sem.bind,pw,ih]
 |frozen a k ih=>intro K;simp only [Sem.bind,pw,ih]
 |getObj r k ih=>intro K;simp only [Sem.bind,pw,ih]
 |program k ih=>intro K;simp only [Sem.bind,pw,ih]
 |mark m k ih=>intro K;simp only [Sem.bind,pw,ih]
 |_=>intro K;exact Iff.rfl
theorem Kn {h0:Hp} {s:Sem Value} {h:Hp} {K:VK}:dl P G h0 (sv s) h K=pw P G h0 s (fun v=>K v h):=propext (py s _)
theorem li {a:Addr} {h:Hp} {K:VK}:opH P G (xNil (.pointer (some a))) h K=K (.pointer (some a)) h:=rfl
theorem jc {h0:Hp} {a:Addr} {h:Hp} {K:VK}:dl P G h0 (xNil (.pointer (some a))) h K=K (.pointer (some a)) h:=rfl
end
end Go.HL
namespace Go.HL
open Go
section
variable {P:Program} {G:Hp}
theorem ox {b i n:Nat}:(⟨b,i,none⟩:Addr).add n=⟨b,i+n,none⟩:=by
 unfold Addr.add;split
 . rename_i e;subst e;rfl
 . rfl
theorem bj {h:Hp} {b:Nat} {o:Obj} (e:h b=some o):look G h b=some o:=by simp [look,e]
theorem N6 {h:Hp} {b:Nat} {o:Obj}:look G (h.set b o) b=some o:=bj bh
theorem Ku {h:Hp} {b c:Nat} {o:Obj} (e:c≠b):look G (h.set b o) c=look G h c:=by simp [look,ci e]
theorem bm {h:Hp} {b i:Nat} {l:List Value} {e:TypeId} {f:Nat × Nat} (hb:look G h b=some (.cells l.toArray e f)):bf G h ⟨b,i,none⟩=l[i]?:=by simp [bf,hb,zf]
theorem C8 {h:Hp} {b i:Nat} {l:List Value} {e:TypeId} {f:Nat × Nat}:bf G (h.set b (.cells l.toArray e f)) ⟨b,i,none⟩=l[i]?:=bm N6
theorem bv {h:Hp} {b c i:Nat} {o:Obj} (e:c≠b):bf G (h.set b o) ⟨c,i,none⟩=bf G h ⟨c,i,none⟩:=by simp [bf,Ku e]
def putL (l:List Value) (i:Nat):List Value->List Value
 |[]=>l
 |v::vs=>putL (l.set i v) (i+1) vs
theorem Bc (vs:List Value):∀(l:List Value) (i:Nat),(putL l i vs).length=l.length:=by
 induction vs with
 |nil=>intro l i;rfl
 |cons v vs ih=>intro l i;simp [putL,ih]
theorem ax4 (vs:List Value):∀(l:List Value) (i j:Nat),i+vs.length<=l.length->(putL l i vs)[j]?=if i<=j/\j<i+vs.length then vs[j-i]? else l[j]?:=by
 induction vs with
 |nil=>intro l i j h;simp only [putL,a3_];rw [ah_ (by omega)]
 |cons v vs ih=>
  intro l i j h;simp only [an_]at h ⊢;rw [putL,ih _ _ _ (by simp;omega)];by_cases h1:i+1<=j/\j<i+1+vs.length
  . rw [ak_ h1,ak_ (by omega)];obtain ⟨k,rfl⟩:∃k,j=i+1+k:=⟨j-(i+1),by omega⟩;rw [show i+1+k-(i+1)=k by omega,show i+1+k-i=k+1 by omega];rfl
  . rw [ah_ h1];by_cases h2:j=i
    . subst h2;rw [ak_ (by omega)];simp;rw [aB_ (by omega)]
    . rw [ah_ (by omega),ax_ (by omega)]
theorem ut (vs:List Value) (l:List Value) (i:Nat) (h:i+vs.length<=l.length):putL l i vs=l.take i++vs++l.drop (i+vs.length):=by
 apply bg_;intro j;rw [ax4 _ _ _ _ h];by_cases h1:j<i
 . rw [ah_ (by omega),aC_,aq_ (by simp;omega),ch_ h1]
 . by_cases h2:j<i+vs.length
   . rw [ak_ (by omega),aC_,aF_ (by simp;omega),aq_ (by simp;omega)];congr 1;simp;omega
   . rw [ah_ (by omega),aF_ (by simp;omega),List.getElem?_drop];congr 1;simp;omega
theorem Q5 {T:TypeId} {a:Addr} {v:Value} {n:Nat} (hi:(P.info? T).map (·.size)=some n) {h:Hp} {K:Unit->Hp->Prop}:
 wpH P G (Instr.storeAt T (.pointer (some a)) v) h K=(v.cells.size=n/\wpH P G (storeCells a v.cells.toList) h K):=by
 apply propext;have:Instr.storeAt T (.pointer (some a)) v=storeVar T a v:=rfl;rw [this,xi];cases e:P.info? T with
 |none=>rw [e]at hi;cases hi
 |some i=>rw [e]at hi;simp at hi;subst hi;simp
end
end Go.HL
namespace Go.HL
open Go
section
variable {P:Program} {G:Hp} {T:TypeId} {a b:Int} {h:Hp}
theorem bin_add {K:VK}:wpH P G (binOp .add T (.int .i64 a) (.int .i64 b)) h K=K (.int .i64 (IntKind.i64.wrap (a+b))) h:=rfl
theorem bin_sub {K:VK}:wpH P G (binOp .sub T (.int .i64 a) (.int .i64 b)) h K=K (.int .i64 (IntKind.i64.wrap (a-b))) h:=rfl
theorem bin_mul {K:VK}:wpH P G (binOp .mul T (.int .i64 a) (.int .i64 b)) h K=K (.int .i64 (IntKind.i64.wrap (a*b))) h:=rfl
theorem bin_lss {K:VK}:wpH P G (binOp .lss T (.int .i64 a) (.int .i64 b)) h K=K (.bool (decide (a<b))) h:=rfl
theorem pd {K:VK}:wpH P G (binOp .leq T (.int .i64 a) (.int .i64 b)) h K=K (.bool (decide (a<=b))) h:=rfl
theorem kv {K:VK}:wpH P G (binOp .gtr T (.int .i64 a) (.int .i64 b)) h K=K (.bool (decide (a>b))) h:=rfl
theorem xa {K:VK}:wpH P G (binOp .geq T (.int .i64 a) (.int .i64 b)) h K=K (.bool (decide (a>=b))) h:=rfl
theorem bin_quo {K:VK} (hb:b≠0):wpH P G (binOp .quo T (.int .i64 a) (.int .i64 b)) h K=K (.int .i64 (IntKind.i64.wrap (a.tdiv b))) h:=by show wpH P G (Op.intDiv .quo .i64 a b) h K=_;unfold Op.intDiv;rw [ah_ hb];rfl
theorem ad9 {K:VK} (hb:b≠0):wpH P G (binOp .rem T (.int .i64 a) (.int .i64 b)) h K=K (.int .i64 (a.tmod b)) h:=by show wpH P G (Op.intDiv .rem .i64 a b) h K=_;unfold Op.intDiv;rw [ah_ hb];rfl
theorem un_not {x:Bool} {K:VK}:wpH P G (Op.unary .not (.bool x)) h K=K (.bool !x) h:=rfl
theorem eq_int {cx cy:Operand} {K:VK}:opH P G (xEq .eql T cx cy (.int .i64 a) (.int .i64 b)) h K=K (.bool (a==b)) h:=rfl
theorem ne_int {cx cy:Operand} {K:VK}:opH P G (xEq .neq T cx cy (.int .i64 a) (.int .i64 b)) h K=K (.bool (a != b)) h:=rfl
theorem Fx {f:FuncId} {first caps args:Array Value}:jh (.func (.func f) first caps) args=callFunc f ((first++args)++caps):=rfl
variable {h0:Hp}
theorem aN0 {K:Value->Prop}:pw P G h0 (binOp .add T (.int .i64 a) (.int .i64 b)) K=K (.int .i64 (IntKind.i64.wrap (a+b))):=rfl
theorem aM6 {K:Value->Prop}:pw P G h0 (binOp .sub T (.int .i64 a) (.int .i64 b)) K=K (.int .i64 (IntKind.i64.wrap (a-b))):=rfl
theorem yu {K:Value->Prop}:pw P G h0 (binOp .mul T (.int .i64 a) (.int .i64 b)) K=K (.int .i64 (IntKind.i64.wrap (a*b))):=rfl
theorem aM9 {K:Value->Prop}:pw P G h0 (binOp .lss T (.int .i64 a) (.int .i64 b)) K=K (.bool (decide (a<b))):=rfl
theorem B1 {K:Value->Prop}:pw P G h0 (binOp .gtr T (.int .i64 a) (.int .i64 b)) K=K (.bool (decide (a>b))):=rfl
theorem Lp {K:Value->Prop}:pw P G h0 (binOp .geq T (.int .i64 a) (.int .i64 b)) K=K (.bool (decide (a>=b))):=rfl
theorem aM8 {K:Value->Prop} (hb:b≠0):pw P G h0 (binOp .quo T (.int .i64 a) (.int .i64 b)) K=K (.int .i64 (IntKind.i64.wrap (a.tdiv b))):=by show pw P G h0 (Op.intDiv .quo .i64 a b) K=_;unfold Op.intDiv;rw [ah_ hb];rfl
theorem aM7 {K:Value->Prop} (hb:b≠0):pw P G h0 (binOp .rem T (.int .i64 a) (.int .i64 b)) K=K (.int .i64 (a.tmod b)):=by show pw P G h0 (Op.intDiv .rem .i64 a b) K=_;unfold Op.intDiv;rw [ah_ hb];rfl
theorem un_notp {x:Bool} {K:Value->Prop}:pw P G h0 (Op.unary .not (.bool x)) K=K (.bool !x):=rfl
theorem eq_intp {cx cy:Operand} {K:VK}:dl P G h0 (xEq .eql T cx cy (.int .i64 a) (.int .i64 b)) h K=K (.bool (a==b)) h:=rfl
theorem ne_intp {cx cy:Operand} {K:VK}:dl P G h0 (xEq .neq T cx cy (.int .i64 a) (.int .i64 b)) h K=K (.bool (a != b)) h:=rfl
theorem iz {T e:TypeId} {n:Nat} (hu:P.underlying T=some (.slice e)) (hs:(P.info? e).map (·.size)=some n) {ad:Addr} {len cap:Nat} {k:IntKind} {i:Int} {h:Hp} {K:VK}
 (h1:0<=i) (h2:i<len):wpH P G (Instr.indexAt T (.slice (some ad) len cap) (.int k i)) h K=K (.pointer (some (ad.add (i.toNat*n)))) h:=by
 cases hi:P.info? e with
 |none=>rw [hi]at hs;cases hs
 |some x=>rw [hi]at hs;simp at hs;subst hs;simp [Instr.indexAt,asIntOf,underlying,program,bind,Sem.bind,pure,wpH,hu,sizeOf,typeInfo,hi,h1,h2]
theorem jf {T e:TypeId} {n:Nat} (hu:P.underlying T=some (.slice e)) (hs:(P.info? e).map (·.size)=some n) {ad:Addr} {len cap:Nat} {k:IntKind} {i:Int} {h0:Hp} {K:Value->Prop}
 (h1:0<=i) (h2:i<len):pw P G h0 (Instr.indexAt T (.slice (some ad) len cap) (.int k i)) K=K (.pointer (some (ad.add (i.toNat*n)))):=by
 cases hi:P.info? e with
 |none=>rw [hi]at hs;cases hs
 |some x=>rw [hi]at hs;simp at hs;subst hs;simp [Instr.indexAt,asIntOf,underlying,program,bind,Sem.bind,pure,pw,hu,sizeOf,typeInfo,hi,h1,h2]
theorem box_new {T:TypeId} {v:Value} {h:Hp} {K:VK}:wpH P G (Instr.box T v) h K=∀x,h x=none->G x=none->K (.pointer (some ⟨x,0,none⟩)) (h.set x (.cells v.cells T (0,0))):=rfl
theorem upd_eq {r:Rg} {t:Nat} {v:Value}:upd r t v t=v:=by simp [upd]
theorem bo {r:Rg} {t u:Nat} {v:Value} (e:u≠t):upd r t v u=r u:=by simp [upd,e]
end
end Go.HL
namespace Go.HL
open Go
structure Det (P:Program) {α:Type} (s:Sem α) (v:α):Prop where
 w:∀{G h:Hp} {K:α->Hp->Prop},wpH P G s h K=K v h
 p:∀{G h:Hp} {K:α->Prop},pw P G h s K=K v
structure Same (P:Program) {α:Type} (s t:Sem α):Prop where
 w:∀{G h:Hp} {K:α->Hp->Prop},wpH P G s h K=wpH P G t h K
 p:∀{G h:Hp} {K:α->Prop},pw P G h s K=pw P G h t K
section
variable {P:Program}
theorem Det.pure {α:Type} {v:α}:Det P (Sem.pure v) v:=⟨rfl,rfl⟩
theorem Det.bind {α β:Type} {s:Sem α} {f:α->Sem β} {a:α} {b:β} (h1:Det P s a) (h2:Det P (f a) b):Det P (s.bind f) b:=
 ⟨by intro G h K;rw [propext (dp s f),h1.w,h2.w],by intro G h K;rw [propext (py s f),h1.p,h2.p]⟩
theorem Det.prog {α:Type} {k:Program->Sem α} {v:α} (h:Det P (k P) v):Det P (Sem.program k) v:=⟨h.w,h.p⟩
theorem Det.same {α:Type} {s t:Sem α} {v:α} (e:Same P s t) (h:Det P t v):Det P s v:=⟨by intro G h' K;rw [e.w,h.w],by intro G h' K;rw [e.p,h.p]⟩
theorem Li {d:Nat} {t:TypeId} {xs ys:Array Value} {fs:Array Field} (ht:P.underlying t=some (.struct fs)) (hp:P.stoodInHeld t=false):
 Same P (Op.equalIn (d+1) t (.agg xs) (.agg ys)) (Op.eqFields d xs ys fs.toList):=by
 have hb:∀(α β:Type) (s:Sem α) (g:α->Sem β),(s >>= g)=s.bind g:=fun _ _ _ _=>rfl;constructor
 . intro G h K;simp only [Op.equalIn,underlying,program,bind,Sem.bind,wpH,ht,pure,hp,aI_,if_false];rw [<- Array.forIn_toList];generalize fs.toList=l;refine congrArg (fun s=>wpH P G s h K) ?_;clear ht;induction l with
   |nil=>rfl
   |cons f l ih=>
    rw [List.forIn_cons];simp only [hb,Op.eqFields,mj];split
    . simp only [mj];congr 1;funext a;congr 1;funext b;congr 1;funext r;cases r
      . rfl
      . simp only [bW_,aI_,if_false,kg];exact ih
    . simp only [kg];exact ih
 . intro G h K;simp only [Op.equalIn,underlying,program,bind,Sem.bind,pw,ht,pure,hp,aI_,if_false];rw [<- Array.forIn_toList];generalize fs.toList=l;refine congrArg (fun s=>pw P G h s K) ?_;clear ht;induction l with
   |nil=>rfl
   |cons f l ih=>
    rw [List.forIn_cons];simp only [hb,Op.eqFields,mj];split
    . simp only [mj];congr 1;funext a;congr 1;funext b;congr 1;funext r;cases r
      . rfl
      . simp only [bW_,aI_,if_false,kg];exact ih
    . simp only [kg];exact ih
theorem Jo {d:Nat} {xs ys:Array Value}:Det P (Op.eqFields d xs ys []) true := .pure
theorem rr {d:Nat} {xs ys:Array Value} {f:Field} {fs:List Field} {a b:Value} {r s:Bool} (hn:f.name ≠ "_") (ha:Det P (part f.type xs f.offset) a) (hb:Det P (part f.type ys f.offset) b)
 (he:Det P (Op.equalIn d f.type a b) r) (hr:Det P (Op.eqFields d xs ys fs) s):Det P (Op.eqFields d xs ys (f::fs)) (r&&s):=by
 rw [Op.eqFields,ak_ hn];refine Det.bind ha (Det.bind hb (Det.bind he ?_));cases r
 . exact .pure
 . exact hr
theorem zw {d:Nat} {t:TypeId} {k:IntKind} {a b:Int} (ht:P.underlying t=some (.int k)):Det P (Op.equalIn (d+1) t (.int .i64 a) (.int .i64 b)) (a==b):=by constructor<;>intros<;>simp [Op.equalIn,underlying,program,bind,Sem.bind,wpH,pw,ht,pure]
theorem aF2 {d:Nat} {t:TypeId} {a b:Bool} (ht:P.underlying t=some .bool):Det P (Op.equalIn (d+1) t (.bool a) (.bool b)) (a==b):=by constructor<;>intros<;>simp [Op.equalIn,underlying,program,bind,Sem.bind,wpH,pw,ht,pure]
theorem zv {d:Nat} {t:TypeId} {xs ys:Array Value} {fs:Array Field} {r:Bool} (ht:P.underlying t=some (.struct fs)) (hp:P.stoodInHeld t=false) (h:Det P (Op.eqFields d xs ys fs.toList) r):
 Det P (Op.equalIn (d+1) t (.agg xs) (.agg ys)) r:=h.same (Li ht hp)
theorem jt {t:TypeId} {cs:Array Value} {off:Nat} {v:Value} {de:TypeDesc} (ht:P.underlying t=some de) (ha:(match de with | .struct _ | .array _ _=>true|_=>false)=false) (hv:cs[off]?=some v):Det P (part t cs off) v:=by constructor<;>intros<;>(cases de<;>simp_all [part,isAgg,underlying,program,bind,Sem.bind,wpH,pw,pure])
theorem U8 {t:TypeId} {cs:Array Value} {off n:Nat} {fs:Array Field} (ht:P.underlying t=some (.struct fs)) (hi:(P.info? t).map (·.size)=some n):Det P (part t cs off) (.agg (cs.extract off (off+n))):=by
 cases e:P.info? t with
 |none=>rw [e]at hi;cases hi
 |some i=>rw [e]at hi;simp at hi;subst hi;constructor<;>intros<;>simp [part,isAgg,underlying,program,bind,Sem.bind,wpH,pw,pure,ht,sizeOf,typeInfo,e]
theorem aF1 {t:TypeId} {cx cy:Operand} {xs ys:Array Value} {r:Bool} (hm:P.eqGuardType P.depth t=false) (h:Det P (Op.equalIn 10000 t (.agg xs) (.agg ys)) r) {G hh:Hp} {K:VK}:
 opH P G (xEq .eql t cx cy (.agg xs) (.agg ys)) hh K=K (.bool r) hh:=by
 have e:Det P ((eqGuard .eql t cx cy (.agg xs) (.agg ys)).bind fun _=>binOp .eql t (.agg xs) (.agg ys)) (.bool r):=by
  refine Det.bind (a:=()) ?_ ?_
  . constructor<;>intros<;>simp [eqGuard,program,bind,Sem.bind,wpH,pw,pure,hm]
  . exact Det.bind h .pure
 rw [xEq,ay2,e.w]
theorem ac7 {t:TypeId} {cx cy:Operand} {xs ys:Array Value} {r:Bool} (hm:P.eqGuardType P.depth t=false) (h:Det P (Op.equalIn 10000 t (.agg xs) (.agg ys)) r) {G hh h1:Hp} {K:VK}:
 dl P G h1 (xEq .eql t cx cy (.agg xs) (.agg ys)) hh K=K (.bool r) hh:=by
 have e:Det P ((eqGuard .eql t cx cy (.agg xs) (.agg ys)).bind fun _=>binOp .eql t (.agg xs) (.agg ys)) (.bool r):=by
  refine Det.bind (a:=()) ?_ ?_
  . constructor<;>intros<;>simp [eqGuard,program,bind,Sem.bind,wpH,pw,pure,hm]
  . exact Det.bind h .pure
 rw [xEq,Kn,e.p]
theorem Rn {t:TypeId} {cx cy:Operand} {xs ys:Array Value} {r:Bool} (hm:P.eqGuardType P.depth t=false) (h:Det P (Op.equalIn 10000 t (.agg xs) (.agg ys)) r) {G hh h1:Hp} {K:VK}:
 dl P G h1 (xEq .neq t cx cy (.agg xs) (.agg ys)) hh K=K (.bool (!r)) hh:=by
 have e:Det P ((eqGuard .neq t cx cy (.agg xs) (.agg ys)).bind fun _=>binOp .neq t (.agg xs) (.agg ys)) (.bool (!r)):=by
  refine Det.bind (a:=()) ?_ ?_
  . constructor<;>intros<;>simp [eqGuard,program,bind,Sem.bind,wpH,pw,pure,hm]
  . exact Det.bind h .pure
 rw [xEq,Kn,e.p]
end
end Go.HL
namespace Go.HL
open Go
section
variable {P:Program} {G:Hp}
theorem regs0 {a:Value} {l:List Value}:regs (a::l).toArray 0=a:=rfl
theorem regs1 {a b:Value} {l:List Value}:regs (a::b::l).toArray 1=b:=rfl
theorem regs2 {a b c:Value} {l:List Value}:regs (a::b::c::l).toArray 2=c:=rfl
theorem regs3 {a b c d:Value} {l:List Value}:regs (a::b::c::d::l).toArray 3=d:=rfl
theorem regs4 {a b c d e:Value} {l:List Value}:regs (a::b::c::d::e::l).toArray 4=e:=rfl
theorem regs5 {a b c d e f:Value} {l:List Value}:regs (a::b::c::d::e::f::l).toArray 5=f:=rfl
theorem regs6 {a b c d e f g:Value} {l:List Value}:regs (a::b::c::d::e::f::g::l).toArray 6=g:=rfl
theorem ou {cs:Array Value}:(Value.agg cs).cells=cs:=rfl
theorem as8 {k:IntKind} {n:Int}:(Value.int k n).cells=#[.int k n]:=rfl
theorem Yq {b:Bool}:(Value.bool b).cells=#[.bool b]:=rfl
theorem sn {a:Option Addr}:(Value.pointer a).cells=#[.pointer a]:=rfl
theorem Lm {f:Fn} {a b:Array Value}:(Value.func f a b).cells=#[.func f a b]:=rfl
def resC (v:Value) (T:TypeId):Sem Value:=(asAddr v).bind fun ad=>loadVar T ad
theorem A9 {a:Addr} {T:TypeId}:resC (.pointer (some a)) T=Instr.loadAt T (.pointer (some a)):=rfl
theorem aw9 {rs:List ResultVar} {R:VK} {r:Rg} {h:Hp}:retK P G rs R .ret r h=wpH P G (resL r rs []) h R:=rfl
theorem jw {rs:List ResultVar} {R:VK} {r:Rg} {h:Hp}:retK P G rs R .normal r h=wpH P G (resL r rs []) h R:=rfl
theorem ax0 {r:Rg} {t:Nat} {l:List ResultVar} {acc:List Value} {h:Hp} {K:VK}:wpH P G (resL r (.tmp t::l) acc) h K=wpH P G (resL r l (r t::acc)) h K:=rfl
theorem yc {r:Rg} {a:Nat} {T:TypeId} {l:List ResultVar} {acc:List Value} {h:Hp} {K:VK}:
 wpH P G (resL r (.cell a T::l) acc) h K=wpH P G (resC (r a) T) h (fun v h'=>wpH P G (resL r l (v::acc)) h' K):=propext (dp _ _)
theorem mx {r:Rg} {h:Hp} {K:VK}:wpH P G (resL r [] []) h K=K (.tuple #[]) h:=rfl
theorem ao5 {r:Rg} {a:Value} {h:Hp} {K:VK}:wpH P G (resL r [] [a]) h K=K a h:=rfl
theorem nq {r:Rg} {a b:Value} {h:Hp} {K:VK}:wpH P G (resL r [] [b,a]) h K=K (.tuple #[a,b]) h:=rfl
theorem ao4 {r:Rg} {a b c:Value} {h:Hp} {K:VK}:wpH P G (resL r [] [c,b,a]) h K=K (.tuple #[a,b,c]) h:=rfl
theorem ex0 {a:Value} {l:List Value} {h:Hp} {K:VK}:wpH P G (Instr.extract (.tuple (a::l).toArray) 0) h K=K a h:=rfl
theorem ex1 {a b:Value} {l:List Value} {h:Hp} {K:VK}:wpH P G (Instr.extract (.tuple (a::b::l).toArray) 1) h K=K b h:=rfl
theorem ex2 {a b c:Value} {l:List Value} {h:Hp} {K:VK}:wpH P G (Instr.extract (.tuple (a::b::c::l).toArray) 2) h K=K c h:=rfl
theorem ex0p {a:Value} {l:List Value} {h:Hp} {K:Value->Prop}:pw P G h (Instr.extract (.tuple (a::l).toArray) 0) K=K a:=rfl
theorem ex1p {a b:Value} {l:List Value} {h:Hp} {K:Value->Prop}:pw P G h (Instr.extract (.tuple (a::b::l).toArray) 1) K=K b:=rfl
theorem as5 {A B:Prop}:cond (.bool true) A B=A:=rfl
theorem Ym {A B:Prop}:cond (.bool false) A B=B:=rfl
theorem df {p:Prop} [Decidable p] {A B:Prop} (h1:p->A) (h2:¬p->B):cond (.bool (decide p)) A B:=by
 by_cases e:p
 . simp only [e,decide_true];exact h1 e
 . simp only [e,decide_false];exact h2 e
theorem nu {b:Bool} {A B:Prop} (h1:b=true->A) (h2:b=false->B):cond (.bool b) A B:=by
 cases b
 . exact h2 rfl
 . exact h1 rfl
theorem gd_tt {X:(Value->Hp->Prop)->Prop} {h:Hp} {K:VK}:gd (J1 (.bool true) true) X h K=X K:=rfl
theorem gd_ft {X:(Value->Hp->Prop)->Prop} {h:Hp} {K:VK}:gd (J1 (.bool false) true) X h K=K undef h:=rfl
theorem gd_tf {X:(Value->Hp->Prop)->Prop} {h:Hp} {K:VK}:gd (J1 (.bool true) false) X h K=K undef h:=rfl
theorem gd_ff {X:(Value->Hp->Prop)->Prop} {h:Hp} {K:VK}:gd (J1 (.bool false) false) X h K=X K:=rfl
theorem pick_t {a b:Value} {h:Hp} {K:VK}:opH P G (dh (.bool true) a b) h K=K a h:=rfl
theorem pick_f {a b:Value} {h:Hp} {K:VK}:opH P G (dh (.bool false) a b) h K=K b h:=rfl
theorem pick_tp {a b:Value} {h0 h:Hp} {K:VK}:dl P G h0 (dh (.bool true) a b) h K=K a h:=rfl
theorem pick_fp {a b:Value} {h0 h:Hp} {K:VK}:dl P G h0 (dh (.bool false) a b) h K=K b h:=rfl
theorem jj {F:Rg->Hp->Prop} {K:Exit->Rg->Hp->Prop} {r:Rg} {h:Hp}:di F K .normal r h=F r h:=rfl
theorem am4 {F:Rg->Hp->Prop} {K:Exit->Rg->Hp->Prop} {r:Rg} {h:Hp}:di F K .ret r h=K .ret r h:=rfl
theorem Xa {F:Rg->Hp->Prop} {K:Exit->Rg->Hp->Prop} {i:Nat} {r:Rg} {h:Hp}:di F K (.exit i) r h=K (.exit i) r h:=rfl
theorem ff {i:Nat} {K:Exit->Rg->Hp->Prop} {r:Rg} {h:Hp}:dc i K .normal r h=K .normal r h:=rfl
theorem Yt {i:Nat} {K:Exit->Rg->Hp->Prop} {r:Rg} {h:Hp}:dc i K .ret r h=K .ret r h:=rfl
theorem ky {i j:Nat} {K:Exit->Rg->Hp->Prop} {r:Rg} {h:Hp}:dc i K (.exit j) r h=if j=i then K .normal r h else K (.exit j) r h:=rfl
theorem Nz {K:Exit->Rg->Hp->Prop} {r:Rg} {h:Hp}:xq K .normal r h=K .normal r h:=rfl
theorem zd {K:Exit->Rg->Hp->Prop} {r:Rg} {h:Hp}:xq K .ret r h=K .ret r h:=rfl
theorem we {i:Nat} {K:Exit->Rg->Hp->Prop} {r:Rg} {h:Hp}:xq K (.exit i) r h=K (.exit i) r h:=rfl
theorem quietly {f:FuncId} {args:Array Value} {h:Hp} {R:Value->Prop} (c:bn P G f args h (fun v h'=>R v/\h.le h')):bn P G f args h (fun v h'=>R v/\h'=h):=
 c.less fun _ _ ⟨r,l⟩=>⟨h,l,r,rfl⟩
theorem il {h:Hp} {b x:Nat} {o:Obj} (hb:h b=some o) (hx:h x=none):b≠x:=fun e=>by subst e;rw [hb]at hx;cases hx
theorem ju {h:Hp} {x y:Nat} {o:Obj} (hy:(h.set x o) y=none):x≠y:=fun e=>by subst e;rw [bh]at hy;cases hy
theorem jx {h:Hp} {x y:Nat} {o:Obj} (hy:(h.set x o) y=none):h y=none:=by have:=ju hy;rwa [ci (Ne.symm this)]at hy
theorem dw {h:Hp} {x:Nat} {o:Obj} (hx:h x=none):h.le (h.set x o):=(Hp.le.refl h).set hx
theorem ng {x:Int} (h1 : -9223372036854775808<=x) (h2:x<=9223372036854775807):IntKind.i64.wrap x=x:=by unfold IntKind.wrap;simp [IntKind.signed,IntKind.bits];omega
end
end Go.HL
namespace Go.HL
open Go
section
variable {P:Program} {G:Hp}
theorem Az {h:Hp} {b:Nat} {o:Obj} (hb:h b=some o):h.set b o=h:=by
 funext x;simp only [Hp.set];split
 . rename_i e2;rw [e2,hb]
 . rfl
theorem m7 {b:Nat} {e:TypeId}:∀(vs:List Value) {h:Hp} {l:List Value} {i k:Nat} {K:Unit->Hp->Prop},h b=some (.cells l.toArray e (0,0))->i+k+vs.length<=l.length->(∀v∈vs,ls v=true)->
 wpH P G (storeCells ⟨b,i,none⟩ vs k) h K=K () (h.set b (.cells (putL l (i+k) vs).toArray e (0,0)))
 |[],h,l,i,k,K,hb,_,_=>by simp only [putL,Az hb];rfl
 |v::vs,h,l,i,k,K,hb,hlen,h1=>by
  simp only [an_]at hlen;have ih:=m7 vs (h:=h.set b (.cells (l.set (i+k) v).toArray e (0,0))) (l:=l.set (i+k) v) (i:=i) (k:=k+1) (K:=K) bh (by simp;omega) (fun x hx=>h1 x (.tail _ hx));rw [set_set]at ih;rw [show putL l (i+k) (v::vs)=putL (l.set (i+k) v) (i+(k+1)) vs from rfl,<- ih]
  have e0:wpH P G (storeCells ⟨b,i,none⟩ (v::vs) k) h K=(ls v=true/\((⟨b,i,none⟩:Addr).add k).spot=none/\∃c e f,h ((⟨b,i,none⟩:Addr).add k).block=some (.cells c e f)/\((⟨b,i,none⟩:Addr).add k).off<c.size/\
   rh (.cells c e f) ((⟨b,i,none⟩:Addr).add k)=false/\wpH P G (storeCells ⟨b,i,none⟩ vs (k+1)) (h.set ((⟨b,i,none⟩:Addr).add k).block (.cells (c.setIfInBounds ((⟨b,i,none⟩:Addr).add k).off v) e f)) K):=rfl
  rw [e0,ox];apply propext;constructor
  . rintro ⟨_,_,c,e',f,hc,_,_,H⟩;simp only at hc;rw [hb]at hc;cases hc;simpa only [List.setIfInBounds_toArray]using H
  . intro H;refine ⟨h1 v (.head _),rfl,l.toArray,e,(0,0),hb,by simp;omega,by simp [rh],?_⟩;simpa only [List.setIfInBounds_toArray]using H
theorem vd {T:TypeId} {v:Value} {n:Nat} (hi:(P.info? T).map (·.size)=some n) {b i:Nat} {l:List Value} {e:TypeId} {h:Hp} {K:Unit->Hp->Prop}
 (hb:h b=some (.cells l.toArray e (0,0))) (hv:v.cells.size=n) (hl:i+n<=l.length) (h1:∀x∈v.cells.toList,ls x=true):
 wpH P G (Instr.storeAt T (.pointer (some ⟨b,i,none⟩)) v) h K=K () (h.set b (.cells (putL l i v.cells.toList).toArray e (0,0))):=by rw [Q5 hi,m7 (i:=i) (k:=0) v.cells.toList hb (by simp [hv];omega) h1];simp [hv]
theorem ec {T:TypeId} {v:Value} (hi:(P.info? T).map (·.size)=some 1) (h1:ls v=true) {b i:Nat} {l:List Value} {e:TypeId} {h:Hp} {K:Unit->Hp->Prop}
 (hb:h b=some (.cells l.toArray e (0,0))) (hl:i<l.length):
 wpH P G (Instr.storeAt T (.pointer (some ⟨b,i,none⟩)) v) h K=K () (h.set b (.cells (l.set i v).toArray e (0,0))):=by
 have hc:v.cells=#[v]:=by cases v<;>first|rfl|(simp [ls]at h1)
 rw [vd hi hb (by rw [hc];rfl) (by omega) (by rw [hc];intro x hx;simp at hx;subst hx;exact h1),hc];rfl
theorem T8 {T:TypeId} {v:Value} (hi:(P.info? T).map (·.size)=some 1) (h1:ls v=true) {b i:Nat} {l:List Value} {e:TypeId} {h:Hp} {K:Unit->Hp->Prop} (hl:i<l.length):
 wpH P G (Instr.storeAt T (.pointer (some ⟨b,i,none⟩)) v) (h.set b (.cells l.toArray e (0,0))) K=K () (h.set b (.cells (l.set i v).toArray e (0,0))):=by rw [ec hi h1 bh hl,set_set]
theorem jb {T:TypeId} {n:Nat} (hi:(P.info? T).map (·.size)=some n) {b:Nat} {l vs:List Value} {e:TypeId} {h:Hp} {K:Unit->Hp->Prop} (hl:l.length=n) (hv:vs.length=n) (h1:∀x∈vs,ls x=true):
 wpH P G (Instr.storeAt T (.pointer (some ⟨b,0,none⟩)) (.agg vs.toArray)) (h.set b (.cells l.toArray e (0,0))) K=K () (h.set b (.cells vs.toArray e (0,0))):=by rw [vd hi bh (by simp [ou,hv]) (by omega) (by simpa [ou]using h1),set_set];simp only [ou];rw [ut _ _ _ (by simp;omega)];simp [show l.drop vs.length=[]from a5_ (by omega)]
theorem b8 {k:IntKind} {n:Int}:ls (.int k n)=true:=rfl
theorem bw {b:Bool}:ls (.bool b)=true:=rfl
end
end Go.HL
namespace Go.HL
open Go
section
variable {P:Program} {G:Hp}
theorem Ae {b q:Nat} {o:Obj} (hne:b≠q):∀(vs:List Value) {h:Hp} {i k:Nat} {K:Unit->Hp->Prop},
 wpH P G (storeCells ⟨b,i,none⟩ vs k) (h.set q o) K=wpH P G (storeCells ⟨b,i,none⟩ vs k) h (fun u h'=>K u (h'.set q o))
 |[],h,i,k,K=>rfl
 |v::vs,h,i,k,K=>by
  have e0:∀(h:Hp) (K:Unit->Hp->Prop),wpH P G (storeCells ⟨b,i,none⟩ (v::vs) k) h K=(ls v=true/\((⟨b,i,none⟩:Addr).add k).spot=none/\∃c e f,h ((⟨b,i,none⟩:Addr).add k).block=some (.cells c e f)/\((⟨b,i,none⟩:Addr).add k).off<c.size/\
   rh (.cells c e f) ((⟨b,i,none⟩:Addr).add k)=false/\wpH P G (storeCells ⟨b,i,none⟩ vs (k+1)) (h.set ((⟨b,i,none⟩:Addr).add k).block (.cells (c.setIfInBounds ((⟨b,i,none⟩:Addr).add k).off v) e f)) K):=fun _ _=>rfl
  rw [e0,e0,ox];simp only [ci hne,Et (Ne.symm hne)];simp only [Ae hne vs]
theorem fk {T:TypeId} {v:Value} {b i q:Nat} {o:Obj} (hne:b≠q) {h:Hp} {K:Unit->Hp->Prop}:
 wpH P G (Instr.storeAt T (.pointer (some ⟨b,i,none⟩)) v) (h.set q o) K=wpH P G (Instr.storeAt T (.pointer (some ⟨b,i,none⟩)) v) h (fun u h'=>K u (h'.set q o)):=by have e:Instr.storeAt T (.pointer (some ⟨b,i,none⟩)) v=storeVar T ⟨b,i,none⟩ v:=rfl;rw [e,propext xi,propext xi];simp only [Ae hne]
end
end Go.HL
namespace Go.HL
open Go
theorem dt {F:Rg->Hp->(Exit->Rg->Hp->Prop)->Prop} (I:Nat->Rg->Hp->Prop) {K:Exit->Rg->Hp->Prop}
 (round:∀m r h,I m r h->∀X:Rg->Hp->Prop,(∀m' r' h',m'<m->I m' r' h'->X r' h')->F r h (di X K)) {m:Nat} {r:Rg} {h:Hp} (hi:I m r h):du F r h K:=by
 have key:∀N m r h,m<N->I m r h->H6 F K N r h:=by
  intro N;induction N with
  |zero=>intro m r h hm;omega
  |succ N ih=>
   intro m r h hm hi;have:=round m r h hi (H6 F K N) (fun m' r' h' hlt hi'=>ih m' r' h' (by omega) hi');unfold H6;have e:(fun (e:Exit) (r':Rg) (h':Hp)=>match e with | .normal=>H6 F K N r' h'|e=>K e r' h')=di (H6 F K N) K:=by funext e r' h';cases e<;>rfl
   exact Eq.mpr (congrArg (F r h) e) this
 exact ⟨m+1,key (m+1) m r h (Nat.lt_succ_self m) hi⟩
theorem js {p:Prop} [Decidable p] (h:p):decide p=true:=af_ h
theorem kc {p:Prop} [Decidable p] (h:¬p):decide p=false:=ai_ h
end Go.HL
namespace Go.HL
open Go
structure Cod (α:Type) where
 n:Nat
 enc:α->List Value
 len:∀x,(enc x).length=n
 one:∀x,∀v∈enc x,ls v=true
namespace Cod
variable {α:Type} (c:Cod α)
def rows (L:List α):List Value:=L.flatMap c.enc
theorem Cg (x:α) (L:List α):c.rows (x::L)=c.enc x++c.rows L:=rfl
theorem rows_append (L M:List α):c.rows (L++M)=c.rows L++c.rows M:=by simp [rows]
theorem rows_single (x:α):c.rows [x]=c.enc x:=by simp [rows]
theorem rows_length (L:List α):(c.rows L).length=L.length*c.n:=by
 induction L with
 |nil=>simp [rows]
 |cons x L ih=>rw [Cg,ae_,ih,c.len,an_,bD_,Nat.add_comm]
theorem rows_one (L:List α):∀v∈c.rows L,ls v=true:=by intro v hv;obtain ⟨x,_,hx⟩:=aY_.1 hv;exact c.one x v hx
theorem rows_get {L:List α} {t:List Value} {i j:Nat} {x:α} (hi:L[i]?=some x) (hj:j<c.n):(c.rows L++t)[i*c.n+j]?=(c.enc x)[j]?:=by
 induction L generalizing i with
 |nil=>simp at hi
 |cons y L ih=>
  rw [Cg,aC_];cases i with
  |zero=>simp at hi;subst hi;rw [bH_,a1_,aq_ (by rw [c.len];exact hj)]
  |succ i=>rw [aF_ (by rw [c.len,bD_];omega),c.len,show (i+1)*c.n+j-c.n=i*c.n+j by rw [bD_];omega];exact ih (by simpa using hi)
theorem rows_put {L:List α} {t:List Value} {i:Nat} {x:α} (hi:i<L.length):putL (c.rows L++t) (i*c.n) (c.enc x)=c.rows (L.set i x)++t:=by
 have hle:(i+1)*c.n<=L.length*c.n:=aU_ _ hi;rw [bD_]at hle;rw [ut _ _ _ (by rw [c.len,ae_,rows_length];omega),c.len];have h1:L=L.take i++L[i]::L.drop (i+1):=by simp
 have h2:L.set i x=L.take i++x::L.drop (i+1):=by rw [b4_,ak_ hi]
 have e1:c.rows L=c.rows (L.take i)++(c.enc L[i]++c.rows (L.drop (i+1))):=by
  conv=>lhs;rw [h1]
  rw [rows_append,Cg]
 have l1:(c.rows (L.take i)).length=i*c.n:=by rw [rows_length,aN_,bN_ (by omega)]
 rw [h2,rows_append,Cg,e1];rw [aC_ (c.rows (L.take i)),bu_ (by omega),am_ (by omega)];rw [cb_,a5_ (by omega),l1,show i*c.n+c.n-i*c.n=c.n by omega,aC_ (c.enc L[i])];rw [cb_,a5_ (by rw [c.len];omega),c.len,Nat.sub_self,List.drop_zero];simp
theorem rows_split (L:List α) (k:Nat):c.rows L=c.rows (L.take k)++c.rows (L.drop k):=by rw [<- rows_append,bE_]
theorem rows_take {L:List α} {t:List Value} {k:Nat} (hk:k<=L.length):(c.rows L++t).take (k*c.n)=c.rows (L.take k):=by
 have l1:(c.rows (L.take k)).length=k*c.n:=by rw [rows_length,aN_,bN_ hk]
 rw [c.rows_split L k,aC_,bu_ (by omega),am_ (by omega)]
theorem rows_drop {L:List α} {t:List Value} {k:Nat} (hk:k<=L.length):(c.rows L++t).drop (k*c.n)=c.rows (L.drop k)++t:=by
 have l1:(c.rows (L.take k)).length=k*c.n:=by rw [rows_length,aN_,bN_ hk]
 rw [c.rows_split L k,aC_,cb_,a5_ (by omega),l1,Nat.sub_self];simp
end Cod
def intC:Cod Int:=⟨1,fun n=>[.int .i64 n],fun _=>rfl,fun _ v hv=>by simp at hv;subst hv;rfl⟩
def ad8:Cod Bool:=⟨1,fun n=>[.bool n],fun _=>rfl,fun _ v hv=>by simp at hv;subst hv;rfl⟩
end Go.HL
namespace Go.HL
open Go
section
variable {P:Program} {G:Hp} {α:Type}
theorem Dn (c:Cod α) {x:α} {T:TypeId} (hi:(P.info? T).map (·.size)=some c.n) {b i:Nat} {L:List α} {t:List Value} {e:TypeId} {h:Hp} {K:Unit->Hp->Prop}
 (hb:h b=some (.cells (c.rows L++t).toArray e (0,0))) (hil:i<L.length):
 wpH P G (Instr.storeAt T (.pointer (some ⟨b,i*c.n,none⟩)) (.agg (c.enc x).toArray)) h K=K () (h.set b (.cells (c.rows (L.set i x)++t).toArray e (0,0))):=by have hle:(i+1)*c.n<=L.length*c.n:=aU_ _ hil;rw [bD_]at hle;rw [vd hi hb (by simp [ou,c.len]) (by rw [ae_,c.rows_length];omega) (by simpa [ou]using c.one x)];simp only [ou,c.rows_put hil]
end
end Go.HL
set_option linter.unusedVariables false
set_option linter.unusedSimpArgs false
namespace Go.HL
open Go
structure iu (P:Program) (e:TypeId) (n bytes:Nat):Prop where
 size:(P.info? e).map (·.size)=some n
 bytes:(P.info? e).map (·.bytes)=some bytes
 zero:((P.info? e).bind (·.zero)).map (·.cells.size)=some n
section
variable {P:Program} {G:Hp} {α:Type}
theorem Bl {b off:Nat} {h:Hp}:∀(vs:List Value) (i:Nat) (acc:Array Value) {K:Array Value->Hp->Prop},(∀j,j<vs.length->bf G h ⟨b,off+(i+j),none⟩=vs[j]?)->
 wpH P G (loadCellsFrom ⟨b,off,none⟩ i vs.length acc) h K=K (acc++vs.toArray) h
 |[],i,acc,K,_=>by simp only [a3_,loadCellsFrom];simp [wpH,pure]
 |v::vs,i,acc,K,hc=>by
  have h0:=hc 0 (by simp);simp only [bc_,ar_]at h0;have e0:wpH P G (loadCellsFrom ⟨b,off,none⟩ i (vs.length+1) acc) h K=(∃x,bf G h ((⟨b,off,none⟩:Addr).add i)=some x/\wpH P G (loadCellsFrom ⟨b,off,none⟩ (i+1) vs.length (acc.push x)) h K):=rfl;rw [an_,e0,ox,h0];simp only [Option.some.injEq,exists_eq_left']
  rw [Bl vs (i+1) (acc.push v) (fun j hj=>by
   have:=hc (j+1) (by simp;omega)
   rw [show off+(i+1+j)=off+(i+(j+1))by omega,this,as_])]
  congr 1;simp
theorem Rr {b off:Nat} {h:Hp} {vs:List Value} {K:Array Value->Hp->Prop} (hc:∀j,j<vs.length->bf G h ⟨b,off+j,none⟩=vs[j]?):
 wpH P G (loadCells ⟨b,off,none⟩ vs.length) h K=K vs.toArray h:=by unfold loadCells;rw [Bl vs 0 #[] (by simpa using hc)];simp
theorem O9 (need:Nat):∀(r c:Nat),c<=2*need+192->Builtin.growBy need r c<=2*need+192
 |0,_,h=>h
 |r+1,c,h=>by
  unfold Builtin.growBy;split
  . exact h
  . exact O9 need r _ (by omega)
theorem Rm {need cap:Nat} (h:cap<need):Builtin.nextslicecap need cap<=2*need+192:=by
 unfold Builtin.nextslicecap;split
 . omega
 . split
   . omega
   . exact O9 need 4 cap (by omega)
def Src (G h:Hp) (size:Nat) (x:Value) (m:Nat) (vs:List Value):Prop:=
 vs.length=m*size/\((∃c,x = .slice none m c/\vs=[])\/∃q off c,x = .slice (some ⟨q,off,none⟩) m c/\∀j,j<vs.length->bf G h ⟨q,off+j,none⟩=vs[j]?)
theorem je {h:Hp} {size m:Nat} {x:Value} {vs:List Value} (s:Src G h size x m vs) {K:Array Value->Hp->Prop}:wpH P G (Builtin.firstCells size m x) h K=K vs.toArray h:=by
 obtain ⟨hl,⟨c,rfl,rfl⟩|⟨q,off,c,rfl,hc⟩⟩:=s
 . rfl
 . simp only [Builtin.firstCells];rw [<- hl];exact Rr hc
theorem yo {h h':Hp} {size m:Nat} {x:Value} {vs:List Value} (s:Src G h size x m vs) {K:Nat->Hp->Prop}:wpH P G (Builtin.lenOf x) h' K=K m h':=by obtain ⟨hl,⟨c,rfl,rfl⟩|⟨q,off,c,rfl,hc⟩⟩:=s<;>rfl
theorem iu.get {e n bytes:Nat} (k:iu P e n bytes):∃i z,P.info? e=some i/\i.size=n/\i.bytes=bytes/\i.zero=some z/\z.cells.size=n:=by
 obtain ⟨h1,h2,h3⟩:=k;cases hi:P.info? e with
 |none=>rw [hi]at h1;cases h1
 |some i=>rw [hi]at h1 h2 h3;simp at h1 h2 h3;obtain ⟨z,hz,hz2⟩:=h3;exact ⟨i,z,rfl,h1,h2,hz,hz2⟩
theorem Lu {T e:TypeId} {n bytes:Nat} (hu:P.underlying T=some (.slice e)) (k:iu P e n bytes) {ty:TypeId} {h:Hp} {b len cap m:Nat} {x:Value} {l vs:List Value} {e':TypeId}
 (hb:h b=some (.cells l.toArray e' (0,0))) (s:Src G h n x m vs) (h1:∀v∈vs,ls v=true) (hc:len+m<=cap) (hl:(len+m)*n<=l.length) {K:VK}:
 wpH P G (Builtin.append_ #[T,T] ty #[.slice (some ⟨b,0,none⟩) len cap,x]) h K=K (.slice (some ⟨b,0,none⟩) (len+m) cap) (h.set b (.cells (putL l (len*n) vs).toArray e' (0,0))):=by obtain ⟨i,z,hi,rfl,rfl,hz,hzc⟩:=k.get;have e1:=s.1;have hb':∀(α β:Type) (s:Sem α) (g:α->Sem β),(s >>= g)=s.bind g:=fun _ _ _ _=>rfl;simp only [Builtin.append_,hb',underlying,program,sizeOf,typeInfo,Sem.bind,pure];simp only [wpH,dp,hu,hi,aV_,ar_,as_,yo s,ak_ hc,bL_,if_true,aI_,if_false,je s,ox,a1_];rw [m7 (i:=len*i.size) (k:=0) vs hb (by rw [e1];rw [bK_]at hl;omega) h1];simp
theorem vy {b:Nat} {h:Hp} {K:Unit->Hp->Prop}:wpH P G (askRoom b) h K=K () h:=by unfold askRoom;split<;>rfl
theorem W3 {T e:TypeId} {n bytes:Nat} (hu:P.underlying T=some (.slice e)) (k:iu P e n bytes) (hb0:0<bytes) {ty:TypeId} {h:Hp} {base:Option Addr} {len cap m:Nat} {x:Value} {os vs:List Value}
 (s0:Src G h n (.slice base len cap) len os) (s:Src G h n x m vs) (hc:cap<len+m) (hmax:(2*(len+m)+192)*bytes<=281474976710656) (hmax2:len+m<=1099511627776) {K:VK}
 (H:∀r cap' ts,h r=none->G r=none->len+m<=cap'->ts.length=(cap'-(len+m))*n->K (.slice (some ⟨r,0,none⟩) (len+m) cap') (h.set r (.cells (os++vs++ts).toArray e (0,0)))):
 wpH P G (Builtin.append_ #[T,T] ty #[.slice base len cap,x]) h K:=by
 obtain ⟨i,z,hi,rfl,rfl,hz,hzc⟩:=k.get;have hb':∀(α β:Type) (s:Sem α) (g:α->Sem β),(s >>= g)=s.bind g:=fun _ _ _ _=>rfl;have c1:¬len+m<=cap:=by omega
 have c2:¬(((len+m:Nat):Int)>IntKind.i64.max/\(False\/i.bytes=0)):=by
  rintro ⟨_,h2|h2⟩
  . cases h2
  . omega
 have c3:¬Builtin.nextslicecap (len+m) cap*i.bytes>2 ^ 48:=by have:=aU_ i.bytes (Rm hc);omega
 simp only [Builtin.append_,hb',underlying,program,sizeOf,typeInfo,Sem.bind,pure,zeroValue];simp only [wpH,dp,hu,hi,aV_,ar_,as_,yo s,ah_ c1,bL_,aI_,if_true,if_false];rw [ah_ c2];simp only [wpH,dp,hi];rw [ah_ c3];have cf:Question.forced (.appendCap (len+m) cap e)=false:=rfl;simp only [wpH,dp,choose,cf,vy,hi,hz,je s,je s0,newRow,newObj,bind,pure,aI_,if_false,Question.cut];intro t r hr gr;have:=H r (len+m+t % (2 ^ 63-(len+m))) (Builtin.zeroCells z.cells (len+m+t % (2 ^ 63-(len+m))-(len+m))).toList hr gr (by omega) (by simp [Builtin.zeroCells,hzc]);have e1:∀Z:Array Value,os.toArray++vs.toArray++Z=(os++vs++Z.toList).toArray:=fun Z=>by apply Array.ext';simp
 rw [e1];exact this
def Own (c:Cod α) (e:TypeId) (h:Hp) (v:Value) (L:List α):Option Nat->Prop
 |none=>v = .slice none 0 0/\L=[]
 |some b=>∃cap t,v = .slice (some ⟨b,0,none⟩) L.length cap/\h b=some (.cells (c.rows L++t).toArray e (0,0))/\(c.rows L++t).length=cap*c.n
theorem Own.src {c:Cod α} {e:TypeId} {h:Hp} {v:Value} {L:List α} {ob:Option Nat} (o:Own c e h v L ob):Src G h c.n v L.length (c.rows L):=by
 refine ⟨c.rows_length L,?_⟩;cases ob with
 |none=>obtain ⟨rfl,rfl⟩:=o;exact .inl ⟨0,rfl,rfl⟩
 |some b=>obtain ⟨cap,t,rfl,hb,_⟩:=o;refine .inr ⟨b,0,cap,rfl,fun j hj=>?_⟩;rw [bm (bj hb),a1_,aq_ hj]
theorem Y1 (c:Cod α) {T e:TypeId} {bytes:Nat} (hu:P.underlying T=some (.slice e)) (k:iu P e c.n bytes) (hb0:0<bytes) {ty:TypeId} {h:Hp} {v x:Value} {L M:List α} {ob:Option Nat}
 (o:Own c e h v L ob) (s:Src G h c.n x M.length (c.rows M)) (hM:M≠[]) (hmax:(2*(L.length+M.length)+192)*bytes<=281474976710656) (hmax2:L.length+M.length<=1099511627776) {K:VK}
 (H:∀b' cap' ts,(ob=some b'\/(h b'=none/\G b'=none))->(c.rows (L++M)++ts).length=cap'*c.n->K (.slice (some ⟨b',0,none⟩) (L.length+M.length) cap') (h.set b' (.cells (c.rows (L++M)++ts).toArray e (0,0)))):
 wpH P G (Builtin.append_ #[T,T] ty #[v,x]) h K:=by
 have hMl:0<M.length:=bB_.2 hM
 have grow:∀base cap,v = .slice base L.length cap->cap<L.length+M.length->wpH P G (Builtin.append_ #[T,T] ty #[v,x]) h K:=by
  rintro base cap rfl hc;refine W3 hu k hb0 (Own.src o) s hc hmax hmax2 fun r cap' ts hr gr hle hts=>?_
  have:=H r cap' ts (.inr ⟨hr,gr⟩) (by
   rw [ae_,c.rows_length,hts,ae_,<- bK_]
   congr 1;omega)
  rwa [c.rows_append]at this
 cases ob with
 |none=>obtain ⟨rfl,rfl⟩:=o;exact grow none 0 rfl (by simpa using hMl)
 |some b=>
  obtain ⟨cap,t,rfl,hb,hlen⟩:=o;by_cases hc:L.length+M.length<=cap
  . have hle:(L.length+M.length)*c.n<=(c.rows L++t).length:=by rw [hlen];exact aU_ _ hc
    rw [Lu hu k hb s (c.rows_one M) hc hle];have hput:putL (c.rows L++t) (L.length*c.n) (c.rows M)=c.rows (L++M)++t.drop (M.length*c.n):=by rw [ut _ _ _ (by rw [c.rows_length,<- bK_];exact hle),c.rows_length];rw [bu_ (by rw [c.rows_length];omega),am_ (by rw [c.rows_length];omega)];rw [cb_,a5_ (by rw [c.rows_length];omega),c.rows_length,c.rows_append];simp
    rw [hput];refine H b cap _ (.inl rfl) ?_;rw [<- hput,Bc];exact hlen
  . exact grow _ cap rfl (by omega)
end
end Go.HL
set_option linter.unusedVariables false
set_option linter.unusedSimpArgs false
namespace Go.HL
open Go
section
variable {P:Program} {G:Hp}
theorem Ay {T e:TypeId} {n:Nat} (hu:P.underlying T=some (.slice e)) (hs:(P.info? e).map (·.size)=some n) {a:Option Addr} {len cap:Nat} {j:Int} {h:Hp} {K:VK} (h1:0<=j) (h2:j<=cap):
 wpH P G (Instr.sliceAt T (.slice a len cap) none (some (.int .i64 j)) none) h K=K (.slice a j.toNat cap) h:=by
 cases hi:P.info? e with
 |none=>rw [hi]at hs;cases hs
 |some x=>simp [Instr.sliceAt,Instr.slice,Instr.sliceBounds,Instr.sliceBound,asIntOf,underlying,program,bind,Sem.bind,pure,wpH,dp,hu,sizeOf,typeInfo,hi,h1,h2];cases a<;>simp [Addr.add]
theorem pk {T e:TypeId} {n:Nat} (hu:P.underlying T=some (.slice e)) (hs:(P.info? e).map (·.size)=some n) {a:Addr} {len cap:Nat} {i:Int} {h:Hp} {K:VK} (h1:0<=i) (h2:i<=len) (h3:len<=cap):
 wpH P G (Instr.sliceAt T (.slice (some a) len cap) (some (.int .i64 i)) none none) h K=K (.slice (some (if cap=i.toNat then a else a.add (i.toNat*n))) (len-i.toNat) (cap-i.toNat)) h:=by
 cases hi:P.info? e with
 |none=>rw [hi]at hs;cases hs
 |some x=>rw [hi]at hs;simp at hs;subst hs;simp [Instr.sliceAt,Instr.slice,Instr.sliceBounds,Instr.sliceBound,asIntOf,underlying,program,bind,Sem.bind,pure,wpH,dp,hu,sizeOf,typeInfo,hi,h1,h2];split<;>rfl
theorem wd {T e:TypeId} {n:Nat} (hu:P.underlying T=some (.slice e)) (hs:(P.info? e).map (·.size)=some n) {a:Addr} {len cap:Nat} {i:Int} {h0:Hp} {K:Value->Prop} (h1:0<=i) (h2:i<=len) (h3:len<=cap):
 pw P G h0 (Instr.sliceAt T (.slice (some a) len cap) (some (.int .i64 i)) none none) K=K (.slice (some (if cap=i.toNat then a else a.add (i.toNat*n))) (len-i.toNat) (cap-i.toNat)):=by
 cases hi:P.info? e with
 |none=>rw [hi]at hs;cases hs
 |some x=>rw [hi]at hs;simp at hs;subst hs;simp [Instr.sliceAt,Instr.slice,Instr.sliceBounds,Instr.sliceBound,asIntOf,underlying,program,bind,Sem.bind,pure,pw,py,hu,sizeOf,typeInfo,hi,h1,h2];split<;>rfl
end
end Go.HL
set_option linter.unusedVariables false
set_option linter.unusedSimpArgs false
namespace Go.HL
open Go
section
variable {P:Program} {G:Hp} {α:Type}
theorem A0 (c:Cod α) (d:α) (n:Nat) (zs:Array Value) (hz:c.enc d=zs.toList) (hn:0<c.n):((Array.range (n*c.n)).map fun i=>zs[i % zs.size]!)=(c.rows (List.replicate n d)).toArray:=by
 have hs:zs.size=c.n:=by have:=c.len d;rw [hz]at this;simpa using this
 apply Array.ext';simp only [Array.toList_map,Array.toList_range];apply bg_;intro i;by_cases hi:i<n*c.n
 . have hdiv:i / c.n<n:=(Nat.div_lt_iff_lt_mul hn).2 hi;have h1:=c.rows_get (L:=List.replicate n d) (t:=[]) (i:=i / c.n) (j:=i % c.n) (x:=d) (by rw [bS_,ak_ hdiv]) (Nat.mod_lt _ hn);rw [av_,bi_ (i / c.n) c.n,b3_]at h1;rw [h1,hz];have hm:i % c.n<zs.size:=by rw [hs];exact Nat.mod_lt _ hn
   simp [List.getElem?_range hi,hs,hm];first|rfl|(rw [aa_ (by simpa using hm)];rfl)|simp [hm]
 . rw [a4_ (by simp;omega),a4_ (by rw [c.rows_length,bG_];omega)]
theorem tf {T e:TypeId} {bytes:Nat} (c:Cod α) (d:α) (hn:0<c.n) (hu:P.underlying T=some (.slice e)) (k:iu P e c.n bytes) (hz:((P.info? e).bind (·.zero)).map (·.cells.toList)=some (c.enc d)) {n:Nat}
 (hmax:bytes*n<=281474976710656) (hmax2:n<=1099511627776) {h:Hp} {K:VK}:
 wpH P G (Instr.makeSlice T (.int .i64 n) (.int .i64 n)) h K=∀x,h x=none->G x=none->K (.slice (some ⟨x,0,none⟩) n n) (h.set x (.cells (c.rows (List.replicate n d)).toArray e (0,0))):=by
 obtain ⟨i,z,hi,hsz,rfl,hzz,hzc⟩:=k.get;rw [hi]at hz;simp [hzz]at hz;have hb':∀(α β:Type) (s:Sem α) (g:α->Sem β),(s >>= g)=s.bind g:=fun _ _ _ _=>rfl;have hw:IntKind.i64.wrap (n:Int)=(n:Int):=ng (by omega) (by omega);have hbn:((i.bytes:Int)*(n:Int))<=281474976710656:=by have:=Int.ofNat_le.2 hmax;rw [b6_]at this;exact this
 have t1:(decide ((n:Int)<0)||decide ((i.bytes:Int)*(n:Int)>2 ^ 48))=false:=by rw [ai_ (by omega),ai_ (by omega)];rfl
 simp only [Instr.makeSlice,hb',underlying,program,sizeOf,typeInfo,Sem.bind,pure,zeroValue,asInt,asIntOf,wpH,dp,hu,hi,hw];rw [t1];simp only [aI_,false_or,Int.lt_irrefl,Bool.or_self,decide_false,Bool.false_or];have hlt:¬((n:Int)<0):=by omega
 rw [ah_ (by rw [ai_ hlt];decide)];simp only [dp,vy,wpH,hi,aP_];by_cases h0:n*i.size=0
 . rw [ak_ h0]
   have hn0:n=0:=by
    rcases Nat.mul_eq_zero.1 h0 with h|h
    . exact h
    . omega
   subst hn0;have e0:(Array.range 0).map (fun i=>(#[]:Array Value)[i % (#[]:Array Value).size]!)=(c.rows (List.replicate 0 d)).toArray:=by apply Array.ext';simp [Cod.rows]
   simp only [wpH,dp,newRow,newObj,bind,pure,bH_];rw [e0]
 . rw [ah_ h0];simp only [wpH,dp,hi,hzz,newRow,newObj,bind,pure,hsz];rw [A0 c d n z.cells hz.symm hn]
def whole (G:Hp) (w:World):Hp:=fun b=>match G b with
 |some _=>none
 |none=>w.heap[b]?
theorem au9 {G:Hp} {w:World} (hg:∀b o,G b=some o->w.heap[b]?=some o):In G (whole G w) w:=by
 refine ⟨fun b o e=>?_,fun b o e=>⟨hg b o e,by simp [whole,e]⟩⟩;unfold whole at e;split at e
 . cases e
 . exact e
theorem Wu {f:FuncId} {args:Array Value} {w:World} {G:Hp} {R:Value->Prop} (hg:∀b o,G b=some o->w.heap[b]?=some o) (c:bn P G f args (whole G w) (fun v h'=>R v/\h'=whole G w)):
 Calls P f args w fun e w'=>(∃v,e = .returned v/\R v)/\Go.RowKit.Below w.heap.size w w':=by
 refine (c w (au9 hg)).mono ?_;rintro e w' ⟨v,h',rfl,m,hr,rfl⟩;refine ⟨⟨v,rfl,hr⟩,m.os,m.tape,m.output,m.size,fun k hk=>?_⟩;obtain ⟨o,ho⟩:∃o,w.heap[k]?=some o:=⟨_,aJ_ hk⟩;rw [ho];cases e:G k with
 |none=>exact m.sub k o (by simp [whole,e,ho])
 |some p=>have:=(m.frame k o ho (by simp [whole,e])).1;exact this
end
end Go.HL
set_option linter.unusedVariables false
set_option linter.unusedSimpArgs false
namespace Go.HL
open Go
section
variable {P:Program}
def ground (w:World):Hp:=fun b=>w.heap[b]?
def Dis (G h:Hp):Prop:=∀b o,h b=some o->G b=none
theorem Dis.start {G:Hp}:Dis G noHp:=fun _ _ e=>by cases e
theorem Dis.set {G h:Hp} {x:Nat} {o:Obj} (d:Dis G h) (gx:G x=none):Dis G (h.set x o):=by
 intro b p e;by_cases hb:b=x
 . rw [hb];exact gx
 . rw [ci hb]at e;exact d b p e
theorem Ie {w:World} {a:Addr} {v:Value} (e:w.cell? a=some v) {h:Hp} (d:Dis (ground w) h):bf (ground w) h a=some v:=by
 unfold bf look;unfold World.cell? at e;cases hb:w.heap[a.block]? with
 |none=>rw [hb]at e;simp at e
 |some o=>
  have h2:h a.block=none:=by
   cases hh:h a.block with
   |none=>rfl
   |some p=>have:=d _ _ hh;unfold ground at this;rw [hb]at this;cases this
  rw [hb]at e;rw [h2];simp only [ground,hb];rw [<- e];cases o<;>rfl
theorem Qz {w:World}:whole (ground w) w=noHp:=by funext b;unfold whole ground noHp;cases w.heap[b]?<;>rfl
theorem Sj {f:FuncId} {args:Array Value} {w:World} {R:Value->Prop} (c:bn P (ground w) f args noHp (fun v _=>R v)):
 Calls P f args w fun e w'=>(∃v,e = .returned v/\R v)/\Go.RowKit.Below w.heap.size w w':=by refine Wu (G:=ground w) (fun b o e=>e) ?_;rw [Qz];exact c.less fun v h' r=>⟨noHp,fun _ _ e=>(by cases e),r,rfl⟩
def Rd {α:Type} (c:Cod α) (G:Hp) (v:Value) (L:List α):Prop:=
 ∃sa cap,v = .slice sa L.length cap/\(L=[]\/∃a,sa=some a/\∀h,Dis G h->∀j,j<(c.rows L).length->bf G h (a.add j)=(c.rows L)[j]?)
end
open Go.ChangeShapes Go.WideShapes Go.ChangeAt Go.RowKit
end Go.HL
set_option linter.unusedVariables false
set_option linter.unusedSimpArgs false
namespace Go.HL
open Go Go.RowKit Go.WideShapes Go.ChangeShapes
section
variable {H:Type} {enc:TypeId × Value->H} {P:Program}
theorem Ps (hl:laidOutB P=true) {W W':World} (hsame:∀k,k<W.heap.size->W'.heap[k]?=W.heap[k]?):∀{ts:List TypeId} {vs:List Value} {ds:List (DataW H)} {ps:List MemPlace},
 (ts.all fun t=>P.readableRec t&&decide (t<P.types.size))=true->DataW.TrodAll enc P W 0 (fun _=>true) true ts vs ds ps->(∀x∈ps,x.block<W.heap.size)->∀sp:Nat->Bool,(∀x∈ps,sp x.block=true)->DataW.TrodAll enc P W' 0 sp true ts vs ds ps
 |[],vs,ds,ps,_,h,_,sp,_=>by obtain ⟨rfl,rfl,rfl⟩:=trodAll_nil h;exact trodAll_mk0
 |t::ts,vs,ds,ps,ht,h,hlt,sp,hsp=>by
  obtain ⟨v,vs,d,ds,p,q,rfl,rfl,rfl,h0,h1⟩:=trodAll_cons h;simp only [List.all_cons,ag_,aw_]at ht;refine trodAll_cons_mk (WideElems.Trod_stays hl ht.1.1 ht.1.2 h0 (fun x hx=>?_) (fun x hx=>hsp x (aZ_ _ hx))) (Ps hl hsame ht.2 h1 (fun x hx=>hlt x (a7_ _ hx)) sp (fun x hx=>hsp x (a7_ _ hx)));have hx2:=hlt x (aZ_ _ hx);cases x with
  |cell b o=>exact World.cell?_of_block (w:=W) (hsame b hx2)
  |map b=>exact hsame b hx2
theorem az7 (hl:laidOutB P=true) {f:Func} {s:ChangeSpec} {fresh handsOn again:Bool} {W W':World} {args:Array Value} {ds gs:List (DataW H)} {before:List MemPlace} {tb:TypeId}
 (hvars:s.vars=[]) (hr:f.resultTypes=#[tb]) (hb:P.underlying tb=some .bool) (hps:(f.params.toList.all fun t=>P.readableRec t&&decide (t<P.types.size))=true)
 (hs:∀ds:List (DataW H),ds.length=f.params.size->(s.fn H ds).results=[.lit (.bool true)]/\(s.fn H ds).args=ds/\(s.fn H ds).vars=[])
 (hW:DataW.Whole enc P f.params.toList s.vars false W args.toList ds gs before) (hB:Below W.heap.size W W'):s.post enc P f false fresh handsOn again W args (.bool true) W':=by
 have hlt:∀p∈before,p.block<W.heap.size:=fun p hp=>hW.lt p hp;have hold:∀p∈before,(fun b=>decide (b<W.heap.size)) p.block=true:=fun p hp=>by simpa using hlt p hp
 have hW2:=hW;obtain ⟨p,q,hA,hV,rfl,hz,hn⟩:=hW;rw [hvars]at hV;obtain ⟨rfl,rfl⟩:=trodVars_none hV
 have hlen:ds.length=f.params.size:=by
  have key:∀(ts:List TypeId) (vs:List Value) (ds:List (DataW H)) (ps:List MemPlace),DataW.TrodAll enc P W 0 (fun _=>true) true ts vs ds ps->ds.length=ts.length:=by
   intro ts;induction ts with
   |nil=>intro vs ds ps h;obtain ⟨_,rfl,_⟩:=trodAll_nil h;rfl
   |cons t ts ih=>intro vs ds ps h;obtain ⟨v,vs,d,ds,p,q,rfl,rfl,rfl,_,h1⟩:=trodAll_cons h;rw [an_,an_,ih _ _ _ h1]
  rw [key _ _ _ _ hA,b1_]
 obtain ⟨e1,e2,e3⟩:=hs ds hlen;have hargs:∀sp:Nat->Bool,(∀x∈p++[],sp x.block=true)->DataW.TrodAll enc P W' 0 sp true f.params.toList args.toList (s.fn H (ds++[])).args p:=by intro sp hsp;rw [av_,e2];exact Ps hl hB.block hps hA (fun x hx=>hlt x (aZ_ _ hx)) sp (fun x hx=>hsp x (aZ_ _ hx))
 have hres:∀(b:Nat) (sp:Nat->Bool) (hd:Bool),DataW.TrodAll enc P W' b sp hd f.resultTypes.toList ((Value.bool true).resultList f.resultTypes.size) (s.fn H (ds++[])).results []:=by intro b sp hd;rw [av_,e1,hr];exact trodAll_cons_mk (shut_bool hb true) trodAll_mk0
 have hvs:∀sp:Nat->Bool,DataW.TrodVars enc P W' sp s.vars (s.fn H (ds++[])).vars []:=by intro sp;rw [av_,e3,hvars];rfl
 refine ⟨ds,[],p++[],[],p,[],hW2,hres _ _ _,hargs _ hold,hvs _,World.keptBut_mono (fun x hx=>⟨hx,?_⟩) (hB.frame (· ∈ p++[])),fun _=>?_⟩
 . simpa using hx
 . refine ⟨ok_one hr rfl (okWide_bool_mk hb _),_,_,([]++p)++[],⟨[]++p,[],trodAll_append (hargs _ (fun _ _=>rfl)) (hres _ _ _),hvs _,rfl,?_,?_⟩,?_⟩
   . intro b off hp;have hin:MemPlace.cell b off∈p++[]:=by simpa using hp
     rw [hB.frozen (hlt _ hin)];exact hz b off hin
   . intro ha;have:=hn ha;simpa using this
   . intro x hx _;simpa using hx
end
end Go.HL
set_option linter.unusedVariables false
set_option linter.unusedSimpArgs false
namespace Go.HL
open Go Go.ChangeShapes Go.WideShapes Go.RowKit
theorem Jk {α:Type} {Q:Nat->α->Prop}:∀n,(∀i,i<n->∃x,Q i x)->∃L:List α,L.length=n/\∀i x,L[i]?=some x->Q i x
 |0,_=>⟨[],rfl,by simp⟩
 |n+1,h=>by
  obtain ⟨L,hl,hq⟩:=Jk n (fun i hi=>h i (by omega));obtain ⟨x,hx⟩:=h n (by omega);refine ⟨L++[x],by simp [hl],fun i y hy=>?_⟩;by_cases hi:i<n
  . rw [aq_ (by omega)]at hy;exact hq i y hy
  . have:i=n:=by have:=(ad_.1 hy).1;simp [hl]at this;omega
    subst this;rw [<- hl,aF_ (by omega)]at hy;simp at hy;subst hy;exact hx
def RdR {α:Type} (n:Nat) (R:List Value->α->Prop) (G:Hp) (v:Value) (L:List α):Prop:=
 ∃sa cap,v = .slice sa L.length cap/\(L=[]\/∃b o,sa=some ⟨b,o,none⟩/\∀i x,L[i]?=some x->∃cs,cs.length=n/\R cs x/\∀h,Dis G h->∀j,j<n->bf G h ⟨b,o+i*n+j,none⟩=cs[j]?)
theorem RdR.len {α:Type} {n:Nat} {R:List Value->α->Prop} {G:Hp} {v:Value} {L:List α} (r:RdR n R G v L):∃sa cap,v = .slice sa L.length cap:=by obtain ⟨sa,cap,rfl,_⟩:=r;exact ⟨sa,cap,rfl⟩
theorem Pn {w:World} {a:Addr} {v:Value} (h:w.cell? a=some v):a.spot=none:=by
 unfold World.cell? at h;cases hb:w.heap[a.block]? with
 |none=>rw [hb]at h;simp at h
 |some o=>
  rw [hb]at h;cases o with
  |cells c e f=>
   simp only at h;split at h
   . cases h
   . rename_i hs;cases hsp:a.spot with
     |none=>rfl
     |some _=>rw [hsp]at hs;simp at hs
  |_=>simp at h
theorem mo {H:Type} {enc:TypeId × Value->H} {P:Program} {w:World} {base:Nat} {spare:Nat->Bool} {held:Bool} {e:TypeId} {fuel:Nat} {cs:List Value} {y:DataW H × List MemPlace} (ht:P.underlying e=some (.int .i64))
 (h:DataW.trod enc P w base spare held fuel e cs=some y):∃n:Int,cs=[.int .i64 n] /\ -9223372036854775808<=n/\n<=9223372036854775807:=by obtain ⟨n',h,hx,hw⟩:=DataW.trod_int ht h;refine ⟨n',h,?_⟩;simpa [Lit.wf,IntKind.min,IntKind.max,IntKind.signed,IntKind.bits]using hw
theorem Wm {H:Type} {enc:TypeId × Value->H} {P:Program} {w:World} {base:Nat} {spare:Nat->Bool} {held:Bool} {e:TypeId} {fuel:Nat} {cs:List Value} {y:DataW H × List MemPlace} (ht:P.underlying e=some .bool)
 (h:DataW.trod enc P w base spare held fuel e cs=some y):∃b:Bool,cs=[.bool b]:=by obtain ⟨b,h,_⟩:=DataW.trod_bool ht h;exact ⟨b,h⟩
theorem Yk {H:Type} {enc:TypeId × Value->H} {P:Program} {w:World} {base:Nat} {spare:Nat->Bool} {held:Bool} {e:TypeId} {fuel:Nat} {cs:List Value} {y:DataW H × List MemPlace} {fs:Array Field} (ht:P.underlying e=some (.struct fs))
 (h:DataW.trod enc P w base spare held fuel e cs=some y):cs.length=P.cellsOf e/\∀(i:Nat) (f:Field),fs[i]?=some f->∃m z,DataW.trod enc P w base spare held m f.type ((cs.drop f.offset).take (P.cellsOf f.type))=some z:=by
 obtain ⟨xs,n,_,_,h1,h2,h3⟩:=DataW.trod_struct ht h;refine ⟨h1,fun i f hf=>⟨n,xs[i]'?_,?_⟩⟩
 . rw [h2];exact (ay_.1 hf).1
 . rw [h3 i f hf,aa_]
end Go.HL
set_option linter.unusedVariables false
set_option linter.unusedSimpArgs false
namespace Go.HL
open Go
theorem Own.at {α:Type} {c:Cod α} {e:TypeId} {h:Hp} {v:Value} {L:List α} {ob:Option Nat} (o:Own c e h v L ob):∀b,ob=some b->∃p,h b=some p:=by rintro b rfl;obtain ⟨cap,t,r1,r2,r3⟩:=o;exact ⟨_,r2⟩
theorem Own.slice {α:Type} {c:Cod α} {e:TypeId} {h:Hp} {v:Value} {L:List α} {ob:Option Nat} (o:Own c e h v L ob):∃sa cap,v = .slice sa L.length cap:=by
 cases ob with
 |none=>obtain ⟨rfl,rfl⟩:=o;exact ⟨none,0,rfl⟩
 |some b=>obtain ⟨cap,t,r1,r2,r3⟩:=o;exact ⟨_,cap,r1⟩
def Sees {α:Type} (c:Cod α) (G h:Hp) (v:Value) (L:List α):Prop:=
 ∃s cap,v = .slice s L.length cap/\L.length<=cap/\(L=[]\/∃b o,s=some ⟨b,o,none⟩/\∀i x,L[i]?=some x->∀j,j<c.n->bf G h ⟨b,o+i*c.n+j,none⟩=(c.enc x)[j]?)
theorem Own.sees {α:Type} {c:Cod α} {G:Hp} {e:TypeId} {h:Hp} {v:Value} {L:List α} {ob:Option Nat} (o:Own c e h v L ob) (hn:0<c.n):Sees c G h v L:=by
 cases ob with
 |none=>obtain ⟨rfl,rfl⟩:=o;exact ⟨none,0,rfl,aj_ _,.inl rfl⟩
 |some b=>
  obtain ⟨cap,t,rfl,r2,r3⟩:=o;refine ⟨_,cap,rfl,?_,.inr ⟨b,0,rfl,fun i x hx j hj=>?_⟩⟩
  . rw [ae_,c.rows_length]at r3;exact Nat.le_of_mul_le_mul_right (by omega) hn
  . rw [bm (bj r2),a1_];exact c.rows_get hx hj
theorem Sees.get {α:Type} {c:Cod α} {G h:Hp} {v:Value} {L:List α} (s:Sees c G h v L) {i:Nat} {x:α} (hx:L[i]?=some x):
 ∃b o cap,v = .slice (some ⟨b,o,none⟩) L.length cap/\∀j,j<c.n->bf G h ⟨b,o+i*c.n+j,none⟩=(c.enc x)[j]?:=by
 obtain ⟨s,cap,rfl,_,rfl|⟨b,o,rfl,hc⟩⟩:=s
 . simp at hx
 . exact ⟨b,o,cap,rfl,hc i x hx⟩
theorem Sees.len {α:Type} {c:Cod α} {G h:Hp} {v:Value} {L:List α} (s:Sees c G h v L):∃s cap,v = .slice s L.length cap:=by obtain ⟨s,cap,rfl,_⟩:=s;exact ⟨s,cap,rfl⟩
theorem Sees.keep {α:Type} {c:Cod α} {G h h':Hp} {v:Value} {L:List α} (s:Sees c G h v L) (l:∀a w,bf G h a=some w->bf G h' a=some w):Sees c G h' v L:=by obtain ⟨s,cap,rfl,h1,h2⟩:=s;refine ⟨s,cap,rfl,h1,h2.imp id fun ⟨b,o,e,hc⟩=>⟨b,o,e,fun i x hx j hj=>?_⟩⟩;have:=hc i x hx j hj;rw [aa_ (by rw [c.len];exact hj)]at this ⊢;exact l _ _ this
theorem Sees.take {α:Type} {c:Cod α} {G h:Hp} {v:Value} {L:List α} (s:Sees c G h v L) {k:Nat} (hk:k<=L.length):∃a cap,v = .slice a L.length cap/\L.length<=cap/\Sees c G h (.slice a k cap) (L.take k):=by
 obtain ⟨s,cap,rfl,h1,h2⟩:=s;refine ⟨s,cap,rfl,h1,s,cap,by rw [aN_,bN_ hk],by rw [aN_];omega,?_⟩;rcases h2 with rfl|⟨b,o,e,hc⟩
 . exact .inl (by simp)
 . refine .inr ⟨b,o,e,fun i x hx=>hc i x ?_⟩;rw [List.getElem?_take]at hx;split at hx
   . exact hx
   . cases hx
end Go.HL

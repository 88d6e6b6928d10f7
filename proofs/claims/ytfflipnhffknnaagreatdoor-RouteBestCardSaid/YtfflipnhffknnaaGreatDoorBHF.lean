/- The layer of step rules over owned blocks. -/
import Derived.Test.YtfflipnhffknnaaGreatDoorBH1
namespace Go.HL
open Go
def pw (P:Program) (G:Hp) {α:Type} (h0:Hp):Sem α->(α->Prop)->Prop
 | .pure a,K=>K a
 | .load _ a k,K=>∃v,bf G h0 a=some v/\pw P G h0 (k v) K
 | .shape r k,K=>∃o,look G h0 r=some o/\pw P G h0 (k (E5 o)) K
 | .frozen a k,K=>∃o,look G h0 a.block=some o/\pw P G h0 (k (rh o a)) K
 | .getObj r k,K=>∃o,look G h0 r=some o/\iy o=false/\pw P G h0 (k o) K
 | .program k,K=>pw P G h0 (k P) K
 | .mark _ k,K=>pw P G h0 k K
 |_,_=>False
def onVal (K:Value->Prop):Next->Prop
 | .value v=>K v
 |_=>False
theorem pw_at {P:Program} {G:Hp} {α:Type} (h0:Hp) (s:Sem α):∀{K:α->Prop},pw P G h0 s K->∃a,wpH P G s h0 (fun b h'=>h'=h0/\b=a)/\K a:=by
 induction s with
 |pure a=>intro K H;exact ⟨a,⟨rfl,rfl⟩,H⟩
 |load m a k ih=>intro K H;obtain ⟨v,e,H⟩:=H;obtain ⟨a,h1,h2⟩:=ih v H;exact ⟨a,⟨v,e,h1⟩,h2⟩
 |shape r k ih=>intro K H;obtain ⟨v,e,H⟩:=H;obtain ⟨a,h1,h2⟩:=ih _ H;exact ⟨a,⟨v,e,h1⟩,h2⟩
 |frozen r k ih=>intro K H;obtain ⟨v,e,H⟩:=H;obtain ⟨a,h1,h2⟩:=ih _ H;exact ⟨a,⟨v,e,h1⟩,h2⟩
 |getObj r k ih=>intro K H;obtain ⟨v,e,e2,H⟩:=H;obtain ⟨a,h1,h2⟩:=ih _ H;exact ⟨a,⟨v,e,e2,h1⟩,h2⟩
 |program k ih=>intro K H;obtain ⟨a,h1,h2⟩:=ih _ H;exact ⟨a,h1,h2⟩
 |mark m k ih=>intro K H;obtain ⟨a,h1,h2⟩:=ih H;exact ⟨a,h1,h2⟩
 |_=>intro K H;exact H.elim
def dl (P:Program) (G h0:Hp) (s:Sem Next) (h:Hp) (K:Value->Hp->Prop):Prop:=pw P G h0 s (onVal fun v=>K v h)
theorem Ez {P:Program} {G h0:Hp} {s:Sem Next} {h:Hp} {K:VK} (H:dl P G h0 s h K):∃v,qw P G h0 s v/\K v h:=by obtain ⟨a,h1,h2⟩:=pw_at h0 s H;cases a<;>simp only [onVal]at h2<;>first|exact ⟨_,h1,h2⟩|exact h2.elim
structure Hint where
 all:Bool
 B:List Nat
 ko:List Kind
 ks:List Kind
 ns:List Bool
 part:Bool
def hbit (B:List Nat) (j i:Nat):Bool:=(B.getD j 0).testBit i
def Z0 (ops:Array Oper) (x:Hint):Bool:=
 (List.range ops.size).all fun j=>(List.range j).all fun i=>hbit x.B j i||
  (zh (x.ks.getD i .eff) (x.ks.getD j .eff)&&(match ops[i]?,ops[j]? with|some oi,some oj=>oi.apart ops oj|_,_=>true))
def ay5 (n:Nat) (x:Hint):Bool:=
 (List.range n).all fun j=>x.ns.getD j true==(Kx (x.ko.getD j .pureN)&&(List.range n).any fun i=>x.ko.getD i .pureN == .pureM && !hbit x.B j i&&(x.all || !hbit x.B i j))
def aa2 (n:Nat) (x:Hint):Bool:=
 (List.range n).all fun j=>x.ks.getD j .eff==(match x.ko.getD j .pureN with
  | .pureM=>if (List.range j).any (fun i=>hbit x.B j i&&Kx (x.ko.getD i .pureN) && !x.ns.getD i true)then .late else .pureM
  |k=>k)
def X6 (ops:Array Oper) (x:Hint):Bool:=
 D5 ops x.B.toArray&&Region.noSelect ops&&(ops.toList.map (fun o=>Ds o.op)==x.ko)&&ay5 ops.size x&&aa2 ops.size x&&Z0 ops x
theorem Vv {ops:Array Oper} {x:Hint} (h:ops.toList.map (fun o=>Ds o.op)=x.ko) (i:Nat):x.ko.getD i .pureN=kop ops i:=by rw [<- h];unfold kop;rw [aG_,aO_,aQ_];cases ops[i]?<;>rfl
theorem K3 {x:Hint} {j i:Nat}:hbit x.B j i=bit x.B.toArray j i:=by unfold hbit bit;simp
theorem aq7 {ops:Array Oper} {x:Hint} (h:X6 ops x=true):og x.all ops x.B.toArray=true/\
 ∀i,i<ops.size->x.ks.getD i .eff=jo x.all ops x.B.toArray i/\x.ns.getD i true=ui x.all ops x.B.toArray i:=by
 simp only [X6,ag_,beq_iff_eq]at h;obtain ⟨⟨⟨⟨⟨h1,h2⟩,h3⟩,h4⟩,h5⟩,h6⟩:=h;have hn:∀i,i<ops.size->x.ns.getD i true=ui x.all ops x.B.toArray i:=by intro i hi;unfold ay5 at h4;rw [az_]at h4;have:=h4 i (aM_.2 hi);simp only [beq_iff_eq]at this;rw [this];unfold ui;simp only [Vv h3,K3]
 have hk:∀i,i<ops.size->x.ks.getD i .eff=jo x.all ops x.B.toArray i:=by
  intro i hi;unfold aa2 at h5;rw [az_]at h5;have:=h5 i (aM_.2 hi);simp only [beq_iff_eq]at this;rw [this];unfold jo;simp only [Vv h3,K3]
  have e:((List.range i).any fun i_1=>bit x.B.toArray i i_1&&Kx (kop ops i_1) && !x.ns.getD i_1 true)=((List.range i).any fun i_1=>bit x.B.toArray i i_1&&Kx (kop ops i_1) && !ui x.all ops x.B.toArray i_1):=by
   rw [a6_,bf_,bf_];constructor
   . rintro ⟨y,hy,hb⟩;exact ⟨y,hy,by rw [<- hn y (by have:=aM_.1 hy;omega)];exact hb⟩
   . rintro ⟨y,hy,hb⟩;exact ⟨y,hy,by rw [hn y (by have:=aM_.1 hy;omega)];exact hb⟩
  rw [e];cases kop ops i<;>rfl
 refine ⟨?_,fun i hi=>⟨hk i hi,hn i hi⟩⟩;simp only [og,ag_];refine ⟨⟨h1,h2⟩,?_⟩;unfold Z0 at h6;rw [az_]at h6 ⊢;intro j hj;have h7:=h6 j hj;rw [az_]at h7 ⊢;intro i hi;have h8:=h7 i hi;have hj':=aM_.1 hj;have hi':=aM_.1 hi;rw [hk i (by omega),hk j hj',K3]at h8;exact h8
section
variable (P:Program) (G:Hp) (n:Nat)
def Ua (x:Hint) (h0:Hp) (z:Option (Sem Next->Prop)) (i:Nat) (o:Oper) (r:Rg) (h:Hp) (K:Value->Hp->Prop):Prop:=
 match x.ks.getD i .eff with
 | .pureN=>dl P noHp noHp (execOp (im r) o) h K
 | .pureM=>(match z with
  |none=>dl P G h0 (execOp (im r) o) h K
  |some Rd=>Rd (execOp (im r) o)/\dl P G h0 (execOp (im r) o) h K)
 | .late=>dl P G h (execOp (im r) o) h K
 |_=>match x.ns.getD i true with
  |true=>(match z with
   |none=>opH P G (execOp (im r) o) h (fun v h'=>h0.le h'/\K v h')
   |some Rd=>opH P G (execOp (im r) o) h (fun v h'=>Kp P G h0 Rd h'/\K v h'))
  |false=>opH P G (execOp (im r) o) h K
def soft (x:Hint):Bool:=x.ns.length != x.ko.length
def J1 (v:Value) (want:Bool):Bool:=(match v with | .bool b=>some b|_=>none)==some want
def gd (b:Bool) (X:(Value->Hp->Prop)->Prop) (h:Hp) (K:Value->Hp->Prop):Prop:=match b with
 |true=>X K
 |false=>K undef h
def dirE (r:Rg) (op:Op) (X:(Value->Hp->Prop)->Prop) (h:Hp) (K:Value->Hp->Prop):Prop:=
 match op with
 | .move x=>K (im r x) h
 | .assign x=>K (im r x) h
 | .makeFunc fn fs cs=>K (.func fn (fs.map (im r)) (cs.map (im r))) h
 |_=>X K
def lexE (x:Hint) (ops:Array Oper) (h0:Hp) (z:Option (Sem Next->Prop)):Nat->List Oper->Rg->Hp->(Rg->Hp->Prop)->Prop
 |_,[],r,h,K=>K r h
 |i,o::rest,r,h,K=>match o.guard with
  |none=>dirE r o.op (Ua P G x h0 z i o r h) h (fun v h'=>lexE x ops h0 z (i+1) rest (putR n r o.dst v) h' K)
  |some _=>gd (lh ops o r) (dirE r o.op (Ua P G x h0 z i o r h) h) h (fun v h'=>lexE x ops h0 z (i+1) rest (putR n r o.dst v) h' K)
def opsE (ops:Array Oper):List Oper->Rg->Hp->(Rg->Hp->Prop)->Prop
 |[],r,h,K=>K r h
 |o::rest,r,h,K=>match o.guard with
  |none=>dirE r o.op (opH P G (execOp (im r) o) h) h (fun v h'=>opsE ops rest (putR n r o.dst v) h' K)
  |some _=>gd (lh ops o r) (dirE r o.op (opH P G (execOp (im r) o) h) h) h (fun v h'=>opsE ops rest (putR n r o.dst v) h' K)
def H6 (F:Rg->Hp->(Exit->Rg->Hp->Prop)->Prop) (K:Exit->Rg->Hp->Prop):Nat->Rg->Hp->Prop
 |0,_,_=>False
 |m+1,r,h=>F r h (fun e r' h'=>match e with
  | .normal=>H6 F K m r' h'
  |e=>K e r' h')
def du (F:Rg->Hp->(Exit->Rg->Hp->Prop)->Prop) (r:Rg) (h:Hp) (K:Exit->Rg->Hp->Prop):Prop:=∃m,H6 F K m r h
def cond (v:Value) (A B:Prop):Prop:=match v with
 | .bool true=>A
 | .bool false=>B
 |_=>False
def di (F:Rg->Hp->Prop) (K:Exit->Rg->Hp->Prop):Exit->Rg->Hp->Prop
 | .normal,r,h=>F r h
 |e,r,h=>K e r h
def dc (id:Nat) (K:Exit->Rg->Hp->Prop):Exit->Rg->Hp->Prop
 | .exit id',r,h=>if id'=id then K .normal r h else K (.exit id') r h
 |e,r,h=>K e r h
def xq (K:Exit->Rg->Hp->Prop):Exit->Rg->Hp->Prop
 | .goto _,_,_=>False
 |e,r,h=>K e r h
def jh (f:Value) (args:Array Value):Sem Next:=(Deferred.ofValue f args).bind fun d=>invoke d.target d.args
def opE (s:Sem Next) (h:Hp) (K:Value->Hp->Prop):Prop:=wpH P G s h fun x h'=>match x with
 | .enter f args=>bn P G f args h' K
 |_=>False
def setR (ps:Array Tmp) (args:Array Value) (r:Rg):Rg:=(ps.toList.zip args.toList).foldl (fun r x=>putR n r (some x.1) x.2) r
def jumpE:Exit->Prop
 | .ret=>True
 | .exit _=>True
 | .goto _=>True
 |_=>False
def Nu (np:Nat) (A B:Rg->Hp->(Exit->Rg->Hp->Prop)->Prop) (st:Array Value->Rg->Rg) (fv:Value) (r:Rg) (h:Hp) (K:Exit->Rg->Hp->Prop):Prop:=
 ∀(y:Value) (l:Nat) (o:Option Exit->Obj),h l=none->G l=none->(∀e,iy (o e)=false)->
  (∀(args:Array Value) (h1:Hp) (K1:Value->Hp->Prop),args.size=np->h1 l=some (o none)->
   A (st args r) h1 (fun e r2 h2=>e = .normal/\h2 l=some (o none)/\∀ob,iy ob=false->B r2 (h2.set l ob) (fun e _ h3=>h3 l=some ob/\match e with
    | .normal=>K1 (.bool true) (h3.set l (o none))
    | .panic _=>False
    | .outgrown=>False
    |e=>K1 (.bool false) (h3.set l (o (some e)))))->
   opH P G (jh y args) h1 K1)->
  opE P G (jh fv #[y]) (h.set l (o none)) (fun _ h1=>∃h2,h2.le h1/\h2 l=none/\((h1 l=some (o none)/\K .normal r h2)\/∃e,jumpE e/\h1 l=some (o (some e))/\K e r h2))
def wpC (md:Nat->Hint) (fl:Bool):Code->Rg->Hp->(Exit->Rg->Hp->Prop)->Prop
 | .skip,r,h,K=>K .normal r h
 | .label _,r,h,K=>K .normal r h
 | .region id ops draw,r,h,K=>match draw with
  |true=>(match X6 ops (md id)with
   |true=>(match (md id).part with
    |true=>(match soft (md id)with
     |true=>∃(h0:Hp) (Rd:Sem Next->Prop),h0.le h/\lexE P G n (md id) ops h0 (some Rd) 0 ops.toList r h (K .normal)
     |false=>∃h0:Hp,h0.le h/\lexE P G n (md id) ops h0 none 0 ops.toList r h (K .normal))
    |false=>lexE P G n (md id) ops h none 0 ops.toList r h (K .normal))
   |false=>False)
  |false=>opsE P G n ops ops.toList r h (K .normal)
 | .seq a b,r,h,K=>wpC md fl a r h (di (fun r h=>wpC md fl b r h K) K)
 | .cond c a b,r,h,K=>cond (im r c) (wpC md fl a r h K) (wpC md fl b r h K)
 | .block id c,r,h,K=>wpC md fl c r h (dc id K)
 | .loop c,r,h,K=>du (wpC md fl c) r h K
 | .scope c,r,h,K=>wpC md fl c r h (xq K)
 | .exit id,r,h,K=>K (.exit id) r h
 | .goto l,r,h,K=>K (.goto l) r h
 | .ret,r,h,K=>K .ret r h
 | .rangeFunc f ps assign body,r,h,K=>match fl with
  |true=>Nu P G ps.size (wpC md false assign) (wpC md false body) (setR n ps) (im r f) r h K
  |false=>False
 | .refuse _,_,_,_=>False
end
section
variable {P:Program} {G:Hp} {n:Nat} {md:Nat->Hint}
def rdOf (z:Option (Sem Next->Prop)):Sem Next->Prop:=z.getD fun _=>True
theorem stepE_D {x:Hint} {ops:Array Oper} {h0:Hp} {z:Option (Sem Next->Prop)} {i:Nat} {o:Oper} {r:Rg} {h:Hp} {K:VK} (hk:x.ks.getD i .eff=jo x.all ops x.B.toArray i) (hn:x.ns.getD i true=ui x.all ops x.B.toArray i)
 (H:Ua P G x h0 z i o r h K):i6 P G x.all ops x.B.toArray h0 (rdOf z) i o r h K:=by
 unfold Ua at H;unfold i6;rw [hk,hn]at H;split at H
 . rename_i e;simp only [e];exact Ez H
 . rename_i e;simp only [e];cases z with
   |none=>obtain ⟨v,h1,h2⟩:=Ez H;exact ⟨v,⟨trivial,h1⟩,h2⟩
   |some Rd=>obtain ⟨v,h1,h2⟩:=Ez H.2;exact ⟨v,⟨H.1,h1⟩,h2⟩
 . rename_i e;simp only [e];exact Ez H
 . rename_i e1 e2 e3;split at H
   . rename_i e4;split
     . rename_i e;exact absurd e e1
     . rename_i e;exact absurd e e2
     . rename_i e;exact absurd e e3
     . simp only [e4];cases z with
       |none=>exact kx (fun v h k=>⟨.inl k.1,k.2⟩) H
       |some Rd=>exact H
   . rename_i e4;split
     . rename_i e;exact absurd e e1
     . rename_i e;exact absurd e e2
     . rename_i e;exact absurd e e3
     . simp only [e4];exact H
theorem Hs {ops:Array Oper} {o:Oper} {r:Rg} (hg:o.guard=none):lh ops o r=true:=by unfold lh Region.wanted;rw [hg]
theorem Wj {o:Oper} {r:Rg} {h:Hp} {K:VK} (H:dirE r o.op (opH P G (execOp (im r) o) h) h K):opH P G (execOp (im r) o) h K:=by obtain ⟨dst,op,type,pos,after,guard⟩:=o;cases op<;>exact H
theorem aL3 {x:Hint} {ops:Array Oper} {h0:Hp} {z:Option (Sem Next->Prop)} {i:Nat} {o:Oper} (ho:ops[i]?=some o) {r:Rg} {h:Hp} {K:VK} (hk:x.ks.getD i .eff=jo x.all ops x.B.toArray i) (hn:x.ns.getD i true=ui x.all ops x.B.toArray i)
 (H:dirE r o.op (Ua P G x h0 z i o r h) h K):i6 P G x.all ops x.B.toArray h0 (rdOf z) i o r h K:=by
 have pn:Ds o.op = .pureN->jo x.all ops x.B.toArray i = .pureN:=fun e=>by unfold jo kop;rw [ho];simp only [e]
 obtain ⟨dst,op,type,pos,after,guard⟩:=o
 cases op<;>first
  |exact stepE_D hk hn H
  |(unfold i6
    rw [pn rfl]
    exact ⟨_,⟨rfl,rfl⟩,H⟩)
theorem G2 {x:Hint} {ops:Array Oper} {h0:Hp} {z:Option (Sem Next->Prop)} (hx:∀i,i<ops.size->x.ks.getD i .eff=jo x.all ops x.B.toArray i/\x.ns.getD i true=ui x.all ops x.B.toArray i):∀(l:List Oper) (i:Nat) {r:Rg} {h:Hp} {K:Rg->Hp->Prop},
 i+l.length=ops.size->(∀j,l[j]?=ops[i+j]?)->lexE P G n x ops h0 z i l r h K->lexD P G n x.all ops x.B.toArray h0 (rdOf z) i l r h K
 |[],_,_,_,_,_,_,H=>H
 |o::rest,i,r,h,K,hl,hj,H=>by
  simp only [an_]at hl;obtain ⟨hk,hn⟩:=hx i (by omega);have ho:ops[i]?=some o:=by simpa using (hj 0).symm
  have hj':∀j,rest[j]?=ops[i+1+j]?:=fun j=>by have:=hj (j+1);simpa [ck_,Nat.add_comm 1 j]using this
  unfold lexE at H;unfold lexD;split at H
  . rename_i hg;rw [ak_ (Hs hg)];exact od (fun v h k=>G2 hx rest (i+1) (by omega) hj' k) (aL3 ho hk hn H)
  . cases hw:lh ops o r with
    |true=>rw [hw]at H;rw [ak_ rfl];exact od (fun v h k=>G2 hx rest (i+1) (by omega) hj' k) (aL3 ho hk hn H)
    |false=>rw [hw]at H;rw [ah_ (by simp)];exact G2 hx rest (i+1) (by omega) hj' H
theorem Rf {ops:Array Oper}:∀(l:List Oper) {r:Rg} {h:Hp} {K:Rg->Hp->Prop},opsE P G n ops l r h K->opsH P G n ops l r h K
 |[],_,_,_,H=>H
 |o::rest,r,h,K,H=>by
  unfold opsE at H;unfold opsH;split at H
  . rename_i hg;rw [ak_ (Hs hg)];exact kx (fun v h k=>Rf rest k) (Wj H)
  . cases hw:lh ops o r with
    |true=>rw [hw]at H;rw [ak_ rfl];exact kx (fun v h k=>Rf rest k) (Wj H)
    |false=>rw [hw]at H;rw [ah_ (by simp)];exact Rf rest H
theorem Jc {ro:Option Nat} {c:Code} {Q:Exit->Act->World->Prop} (X:Nat->Act->World->Prop) (h0:∀a w,¬X 0 a w) (hs:∀m a w,X (m+1) a w->c.wpIn (Fw ro) 0 P (Exit.then (X m) Q) a w) {m:Nat} {a:Act} {w:World} (H:X m a w):
 (Code.loop c).wpIn (Fw ro) 0 P Q a w:=by
 intro b k cs hro hb hr
 have key:∀m a w,X m a w->∃e a' w',Q e a' w'/\ArrivesIn (Machine.fenced P (Fw ro)) P (lone (b.atR a (.code c :: .inLoop c::k)) cs w) b k cs e a' w':=by
  intro m;induction m with
  |zero=>intro a w H;exact absurd H (h0 a w)
  |succ m ih=>
   intro a w H;obtain ⟨e,a₁,w₁,hq,harr⟩:=hs m a w H b (.inLoop c::k) cs hro hb hr;cases e with
   |normal=>obtain ⟨e₂,a₂,w₂,hq₂,harr₂⟩:=ih a₁ w₁ hq;exact ⟨e₂,a₂,w₂,hq₂,.of_steps (StepsIn.trans harr (.one (fenced_calm hb hr rfl) stepR_inLoop)) harr₂⟩
   |exit id=>exact ⟨_,a₁,w₁,hq,.pass (x := .inLoop c) rfl (fun _ _ => .inl (by simp)) harr⟩
   |goto l=>exact ⟨_,a₁,w₁,hq,.pass (x := .inLoop c) rfl (fun _ _ => .inl (by simp)) harr⟩
   |ret=>exact ⟨_,a₁,w₁,hq,.pass (x := .inLoop c) rfl (fun _ _ => .inl (by simp)) harr⟩
   |panic ch=>exact ⟨_,a₁,w₁,hq,.pass (x := .inLoop c) rfl (fun _ _ => .inl (by simp)) harr⟩
   |outgrown=>exact ⟨_,a₁,w₁,hq,.pass (x := .inLoop c) rfl (fun _ _ => .inl (by simp)) harr⟩
 obtain ⟨e,a',w',hq,harr⟩:=key m a w H;exact ⟨e,a',w',hq,.of_steps (.one (fenced_calm hb hr rfl) stepR_loop) harr⟩
theorem rf {b:Frame} {a:Act} {k:List Item} {cs:List Frame} {w:World} {c:Code}:step P (lone (b.atR a (.code (.scope c)::k)) cs w) = .next (lone (b.atR a (.code c :: .inScope c::k)) cs w):=
 step_lone_go (by simp [stepG,stepG.exec,Frame.atR])
theorem Nw {b:Frame} {a:Act} {k:List Item} {cs:List Frame} {w:World} {c:Code}:step P (lone (b.atR a (.inScope c::k)) cs w) = .next (lone (b.atR a k) cs w):=
 step_lone_go (by simp [stepG,stepG.exec,Frame.atR])
theorem C2 {ro:Option Nat} {c:Code} {Q:Exit->Act->World->Prop} {a:Act} {w:World} (h:c.wpIn (Fw ro) 0 P (Exit.noGoto Q) a w):(Code.scope c).wpIn (Fw ro) 0 P Q a w:=by
 intro b k cs hro hb hr;have h0:(lone (b.atR a (.code (.scope c)::k)) cs w).fenced P (Fw ro):=fenced_calm hb hr rfl;obtain ⟨e,a₁,w₁,hq,harr⟩:=h b (.inScope c::k) cs hro hb hr;cases e with
 |normal=>exact ⟨.normal,a₁,w₁,hq,.head h0 rf (StepsIn.trans harr (.one (fenced_calm hb hr rfl) Nw))⟩
 |exit id=>
  have hx:exitTo id (.inScope c::k)=exitTo id k:=by simp [exitTo]
  exact ⟨.exit id,a₁,w₁,hq,fun k' hk => .head h0 rf (harr.1 k' (by rw [hx];exact hk)),
   fun hr' hk=>let ⟨k₁,h1,h2⟩:=harr.2 hr' (by rw [hx];exact hk);⟨k₁,h1,.head h0 rf h2⟩⟩
 |goto l=>exact hq.elim
 |ret=>exact ⟨_,a₁,w₁,hq,.of_steps (.one h0 rf) harr⟩
 |panic ch=>exact ⟨_,a₁,w₁,hq,.of_steps (.one h0 rf) harr⟩
 |outgrown=>exact ⟨_,a₁,w₁,hq,.of_steps (.one h0 rf) harr⟩
def DOk (G:Hp) (s:Nat) (D:List Deferred) (h:Hp) (w:World):Prop:=
 ∃bs:List Nat,D=bs.map (fun b=>{ target := .collected b,args:=#[] })/\bs.Nodup/\∀b∈bs,s<=b/\G b=none/\h b=none/\w.heap[b]?=some (.deferred (some []))
theorem DOk.nil {s:Nat} {h:Hp} {w:World}:DOk G s [] h w:=⟨[],rfl,List.nodup_nil,fun _ h=>by cases h⟩
theorem DOk.mv {s:Nat} {D:List Deferred} {h h':Hp} {w w':World} (d:DOk G s D h w) (m:Mv h w h' w'):DOk G s D h' w':=by obtain ⟨bs,e,nd,k⟩:=d;exact ⟨bs,e,nd,fun b hb=>let ⟨k1,k2,k3,k4⟩:=k b hb;let ⟨f1,f2⟩:=m.frame b _ k4 k3;⟨k1,k2,f2,f1⟩⟩
theorem aw3 {n:Nat} {ps:Array Tmp} {args:Array Value} {a:Act} {r:Rg} (f:Fit [] n { a with defers:=[] } r):Fit [] n { tmps:=(ps.zip args).foldl (fun t (p,v)=>t.setIfInBounds p v) a.tmps,defers:=[] } (setR n ps args r):=by
 have key:∀(l:List (Tmp × Value)) (t:Array Value) (r:Rg),Fit [] n { tmps:=t,defers:=[] } r->Fit [] n { tmps:=l.foldl (fun t (p,v)=>t.setIfInBounds p v) t,defers:=[] } (l.foldl (fun r x=>putR n r (some x.1) x.2) r):=by
  intro l;induction l with
  |nil=>intro t r f;exact f
  |cons x l ih=>intro t r f;exact ih _ _ (f.put (some x.1) x.2)
 have:=key (ps.zip args).toList a.tmps r f;unfold setR;rw [<- Array.toList_zip,<- Array.foldl_toList];exact this
def Yn:Exit->Code
 | .exit id => .exit id
 | .goto l => .goto l
 |_ => .ret
theorem xh (hm:P.follows .mixedOrders=true):∀(c:Code) {fl:Bool} {ro:Option Nat} {s:Nat} {D:List Deferred} {Q:Exit->Act->World->Prop} {K:Exit->Rg->Hp->Prop} {r:Rg} {h:Hp} {a:Act} {w:World},(fl=true->ro=none)->Fit D n a r->In G h w->DOk G s D h w->s<=w.heap.size->
 wpC P G n md fl c r h K->(∀e r' h' a' w' D',Fit D' n a' r'->Mv h w h' w'->DOk G s D' h' w'->K e r' h'->Q e a' w')->c.wpIn (Fw ro) 0 P Q a w
 | .skip,_,_,_,_,_,_,r,h,a,w,_,f,i,d,_,H,hq=>wpIn_skip (hq _ r h a w _ f (.refl i) d H)
 | .label _,_,_,_,_,_,_,r,h,a,w,_,f,i,d,_,H,hq=>wpIn_label (hq _ r h a w _ f (.refl i) d H)
 | .exit _,_,_,_,_,_,_,r,h,a,w,_,f,i,d,_,H,hq=>wpIn_exit (hq _ r h a w _ f (.refl i) d H)
 | .goto _,_,_,_,_,_,_,r,h,a,w,_,f,i,d,_,H,hq=>wpIn_goto (hq _ r h a w _ f (.refl i) d H)
 | .ret,_,_,_,_,_,_,r,h,a,w,_,f,i,d,_,H,hq=>wpIn_ret (hq _ r h a w _ f (.refl i) d H)
 | .refuse _,_,_,_,_,_,_,_,_,_,_,_,_,_,_,_,H,_=>H.elim
 | .rangeFunc fo ps x y,fl,ro,s,D,Q,K,r,h,a,w,hfl,f,i,d,hs,H,hq=>by
  unfold wpC at H;cases fl with
  |false=>exact H.elim
  |true=>
  simp only at H;obtain rfl:=hfl rfl;refine wpIn_rangeFunc (F:=Fw none) fun fn _=>?_;let rec_:LoopState->Option Code->Obj:=fun st pe => .loop { state:=st,pending:=pe,fn,tmps:=a.tmps,params:=ps,assign:=x,body:=y,defers:=w.heap.size }
  let o:Option Exit->Obj:=fun e=>match e with
   |none=>rec_ .ready none
   |some e=>rec_ .done (some (Yn e))
  have i1:In G h (w.alloc (.deferred (some []))):=((Mv.new i (.deferred (some []))).less ((Hp.le.refl h).set i.fresh.1)).keeps i;have m1:Mv h w h (w.alloc (.deferred (some []))):=(Mv.new i (.deferred (some []))).less ((Hp.le.refl h).set i.fresh.1);have hd1:(w.alloc (.deferred (some []))).heap[w.heap.size]?=some (.deferred (some [])):=World.alloc_heap_new w _;have f1:=i1.fresh;have m2:=Mv.new i1 (o none);have hsz:(w.alloc (.deferred (some []))).heap.size=w.heap.size+1:=World.size_alloc _ _;rw [hsz]at f1 m2;have H1:=H (.func (.yield (w.heap.size+1)) #[] #[]) (w.heap.size+1) o f1.1 f1.2 (fun e=>by cases e<;>rfl) ?_;rotate_left
  . intro args h1 K1 hsize hl1 HA;have e0:jh (.func (.yield (w.heap.size+1)) #[] #[]) args=Instr.yield (w.heap.size+1) args:=by show Instr.yield _ (#[]++args)=_;simp
    unfold opH;rw [e0];have hlk:look G h1 (w.heap.size+1)=some (rec_ .ready none):=by unfold look;rw [hl1]
    have e1:wpH P G (Instr.yield (w.heap.size+1) args) h1 (ue P G K1)=ue P G K1 (.round (w.heap.size+1) fn ((ps.zip args).foldl (fun t (p,v)=>t.setIfInBounds p v) a.tmps) x y) h1:=by unfold Instr.yield Instr.getLoop getObj;simp only [bind,dp,wpH,hlk,Option.some.injEq,exists_eq_left',rec_,iy,true_and,pure,hsize,ne_eq,not_true_eq_false,if_false]
    rw [e1];intro w5 i5;refine roundIn_of_wpIn (F:=Fw none) trivial ?_;have ft:Fit [] n { a with defers:=[] } r:=⟨f.size,f.is,rfl⟩;refine xh hm x (fl:=false) (ro:=some (w.heap.size+1)) (s:=0) (fun e=>by cases e) (aw3 (ps:=ps) (args:=args) ft) i5 DOk.nil (au_ _) HA ?_;rintro e r2 h2 a2 w2 D2 f2 m2 d2 ⟨rfl,hl2,HB⟩;have i2:=m2.keeps i5;have hw2:w2.heap[w.heap.size+1]?=some (rec_ .ready none):=i2.sub _ _ hl2;refine ⟨_,run_beginRound hw2 rfl,?_⟩
    have m3:Mv h2 w2 (h2.set (w.heap.size+1) (rec_ .busy none)) (w2.putObj (w.heap.size+1) (rec_ .busy none)):=
     Mv.put i2 hl2 World.putObj_size (World.putObj_heap_same (ay_.1 hw2).1) (fun c hc=>World.putObj_heap_other hc) rfl rfl rfl (aj_ _)
    have fa:Fit a2.defers n a2 r2:=⟨f2.size,f2.is,rfl⟩;have d3:DOk G 0 a2.defers (h2.set (w.heap.size+1) (rec_ .busy none)) (w2.putObj (w.heap.size+1) (rec_ .busy none)):=by rw [f2.defers];exact d2.mv m3
    refine xh hm y (fl:=false) (ro:=some (w.heap.size+1)) (s:=0) (fun e=>by cases e) fa (m3.keeps i2) d3 (au_ _) (HB _ rfl) ?_;rintro e r3 h3 a3 w3 D3 f3 m4 d4 ⟨hl3,hK⟩;have i3:=m4.keeps (m3.keeps i2);have hw3:w3.heap[w.heap.size+1]?=some (rec_ .busy none):=i3.sub _ _ hl3
    have fin:∀(jump:Option Code),(Instr.endRound (w.heap.size+1) jump).run P w3 = .ok (.bool jump.isNone) (w3.putObj (w.heap.size+1) (rec_ (if jump.isNone then .ready else .done) jump))/\
     Mv h1 w5 (h3.set (w.heap.size+1) (rec_ (if jump.isNone then .ready else .done) jump)) (w3.putObj (w.heap.size+1) (rec_ (if jump.isNone then .ready else .done) jump)):=fun jump=>
     ⟨run_endRound jump hw3,((m2.trans m3).trans m4).trans (Mv.put i3 hl3 World.putObj_size (World.putObj_heap_same (ay_.1 hw3).1) (fun c hc=>World.putObj_heap_other hc) rfl rfl rfl (aj_ _))⟩
    cases e with
    |normal=>exact ⟨_,_,(fin none).1,_,_,rfl,(fin none).2,hK⟩
    |ret=>exact ⟨_,_,(fin (some .ret)).1,_,_,rfl,(fin (some .ret)).2,hK⟩
    |exit id=>exact ⟨_,_,(fin (some (.exit id))).1,_,_,rfl,(fin (some (.exit id))).2,hK⟩
    |goto t=>exact ⟨_,_,(fin (some (.goto t))).1,_,_,rfl,(fin (some (.goto t))).2,hK⟩
    |panic c=>exact hK.elim
    |outgrown=>exact hK.elim
  . have i2:=m2.keeps i1;obtain ⟨x1,h1,w1,e1,m3,H2⟩:=uo _ i2 H1
    have hres:∃dd,(resolve a.eval (rangeCall fo (w.heap.size+1)) 0).run P ((w.alloc (.deferred (some []))).alloc (rec_ .ready none)) = .ok dd ((w.alloc (.deferred (some []))).alloc (rec_ .ready none))/\
     (invoke dd.target dd.args).run P ((w.alloc (.deferred (some []))).alloc (rec_ .ready none)) = .ok x1 w1:=by
     have e2:resolve a.eval (rangeCall fo (w.heap.size+1)) 0=Deferred.ofValue (im r fo) #[.func (.yield (w.heap.size+1)) #[] #[]]:=by unfold resolve rangeCall;simp [f.eval,im]
     rw [e2];unfold jh at e1
     cases hv:im r fo<;>rw [hv]at e1<;>first
      |exact ⟨_,rfl,e1⟩
      |(exfalso;simp [Deferred.ofValue,stuck,Sem.bind]at e1)
    obtain ⟨dd,hr1,hr2⟩:=hres;cases x1<;>try exact H2.elim
    rename_i g args;refine ⟨w.heap.size+1,[{ target := .collected w.heap.size,args:=#[] }],_,dd,_,g,args,w1,run_enterLoop_outer fn a.tmps ps x y,hr1,fun _ _=>trivial,hr2,(fun hh=>by cases hh),?_⟩;refine CallsIn.mono (Ln (H2 w1 (m3.keeps i2))) ?_;rintro e w3 ⟨v,h3,rfl,m4,h4,hle,hnl,HK⟩;have M:Mv (h.set (w.heap.size+1) (o none)) _ h3 w3:=m3.trans m4;have i3:=M.keeps i2;have hdn:(h.set (w.heap.size+1) (o none)) w.heap.size=none:=by rw [ci (by omega)];exact i.fresh.1
    have hdw:((w.alloc (.deferred (some []))).alloc (o none)).heap[w.heap.size]?=some (.deferred (some [])):=by show ((w.alloc (.deferred (some []))).heap.push (o none))[w.heap.size]?=_;rw [Array.getElem?_push,ah_ (by rw [hsz];omega)];exact hd1
    obtain ⟨fd1,fd2⟩:=M.frame _ _ hdw hdn
    have fin:∀st jump,st ≠ .busy->h3 (w.heap.size+1)=some (rec_ st jump)->(∀w4,w4=w3.putObj (w.heap.size+1) (rec_ .exhausted jump)->(∃ee,(match jump with|none=>ee = .normal|some c=>c=Yn ee/\(ee = .ret\/(∃id,ee = .exit id)\/∃t,ee = .goto t))/\K ee r h4)->
     ∃jump' w5,(Instr.endLoop (w.heap.size+1)).run P w3 = .ok jump' w5/\(match jump' with|none=>Q .normal { a with defers:=[{ target := .collected w.heap.size,args:=#[] }]++a.defers } w5|some c=>c.wpIn (Fw none) 0 P Q { a with defers:=[{ target := .collected w.heap.size,args:=#[] }]++a.defers } w5)):=by
     intro st jump hst hl w4 hw4 hK;have hw3:w3.heap[w.heap.size+1]?=some (rec_ st jump):=i3.sub _ _ hl;refine ⟨_,_,run_endLoop hw3 hst,?_⟩
     have m5:Mv h3 w3 (h3.set (w.heap.size+1) (rec_ .exhausted jump)) (w3.putObj (w.heap.size+1) (rec_ .exhausted jump)):=
      Mv.put i3 hl World.putObj_size (World.putObj_heap_same (ay_.1 hw3).1) (fun c hc=>World.putObj_heap_other hc) rfl rfl rfl (aj_ _)
     have M2:Mv h w h4 (w3.putObj (w.heap.size+1) (rec_ .exhausted jump)):=(((m1.trans m2).trans M).trans m5).less fun b p e=>by
      by_cases hb:b=w.heap.size+1
      . subst hb;rw [hnl]at e;cases e
      . rw [ci hb];exact hle _ _ e
     obtain ⟨bs,eD,nd,kk⟩:=d.mv M2
     have dk:DOk G s ({ target := .collected w.heap.size,args:=#[] }::D) h4 (w3.putObj (w.heap.size+1) (rec_ .exhausted jump)):=by
      refine ⟨w.heap.size::bs,by rw [eD];rfl,bP_.2 ⟨fun hb=>?_,nd⟩,fun b hb=>?_⟩
      . obtain ⟨bs',eD',_,kk'⟩:=d;have:bs'=bs:=by have:=eD.symm.trans eD';have h2:=congrArg (List.map fun (d:Deferred)=>match d.target with | .collected b=>b|_=>0) this;simpa [List.map_map,Function.comp_def]using h2.symm
        subst this;have:=(ay_.1 (kk' _ hb).2.2.2).1;omega
      . rcases al_.1 hb with rfl|hb
        . refine ⟨hs,i.fresh.2,?_,?_⟩
          . cases q:h4 w.heap.size with
            |none=>rfl
            |some p=>rw [hle _ _ q]at fd2;cases fd2
          . rw [World.putObj_heap_other (by omega)];exact fd1
        . exact kk b hb
     have ft:Fit ({ target := .collected w.heap.size,args:=#[] }::D) n { a with defers:=[{ target := .collected w.heap.size,args:=#[] }]++a.defers } r:=
      ⟨f.size,f.is,by show _::a.defers=_;rw [f.defers]⟩
     obtain ⟨ee,he,hK⟩:=hK;have hQ:=hq ee r h4 _ _ _ ft M2 dk hK;cases jump with
     |none=>simp only at he;subst he;exact hQ
     |some c=>
      obtain ⟨rfl,rfl|⟨id,rfl⟩|⟨t,rfl⟩⟩:=he
      . exact wpIn_ret hQ
      . exact wpIn_exit hQ
      . exact wpIn_goto hQ
    rcases HK with ⟨hl,hK⟩|⟨ee,hj,hl,hK⟩
    . exact fin .ready none (by simp) hl _ rfl ⟨.normal,rfl,hK⟩
    . refine fin .done (some (Yn ee)) (by simp) hl _ rfl ⟨ee,?_,hK⟩;cases ee<;>first|exact hj.elim|exact ⟨rfl,.inl rfl⟩|exact ⟨rfl,.inr (.inl ⟨_,rfl⟩)⟩|exact ⟨rfl,.inr (.inr ⟨_,rfl⟩)⟩
 | .region id ops draw,fl,ro,s,D,Q,K,r,h,a,w,hfl,f,i,d,hs,H,hq=>by
  have hq':∀r' h' a' w',Fit D n a' r'->Mv h w h' w'->K .normal r' h'->Q .normal a' w':=fun r' h' a' w' f' m k=>hq _ r' h' a' w' D f' m (d.mv m) k;unfold wpC at H;split at H
  . split at H
    . rename_i hok;obtain ⟨hr,hx⟩:=aq7 hok;split at H
      . split at H
        . obtain ⟨h0,Rd,l,H⟩:=H;exact Ba hm hr f i l (G2 hx _ _ (by simp) (by simp) H) hq'
        . obtain ⟨h0,l,H⟩:=H;exact Ba hm hr f i l (G2 hx _ _ (by simp) (by simp) H) hq'
      . exact Ba hm hr f i (Hp.le.refl h) (G2 hx _ _ (by simp) (by simp) H) hq'
    . exact H.elim
  . refine wpIn_region ?_;have:=Re (P:=P) (G:=G) (D:=D) (ro:=ro) (n:=n) (ops:=ops) (Q:=Q) ops.toList 0 r h a w _ (by simp) f i (Rf _ H) hq';rw [List.range_eq_range'];simpa using this
 | .seq x y,fl,ro,s,D,Q,K,r,h,a,w,hfl,f,i,d,hs,H,hq=>by
  unfold wpC at H;refine wpIn_seq (xh hm x hfl f i d hs H fun e r' h' a' w' D' f' m d' k=>?_)
  cases e<;>first
   |exact xh hm y hfl f' (m.keeps i) d' (bo_ hs m.size) k fun e2 r2 h2 a2 w2 D2 f2 m2 d2 k2=>hq _ r2 h2 a2 w2 D2 f2 (m.trans m2) d2 k2
   |exact hq _ r' h' a' w' D' f' m d' k
 | .cond c x y,fl,ro,s,D,Q,K,r,h,a,w,hfl,f,i,d,hs,H,hq=>by
  unfold wpC cond at H;split at H
  . rename_i e;exact wpIn_cond_true (by rw [f.eval];exact e) (xh hm x hfl f i d hs H hq)
  . rename_i e;exact wpIn_cond_false (by rw [f.eval];exact e) (xh hm y hfl f i d hs H hq)
  . exact H.elim
 | .block id c,fl,ro,s,D,Q,K,r,h,a,w,hfl,f,i,d,hs,H,hq=>by
  unfold wpC at H;refine wpIn_block (xh hm c hfl f i d hs H fun e r' h' a' w' D' f' m d' k=>?_);cases e<;>first|exact hq _ r' h' a' w' D' f' m d' k|skip
  simp only [dc]at k;simp only [Exit.inBlock];split at k
  . rename_i e;rw [ak_ e];exact hq _ r' h' a' w' D' f' m d' k
  . rename_i e;rw [ah_ e];exact hq _ r' h' a' w' D' f' m d' k
 | .scope c,fl,ro,s,D,Q,K,r,h,a,w,hfl,f,i,d,hs,H,hq=>by unfold wpC at H;refine C2 (xh hm c hfl f i d hs H fun e r' h' a' w' D' f' m d' k=>?_);cases e<;>first|exact hq _ r' h' a' w' D' f' m d' k|exact k.elim
 | .loop c,fl,ro,s,D,Q,K,r,h,a,w,hfl,f,i,d,hs,H,hq=>by
  unfold wpC at H;obtain ⟨m,H⟩:=H;refine Jc (m:=m) (fun m a' w'=>∃r' h' D',Fit D' n a' r'/\Mv h w h' w'/\DOk G s D' h' w'/\H6 (wpC P G n md fl c) K m r' h') ?_ ?_ ⟨r,h,D,f,.refl i,d,H⟩
  . rintro a' w' ⟨r',h',_,_,_,_,x⟩;exact x
  . rintro m a' w' ⟨r',h',D',f',m',d',x⟩;refine xh hm c hfl f' (m'.keeps i) d' (bo_ hs m'.size) x fun e r2 h2 a2 w2 D2 f2 m2 d2 k2=>?_
    cases e<;>first
     |exact ⟨r2,h2,D2,f2,m'.trans m2,d2,k2⟩
     |exact hq _ r2 h2 a2 w2 D2 f2 (m'.trans m2) d2 k2
theorem kg {α β:Type} (a:α) (f:α->Sem β):(Sem.pure a).bind f=f a:=rfl
theorem Ny {α:Type} (s:Sem α):s.bind .pure=s:=by
 induction s with
 |pure a=>rfl
 |store m a v k ih=>simp only [Sem.bind,ih]
 |freeze a n k ih=>simp only [Sem.bind,ih]
 |setObj r o k ih=>simp only [Sem.bind,ih]
 |mark m k ih=>simp only [Sem.bind,ih]
 |halt h=>rfl
 |_=>simp only [Sem.bind];congr 1;funext x;simp only [*]
theorem mj {α β γ:Type} (s:Sem α) (f:α->Sem β) (g:β->Sem γ):(s.bind f).bind g=s.bind (fun a=>(f a).bind g):=by
 induction s with
 |pure a=>rfl
 |store m a v k ih=>simp only [Sem.bind,ih]
 |freeze a n k ih=>simp only [Sem.bind,ih]
 |setObj r o k ih=>simp only [Sem.bind,ih]
 |mark m k ih=>simp only [Sem.bind,ih]
 |halt h=>rfl
 |_=>simp only [Sem.bind];congr 1;funext x;simp only [*]
instance:LawfulMonad Sem:=LawfulMonad.mk' Sem (id_map:=fun s=>Ny s) (pure_bind:=fun a f=>kg a f) (bind_assoc:=fun s f g=>mj s f g)
inductive mz {α:Type}:Sem α->Prop
 |pure (a:α):mz (.pure a)
 |load (m:Mode) (a:Addr) (k:Value->Sem α):(∀v,mz (k v))->mz (.load m a k)
 |program (k:Program->Sem α):(∀p,mz (k p))->mz (.program k)
 |halt (h:Halt):mz (.halt h)
theorem mz.bind {α β:Type} {s:Sem α} {f:α->Sem β} (h:mz s) (hf:∀a,mz (f a)):mz (s.bind f):=by
 induction h with
 |pure a=>exact hf a
 |load m a k _ ih=>exact .load _ _ _ ih
 |program k _ ih=>exact .program _ ih
 |halt h=>exact .halt _
theorem mz.run {α:Type} {s:Sem α} (h:mz s) {w:World}:∀{a:α} {w':World},s.run P w = .ok a w'->w'=w:=by
 induction h with
 |pure a=>intro x w' e;cases e;rfl
 |load m a k _ ih=>
  intro x w' e;unfold Sem.run at e;split at e
  . exact ih _ e
  . split at e
    . exact ih _ e
    . cases e
 |program k _ ih=>intro x w' e;exact ih _ e
 |halt h=>intro x w' e;cases e
theorem Ah {a:Addr}:∀(n i:Nat) (acc:Array Value),mz (loadCellsFrom a i n acc)
 |0,_,acc => .pure acc
 |n+1,i,acc => .load _ _ _ fun v=>Ah n (i+1) (acc.push v)
theorem Xo (t:TypeId):mz (typeInfo t) := .program _ fun p=>by
 simp only [kg];cases p.info? t with
 |none=>exact .halt _
 |some i=>exact .pure _
theorem N4 (t:TypeId) (a:Addr):mz (loadVar t a):=by
 unfold loadVar isAgg underlying;refine mz.bind (mz.bind (.program _ fun p=>?_) fun d=>?_) fun b=>?_
 . simp only [kg];cases p.underlying t with
   |none=>exact .halt _
   |some d=>exact .pure _
 . cases d<;>exact .pure _
 . cases b
   . exact .load _ _ _ fun v => .pure v
   . exact mz.bind (mz.bind (Xo t) fun i => .pure _) fun sz=>mz.bind (Ah sz 0 #[]) fun cs => .pure _
theorem Kk {α β:Type} (f:α->Sem β) (hf:∀x,mz (f x)):∀l:List α,mz (l.mapM f)
 |[] => .pure _
 |x::l=>by rw [List.mapM_cons];exact mz.bind (hf x) fun y=>mz.bind (Kk f hf l) fun ys => .pure _
theorem ao6 {α:Type}:mz (runtimePanic (α:=α) .nilDeref) := .program _ fun _ => .halt _
theorem N3 (fn:Func) (tmps:Array Value):mz (results fn tmps):=by
 unfold results;rw [Array.mapM_eq_mapM_toList];refine mz.bind (mz.bind (Kk _ (fun x=>?_) _) fun l => .pure _) fun vs=>?_
 . cases x with
   |tmp t=>exact .pure _
   |cell a t=>
    refine mz.bind ?_ fun ad=>N4 t ad;unfold asAddr;split
    . exact .pure _
    . exact ao6
    . exact .halt _
 . exact .pure _
def resR (r:Rg):ResultVar->Sem Value
 | .tmp t => .pure (r t)
 | .cell a t=>(asAddr (r a)).bind fun ad=>loadVar t ad
def resL (r:Rg):List ResultVar->List Value->Sem Value
 |[],acc => .pure (match acc with|[v]=>v|_ => .tuple acc.reverse.toArray)
 |x::l,acc=>(resR r x).bind fun v=>resL r l (v::acc)
theorem Ol (r:Rg) (f:ResultVar->Sem Value) (hf:∀x,f x=resR r x):∀(l:List ResultVar) (acc:List Value),
 resL r l acc=(l.mapM f).bind fun vs => .pure (match acc.reverse++vs with|[v]=>v|vs => .tuple vs.toArray)
 |[],acc=>by
  simp only [resL,List.mapM_nil,pure,Sem.bind,av_];congr 1;match acc with
  |[]=>rfl
  |[v]=>rfl
  |a::b::c=>
   simp only [List.reverse_cons,aC_];split
   . rename_i h;have:=congrArg List.length h;simp at this
   . rfl
 |x::l,acc=>by have hb:∀(α β:Type) (s:Sem α) (g:α->Sem β),(s >>= g)=s.bind g:=fun _ _ _ _=>rfl;simp only [resL,List.mapM_cons,hf,hb,mj];congr 1;funext v;rw [Ol r f hf l (v::acc)];simp only [pure,kg,List.reverse_cons,aC_,List.singleton_append]
theorem Q8 {fn:Func} {D:List Deferred} {n:Nat} {a:Act} {r:Rg} (f:Fit D n a r):results fn a.tmps=resL r fn.results.toList []:=by
 have hb:∀(α β:Type) (s:Sem α) (g:α->Sem β),(s >>= g)=s.bind g:=fun _ _ _ _=>rfl;unfold results;rw [Array.mapM_eq_mapM_toList]
 rw [Ol r (fun
  | .tmp t=>pure (a.tmps.getD t undef)
  | .cell b t=>do loadVar t (<- asAddr (a.tmps.getD b undef))) (fun x=>by cases x<;>simp only [f.is]<;>rfl)]
 simp only [hb,Functor.map,mj];congr 1;funext vs;simp only [kg,Function.comp,List.reverse_nil,a8_];match vs with
 |[]=>rfl
 |[v]=>rfl
 |a::b::c=>simp [pure]
def retK (P:Program) (G:Hp) (rs:List ResultVar) (R:Value->Hp->Prop):Exit->Rg->Hp->Prop
 | .normal,r,h | .ret,r,h=>wpH P G (resL r rs []) h R
 |_,_,_=>False
def regs (args:Array Value):Rg:=fun t=>args.getD t undef
theorem Fb {fn:Func} {tmps:Array Value} {R:Ending->World->Prop}:∀(bs:List Nat) (w:World),bs.Nodup->(∀b∈bs,w.heap[b]?=some (.deferred (some [])))->
 (∀w',w.heap.size=w'.heap.size->(∀b,b∉bs->w'.heap[b]?=w.heap[b]?)->w'.os=w.os->w'.output=w.output->w'.tape=w.tape->w'.drawn=w.drawn->∃v,(results fn tmps).run P w' = .ok v w'/\R (.returned v) w')->
 LeavesInM (Fw none) 0 P fn tmps R (bs.map fun b=>{ target := .collected b,args:=#[] }) .returning w
 |[],w,_,_,H=>H w rfl (fun _ _=>rfl) rfl rfl rfl rfl
 |b::bs,w,nd,hb,H=>by
  have nd:=bP_.1 nd;refine ⟨by simp,.inl ⟨b,_,rfl,run_takeDeferred (hb b (.head _)),Fb bs _ nd.2 (fun c hc=>?_) (fun w' h1 h2 h3 h4 h5 h6=>H w' (by rw [<- h1,World.putObj_size]) (fun c hc=>?_) h3 h4 h5 h6)⟩⟩
  . rw [World.putObj_heap_other (fun e=>nd.1 (by rw [<- e];exact hc))];exact hb c (.tail _ hc)
  . rw [h2 c (fun hm=>hc (.tail _ hm)),World.putObj_heap_other (fun e=>hc (by rw [e];exact .head _))]
theorem bn.enter (hm:P.follows .mixedOrders=true) {f:FuncId} {fn:Func} {c:Code} {args:Array Value} {h:Hp} {R:VK} (hf:P.funcs[f]?=some fn) (hb:fn.body=some c)
 (hn:args.size<=fn.ntmps) (H:wpC P G fn.ntmps md true c (regs args) h (retK P G fn.results.toList R)):bn P G f args h R:=by
 intro w i
 have fit:Fit [] fn.ntmps { tmps:=args++Array.replicate (fn.ntmps-args.size) undef,defers:=[] } (regs args):=by
  refine ⟨by simp;omega,fun t=>?_,rfl⟩;simp only [regs,bV_];by_cases ht:t<args.size
  . rw [bX_ ht]
  . rw [Array.getElem?_append_right (by omega),b7_ (xs:=args) (by omega)];by_cases h2:t-args.size<fn.ntmps-args.size
    . simp [h2]
    . simp [h2]
 refine (callsIn_wide (n:=0)).1 (callsIn_of_wp_marks (F:=Fw none) (n:=0) hf hb trivial (xh hm c (ro:=none) (s:=w.heap.size) (fun _=>rfl) fit i DOk.nil (aj_ _) H fun e r' h' a' w' D' f' m d' k=>?_) rfl);cases e<;>simp only [retK]at k<;>simp only [bodyPostM]
 all_goals
  obtain ⟨bs,rfl,nd,kk⟩:=d'
  rw [f'.defers]
  refine Fb bs w' nd (fun b hb=>(kk b hb).2.2.2) fun w4 z1 z2 z3 z4 z5 z6=>?_
  have M:Mv h w h' w4:=by
   refine ⟨by rw [<- z1];exact m.size,fun b o e=>?_,fun b o e1 e2=>?_,z3.trans m.os,z4.trans m.output,z5.trans m.tape,by rw [z6];exact m.drawn⟩
   . rw [z2 b (fun hb=>by rw [(kk b hb).2.2.1]at e;cases e)];exact m.sub _ _ e
   . have hlt:=(ay_.1 e1).1;rw [z2 b (fun hb=>by have:=(kk b hb).1;omega)];exact m.frame _ _ e1 e2
  obtain ⟨v,h2,w2,e1,m2,k2⟩:=uo _ (M.keeps i) k
  rw [<- Q8 (fn:=fn) f']at e1
  have:=(N3 fn a'.tmps).run e1
  subst this
  exact ⟨v,e1,v,h2,rfl,M.trans m2,k2⟩
end
end Go.HL

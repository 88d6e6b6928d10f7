/- Texts of the proof, one behind the other. -/
import Derived.Test.YtfflipnhffknnaaGreatDoorBH2
import Derived.Test.YtfflipnhffknnaaGreatDoorProg
import Derived.Test.YtfflipnhffknnaaGreatDoorBH3
import Derived.Tactics
import Derived.Tactics2
import Derived.Defers
import Derived.Laws.Pointers
import Derived.Laws.LoneSync
import Derived.RegionTactic
import Derived.RegionCalls
import Derived.ChangeAlike
set_option linter.unusedVariables false
set_option maxRecDepth 100000
set_option linter.unusedSimpArgs false
set_option maxHeartbeats 1600000
set_option linter.unusedSectionVars false
set_option linter.defProp false
section
namespace Go.Proofs.YtfflipnhffknnaaGreatDoor
open Go Go.HL
noncomputable abbrev P_:Program:=Tryz.prog
theorem mixed:Tryz.prog.follows .mixedOrders=true:=by kernel_rfl
abbrev FA (t i o:Nat):Prop:=∀{G h:Hp} {a:Addr} {K:VK},wpH Tryz.prog G (Instr.fieldAt t (.pointer (some a)) i) h K=K (.pointer (some (a.add o))) h
abbrev FB (t i o:Nat):Prop:=∀{G h:Hp} {a:Addr} {K:Value->Prop},pw Tryz.prog G h (Instr.fieldAt t (.pointer (some a)) i) K=K (.pointer (some (a.add o)))
abbrev LA (t:Nat):Prop:=∀{G h:Hp} {a:Addr} {K:VK},wpH Tryz.prog G (Instr.loadAt t (.pointer (some a))) h K=(∃x,bf G h a=some x/\K x h)
abbrev LB (t:Nat):Prop:=∀{G h:Hp} {a:Addr} {K:Value->Prop},pw Tryz.prog G h (Instr.loadAt t (.pointer (some a))) K=(∃x,bf G h a=some x/\K x)
abbrev CF (f:Nat):Prop:=∀{G h:Hp} {args:Array Value} {K:VK},opH Tryz.prog G (callFunc f args) h K=bn Tryz.prog G f args h K
abbrev EK:=Exit->Rg->Hp->Prop
abbrev Ent (n f:Nat) (l:List ResultVar) (S:Hp->EK->Rg->Hp->Prop):Prop:=∀{G:Hp} {h:Hp} {args:Array Value} {R:VK},args.size<=n->S G (retK Tryz.prog G l R) (regs args) h->bn Tryz.prog G f args h R
abbrev Weq (n:Nat) (m:Nat->Hint) (c:Code) (S:Hp->EK->Rg->Hp->Prop):Prop:=∀(G:Hp) (K:EK) (r:Rg) (h:Hp),wpC Tryz.prog G n m true c r h K=S G K r h
theorem ent_ {n f:Nat} {l:List ResultVar} {m:Nat->Hint} {S:Hp->EK->Rg->Hp->Prop} {fn:Func} {c:Code} (e:Weq n m c S) (hf:Tryz.prog.funcs[f]?=some fn) (hb:fn.body=some c) (hn:fn.ntmps=n) (hl:fn.results.toList=l):Ent n f l S:=fun hq H=>bn.enter (md:=m) mixed hf hb (by rw [hn];exact hq) (by rw [hn,hl,e];exact H)
abbrev o_ (G:Hp) (x:Sem Value) (h:Hp) (K:Value->Hp->Prop):Prop:=opH Tryz.prog G (sv x) h K
def mh (a:Bool) (B:List Nat) (k:List Kind) (n:List Bool) (p:Bool):Hint:=⟨a,B,k,k,n,p⟩
def m0_:=mh false [] [] [] false
def n_:Kind := .pureN
def m_:Kind := .pureM
def e_:Kind := .eff
def fs (n:Nat):List Bool:=List.replicate n false
abbrev u2 (r:Rg) (a0:Nat) (v0:Value) (a1:Nat) (v1:Value):Rg:=upd (upd r a0 v0) a1 v1
abbrev u3 (r:Rg) (a0:Nat) (v0:Value) (a1:Nat) (v1:Value) (a2:Nat) (v2:Value):Rg:=upd (u2 r a0 v0 a1 v1) a2 v2
abbrev u4 (r:Rg) (a0:Nat) (v0:Value) (a1:Nat) (v1:Value) (a2:Nat) (v2:Value) (a3:Nat) (v3:Value):Rg:=upd (u3 r a0 v0 a1 v1 a2 v2) a3 v3
abbrev u5 (r:Rg) (a0:Nat) (v0:Value) (a1:Nat) (v1:Value) (a2:Nat) (v2:Value) (a3:Nat) (v3:Value) (a4:Nat) (v4:Value):Rg:=upd (u4 r a0 v0 a1 v1 a2 v2 a3 v3) a4 v4
abbrev u6 (r:Rg) (a0:Nat) (v0:Value) (a1:Nat) (v1:Value) (a2:Nat) (v2:Value) (a3:Nat) (v3:Value) (a4:Nat) (v4:Value) (a5:Nat) (v5:Value):Rg:=upd (u5 r a0 v0 a1 v1 a2 v2 a3 v3 a4 v4) a5 v5
abbrev u7 (r:Rg) (a0:Nat) (v0:Value) (a1:Nat) (v1:Value) (a2:Nat) (v2:Value) (a3:Nat) (v3:Value) (a4:Nat) (v4:Value) (a5:Nat) (v5:Value) (a6:Nat) (v6:Value):Rg:=upd (u6 r a0 v0 a1 v1 a2 v2 a3 v3 a4 v4 a5 v5) a6 v6
abbrev u8 (r:Rg) (a0:Nat) (v0:Value) (a1:Nat) (v1:Value) (a2:Nat) (v2:Value) (a3:Nat) (v3:Value) (a4:Nat) (v4:Value) (a5:Nat) (v5:Value) (a6:Nat) (v6:Value) (a7:Nat) (v7:Value):Rg:=upd (u7 r a0 v0 a1 v1 a2 v2 a3 v3 a4 v4 a5 v5 a6 v6) a7 v7
abbrev u9 (r:Rg) (a0:Nat) (v0:Value) (a1:Nat) (v1:Value) (a2:Nat) (v2:Value) (a3:Nat) (v3:Value) (a4:Nat) (v4:Value) (a5:Nat) (v5:Value) (a6:Nat) (v6:Value) (a7:Nat) (v7:Value) (a8:Nat) (v8:Value):Rg:=upd (u8 r a0 v0 a1 v1 a2 v2 a3 v3 a4 v4 a5 v5 a6 v6 a7 v7) a8 v8
abbrev u10 (r:Rg) (a0:Nat) (v0:Value) (a1:Nat) (v1:Value) (a2:Nat) (v2:Value) (a3:Nat) (v3:Value) (a4:Nat) (v4:Value) (a5:Nat) (v5:Value) (a6:Nat) (v6:Value) (a7:Nat) (v7:Value) (a8:Nat) (v8:Value) (a9:Nat) (v9:Value):Rg:=upd (u9 r a0 v0 a1 v1 a2 v2 a3 v3 a4 v4 a5 v5 a6 v6 a7 v7 a8 v8) a9 v9
abbrev c_ (G:Hp) (f:FuncId) (a:Array Value) (h:Hp) (K:Value->Hp->Prop):Prop:=opH Tryz.prog G (callFunc f a) h K
abbrev g_ (v:Value) (b:Bool) (X:(Value->Hp->Prop)->Prop) (h:Hp) (K:Value->Hp->Prop):Prop:=gd (J1 v b) X h K
abbrev w_ (G q:Hp) (x:Sem Value) (h:Hp) (K:Value->Hp->Prop):Prop:=dl Tryz.prog G q (sv x) h K
abbrev p_ (x:Sem Value) (h:Hp) (K:Value->Hp->Prop):Prop:=dl Tryz.prog noHp noHp (sv x) h K
theorem Sg:FA 124 0 0:=fun {_ _ _ _}=>by kernel_rfl
theorem Lh:FB 124 0 0:=fun {_ _ _ _}=>by kernel_rfl
theorem aE6:FB 134 0 0:=fun {_ _ _ _}=>by kernel_rfl
theorem Fs:FB 134 1 16:=fun {_ _ _ _}=>by kernel_rfl
theorem aE5:FB 134 2 17:=fun {_ _ _ _}=>by kernel_rfl
theorem We:FB 134 3 18:=fun {_ _ _ _}=>by kernel_rfl
theorem Wd:FB 134 4 19:=fun {_ _ _ _}=>by kernel_rfl
theorem fa134_5:FA 134 5 20:=fun {_ _ _ _}=>by kernel_rfl
theorem fa134_6:FA 134 6 21:=fun {_ _ _ _}=>by kernel_rfl
theorem aE4:FB 134 6 21:=fun {_ _ _ _}=>by kernel_rfl
theorem Lg:FB 134 7 22:=fun {_ _ _ _}=>by kernel_rfl
theorem Lf:FB 134 8 23:=fun {_ _ _ _}=>by kernel_rfl
theorem ac3:FA 134 9 24:=fun {_ _ _ _}=>by kernel_rfl
theorem aE3:FB 134 9 24:=fun {_ _ _ _}=>by kernel_rfl
theorem fa137_0:FA 137 0 0:=fun {_ _ _ _}=>by kernel_rfl
theorem Wc:FB 137 0 0:=fun {_ _ _ _}=>by kernel_rfl
theorem fa137_1:FA 137 1 1:=fun {_ _ _ _}=>by kernel_rfl
theorem Wb:FB 137 1 1:=fun {_ _ _ _}=>by kernel_rfl
theorem ac2:FA 139 0 0:=fun {_ _ _ _}=>by kernel_rfl
theorem aE2:FB 139 0 0:=fun {_ _ _ _}=>by kernel_rfl
theorem ac1:FA 139 1 1:=fun {_ _ _ _}=>by kernel_rfl
theorem aE1:FB 139 1 1:=fun {_ _ _ _}=>by kernel_rfl
theorem aE0:FB 146 0 0:=fun {_ _ _ _}=>by kernel_rfl
theorem fa146_1:FA 146 1 2:=fun {_ _ _ _}=>by kernel_rfl
theorem fa146_2:FA 146 2 13:=fun {_ _ _ _}=>by kernel_rfl
theorem aD9:FB 146 2 13:=fun {_ _ _ _}=>by kernel_rfl
theorem ac0:FA 146 3 14:=fun {_ _ _ _}=>by kernel_rfl
theorem aD8:FB 146 3 14:=fun {_ _ _ _}=>by kernel_rfl
theorem Sf:FA 151 0 0:=fun {_ _ _ _}=>by kernel_rfl
theorem aD7:FB 151 0 0:=fun {_ _ _ _}=>by kernel_rfl
theorem Se:FA 151 1 1:=fun {_ _ _ _}=>by kernel_rfl
theorem Wa:FB 151 1 1:=fun {_ _ _ _}=>by kernel_rfl
theorem fa170_0:FA 170 0 0:=fun {_ _ _ _}=>by kernel_rfl
theorem fa170_1:FA 170 1 3:=fun {_ _ _ _}=>by kernel_rfl
theorem aD6:FB 170 1 3:=fun {_ _ _ _}=>by kernel_rfl
theorem fa173_0:FA 173 0 0:=fun {_ _ _ _}=>by kernel_rfl
theorem aD5:FB 173 0 0:=fun {_ _ _ _}=>by kernel_rfl
theorem fa173_1:FA 173 1 1:=fun {_ _ _ _}=>by kernel_rfl
theorem aD4:FB 173 1 1:=fun {_ _ _ _}=>by kernel_rfl
theorem fa173_2:FA 173 2 2:=fun {_ _ _ _}=>by kernel_rfl
theorem aD3:FB 173 2 2:=fun {_ _ _ _}=>by kernel_rfl
theorem aD2:FB 173 3 3:=fun {_ _ _ _}=>by kernel_rfl
theorem aD1:FB 186 0 0:=fun {_ _ _ _}=>by kernel_rfl
theorem aD0:FB 186 1 1:=fun {_ _ _ _}=>by kernel_rfl
theorem aC9:FB 186 2 2:=fun {_ _ _ _}=>by kernel_rfl
theorem ab9:FA 188 0 0:=fun {_ _ _ _}=>by kernel_rfl
theorem zu:FA 203 0 0:=fun {_ _ _ _}=>by kernel_rfl
theorem V9:FB 203 0 0:=fun {_ _ _ _}=>by kernel_rfl
theorem zt:FA 203 1 1:=fun {_ _ _ _}=>by kernel_rfl
theorem aC8:FB 203 1 1:=fun {_ _ _ _}=>by kernel_rfl
theorem zr:FA 203 2 2:=fun {_ _ _ _}=>by kernel_rfl
theorem V8:FB 215 0 0:=fun {_ _ _ _}=>by kernel_rfl
theorem aC7:FB 215 1 1:=fun {_ _ _ _}=>by kernel_rfl
theorem Fq:FA 215 2 2:=fun {_ _ _ _}=>by kernel_rfl
theorem aC6:FB 215 2 2:=fun {_ _ _ _}=>by kernel_rfl
theorem fa218_0:FA 218 0 0:=fun {_ _ _ _}=>by kernel_rfl
theorem aC5:FB 218 0 0:=fun {_ _ _ _}=>by kernel_rfl
theorem fa218_1:FA 218 1 1:=fun {_ _ _ _}=>by kernel_rfl
theorem aC4:FB 218 1 1:=fun {_ _ _ _}=>by kernel_rfl
theorem fa218_2:FA 218 2 2:=fun {_ _ _ _}=>by kernel_rfl
theorem aC3:FB 218 2 2:=fun {_ _ _ _}=>by kernel_rfl
theorem fa227_0:FA 227 0 0:=fun {_ _ _ _}=>by kernel_rfl
theorem aC2:FB 227 0 0:=fun {_ _ _ _}=>by kernel_rfl
theorem fa227_1:FA 227 1 3:=fun {_ _ _ _}=>by kernel_rfl
theorem fa232_0:FA 232 0 0:=fun {_ _ _ _}=>by kernel_rfl
theorem fa232_1:FA 232 1 11:=fun {_ _ _ _}=>by kernel_rfl
theorem fa232_2:FA 232 2 12:=fun {_ _ _ _}=>by kernel_rfl
theorem fa234_0:FA 234 0 0:=fun {_ _ _ _}=>by kernel_rfl
theorem Le:FB 234 0 0:=fun {_ _ _ _}=>by kernel_rfl
theorem ab8:FA 234 1 2:=fun {_ _ _ _}=>by kernel_rfl
theorem V7:FB 234 1 2:=fun {_ _ _ _}=>by kernel_rfl
theorem zq:FA 26 0 0:=fun {_ _ _ _}=>by kernel_rfl
theorem ab7:FB 26 0 0:=fun {_ _ _ _}=>by kernel_rfl
theorem Bv:FA 26 1 1:=fun {_ _ _ _}=>by kernel_rfl
theorem ab4:FB 26 1 1:=fun {_ _ _ _}=>by kernel_rfl
theorem Cv:FA 26 10 10:=fun {_ _ _ _}=>by kernel_rfl
theorem Fp:FA 26 11 11:=fun {_ _ _ _}=>by kernel_rfl
theorem ab6:FA 26 12 12:=fun {_ _ _ _}=>by kernel_rfl
theorem ab5:FA 26 13 13:=fun {_ _ _ _}=>by kernel_rfl
theorem Fo:FA 26 14 14:=fun {_ _ _ _}=>by kernel_rfl
theorem aC1:FA 26 2 2:=fun {_ _ _ _}=>by kernel_rfl
theorem fa26_2p:FB 26 2 2:=fun {_ _ _ _}=>by kernel_rfl
theorem Ld:FA 26 3 3:=fun {_ _ _ _}=>by kernel_rfl
theorem Sd:FB 26 3 3:=fun {_ _ _ _}=>by kernel_rfl
theorem Sc:FA 26 4 4:=fun {_ _ _ _}=>by kernel_rfl
theorem Sb:FB 26 4 4:=fun {_ _ _ _}=>by kernel_rfl
theorem Lc:FA 26 5 5:=fun {_ _ _ _}=>by kernel_rfl
theorem ab3:FB 26 5 5:=fun {_ _ _ _}=>by kernel_rfl
theorem Yi:FA 26 6 6:=fun {_ _ _ _}=>by kernel_rfl
theorem ab2:FB 26 6 6:=fun {_ _ _ _}=>by kernel_rfl
theorem Ha:FA 26 7 7:=fun {_ _ _ _}=>by kernel_rfl
theorem Sa:FA 26 8 8:=fun {_ _ _ _}=>by kernel_rfl
theorem R9:FA 26 9 9:=fun {_ _ _ _}=>by kernel_rfl
theorem D1:FA 28 0 0:=fun {_ _ _ _}=>by kernel_rfl
theorem ab1:FB 28 0 0:=fun {_ _ _ _}=>by kernel_rfl
theorem Dz:FA 28 1 1:=fun {_ _ _ _}=>by kernel_rfl
theorem ab0:FB 28 1 1:=fun {_ _ _ _}=>by kernel_rfl
theorem vq:FA 30 0 0:=fun {_ _ _ _}=>by kernel_rfl
theorem Jn:FB 30 0 0:=fun {_ _ _ _}=>by kernel_rfl
theorem Dy:FA 30 1 2:=fun {_ _ _ _}=>by kernel_rfl
theorem fa30_1p:FB 30 1 2:=fun {_ _ _ _}=>by kernel_rfl
theorem aC0:FA 45 0 0:=fun {_ _ _ _}=>by kernel_rfl
theorem aB9:FA 45 1 3:=fun {_ _ _ _}=>by kernel_rfl
theorem Dx:FA 48 0 0:=fun {_ _ _ _}=>by kernel_rfl
theorem R8:FA 48 1 1:=fun {_ _ _ _}=>by kernel_rfl
theorem fa48_1p:FB 48 1 1:=fun {_ _ _ _}=>by kernel_rfl
theorem Lb:FA 48 2 2:=fun {_ _ _ _}=>by kernel_rfl
theorem R7:FB 48 2 2:=fun {_ _ _ _}=>by kernel_rfl
theorem Yh:FA 48 3 3:=fun {_ _ _ _}=>by kernel_rfl
theorem aa9:FB 48 3 3:=fun {_ _ _ _}=>by kernel_rfl
theorem aB8:FA 48 4 6:=fun {_ _ _ _}=>by kernel_rfl
theorem Jm:FB 48 4 6:=fun {_ _ _ _}=>by kernel_rfl
theorem aB7:FA 48 5 9:=fun {_ _ _ _}=>by kernel_rfl
theorem Yg:FA 48 6 10:=fun {_ _ _ _}=>by kernel_rfl
theorem fa54_0:FA 54 0 0:=fun {_ _ _ _}=>by kernel_rfl
theorem fa54_1:FA 54 1 1:=fun {_ _ _ _}=>by kernel_rfl
theorem fa54_2:FA 54 2 2:=fun {_ _ _ _}=>by kernel_rfl
theorem fa75_0:FA 75 0 0:=fun {_ _ _ _}=>by kernel_rfl
theorem fa75_1:FA 75 1 1:=fun {_ _ _ _}=>by kernel_rfl
theorem fa75_2:FA 75 2 2:=fun {_ _ _ _}=>by kernel_rfl
theorem fa97_0:FA 97 0 0:=fun {_ _ _ _}=>by kernel_rfl
theorem fa97_1:FA 97 1 1:=fun {_ _ _ _}=>by kernel_rfl
theorem fa97_2:FA 97 2 2:=fun {_ _ _ _}=>by kernel_rfl
theorem fa97_3:FA 97 3 3:=fun {_ _ _ _}=>by kernel_rfl
theorem ld3:LA 3:=fun {_ _ _ _}=>by kernel_rfl
theorem ld3p:LB 3:=fun {_ _ _ _}=>by kernel_rfl
theorem ld4:LA 4:=fun {_ _ _ _}=>by kernel_rfl
theorem ld4p:LB 4:=fun {_ _ _ _}=>by kernel_rfl
theorem ld22:LA 22:=fun {_ _ _ _}=>by kernel_rfl
theorem aa1:LB 22:=fun {_ _ _ _}=>by kernel_rfl
theorem ld23:LA 23:=fun {_ _ _ _}=>by kernel_rfl
theorem ld23p:LB 23:=fun {_ _ _ _}=>by kernel_rfl
theorem ld24:LA 24:=fun {_ _ _ _}=>by kernel_rfl
theorem ld24p:LB 24:=fun {_ _ _ _}=>by kernel_rfl
theorem ld26 {G h:Hp} {a:Addr} {K:VK}:wpH Tryz.prog G (Instr.loadAt 26 (.pointer (some a))) h K=(∃x0,bf G h (a.add 0)=some x0/\∃x1,bf G h (a.add 1)=some x1/\∃x2,bf G h (a.add 2)=some x2/\∃x3,bf G h (a.add 3)=some x3/\∃x4,bf G h (a.add 4)=some x4/\∃x5,bf G h (a.add 5)=some x5/\∃x6,bf G h (a.add 6)=some x6/\∃x7,bf G h (a.add 7)=some x7/\∃x8,bf G h (a.add 8)=some x8/\∃x9,bf G h (a.add 9)=some x9/\∃x10,bf G h (a.add 10)=some x10/\∃x11,bf G h (a.add 11)=some x11/\∃x12,bf G h (a.add 12)=some x12/\∃x13,bf G h (a.add 13)=some x13/\∃x14,bf G h (a.add 14)=some x14/\∃x15,bf G h (a.add 15)=some x15/\K (.agg #[x0,x1,x2,x3,x4,x5,x6,x7,x8,x9,x10,x11,x12,x13,x14,x15]) h):=by kernel_rfl
theorem Ak {G h:Hp} {a:Addr} {K:Value->Prop}:pw Tryz.prog G h (Instr.loadAt 26 (.pointer (some a))) K=(∃x0,bf G h (a.add 0)=some x0/\∃x1,bf G h (a.add 1)=some x1/\∃x2,bf G h (a.add 2)=some x2/\∃x3,bf G h (a.add 3)=some x3/\∃x4,bf G h (a.add 4)=some x4/\∃x5,bf G h (a.add 5)=some x5/\∃x6,bf G h (a.add 6)=some x6/\∃x7,bf G h (a.add 7)=some x7/\∃x8,bf G h (a.add 8)=some x8/\∃x9,bf G h (a.add 9)=some x9/\∃x10,bf G h (a.add 10)=some x10/\∃x11,bf G h (a.add 11)=some x11/\∃x12,bf G h (a.add 12)=some x12/\∃x13,bf G h (a.add 13)=some x13/\∃x14,bf G h (a.add 14)=some x14/\∃x15,bf G h (a.add 15)=some x15/\K (.agg #[x0,x1,x2,x3,x4,x5,x6,x7,x8,x9,x10,x11,x12,x13,x14,x15])):=by kernel_rfl
theorem ld28 {G h:Hp} {a:Addr} {K:VK}:wpH Tryz.prog G (Instr.loadAt 28 (.pointer (some a))) h K=(∃x0,bf G h (a.add 0)=some x0/\∃x1,bf G h (a.add 1)=some x1/\K (.agg #[x0,x1]) h):=by kernel_rfl
theorem yp {G h:Hp} {a:Addr} {K:Value->Prop}:pw Tryz.prog G h (Instr.loadAt 28 (.pointer (some a))) K=(∃x0,bf G h (a.add 0)=some x0/\∃x1,bf G h (a.add 1)=some x1/\K (.agg #[x0,x1])):=by kernel_rfl
theorem ld30 {G h:Hp} {a:Addr} {K:VK}:wpH Tryz.prog G (Instr.loadAt 30 (.pointer (some a))) h K=(∃x0,bf G h (a.add 0)=some x0/\∃x1,bf G h (a.add 1)=some x1/\∃x2,bf G h (a.add 2)=some x2/\K (.agg #[x0,x1,x2]) h):=by kernel_rfl
theorem rz {G h:Hp} {a:Addr} {K:Value->Prop}:pw Tryz.prog G h (Instr.loadAt 30 (.pointer (some a))) K=(∃x0,bf G h (a.add 0)=some x0/\∃x1,bf G h (a.add 1)=some x1/\∃x2,bf G h (a.add 2)=some x2/\K (.agg #[x0,x1,x2])):=by kernel_rfl
theorem ld34:LA 34:=fun {_ _ _ _}=>by kernel_rfl
theorem aa0:LB 34:=fun {_ _ _ _}=>by kernel_rfl
theorem ld48 {G h:Hp} {a:Addr} {K:VK}:wpH Tryz.prog G (Instr.loadAt 48 (.pointer (some a))) h K=(∃x0,bf G h (a.add 0)=some x0/\∃x1,bf G h (a.add 1)=some x1/\∃x2,bf G h (a.add 2)=some x2/\∃x3,bf G h (a.add 3)=some x3/\∃x4,bf G h (a.add 4)=some x4/\∃x5,bf G h (a.add 5)=some x5/\∃x6,bf G h (a.add 6)=some x6/\∃x7,bf G h (a.add 7)=some x7/\∃x8,bf G h (a.add 8)=some x8/\∃x9,bf G h (a.add 9)=some x9/\∃x10,bf G h (a.add 10)=some x10/\K (.agg #[x0,x1,x2,x3,x4,x5,x6,x7,x8,x9,x10]) h):=by kernel_rfl
theorem ld48p {G h:Hp} {a:Addr} {K:Value->Prop}:pw Tryz.prog G h (Instr.loadAt 48 (.pointer (some a))) K=(∃x0,bf G h (a.add 0)=some x0/\∃x1,bf G h (a.add 1)=some x1/\∃x2,bf G h (a.add 2)=some x2/\∃x3,bf G h (a.add 3)=some x3/\∃x4,bf G h (a.add 4)=some x4/\∃x5,bf G h (a.add 5)=some x5/\∃x6,bf G h (a.add 6)=some x6/\∃x7,bf G h (a.add 7)=some x7/\∃x8,bf G h (a.add 8)=some x8/\∃x9,bf G h (a.add 9)=some x9/\∃x10,bf G h (a.add 10)=some x10/\K (.agg #[x0,x1,x2,x3,x4,x5,x6,x7,x8,x9,x10])):=by kernel_rfl
theorem ld50:LA 50:=fun {_ _ _ _}=>by kernel_rfl
theorem ld50p:LB 50:=fun {_ _ _ _}=>by kernel_rfl
theorem ld54 {G h:Hp} {a:Addr} {K:VK}:wpH Tryz.prog G (Instr.loadAt 54 (.pointer (some a))) h K=(∃x0,bf G h (a.add 0)=some x0/\∃x1,bf G h (a.add 1)=some x1/\∃x2,bf G h (a.add 2)=some x2/\K (.agg #[x0,x1,x2]) h):=by kernel_rfl
theorem ld68:LA 68:=fun {_ _ _ _}=>by kernel_rfl
theorem Vj:LB 68:=fun {_ _ _ _}=>by kernel_rfl
theorem ld75 {G h:Hp} {a:Addr} {K:VK}:wpH Tryz.prog G (Instr.loadAt 75 (.pointer (some a))) h K=(∃x0,bf G h (a.add 0)=some x0/\∃x1,bf G h (a.add 1)=some x1/\∃x2,bf G h (a.add 2)=some x2/\K (.agg #[x0,x1,x2]) h):=by kernel_rfl
theorem ld90:LA 90:=fun {_ _ _ _}=>by kernel_rfl
theorem Z9:LB 90:=fun {_ _ _ _}=>by kernel_rfl
theorem ld97 {G h:Hp} {a:Addr} {K:VK}:wpH Tryz.prog G (Instr.loadAt 97 (.pointer (some a))) h K=(∃x0,bf G h (a.add 0)=some x0/\∃x1,bf G h (a.add 1)=some x1/\∃x2,bf G h (a.add 2)=some x2/\∃x3,bf G h (a.add 3)=some x3/\K (.agg #[x0,x1,x2,x3]) h):=by kernel_rfl
theorem ld98:LA 98:=fun {_ _ _ _}=>by kernel_rfl
theorem ld98p:LB 98:=fun {_ _ _ _}=>by kernel_rfl
theorem ld99:LA 99:=fun {_ _ _ _}=>by kernel_rfl
theorem ld99p:LB 99:=fun {_ _ _ _}=>by kernel_rfl
theorem ld103:LA 103:=fun {_ _ _ _}=>by kernel_rfl
theorem ld127:LA 127:=fun {_ _ _ _}=>by kernel_rfl
theorem az6:LB 127:=fun {_ _ _ _}=>by kernel_rfl
theorem ld128:LA 128:=fun {_ _ _ _}=>by kernel_rfl
theorem ld129:LA 129:=fun {_ _ _ _}=>by kernel_rfl
theorem ld129p:LB 129:=fun {_ _ _ _}=>by kernel_rfl
theorem X1:LB 130:=fun {_ _ _ _}=>by kernel_rfl
theorem X0:LB 131:=fun {_ _ _ _}=>by kernel_rfl
theorem ld132:LA 132:=fun {_ _ _ _}=>by kernel_rfl
theorem ld132p:LB 132:=fun {_ _ _ _}=>by kernel_rfl
theorem ld137 {G h:Hp} {a:Addr} {K:VK}:wpH Tryz.prog G (Instr.loadAt 137 (.pointer (some a))) h K=(∃x0,bf G h (a.add 0)=some x0/\∃x1,bf G h (a.add 1)=some x1/\K (.agg #[x0,x1]) h):=by kernel_rfl
theorem Xz {G h:Hp} {a:Addr} {K:Value->Prop}:pw Tryz.prog G h (Instr.loadAt 137 (.pointer (some a))) K=(∃x0,bf G h (a.add 0)=some x0/\∃x1,bf G h (a.add 1)=some x1/\K (.agg #[x0,x1])):=by kernel_rfl
theorem ld139 {G h:Hp} {a:Addr} {K:VK}:wpH Tryz.prog G (Instr.loadAt 139 (.pointer (some a))) h K=(∃x0,bf G h (a.add 0)=some x0/\∃x1,bf G h (a.add 1)=some x1/\∃x2,bf G h (a.add 2)=some x2/\K (.agg #[x0,x1,x2]) h):=by kernel_rfl
theorem ld139p {G h:Hp} {a:Addr} {K:Value->Prop}:pw Tryz.prog G h (Instr.loadAt 139 (.pointer (some a))) K=(∃x0,bf G h (a.add 0)=some x0/\∃x1,bf G h (a.add 1)=some x1/\∃x2,bf G h (a.add 2)=some x2/\K (.agg #[x0,x1,x2])):=by kernel_rfl
theorem ld140:LA 140:=fun {_ _ _ _}=>by kernel_rfl
theorem ld140p:LB 140:=fun {_ _ _ _}=>by kernel_rfl
theorem ld142:LA 142:=fun {_ _ _ _}=>by kernel_rfl
theorem ld151 {G h:Hp} {a:Addr} {K:VK}:wpH Tryz.prog G (Instr.loadAt 151 (.pointer (some a))) h K=(∃x0,bf G h (a.add 0)=some x0/\∃x1,bf G h (a.add 1)=some x1/\K (.agg #[x0,x1]) h):=by kernel_rfl
theorem ld151p {G h:Hp} {a:Addr} {K:Value->Prop}:pw Tryz.prog G h (Instr.loadAt 151 (.pointer (some a))) K=(∃x0,bf G h (a.add 0)=some x0/\∃x1,bf G h (a.add 1)=some x1/\K (.agg #[x0,x1])):=by kernel_rfl
theorem Kw:LA 168:=fun {_ _ _ _}=>by kernel_rfl
theorem Rw:LB 168:=fun {_ _ _ _}=>by kernel_rfl
theorem ld178:LA 178:=fun {_ _ _ _}=>by kernel_rfl
theorem Vk {G h:Hp} {a:Addr} {K:VK}:wpH Tryz.prog G (Instr.loadAt 203 (.pointer (some a))) h K=(∃x0,bf G h (a.add 0)=some x0/\∃x1,bf G h (a.add 1)=some x1/\∃x2,bf G h (a.add 2)=some x2/\K (.agg #[x0,x1,x2]) h):=by kernel_rfl
theorem ld203p {G h:Hp} {a:Addr} {K:Value->Prop}:pw Tryz.prog G h (Instr.loadAt 203 (.pointer (some a))) K=(∃x0,bf G h (a.add 0)=some x0/\∃x1,bf G h (a.add 1)=some x1/\∃x2,bf G h (a.add 2)=some x2/\K (.agg #[x0,x1,x2])):=by kernel_rfl
theorem ld216:LA 216:=fun {_ _ _ _}=>by kernel_rfl
theorem ld216p:LB 216:=fun {_ _ _ _}=>by kernel_rfl
theorem ld227p {G h:Hp} {a:Addr} {K:Value->Prop}:pw Tryz.prog G h (Instr.loadAt 227 (.pointer (some a))) K=(∃x0,bf G h (a.add 0)=some x0/\∃x1,bf G h (a.add 1)=some x1/\∃x2,bf G h (a.add 2)=some x2/\∃x3,bf G h (a.add 3)=some x3/\K (.agg #[x0,x1,x2,x3])):=by kernel_rfl
theorem ld229:LA 229:=fun {_ _ _ _}=>by kernel_rfl
theorem az5:LB 229:=fun {_ _ _ _}=>by kernel_rfl
theorem ld232 {G h:Hp} {a:Addr} {K:VK}:wpH Tryz.prog G (Instr.loadAt 232 (.pointer (some a))) h K=(∃x0,bf G h (a.add 0)=some x0/\∃x1,bf G h (a.add 1)=some x1/\∃x2,bf G h (a.add 2)=some x2/\∃x3,bf G h (a.add 3)=some x3/\∃x4,bf G h (a.add 4)=some x4/\∃x5,bf G h (a.add 5)=some x5/\∃x6,bf G h (a.add 6)=some x6/\∃x7,bf G h (a.add 7)=some x7/\∃x8,bf G h (a.add 8)=some x8/\∃x9,bf G h (a.add 9)=some x9/\∃x10,bf G h (a.add 10)=some x10/\∃x11,bf G h (a.add 11)=some x11/\∃x12,bf G h (a.add 12)=some x12/\K (.agg #[x0,x1,x2,x3,x4,x5,x6,x7,x8,x9,x10,x11,x12]) h):=by kernel_rfl
theorem ld234 {G h:Hp} {a:Addr} {K:VK}:wpH Tryz.prog G (Instr.loadAt 234 (.pointer (some a))) h K=(∃x0,bf G h (a.add 0)=some x0/\∃x1,bf G h (a.add 1)=some x1/\∃x2,bf G h (a.add 2)=some x2/\K (.agg #[x0,x1,x2]) h):=by kernel_rfl
theorem ld261:LA 261:=fun {_ _ _ _}=>by kernel_rfl
theorem ld261p:LB 261:=fun {_ _ _ _}=>by kernel_rfl
theorem sz3:(Tryz.prog.info? 3).map (·.size)=some 1:=by kernel_rfl
theorem sz4:(Tryz.prog.info? 4).map (·.size)=some 1:=by kernel_rfl
theorem sz22:(Tryz.prog.info? 22).map (·.size)=some 1:=by kernel_rfl
theorem sz23:(Tryz.prog.info? 23).map (·.size)=some 1:=by kernel_rfl
theorem sz24:(Tryz.prog.info? 24).map (·.size)=some 1:=by kernel_rfl
theorem sz26:(Tryz.prog.info? 26).map (·.size)=some 16:=by kernel_rfl
theorem sz28:(Tryz.prog.info? 28).map (·.size)=some 2:=by kernel_rfl
theorem sz30:(Tryz.prog.info? 30).map (·.size)=some 3:=by kernel_rfl
theorem sz48:(Tryz.prog.info? 48).map (·.size)=some 11:=by kernel_rfl
theorem sz54:(Tryz.prog.info? 54).map (·.size)=some 3:=by kernel_rfl
theorem sz75:(Tryz.prog.info? 75).map (·.size)=some 3:=by kernel_rfl
theorem sz90:(Tryz.prog.info? 90).map (·.size)=some 1:=by kernel_rfl
theorem sz97:(Tryz.prog.info? 97).map (·.size)=some 4:=by kernel_rfl
theorem sz99:(Tryz.prog.info? 99).map (·.size)=some 1:=by kernel_rfl
theorem sz103:(Tryz.prog.info? 103).map (·.size)=some 1:=by kernel_rfl
theorem sz110:(Tryz.prog.info? 110).map (·.size)=some 2:=by kernel_rfl
theorem sz132:(Tryz.prog.info? 132).map (·.size)=some 1:=by kernel_rfl
theorem sz137:(Tryz.prog.info? 137).map (·.size)=some 2:=by kernel_rfl
theorem sz139:(Tryz.prog.info? 139).map (·.size)=some 3:=by kernel_rfl
theorem sz142:(Tryz.prog.info? 142).map (·.size)=some 1:=by kernel_rfl
theorem sz151:(Tryz.prog.info? 151).map (·.size)=some 2:=by kernel_rfl
theorem sz168:(Tryz.prog.info? 168).map (·.size)=some 1:=by kernel_rfl
theorem sz186:(Tryz.prog.info? 186).map (·.size)=some 3:=by kernel_rfl
theorem rx:(Tryz.prog.info? 203).map (·.size)=some 3:=by kernel_rfl
theorem sz216:(Tryz.prog.info? 216).map (·.size)=some 1:=by kernel_rfl
theorem J4:(Tryz.prog.info? 227).map (·.size)=some 4:=by kernel_rfl
theorem sz229:(Tryz.prog.info? 229).map (·.size)=some 1:=by kernel_rfl
theorem sz232:(Tryz.prog.info? 232).map (·.size)=some 13:=by kernel_rfl
theorem sz234:(Tryz.prog.info? 234).map (·.size)=some 3:=by kernel_rfl
theorem sz261:(Tryz.prog.info? 261).map (·.size)=some 1:=by kernel_rfl
theorem st3s {G h:Hp} {b i:Nat} {e:TypeId} {l:List Value} {v:Value} {K:Unit->Hp->Prop} (h1:ls v=true) (hl:i<l.length):wpH Tryz.prog G (Instr.storeAt 3 (.pointer (some ⟨b,i,none⟩)) v) (h.set b (.cells l.toArray e (0,0))) K=K () (h.set b (.cells (l.set i v).toArray e (0,0))):=T8 sz3 h1 hl
theorem st26w {G h:Hp} {b:Nat} {e:TypeId} {z0 z1 z2 z3 z4 z5 z6 z7 z8 z9 z10 z11 z12 z13 z14 z15:Value} {k0:IntKind} {y0:Int} {k1:IntKind} {y1:Int} {k2:IntKind} {y2:Int} {y3:Option Addr} {n3 c3:Nat} {y4:Option Addr} {n4 c4:Nat} {y5:Option Addr} {n5 c5:Nat} {y6:Option Addr} {n6 c6:Nat} {k7:IntKind} {y7:Int} {k8:IntKind} {y8:Int} {k9:IntKind} {y9:Int} {k10:IntKind} {y10:Int} {k11:IntKind} {y11:Int} {k12:IntKind} {y12:Int} {k13:IntKind} {y13:Int} {k14:IntKind} {y14:Int} {y15:Bool} {K:Unit->Hp->Prop}:wpH Tryz.prog G (Instr.storeAt 26 (.pointer (some ⟨b,0,none⟩)) (.agg #[(.int k0 y0),(.int k1 y1),(.int k2 y2),(.slice y3 n3 c3),(.slice y4 n4 c4),(.slice y5 n5 c5),(.slice y6 n6 c6),(.int k7 y7),(.int k8 y8),(.int k9 y9),(.int k10 y10),(.int k11 y11),(.int k12 y12),(.int k13 y13),(.int k14 y14),(.bool y15)])) (h.set b (.cells #[z0,z1,z2,z3,z4,z5,z6,z7,z8,z9,z10,z11,z12,z13,z14,z15] e (0,0))) K=K () (h.set b (.cells #[(.int k0 y0),(.int k1 y1),(.int k2 y2),(.slice y3 n3 c3),(.slice y4 n4 c4),(.slice y5 n5 c5),(.slice y6 n6 c6),(.int k7 y7),(.int k8 y8),(.int k9 y9),(.int k10 y10),(.int k11 y11),(.int k12 y12),(.int k13 y13),(.int k14 y14),(.bool y15)] e (0,0))):=jb sz26 rfl rfl (fun x hx=>by simp only [al_,aK_,or_false]at hx;rcases hx with rfl|rfl|rfl|rfl|rfl|rfl|rfl|rfl|rfl|rfl|rfl|rfl|rfl|rfl|rfl|rfl<;>first|rfl|assumption)
theorem Ud {G h:Hp} {b:Nat} {e:TypeId} {z0 z1:Value} {k0:IntKind} {y0:Int} {k1:IntKind} {y1:Int} {K:Unit->Hp->Prop}:wpH Tryz.prog G (Instr.storeAt 28 (.pointer (some ⟨b,0,none⟩)) (.agg #[(.int k0 y0),(.int k1 y1)])) (h.set b (.cells #[z0,z1] e (0,0))) K=K () (h.set b (.cells #[(.int k0 y0),(.int k1 y1)] e (0,0))):=jb sz28 rfl rfl (fun x hx=>by simp only [al_,aK_,or_false]at hx;rcases hx with rfl|rfl<;>first|rfl|assumption)
theorem Ax {G h:Hp} {b:Nat} {e:TypeId} {z0 z1 z2:Value} {k0:IntKind} {y0:Int} {k1:IntKind} {y1:Int} {y2:Bool} {K:Unit->Hp->Prop}:wpH Tryz.prog G (Instr.storeAt 30 (.pointer (some ⟨b,0,none⟩)) (.agg #[(.int k0 y0),(.int k1 y1),(.bool y2)])) (h.set b (.cells #[z0,z1,z2] e (0,0))) K=K () (h.set b (.cells #[(.int k0 y0),(.int k1 y1),(.bool y2)] e (0,0))):=jb sz30 rfl rfl (fun x hx=>by simp only [al_,aK_,or_false]at hx;rcases hx with rfl|rfl|rfl<;>first|rfl|assumption)
theorem Uc {G h:Hp} {b:Nat} {e:TypeId} {z0 z1 z2 z3 z4 z5 z6 z7 z8 z9 z10:Value} {k0:IntKind} {y0:Int} {k1:IntKind} {y1:Int} {k2:IntKind} {y2:Int} {k3:IntKind} {y3:Int} {k4:IntKind} {y4:Int} {y5:Bool} {k6:IntKind} {y6:Int} {k7:IntKind} {y7:Int} {y8:Bool} {k9:IntKind} {y9:Int} {k10:IntKind} {y10:Int} {K:Unit->Hp->Prop}:wpH Tryz.prog G (Instr.storeAt 48 (.pointer (some ⟨b,0,none⟩)) (.agg #[(.int k0 y0),(.int k1 y1),(.int k2 y2),(.int k3 y3),(.int k4 y4),(.bool y5),(.int k6 y6),(.int k7 y7),(.bool y8),(.int k9 y9),(.int k10 y10)])) (h.set b (.cells #[z0,z1,z2,z3,z4,z5,z6,z7,z8,z9,z10] e (0,0))) K=K () (h.set b (.cells #[(.int k0 y0),(.int k1 y1),(.int k2 y2),(.int k3 y3),(.int k4 y4),(.bool y5),(.int k6 y6),(.int k7 y7),(.bool y8),(.int k9 y9),(.int k10 y10)] e (0,0))):=jb sz48 rfl rfl (fun x hx=>by simp only [al_,aK_,or_false]at hx;rcases hx with rfl|rfl|rfl|rfl|rfl|rfl|rfl|rfl|rfl|rfl|rfl<;>first|rfl|assumption)
theorem st75w {G h:Hp} {b:Nat} {e:TypeId} {z0 z1 z2:Value} {k0:IntKind} {y0:Int} {k1:IntKind} {y1:Int} {k2:IntKind} {y2:Int} {K:Unit->Hp->Prop}:wpH Tryz.prog G (Instr.storeAt 75 (.pointer (some ⟨b,0,none⟩)) (.agg #[(.int k0 y0),(.int k1 y1),(.int k2 y2)])) (h.set b (.cells #[z0,z1,z2] e (0,0))) K=K () (h.set b (.cells #[(.int k0 y0),(.int k1 y1),(.int k2 y2)] e (0,0))):=jb sz75 rfl rfl (fun x hx=>by simp only [al_,aK_,or_false]at hx;rcases hx with rfl|rfl|rfl<;>first|rfl|assumption)
theorem st97w {G h:Hp} {b:Nat} {e:TypeId} {z0 z1 z2 z3:Value} {k0:IntKind} {y0:Int} {k1:IntKind} {y1:Int} {k2:IntKind} {y2:Int} {k3:IntKind} {y3:Int} {K:Unit->Hp->Prop}:wpH Tryz.prog G (Instr.storeAt 97 (.pointer (some ⟨b,0,none⟩)) (.agg #[(.int k0 y0),(.int k1 y1),(.int k2 y2),(.int k3 y3)])) (h.set b (.cells #[z0,z1,z2,z3] e (0,0))) K=K () (h.set b (.cells #[(.int k0 y0),(.int k1 y1),(.int k2 y2),(.int k3 y3)] e (0,0))):=jb sz97 rfl rfl (fun x hx=>by simp only [al_,aK_,or_false]at hx;rcases hx with rfl|rfl|rfl|rfl<;>first|rfl|assumption)
theorem st110w {G h:Hp} {b:Nat} {e:TypeId} {z0 z1:Value} {k0:IntKind} {y0:Int} {k1:IntKind} {y1:Int} {K:Unit->Hp->Prop}:wpH Tryz.prog G (Instr.storeAt 110 (.pointer (some ⟨b,0,none⟩)) (.agg #[(.int k0 y0),(.int k1 y1)])) (h.set b (.cells #[z0,z1] e (0,0))) K=K () (h.set b (.cells #[(.int k0 y0),(.int k1 y1)] e (0,0))):=jb sz110 rfl rfl (fun x hx=>by simp only [al_,aK_,or_false]at hx;rcases hx with rfl|rfl<;>first|rfl|assumption)
theorem st137w {G h:Hp} {b:Nat} {e:TypeId} {z0 z1:Value} {k0:IntKind} {y0:Int} {k1:IntKind} {y1:Int} {K:Unit->Hp->Prop}:wpH Tryz.prog G (Instr.storeAt 137 (.pointer (some ⟨b,0,none⟩)) (.agg #[(.int k0 y0),(.int k1 y1)])) (h.set b (.cells #[z0,z1] e (0,0))) K=K () (h.set b (.cells #[(.int k0 y0),(.int k1 y1)] e (0,0))):=jb sz137 rfl rfl (fun x hx=>by simp only [al_,aK_,or_false]at hx;rcases hx with rfl|rfl<;>first|rfl|assumption)
theorem aw0 {G h:Hp} {b:Nat} {e:TypeId} {z0 z1 z2:Value} {k0:IntKind} {y0:Int} {k1:IntKind} {y1:Int} {k2:IntKind} {y2:Int} {K:Unit->Hp->Prop}:wpH Tryz.prog G (Instr.storeAt 139 (.pointer (some ⟨b,0,none⟩)) (.agg #[(.int k0 y0),(.int k1 y1),(.int k2 y2)])) (h.set b (.cells #[z0,z1,z2] e (0,0))) K=K () (h.set b (.cells #[(.int k0 y0),(.int k1 y1),(.int k2 y2)] e (0,0))):=jb sz139 rfl rfl (fun x hx=>by simp only [al_,aK_,or_false]at hx;rcases hx with rfl|rfl|rfl<;>first|rfl|assumption)
theorem Xf {G h:Hp} {b:Nat} {e:TypeId} {z0 z1:Value} {k0:IntKind} {y0:Int} {k1:IntKind} {y1:Int} {K:Unit->Hp->Prop}:wpH Tryz.prog G (Instr.storeAt 151 (.pointer (some ⟨b,0,none⟩)) (.agg #[(.int k0 y0),(.int k1 y1)])) (h.set b (.cells #[z0,z1] e (0,0))) K=K () (h.set b (.cells #[(.int k0 y0),(.int k1 y1)] e (0,0))):=jb sz151 rfl rfl (fun x hx=>by simp only [al_,aK_,or_false]at hx;rcases hx with rfl|rfl<;>first|rfl|assumption)
theorem Kc {G h:Hp} {b:Nat} {e:TypeId} {z0 z1 z2:Value} {k0:IntKind} {y0:Int} {k1:IntKind} {y1:Int} {k2:IntKind} {y2:Int} {K:Unit->Hp->Prop}:wpH Tryz.prog G (Instr.storeAt 203 (.pointer (some ⟨b,0,none⟩)) (.agg #[(.int k0 y0),(.int k1 y1),(.int k2 y2)])) (h.set b (.cells #[z0,z1,z2] e (0,0))) K=K () (h.set b (.cells #[(.int k0 y0),(.int k1 y1),(.int k2 y2)] e (0,0))):=jb rx rfl rfl (fun x hx=>by simp only [al_,aK_,or_false]at hx;rcases hx with rfl|rfl|rfl<;>first|rfl|assumption)
theorem st227w {G h:Hp} {b:Nat} {e:TypeId} {z0 z1 z2 z3:Value} {k0:IntKind} {y0:Int} {k1:IntKind} {y1:Int} {k2:IntKind} {y2:Int} {k3:IntKind} {y3:Int} {K:Unit->Hp->Prop}:wpH Tryz.prog G (Instr.storeAt 227 (.pointer (some ⟨b,0,none⟩)) (.agg #[(.int k0 y0),(.int k1 y1),(.int k2 y2),(.int k3 y3)])) (h.set b (.cells #[z0,z1,z2,z3] e (0,0))) K=K () (h.set b (.cells #[(.int k0 y0),(.int k1 y1),(.int k2 y2),(.int k3 y3)] e (0,0))):=jb J4 rfl rfl (fun x hx=>by simp only [al_,aK_,or_false]at hx;rcases hx with rfl|rfl|rfl|rfl<;>first|rfl|assumption)
theorem st232w {G h:Hp} {b:Nat} {e:TypeId} {z0 z1 z2 z3 z4 z5 z6 z7 z8 z9 z10 z11 z12:Value} {k0:IntKind} {y0:Int} {k1:IntKind} {y1:Int} {k2:IntKind} {y2:Int} {k3:IntKind} {y3:Int} {k4:IntKind} {y4:Int} {y5:Bool} {k6:IntKind} {y6:Int} {k7:IntKind} {y7:Int} {y8:Bool} {k9:IntKind} {y9:Int} {k10:IntKind} {y10:Int} {k11:IntKind} {y11:Int} {y12:Option Addr} {n12 c12:Nat} {K:Unit->Hp->Prop}:wpH Tryz.prog G (Instr.storeAt 232 (.pointer (some ⟨b,0,none⟩)) (.agg #[(.int k0 y0),(.int k1 y1),(.int k2 y2),(.int k3 y3),(.int k4 y4),(.bool y5),(.int k6 y6),(.int k7 y7),(.bool y8),(.int k9 y9),(.int k10 y10),(.int k11 y11),(.slice y12 n12 c12)])) (h.set b (.cells #[z0,z1,z2,z3,z4,z5,z6,z7,z8,z9,z10,z11,z12] e (0,0))) K=K () (h.set b (.cells #[(.int k0 y0),(.int k1 y1),(.int k2 y2),(.int k3 y3),(.int k4 y4),(.bool y5),(.int k6 y6),(.int k7 y7),(.bool y8),(.int k9 y9),(.int k10 y10),(.int k11 y11),(.slice y12 n12 c12)] e (0,0))):=jb sz232 rfl rfl (fun x hx=>by simp only [al_,aK_,or_false]at hx;rcases hx with rfl|rfl|rfl|rfl|rfl|rfl|rfl|rfl|rfl|rfl|rfl|rfl|rfl<;>first|rfl|assumption)
theorem av9 {G h:Hp} {b:Nat} {e:TypeId} {z0 z1 z2:Value} {k0:IntKind} {y0:Int} {k1:IntKind} {y1:Int} {y2:Option Addr} {n2 c2:Nat} {K:Unit->Hp->Prop}:wpH Tryz.prog G (Instr.storeAt 234 (.pointer (some ⟨b,0,none⟩)) (.agg #[(.int k0 y0),(.int k1 y1),(.slice y2 n2 c2)])) (h.set b (.cells #[z0,z1,z2] e (0,0))) K=K () (h.set b (.cells #[(.int k0 y0),(.int k1 y1),(.slice y2 n2 c2)] e (0,0))):=jb sz234 rfl rfl (fun x hx=>by simp only [al_,aK_,or_false]at hx;rcases hx with rfl|rfl|rfl<;>first|rfl|assumption)
theorem un22:Tryz.prog.underlying 22=some (.slice 28):=by kernel_rfl
theorem ix22 {G h:Hp} {ad:Addr} {len cap:Nat} {k:IntKind} {i:Int} {K:VK} (h1:0<=i) (h2:i<len):wpH Tryz.prog G (Instr.indexAt 22 (.slice (some ad) len cap) (.int k i)) h K=K (.pointer (some (ad.add (i.toNat*2)))) h:=iz un22 sz28 h1 h2
theorem tz {G h:Hp} {ad:Addr} {len cap:Nat} {k:IntKind} {i:Int} {K:Value->Prop} (h1:0<=i) (h2:i<len):pw Tryz.prog G h (Instr.indexAt 22 (.slice (some ad) len cap) (.int k i)) K=K (.pointer (some (ad.add (i.toNat*2)))):=jf un22 sz28 h1 h2
theorem un23:Tryz.prog.underlying 23=some (.slice 30):=by kernel_rfl
theorem ix23 {G h:Hp} {ad:Addr} {len cap:Nat} {k:IntKind} {i:Int} {K:VK} (h1:0<=i) (h2:i<len):wpH Tryz.prog G (Instr.indexAt 23 (.slice (some ad) len cap) (.int k i)) h K=K (.pointer (some (ad.add (i.toNat*3)))) h:=iz un23 sz30 h1 h2
theorem Ib {G h:Hp} {ad:Addr} {len cap:Nat} {k:IntKind} {i:Int} {K:Value->Prop} (h1:0<=i) (h2:i<len):pw Tryz.prog G h (Instr.indexAt 23 (.slice (some ad) len cap) (.int k i)) K=K (.pointer (some (ad.add (i.toNat*3)))):=jf un23 sz30 h1 h2
theorem un24:Tryz.prog.underlying 24=some (.slice 234):=by kernel_rfl
theorem ix24 {G h:Hp} {ad:Addr} {len cap:Nat} {k:IntKind} {i:Int} {K:VK} (h1:0<=i) (h2:i<len):wpH Tryz.prog G (Instr.indexAt 24 (.slice (some ad) len cap) (.int k i)) h K=K (.pointer (some (ad.add (i.toNat*3)))) h:=iz un24 sz234 h1 h2
theorem Vo {G h:Hp} {ad:Addr} {len cap:Nat} {k:IntKind} {i:Int} {K:Value->Prop} (h1:0<=i) (h2:i<len):pw Tryz.prog G h (Instr.indexAt 24 (.slice (some ad) len cap) (.int k i)) K=K (.pointer (some (ad.add (i.toNat*3)))):=jf un24 sz234 h1 h2
theorem un40:Tryz.prog.underlying 40=some (.slice 48):=by kernel_rfl
theorem ix40 {G h:Hp} {ad:Addr} {len cap:Nat} {k:IntKind} {i:Int} {K:VK} (h1:0<=i) (h2:i<len):wpH Tryz.prog G (Instr.indexAt 40 (.slice (some ad) len cap) (.int k i)) h K=K (.pointer (some (ad.add (i.toNat*11)))) h:=iz un40 sz48 h1 h2
theorem Vn {G h:Hp} {ad:Addr} {len cap:Nat} {k:IntKind} {i:Int} {K:Value->Prop} (h1:0<=i) (h2:i<len):pw Tryz.prog G h (Instr.indexAt 40 (.slice (some ad) len cap) (.int k i)) K=K (.pointer (some (ad.add (i.toNat*11)))):=jf un40 sz48 h1 h2
theorem un71:Tryz.prog.underlying 71=some (.slice 75):=by kernel_rfl
theorem ix71 {G h:Hp} {ad:Addr} {len cap:Nat} {k:IntKind} {i:Int} {K:VK} (h1:0<=i) (h2:i<len):wpH Tryz.prog G (Instr.indexAt 71 (.slice (some ad) len cap) (.int k i)) h K=K (.pointer (some (ad.add (i.toNat*3)))) h:=iz un71 sz75 h1 h2
theorem un77:Tryz.prog.underlying 77=some (.slice 97):=by kernel_rfl
theorem ix77 {G h:Hp} {ad:Addr} {len cap:Nat} {k:IntKind} {i:Int} {K:VK} (h1:0<=i) (h2:i<len):wpH Tryz.prog G (Instr.indexAt 77 (.slice (some ad) len cap) (.int k i)) h K=K (.pointer (some (ad.add (i.toNat*4)))) h:=iz un77 sz97 h1 h2
theorem un89:Tryz.prog.underlying 89=some (.slice 90):=by kernel_rfl
theorem ix89 {G h:Hp} {ad:Addr} {len cap:Nat} {k:IntKind} {i:Int} {K:VK} (h1:0<=i) (h2:i<len):wpH Tryz.prog G (Instr.indexAt 89 (.slice (some ad) len cap) (.int k i)) h K=K (.pointer (some (ad.add (i.toNat*1)))) h:=iz un89 sz90 h1 h2
theorem aa4 {G h:Hp} {ad:Addr} {len cap:Nat} {k:IntKind} {i:Int} {K:Value->Prop} (h1:0<=i) (h2:i<len):pw Tryz.prog G h (Instr.indexAt 89 (.slice (some ad) len cap) (.int k i)) K=K (.pointer (some (ad.add (i.toNat*1)))):=jf un89 sz90 h1 h2
theorem un90:Tryz.prog.underlying 90=some (.slice 4):=by kernel_rfl
theorem ix90 {G h:Hp} {ad:Addr} {len cap:Nat} {k:IntKind} {i:Int} {K:VK} (h1:0<=i) (h2:i<len):wpH Tryz.prog G (Instr.indexAt 90 (.slice (some ad) len cap) (.int k i)) h K=K (.pointer (some (ad.add (i.toNat*1)))) h:=iz un90 sz4 h1 h2
theorem aa3 {G h:Hp} {ad:Addr} {len cap:Nat} {k:IntKind} {i:Int} {K:Value->Prop} (h1:0<=i) (h2:i<len):pw Tryz.prog G h (Instr.indexAt 90 (.slice (some ad) len cap) (.int k i)) K=K (.pointer (some (ad.add (i.toNat*1)))):=jf un90 sz4 h1 h2
theorem un98:Tryz.prog.underlying 98=some (.slice 99):=by kernel_rfl
theorem ix98 {G h:Hp} {ad:Addr} {len cap:Nat} {k:IntKind} {i:Int} {K:VK} (h1:0<=i) (h2:i<len):wpH Tryz.prog G (Instr.indexAt 98 (.slice (some ad) len cap) (.int k i)) h K=K (.pointer (some (ad.add (i.toNat*1)))) h:=iz un98 sz99 h1 h2
theorem ix98p {G h:Hp} {ad:Addr} {len cap:Nat} {k:IntKind} {i:Int} {K:Value->Prop} (h1:0<=i) (h2:i<len):pw Tryz.prog G h (Instr.indexAt 98 (.slice (some ad) len cap) (.int k i)) K=K (.pointer (some (ad.add (i.toNat*1)))):=jf un98 sz99 h1 h2
theorem un99:Tryz.prog.underlying 99=some (.slice 203):=by kernel_rfl
theorem ix99 {G h:Hp} {ad:Addr} {len cap:Nat} {k:IntKind} {i:Int} {K:VK} (h1:0<=i) (h2:i<len):wpH Tryz.prog G (Instr.indexAt 99 (.slice (some ad) len cap) (.int k i)) h K=K (.pointer (some (ad.add (i.toNat*3)))) h:=iz un99 rx h1 h2
theorem ix99p {G h:Hp} {ad:Addr} {len cap:Nat} {k:IntKind} {i:Int} {K:Value->Prop} (h1:0<=i) (h2:i<len):pw Tryz.prog G h (Instr.indexAt 99 (.slice (some ad) len cap) (.int k i)) K=K (.pointer (some (ad.add (i.toNat*3)))):=jf un99 rx h1 h2
theorem un103:Tryz.prog.underlying 103=some (.slice 110):=by kernel_rfl
theorem un114:Tryz.prog.underlying 114=some (.slice 186):=by kernel_rfl
theorem O7 {G h:Hp} {ad:Addr} {len cap:Nat} {k:IntKind} {i:Int} {K:VK} (h1:0<=i) (h2:i<len):wpH Tryz.prog G (Instr.indexAt 114 (.slice (some ad) len cap) (.int k i)) h K=K (.pointer (some (ad.add (i.toNat*3)))) h:=iz un114 sz186 h1 h2
theorem ix114p {G h:Hp} {ad:Addr} {len cap:Nat} {k:IntKind} {i:Int} {K:Value->Prop} (h1:0<=i) (h2:i<len):pw Tryz.prog G h (Instr.indexAt 114 (.slice (some ad) len cap) (.int k i)) K=K (.pointer (some (ad.add (i.toNat*3)))):=jf un114 sz186 h1 h2
theorem Zj:Tryz.prog.underlying 142=some (.slice 151):=by kernel_rfl
theorem Vq {G h:Hp} {ad:Addr} {len cap:Nat} {k:IntKind} {i:Int} {K:VK} (h1:0<=i) (h2:i<len):wpH Tryz.prog G (Instr.indexAt 142 (.slice (some ad) len cap) (.int k i)) h K=K (.pointer (some (ad.add (i.toNat*2)))) h:=iz Zj sz151 h1 h2
theorem G3 {G h:Hp} {ad:Addr} {len cap:Nat} {k:IntKind} {i:Int} {K:Value->Prop} (h1:0<=i) (h2:i<len):pw Tryz.prog G h (Instr.indexAt 142 (.slice (some ad) len cap) (.int k i)) K=K (.pointer (some (ad.add (i.toNat*2)))):=jf Zj sz151 h1 h2
theorem Ht:Tryz.prog.underlying 168=some (.slice 3):=by kernel_rfl
theorem Vp {G h:Hp} {ad:Addr} {len cap:Nat} {k:IntKind} {i:Int} {K:VK} (h1:0<=i) (h2:i<len):wpH Tryz.prog G (Instr.indexAt 168 (.slice (some ad) len cap) (.int k i)) h K=K (.pointer (some (ad.add (i.toNat*1)))) h:=iz Ht sz3 h1 h2
theorem X4 {G h:Hp} {ad:Addr} {len cap:Nat} {k:IntKind} {i:Int} {K:Value->Prop} (h1:0<=i) (h2:i<len):pw Tryz.prog G h (Instr.indexAt 168 (.slice (some ad) len cap) (.int k i)) K=K (.pointer (some (ad.add (i.toNat*1)))):=jf Ht sz3 h1 h2
theorem Zi:Tryz.prog.underlying 216=some (.slice 227):=by kernel_rfl
theorem ix216 {G h:Hp} {ad:Addr} {len cap:Nat} {k:IntKind} {i:Int} {K:VK} (h1:0<=i) (h2:i<len):wpH Tryz.prog G (Instr.indexAt 216 (.slice (some ad) len cap) (.int k i)) h K=K (.pointer (some (ad.add (i.toNat*4)))) h:=iz Zi J4 h1 h2
theorem ix216p {G h:Hp} {ad:Addr} {len cap:Nat} {k:IntKind} {i:Int} {K:Value->Prop} (h1:0<=i) (h2:i<len):pw Tryz.prog G h (Instr.indexAt 216 (.slice (some ad) len cap) (.int k i)) K=K (.pointer (some (ad.add (i.toNat*4)))):=jf Zi J4 h1 h2
theorem un229:Tryz.prog.underlying 229=some (.slice 232):=by kernel_rfl
theorem ix229 {G h:Hp} {ad:Addr} {len cap:Nat} {k:IntKind} {i:Int} {K:VK} (h1:0<=i) (h2:i<len):wpH Tryz.prog G (Instr.indexAt 229 (.slice (some ad) len cap) (.int k i)) h K=K (.pointer (some (ad.add (i.toNat*13)))) h:=iz un229 sz232 h1 h2
theorem ln22 {G h:Hp} {a:Option Addr} {n c:Nat} {K:VK}:wpH Tryz.prog G (Builtin.len_ #[22] 3 #[.slice a n c]) h K=K n h:=by kernel_rfl
theorem ln22p {G h:Hp} {a:Option Addr} {n c:Nat} {K:Value->Prop}:pw Tryz.prog G h (Builtin.len_ #[22] 3 #[.slice a n c]) K=K n:=by kernel_rfl
theorem ln23 {G h:Hp} {a:Option Addr} {n c:Nat} {K:VK}:wpH Tryz.prog G (Builtin.len_ #[23] 3 #[.slice a n c]) h K=K n h:=by kernel_rfl
theorem ln24 {G h:Hp} {a:Option Addr} {n c:Nat} {K:VK}:wpH Tryz.prog G (Builtin.len_ #[24] 3 #[.slice a n c]) h K=K n h:=by kernel_rfl
theorem ln40 {G h:Hp} {a:Option Addr} {n c:Nat} {K:VK}:wpH Tryz.prog G (Builtin.len_ #[40] 3 #[.slice a n c]) h K=K n h:=by kernel_rfl
theorem ln71 {G h:Hp} {a:Option Addr} {n c:Nat} {K:VK}:wpH Tryz.prog G (Builtin.len_ #[71] 3 #[.slice a n c]) h K=K n h:=by kernel_rfl
theorem ln77 {G h:Hp} {a:Option Addr} {n c:Nat} {K:VK}:wpH Tryz.prog G (Builtin.len_ #[77] 3 #[.slice a n c]) h K=K n h:=by kernel_rfl
theorem ln98 {G h:Hp} {a:Option Addr} {n c:Nat} {K:VK}:wpH Tryz.prog G (Builtin.len_ #[98] 3 #[.slice a n c]) h K=K n h:=by kernel_rfl
theorem ln99 {G h:Hp} {a:Option Addr} {n c:Nat} {K:VK}:wpH Tryz.prog G (Builtin.len_ #[99] 3 #[.slice a n c]) h K=K n h:=by kernel_rfl
theorem ln99p {G h:Hp} {a:Option Addr} {n c:Nat} {K:Value->Prop}:pw Tryz.prog G h (Builtin.len_ #[99] 3 #[.slice a n c]) K=K n:=by kernel_rfl
theorem ln103 {G h:Hp} {a:Option Addr} {n c:Nat} {K:VK}:wpH Tryz.prog G (Builtin.len_ #[103] 3 #[.slice a n c]) h K=K n h:=by kernel_rfl
theorem ln114 {G h:Hp} {a:Option Addr} {n c:Nat} {K:VK}:wpH Tryz.prog G (Builtin.len_ #[114] 3 #[.slice a n c]) h K=K n h:=by kernel_rfl
theorem ln142 {G h:Hp} {a:Option Addr} {n c:Nat} {K:VK}:wpH Tryz.prog G (Builtin.len_ #[142] 3 #[.slice a n c]) h K=K n h:=by kernel_rfl
theorem O1 {G h:Hp} {a:Option Addr} {n c:Nat} {K:VK}:wpH Tryz.prog G (Builtin.len_ #[168] 3 #[.slice a n c]) h K=K n h:=by kernel_rfl
theorem ln168p {G h:Hp} {a:Option Addr} {n c:Nat} {K:Value->Prop}:pw Tryz.prog G h (Builtin.len_ #[168] 3 #[.slice a n c]) K=K n:=by kernel_rfl
theorem ln216 {G h:Hp} {a:Option Addr} {n c:Nat} {K:VK}:wpH Tryz.prog G (Builtin.len_ #[216] 3 #[.slice a n c]) h K=K n h:=by kernel_rfl
theorem ln229 {G h:Hp} {a:Option Addr} {n c:Nat} {K:VK}:wpH Tryz.prog G (Builtin.len_ #[229] 3 #[.slice a n c]) h K=K n h:=by kernel_rfl
theorem al26 {G h:Hp} {v:Value} {K:VK}:wpH Tryz.prog G (Instr.alloc 26 true v) h K=∀x,h x=none->G x=none->K (.pointer (some ⟨x,0,none⟩)) (h.set x (.cells #[(.int .i64 0),(.int .i64 0),(.int .i64 0),(.slice none 0 0),(.slice none 0 0),(.slice none 0 0),(.slice none 0 0),(.int .i64 0),(.int .i64 0),(.int .i64 0),(.int .i64 0),(.int .i64 0),(.int .i64 0),(.int .i64 0),(.int .i64 0),(.bool false)] 26 (0,0))):=by kernel_rfl
theorem al28 {G h:Hp} {v:Value} {K:VK}:wpH Tryz.prog G (Instr.alloc 28 true v) h K=∀x,h x=none->G x=none->K (.pointer (some ⟨x,0,none⟩)) (h.set x (.cells #[(.int .i64 0),(.int .i64 0)] 28 (0,0))):=by kernel_rfl
theorem al30 {G h:Hp} {v:Value} {K:VK}:wpH Tryz.prog G (Instr.alloc 30 true v) h K=∀x,h x=none->G x=none->K (.pointer (some ⟨x,0,none⟩)) (h.set x (.cells #[(.int .i64 0),(.int .i64 0),(.bool false)] 30 (0,0))):=by kernel_rfl
theorem al48 {G h:Hp} {v:Value} {K:VK}:wpH Tryz.prog G (Instr.alloc 48 true v) h K=∀x,h x=none->G x=none->K (.pointer (some ⟨x,0,none⟩)) (h.set x (.cells #[(.int .i64 0),(.int .i64 0),(.int .i64 0),(.int .i64 0),(.int .i64 0),(.bool false),(.int .i64 0),(.int .i64 0),(.bool false),(.int .i64 0),(.int .i64 0)] 48 (0,0))):=by kernel_rfl
theorem al54 {G h:Hp} {v:Value} {K:VK}:wpH Tryz.prog G (Instr.alloc 54 true v) h K=∀x,h x=none->G x=none->K (.pointer (some ⟨x,0,none⟩)) (h.set x (.cells #[(.int .i64 0),(.int .i64 0),(.int .i64 0)] 54 (0,0))):=by kernel_rfl
theorem al75 {G h:Hp} {v:Value} {K:VK}:wpH Tryz.prog G (Instr.alloc 75 true v) h K=∀x,h x=none->G x=none->K (.pointer (some ⟨x,0,none⟩)) (h.set x (.cells #[(.int .i64 0),(.int .i64 0),(.int .i64 0)] 75 (0,0))):=by kernel_rfl
theorem al97 {G h:Hp} {v:Value} {K:VK}:wpH Tryz.prog G (Instr.alloc 97 true v) h K=∀x,h x=none->G x=none->K (.pointer (some ⟨x,0,none⟩)) (h.set x (.cells #[(.int .i64 0),(.int .i64 0),(.int .i64 0),(.int .i64 0)] 97 (0,0))):=by kernel_rfl
theorem al103 {G h:Hp} {v:Value} {K:VK}:wpH Tryz.prog G (Instr.alloc 103 true v) h K=∀x,h x=none->G x=none->K (.pointer (some ⟨x,0,none⟩)) (h.set x (.cells #[(.slice none 0 0)] 103 (0,0))):=by kernel_rfl
theorem al110 {G h:Hp} {v:Value} {K:VK}:wpH Tryz.prog G (Instr.alloc 110 true v) h K=∀x,h x=none->G x=none->K (.pointer (some ⟨x,0,none⟩)) (h.set x (.cells #[(.int .i64 0),(.int .i64 0)] 110 (0,0))):=by kernel_rfl
theorem al137 {G h:Hp} {v:Value} {K:VK}:wpH Tryz.prog G (Instr.alloc 137 true v) h K=∀x,h x=none->G x=none->K (.pointer (some ⟨x,0,none⟩)) (h.set x (.cells #[(.int .i64 0),(.int .i64 0)] 137 (0,0))):=by kernel_rfl
theorem al139 {G h:Hp} {v:Value} {K:VK}:wpH Tryz.prog G (Instr.alloc 139 true v) h K=∀x,h x=none->G x=none->K (.pointer (some ⟨x,0,none⟩)) (h.set x (.cells #[(.int .i64 0),(.int .i64 0),(.int .i64 0)] 139 (0,0))):=by kernel_rfl
theorem al142 {G h:Hp} {v:Value} {K:VK}:wpH Tryz.prog G (Instr.alloc 142 true v) h K=∀x,h x=none->G x=none->K (.pointer (some ⟨x,0,none⟩)) (h.set x (.cells #[(.slice none 0 0)] 142 (0,0))):=by kernel_rfl
theorem al151 {G h:Hp} {v:Value} {K:VK}:wpH Tryz.prog G (Instr.alloc 151 true v) h K=∀x,h x=none->G x=none->K (.pointer (some ⟨x,0,none⟩)) (h.set x (.cells #[(.int .i64 0),(.int .i64 0)] 151 (0,0))):=by kernel_rfl
theorem W4 {G h:Hp} {v:Value} {K:VK}:wpH Tryz.prog G (Instr.alloc 203 true v) h K=∀x,h x=none->G x=none->K (.pointer (some ⟨x,0,none⟩)) (h.set x (.cells #[(.int .i64 0),(.int .i64 0),(.int .i64 0)] 203 (0,0))):=by kernel_rfl
theorem al227 {G h:Hp} {v:Value} {K:VK}:wpH Tryz.prog G (Instr.alloc 227 true v) h K=∀x,h x=none->G x=none->K (.pointer (some ⟨x,0,none⟩)) (h.set x (.cells #[(.int .i64 0),(.int .i64 0),(.int .i64 0),(.int .i64 0)] 227 (0,0))):=by kernel_rfl
theorem al229 {G h:Hp} {v:Value} {K:VK}:wpH Tryz.prog G (Instr.alloc 229 true v) h K=∀x,h x=none->G x=none->K (.pointer (some ⟨x,0,none⟩)) (h.set x (.cells #[(.slice none 0 0)] 229 (0,0))):=by kernel_rfl
theorem al232 {G h:Hp} {v:Value} {K:VK}:wpH Tryz.prog G (Instr.alloc 232 true v) h K=∀x,h x=none->G x=none->K (.pointer (some ⟨x,0,none⟩)) (h.set x (.cells #[(.int .i64 0),(.int .i64 0),(.int .i64 0),(.int .i64 0),(.int .i64 0),(.bool false),(.int .i64 0),(.int .i64 0),(.bool false),(.int .i64 0),(.int .i64 0),(.int .i64 0),(.slice none 0 0)] 232 (0,0))):=by kernel_rfl
theorem al234 {G h:Hp} {v:Value} {K:VK}:wpH Tryz.prog G (Instr.alloc 234 true v) h K=∀x,h x=none->G x=none->K (.pointer (some ⟨x,0,none⟩)) (h.set x (.cells #[(.int .i64 0),(.int .i64 0),(.slice none 0 0)] 234 (0,0))):=by kernel_rfl
theorem al261 {G h:Hp} {v:Value} {K:VK}:wpH Tryz.prog G (Instr.alloc 261 true v) h K=∀x,h x=none->G x=none->K (.pointer (some ⟨x,0,none⟩)) (h.set x (.cells #[(.pointer none)] 261 (0,0))):=by kernel_rfl
theorem cf21:CF 21:=fun {_ _ _ _}=>by kernel_rfl
theorem cf22:CF 22:=fun {_ _ _ _}=>by kernel_rfl
theorem cf23:CF 23:=fun {_ _ _ _}=>by kernel_rfl
theorem cf24:CF 24:=fun {_ _ _ _}=>by kernel_rfl
theorem cf25:CF 25:=fun {_ _ _ _}=>by kernel_rfl
theorem cf26:CF 26:=fun {_ _ _ _}=>by kernel_rfl
theorem cf27:CF 27:=fun {_ _ _ _}=>by kernel_rfl
theorem cf28:CF 28:=fun {_ _ _ _}=>by kernel_rfl
theorem cf29:CF 29:=fun {_ _ _ _}=>by kernel_rfl
theorem cf30:CF 30:=fun {_ _ _ _}=>by kernel_rfl
theorem cf31:CF 31:=fun {_ _ _ _}=>by kernel_rfl
theorem cf37:CF 37:=fun {_ _ _ _}=>by kernel_rfl
theorem cf38:CF 38:=fun {_ _ _ _}=>by kernel_rfl
theorem cf40:CF 40:=fun {_ _ _ _}=>by kernel_rfl
theorem cf41:CF 41:=fun {_ _ _ _}=>by kernel_rfl
theorem cf42:CF 42:=fun {_ _ _ _}=>by kernel_rfl
theorem cf45:CF 45:=fun {_ _ _ _}=>by kernel_rfl
theorem cf46:CF 46:=fun {_ _ _ _}=>by kernel_rfl
theorem cf47:CF 47:=fun {_ _ _ _}=>by kernel_rfl
theorem cf48:CF 48:=fun {_ _ _ _}=>by kernel_rfl
theorem cf49:CF 49:=fun {_ _ _ _}=>by kernel_rfl
theorem cf50:CF 50:=fun {_ _ _ _}=>by kernel_rfl
theorem cf60:CF 60:=fun {_ _ _ _}=>by kernel_rfl
theorem cf61:CF 61:=fun {_ _ _ _}=>by kernel_rfl
theorem cf62:CF 62:=fun {_ _ _ _}=>by kernel_rfl
theorem cf63:CF 63:=fun {_ _ _ _}=>by kernel_rfl
theorem cf64:CF 64:=fun {_ _ _ _}=>by kernel_rfl
theorem cf65:CF 65:=fun {_ _ _ _}=>by kernel_rfl
theorem cf66:CF 66:=fun {_ _ _ _}=>by kernel_rfl
theorem cf67:CF 67:=fun {_ _ _ _}=>by kernel_rfl
theorem cf68:CF 68:=fun {_ _ _ _}=>by kernel_rfl
theorem cf69:CF 69:=fun {_ _ _ _}=>by kernel_rfl
theorem cf70:CF 70:=fun {_ _ _ _}=>by kernel_rfl
theorem cf71:CF 71:=fun {_ _ _ _}=>by kernel_rfl
theorem cf72:CF 72:=fun {_ _ _ _}=>by kernel_rfl
theorem cf73:CF 73:=fun {_ _ _ _}=>by kernel_rfl
theorem cf77:CF 77:=fun {_ _ _ _}=>by kernel_rfl
theorem cf78:CF 78:=fun {_ _ _ _}=>by kernel_rfl
theorem cf80:CF 80:=fun {_ _ _ _}=>by kernel_rfl
theorem cf81:CF 81:=fun {_ _ _ _}=>by kernel_rfl
theorem cf82:CF 82:=fun {_ _ _ _}=>by kernel_rfl
theorem cf83:CF 83:=fun {_ _ _ _}=>by kernel_rfl
theorem cf84:CF 84:=fun {_ _ _ _}=>by kernel_rfl
theorem cf85:CF 85:=fun {_ _ _ _}=>by kernel_rfl
theorem cf86:CF 86:=fun {_ _ _ _}=>by kernel_rfl
theorem cf88:CF 88:=fun {_ _ _ _}=>by kernel_rfl
theorem cf89:CF 89:=fun {_ _ _ _}=>by kernel_rfl
theorem cf90:CF 90:=fun {_ _ _ _}=>by kernel_rfl
theorem cf91:CF 91:=fun {_ _ _ _}=>by kernel_rfl
theorem cf92:CF 92:=fun {_ _ _ _}=>by kernel_rfl
theorem cf93:CF 93:=fun {_ _ _ _}=>by kernel_rfl
theorem cf98:CF 98:=fun {_ _ _ _}=>by kernel_rfl
theorem cf99:CF 99:=fun {_ _ _ _}=>by kernel_rfl
theorem cf100:CF 100:=fun {_ _ _ _}=>by kernel_rfl
theorem cf101:CF 101:=fun {_ _ _ _}=>by kernel_rfl
theorem cf102:CF 102:=fun {_ _ _ _}=>by kernel_rfl
theorem ad5:CF 103:=fun {_ _ _ _}=>by kernel_rfl
theorem cf104:CF 104:=fun {_ _ _ _}=>by kernel_rfl
theorem cf105:CF 105:=fun {_ _ _ _}=>by kernel_rfl
theorem cf106:CF 106:=fun {_ _ _ _}=>by kernel_rfl
theorem cf107:CF 107:=fun {_ _ _ _}=>by kernel_rfl
theorem cf108:CF 108:=fun {_ _ _ _}=>by kernel_rfl
theorem cf113:CF 113:=fun {_ _ _ _}=>by kernel_rfl
theorem cf114:CF 114:=fun {_ _ _ _}=>by kernel_rfl
theorem cf115:CF 115:=fun {_ _ _ _}=>by kernel_rfl
theorem cf116:CF 116:=fun {_ _ _ _}=>by kernel_rfl
theorem cf117:CF 117:=fun {_ _ _ _}=>by kernel_rfl
theorem cf118:CF 118:=fun {_ _ _ _}=>by kernel_rfl
theorem cf119:CF 119:=fun {_ _ _ _}=>by kernel_rfl
theorem cf120:CF 120:=fun {_ _ _ _}=>by kernel_rfl
theorem cf121:CF 121:=fun {_ _ _ _}=>by kernel_rfl
theorem cf122:CF 122:=fun {_ _ _ _}=>by kernel_rfl
theorem cf123:CF 123:=fun {_ _ _ _}=>by kernel_rfl
theorem cf124:CF 124:=fun {_ _ _ _}=>by kernel_rfl
theorem cf125:CF 125:=fun {_ _ _ _}=>by kernel_rfl
theorem cf126:CF 126:=fun {_ _ _ _}=>by kernel_rfl
theorem cf127:CF 127:=fun {_ _ _ _}=>by kernel_rfl
theorem cf128:CF 128:=fun {_ _ _ _}=>by kernel_rfl
theorem Wq:CF 129:=fun {_ _ _ _}=>by kernel_rfl
theorem cf130:CF 130:=fun {_ _ _ _}=>by kernel_rfl
theorem cf131:CF 131:=fun {_ _ _ _}=>by kernel_rfl
theorem cf132:CF 132:=fun {_ _ _ _}=>by kernel_rfl
theorem cf133:CF 133:=fun {_ _ _ _}=>by kernel_rfl
theorem cf134:CF 134:=fun {_ _ _ _}=>by kernel_rfl
theorem cf136:CF 136:=fun {_ _ _ _}=>by kernel_rfl
theorem cf137:CF 137:=fun {_ _ _ _}=>by kernel_rfl
theorem cf138:CF 138:=fun {_ _ _ _}=>by kernel_rfl
theorem cf139:CF 139:=fun {_ _ _ _}=>by kernel_rfl
theorem cf142:CF 142:=fun {_ _ _ _}=>by kernel_rfl
theorem cf143:CF 143:=fun {_ _ _ _}=>by kernel_rfl
theorem cf144:CF 144:=fun {_ _ _ _}=>by kernel_rfl
theorem cf145:CF 145:=fun {_ _ _ _}=>by kernel_rfl
theorem cf146:CF 146:=fun {_ _ _ _}=>by kernel_rfl
theorem cf147:CF 147:=fun {_ _ _ _}=>by kernel_rfl
theorem cf148:CF 148:=fun {_ _ _ _}=>by kernel_rfl
theorem cf149:CF 149:=fun {_ _ _ _}=>by kernel_rfl
theorem cf150:CF 150:=fun {_ _ _ _}=>by kernel_rfl
theorem cf152:CF 152:=fun {_ _ _ _}=>by kernel_rfl
theorem cf153:CF 153:=fun {_ _ _ _}=>by kernel_rfl
theorem cf154:CF 154:=fun {_ _ _ _}=>by kernel_rfl
theorem cf155:CF 155:=fun {_ _ _ _}=>by kernel_rfl
theorem cf156:CF 156:=fun {_ _ _ _}=>by kernel_rfl
theorem cf157:CF 157:=fun {_ _ _ _}=>by kernel_rfl
theorem cf158:CF 158:=fun {_ _ _ _}=>by kernel_rfl
theorem cf159:CF 159:=fun {_ _ _ _}=>by kernel_rfl
theorem cf164:CF 164:=fun {_ _ _ _}=>by kernel_rfl
theorem cf166:CF 166:=fun {_ _ _ _}=>by kernel_rfl
theorem cf170:CF 170:=fun {_ _ _ _}=>by kernel_rfl
theorem cf187:CF 187:=fun {_ _ _ _}=>by kernel_rfl
theorem Hd {G h:Hp} {k0:IntKind} {y0:Int} {k1:IntKind} {y1:Int} {K:VK}:wpH Tryz.prog G (Instr.build 110 #[(0,(.int k0 y0)),(1,(.int k1 y1))]) h K=K (.agg #[(.int k0 y0),(.int k1 y1)]) h:=by kernel_rfl
theorem bd124_0 {G h:Hp} {y0:Option Addr} {n0 c0:Nat} {K:VK}:wpH Tryz.prog G (Instr.build 124 #[(0,(.slice y0 n0 c0))]) h K=K (.agg #[(.slice y0 n0 c0)]) h:=by kernel_rfl
theorem wc {G h:Hp} {y0_0 y0_1 y0_2 y0_3 y0_4 y0_5 y0_6 y0_7 y0_8 y0_9 y0_10 y0_11 y0_12 y0_13 y0_14 y0_15:Value} {y1:Option Addr} {y2:Option Addr} {y3:Option Addr} {k4:IntKind} {y4:Int} {y5:Option Nat} {y6:Option Nat} {y7:Option Nat} {y8:Option Nat} {y9:Option Addr} {K:VK}:wpH Tryz.prog G (Instr.build 134 #[(0,(.agg #[y0_0,y0_1,y0_2,y0_3,y0_4,y0_5,y0_6,y0_7,y0_8,y0_9,y0_10,y0_11,y0_12,y0_13,y0_14,y0_15])),(1,(.pointer y1)),(2,(.pointer y2)),(3,(.pointer y3)),(4,(.int k4 y4)),(5,(.map y5)),(6,(.map y6)),(7,(.map y7)),(8,(.map y8)),(9,(.pointer y9))]) h K=K (.agg #[y0_0,y0_1,y0_2,y0_3,y0_4,y0_5,y0_6,y0_7,y0_8,y0_9,y0_10,y0_11,y0_12,y0_13,y0_14,y0_15,(.pointer y1),(.pointer y2),(.pointer y3),(.int k4 y4),(.map y5),(.map y6),(.map y7),(.map y8),(.pointer y9)]) h:=by kernel_rfl
theorem au6 {G h:Hp} {k0:IntKind} {y0:Int} {k1:IntKind} {y1:Int} {K:VK}:wpH Tryz.prog G (Instr.build 137 #[(0,(.int k0 y0)),(1,(.int k1 y1))]) h K=K (.agg #[(.int k0 y0),(.int k1 y1)]) h:=by kernel_rfl
theorem Yz {G h:Hp} {k0:IntKind} {y0:Int} {y1_0 y1_1:Value} {K:Value->Prop}:pw Tryz.prog G h (Instr.build 139 #[(0,(.int k0 y0)),(1,(.agg #[y1_0,y1_1]))]) K=K (.agg #[(.int k0 y0),y1_0,y1_1]):=by kernel_rfl
theorem bd146_ {G h:Hp}  {K:VK}:wpH Tryz.prog G (Instr.build 146 #[]) h K=K (.agg #[(.int .i64 0),(.int .i64 0),(.int .i64 0),(.int .i64 0),(.int .i64 0),(.int .i64 0),(.int .i64 0),(.bool false),(.int .i64 0),(.int .i64 0),(.bool false),(.int .i64 0),(.int .i64 0),(.int .i64 0),(.bool false)]) h:=by kernel_rfl
theorem au5 {G h:Hp} {y0_0 y0_1:Value} {y1_0 y1_1 y1_2 y1_3 y1_4 y1_5 y1_6 y1_7 y1_8 y1_9 y1_10:Value} {K:VK}:wpH Tryz.prog G (Instr.build 146 #[(0,(.agg #[y0_0,y0_1])),(1,(.agg #[y1_0,y1_1,y1_2,y1_3,y1_4,y1_5,y1_6,y1_7,y1_8,y1_9,y1_10]))]) h K=K (.agg #[y0_0,y0_1,y1_0,y1_1,y1_2,y1_3,y1_4,y1_5,y1_6,y1_7,y1_8,y1_9,y1_10,(.int .i64 0),(.bool false)]) h:=by kernel_rfl
theorem au4 {G h:Hp} {k0:IntKind} {y0:Int} {k1:IntKind} {y1:Int} {K:VK}:wpH Tryz.prog G (Instr.build 151 #[(0,(.int k0 y0)),(1,(.int k1 y1))]) h K=K (.agg #[(.int k0 y0),(.int k1 y1)]) h:=by kernel_rfl
theorem Yy {G h:Hp} {k0:IntKind} {y0:Int} {k1:IntKind} {y1:Int} {K:Value->Prop}:pw Tryz.prog G h (Instr.build 151 #[(0,(.int k0 y0)),(1,(.int k1 y1))]) K=K (.agg #[(.int k0 y0),(.int k1 y1)]):=by kernel_rfl
theorem W0 {G h:Hp} {k0:IntKind} {y0:Int} {k1:IntKind} {y1:Int} {k2:IntKind} {y2:Int} {K:VK}:wpH Tryz.prog G (Instr.build 155 #[(0,(.int k0 y0)),(1,(.int k1 y1)),(2,(.int k2 y2))]) h K=K (.agg #[(.int k0 y0),(.int k1 y1),(.int k2 y2)]) h:=by kernel_rfl
theorem Wz {G h:Hp} {k0:IntKind} {y0:Int} {k1:IntKind} {y1:Int} {k2:IntKind} {y2:Int} {K:VK}:wpH Tryz.prog G (Instr.build 186 #[(0,(.int k0 y0)),(1,(.int k1 y1)),(2,(.int k2 y2))]) h K=K (.agg #[(.int k0 y0),(.int k1 y1),(.int k2 y2)]) h:=by kernel_rfl
theorem bd188_0 {G h:Hp} {y0:Option Addr} {n0 c0:Nat} {K:VK}:wpH Tryz.prog G (Instr.build 188 #[(0,(.slice y0 n0 c0))]) h K=K (.agg #[(.slice y0 n0 c0)]) h:=by kernel_rfl
theorem Wy {G h:Hp} {k0:IntKind} {y0:Int} {k1:IntKind} {y1:Int} {k2:IntKind} {y2:Int} {K:VK}:wpH Tryz.prog G (Instr.build 203 #[(0,(.int k0 y0)),(1,(.int k1 y1)),(2,(.int k2 y2))]) h K=K (.agg #[(.int k0 y0),(.int k1 y1),(.int k2 y2)]) h:=by kernel_rfl
theorem Sq {G h:Hp} {k0:IntKind} {y0:Int} {k1:IntKind} {y1:Int} {k2:IntKind} {y2:Int} {K:Value->Prop}:pw Tryz.prog G h (Instr.build 203 #[(0,(.int k0 y0)),(1,(.int k1 y1)),(2,(.int k2 y2))]) K=K (.agg #[(.int k0 y0),(.int k1 y1),(.int k2 y2)]):=by kernel_rfl
theorem Sn {G h:Hp} {k0:IntKind} {y0:Int} {k1:IntKind} {y1:Int} {y2:Option Addr} {n2 c2:Nat} {K:Value->Prop}:pw Tryz.prog G h (Instr.build 215 #[(0,(.int k0 y0)),(1,(.int k1 y1)),(2,(.slice y2 n2 c2))]) K=K (.agg #[(.int k0 y0),(.int k1 y1),(.slice y2 n2 c2)]):=by kernel_rfl
theorem bd218_0 {G h:Hp} {y0:Fn} {p0 q0:Array Value} {K:VK}:wpH Tryz.prog G (Instr.build 218 #[(0,(.func y0 p0 q0))]) h K=K (.agg #[(.func y0 p0 q0),(.slice none 0 0),(.int .i64 0)]) h:=by kernel_rfl
theorem bd227_ {G h:Hp}  {K:VK}:wpH Tryz.prog G (Instr.build 227 #[]) h K=K (.agg #[(.int .i64 0),(.int .i64 0),(.int .i64 0),(.int .i64 0)]) h:=by kernel_rfl
theorem Yx {G h:Hp} {y0_0 y0_1 y0_2:Value} {k1:IntKind} {y1:Int} {K:Value->Prop}:pw Tryz.prog G h (Instr.build 227 #[(0,(.agg #[y0_0,y0_1,y0_2])),(1,(.int k1 y1))]) K=K (.agg #[y0_0,y0_1,y0_2,(.int k1 y1)]):=by kernel_rfl
theorem Sm {G h:Hp} {y0_0 y0_1 y0_2 y0_3 y0_4 y0_5 y0_6 y0_7 y0_8 y0_9 y0_10:Value} {k1:IntKind} {y1:Int} {y2:Option Addr} {n2 c2:Nat} {K:Value->Prop}:pw Tryz.prog G h (Instr.build 232 #[(0,(.agg #[y0_0,y0_1,y0_2,y0_3,y0_4,y0_5,y0_6,y0_7,y0_8,y0_9,y0_10])),(1,(.int k1 y1)),(2,(.slice y2 n2 c2))]) K=K (.agg #[y0_0,y0_1,y0_2,y0_3,y0_4,y0_5,y0_6,y0_7,y0_8,y0_9,y0_10,(.int k1 y1),(.slice y2 n2 c2)]):=by kernel_rfl
theorem Yw {G h:Hp} {y0_0 y0_1:Value} {y1:Option Addr} {n1 c1:Nat} {K:Value->Prop}:pw Tryz.prog G h (Instr.build 234 #[(0,(.agg #[y0_0,y0_1])),(1,(.slice y1 n1 c1))]) K=K (.agg #[y0_0,y0_1,(.slice y1 n1 c1)]):=by kernel_rfl
theorem ru {G h:Hp} {k0:IntKind} {y0:Int} {k1:IntKind} {y1:Int} {k2:IntKind} {y2:Int} {k7:IntKind} {y7:Int} {k8:IntKind} {y8:Int} {k9:IntKind} {y9:Int} {k10:IntKind} {y10:Int} {k11:IntKind} {y11:Int} {k12:IntKind} {y12:Int} {k13:IntKind} {y13:Int} {k14:IntKind} {y14:Int} {K:VK}:wpH Tryz.prog G (Instr.build 26 #[(0,(.int k0 y0)),(1,(.int k1 y1)),(2,(.int k2 y2)),(7,(.int k7 y7)),(8,(.int k8 y8)),(9,(.int k9 y9)),(10,(.int k10 y10)),(11,(.int k11 y11)),(12,(.int k12 y12)),(13,(.int k13 y13)),(14,(.int k14 y14))]) h K=K (.agg #[(.int k0 y0),(.int k1 y1),(.int k2 y2),(.slice none 0 0),(.slice none 0 0),(.slice none 0 0),(.slice none 0 0),(.int k7 y7),(.int k8 y8),(.int k9 y9),(.int k10 y10),(.int k11 y11),(.int k12 y12),(.int k13 y13),(.int k14 y14),(.bool false)]) h:=by kernel_rfl
theorem bd28_0 {G h:Hp} {k0:IntKind} {y0:Int} {K:VK}:wpH Tryz.prog G (Instr.build 28 #[(0,(.int k0 y0))]) h K=K (.agg #[(.int k0 y0),(.int .i64 0)]) h:=by kernel_rfl
theorem yw {G h:Hp} {k0:IntKind} {y0:Int} {k1:IntKind} {y1:Int} {K:VK}:wpH Tryz.prog G (Instr.build 28 #[(0,(.int k0 y0)),(1,(.int k1 y1))]) h K=K (.agg #[(.int k0 y0),(.int k1 y1)]) h:=by kernel_rfl
theorem au3 {G h:Hp} {k0:IntKind} {y0:Int} {k1:IntKind} {y1:Int} {K:Value->Prop}:pw Tryz.prog G h (Instr.build 28 #[(0,(.int k0 y0)),(1,(.int k1 y1))]) K=K (.agg #[(.int k0 y0),(.int k1 y1)]):=by kernel_rfl
theorem bd30_ {G h:Hp}  {K:VK}:wpH Tryz.prog G (Instr.build 30 #[]) h K=K (.agg #[(.int .i64 0),(.int .i64 0),(.bool false)]) h:=by kernel_rfl
theorem yv {G h:Hp} {y0_0 y0_1:Value} {y1:Bool} {K:VK}:wpH Tryz.prog G (Instr.build 30 #[(0,(.agg #[y0_0,y0_1])),(1,(.bool y1))]) h K=K (.agg #[y0_0,y0_1,(.bool y1)]) h:=by kernel_rfl
theorem au2 {G h:Hp} {y0_0 y0_1:Value} {y1:Bool} {K:Value->Prop}:pw Tryz.prog G h (Instr.build 30 #[(0,(.agg #[y0_0,y0_1])),(1,(.bool y1))]) K=K (.agg #[y0_0,y0_1,(.bool y1)]):=by kernel_rfl
theorem bd30_0 {G h:Hp} {y0_0 y0_1:Value} {K:VK}:wpH Tryz.prog G (Instr.build 30 #[(0,(.agg #[y0_0,y0_1]))]) h K=K (.agg #[y0_0,y0_1,(.bool false)]) h:=by kernel_rfl
theorem bd30_0p {G h:Hp} {y0_0 y0_1:Value} {K:Value->Prop}:pw Tryz.prog G h (Instr.build 30 #[(0,(.agg #[y0_0,y0_1]))]) K=K (.agg #[y0_0,y0_1,(.bool false)]):=by kernel_rfl
theorem bd45_0 {G h:Hp} {y0_0 y0_1 y0_2:Value} {K:VK}:wpH Tryz.prog G (Instr.build 45 #[(0,(.agg #[y0_0,y0_1,y0_2]))]) h K=K (.agg #[y0_0,y0_1,y0_2,(.bool false)]) h:=by kernel_rfl
theorem au1 {G h:Hp} {y0_0 y0_1 y0_2:Value} {y1:Bool} {K:Value->Prop}:pw Tryz.prog G h (Instr.build 45 #[(0,(.agg #[y0_0,y0_1,y0_2])),(1,(.bool y1))]) K=K (.agg #[y0_0,y0_1,y0_2,(.bool y1)]):=by kernel_rfl
theorem Lq {G h:Hp} {k0:IntKind} {y0:Int} {k1:IntKind} {y1:Int} {k2:IntKind} {y2:Int} {y3_0 y3_1 y3_2:Value} {y4_0 y4_1 y4_2:Value} {K:VK}:wpH Tryz.prog G (Instr.build 48 #[(0,(.int k0 y0)),(1,(.int k1 y1)),(2,(.int k2 y2)),(3,(.agg #[y3_0,y3_1,y3_2])),(4,(.agg #[y4_0,y4_1,y4_2]))]) h K=K (.agg #[(.int k0 y0),(.int k1 y1),(.int k2 y2),y3_0,y3_1,y3_2,y4_0,y4_1,y4_2,(.int .i64 0),(.int .i64 0)]) h:=by kernel_rfl
theorem Jg {G h:Hp} {k0:IntKind} {y0:Int} {k1:IntKind} {y1:Int} {k2:IntKind} {y2:Int} {y3_0 y3_1 y3_2:Value} {y4_0 y4_1 y4_2:Value} {K:Value->Prop}:pw Tryz.prog G h (Instr.build 48 #[(0,(.int k0 y0)),(1,(.int k1 y1)),(2,(.int k2 y2)),(3,(.agg #[y3_0,y3_1,y3_2])),(4,(.agg #[y4_0,y4_1,y4_2]))]) K=K (.agg #[(.int k0 y0),(.int k1 y1),(.int k2 y2),y3_0,y3_1,y3_2,y4_0,y4_1,y4_2,(.int .i64 0),(.int .i64 0)]):=by kernel_rfl
theorem D6 {G h:Hp} {k0:IntKind} {y0:Int} {y3_0 y3_1 y3_2:Value} {y4_0 y4_1 y4_2:Value} {K:VK}:wpH Tryz.prog G (Instr.build 48 #[(0,(.int k0 y0)),(3,(.agg #[y3_0,y3_1,y3_2])),(4,(.agg #[y4_0,y4_1,y4_2]))]) h K=K (.agg #[(.int k0 y0),(.int .i64 0),(.int .i64 0),y3_0,y3_1,y3_2,y4_0,y4_1,y4_2,(.int .i64 0),(.int .i64 0)]) h:=by kernel_rfl
theorem Yv {G h:Hp} {k0:IntKind} {y0:Int} {k1:IntKind} {y1:Int} {k2:IntKind} {y2:Int} {K:VK}:wpH Tryz.prog G (Instr.build 54 #[(0,(.int k0 y0)),(1,(.int k1 y1)),(2,(.int k2 y2))]) h K=K (.agg #[(.int k0 y0),(.int k1 y1),(.int k2 y2)]) h:=by kernel_rfl
theorem Yu {G h:Hp} {k0:IntKind} {y0:Int} {k1:IntKind} {y1:Int} {k2:IntKind} {y2:Int} {K:VK}:wpH Tryz.prog G (Instr.build 75 #[(0,(.int k0 y0)),(1,(.int k1 y1)),(2,(.int k2 y2))]) h K=K (.agg #[(.int k0 y0),(.int k1 y1),(.int k2 y2)]) h:=by kernel_rfl
theorem Ww {G h:Hp} {y0_0 y0_1 y0_2:Value} {K:VK}:wpH Tryz.prog G (Instr.buildSlice 99 1 #[(0,(.agg #[y0_0,y0_1,y0_2]))]) h K=∀x,h x=none->G x=none->K (.slice (some ⟨x,0,none⟩) 1 1) (h.set x (.cells #[y0_0,y0_1,y0_2] 203 (0,0))):=by kernel_rfl
theorem at6 {G h:Hp} {y0_0 y0_1:Value} {K:VK}:wpH Tryz.prog G (Instr.buildSlice 103 1 #[(0,(.agg #[y0_0,y0_1]))]) h K=∀x,h x=none->G x=none->K (.slice (some ⟨x,0,none⟩) 1 1) (h.set x (.cells #[y0_0,y0_1] 110 (0,0))):=by kernel_rfl
theorem Lo {G h:Hp} {y0_0 y0_1:Value} {y1_0 y1_1:Value} {K:VK}:wpH Tryz.prog G (Instr.buildSlice 22 2 #[(0,(.agg #[y0_0,y0_1])),(1,(.agg #[y1_0,y1_1]))]) h K=∀x,h x=none->G x=none->K (.slice (some ⟨x,0,none⟩) 2 2) (h.set x (.cells #[y0_0,y0_1,y1_0,y1_1] 28 (0,0))):=by kernel_rfl
theorem C3 {G h:Hp} {k0:IntKind} {y0:Int} {k1:IntKind} {y1:Int} {k2:IntKind} {y2:Int} {k3:IntKind} {y3:Int} {k4:IntKind} {y4:Int} {k5:IntKind} {y5:Int} {K:VK}:wpH Tryz.prog G (Instr.buildSlice 168 6 #[(0,(.int k0 y0)),(1,(.int k1 y1)),(2,(.int k2 y2)),(3,(.int k3 y3)),(4,(.int k4 y4)),(5,(.int k5 y5))]) h K=∀x,h x=none->G x=none->K (.slice (some ⟨x,0,none⟩) 6 6) (h.set x (.cells #[(.int k0 y0),(.int k1 y1),(.int k2 y2),(.int k3 y3),(.int k4 y4),(.int k5 y5)] 3 (0,0))):=by kernel_rfl
theorem Bz {G h:Hp} {y0_0 y0_1:Value} {y1_0 y1_1:Value} {y2_0 y2_1:Value} {y3_0 y3_1:Value} {K:VK}:wpH Tryz.prog G (Instr.buildSlice 22 4 #[(0,(.agg #[y0_0,y0_1])),(1,(.agg #[y1_0,y1_1])),(2,(.agg #[y2_0,y2_1])),(3,(.agg #[y3_0,y3_1]))]) h K=∀x,h x=none->G x=none->K (.slice (some ⟨x,0,none⟩) 4 4) (h.set x (.cells #[y0_0,y0_1,y1_0,y1_1,y2_0,y2_1,y3_0,y3_1] 28 (0,0))):=by kernel_rfl
theorem aM0 {G h:Hp} {y0_0 y0_1 y0_2:Value} {K:VK}:wpH Tryz.prog G (Instr.buildSlice 24 1 #[(0,(.agg #[y0_0,y0_1,y0_2]))]) h K=∀x,h x=none->G x=none->K (.slice (some ⟨x,0,none⟩) 1 1) (h.set x (.cells #[y0_0,y0_1,y0_2] 234 (0,0))):=by kernel_rfl
theorem Wx {G h:Hp} {y0_0 y0_1 y0_2 y0_3 y0_4 y0_5 y0_6 y0_7 y0_8 y0_9 y0_10:Value} {K:VK}:wpH Tryz.prog G (Instr.buildSlice 40 1 #[(0,(.agg #[y0_0,y0_1,y0_2,y0_3,y0_4,y0_5,y0_6,y0_7,y0_8,y0_9,y0_10]))]) h K=∀x,h x=none->G x=none->K (.slice (some ⟨x,0,none⟩) 1 1) (h.set x (.cells #[y0_0,y0_1,y0_2,y0_3,y0_4,y0_5,y0_6,y0_7,y0_8,y0_9,y0_10] 48 (0,0))):=by kernel_rfl
theorem aM2 {G h:Hp} {y0_0 y0_1:Value} {K:VK}:wpH Tryz.prog G (Instr.buildSlice 22 1 #[(0,(.agg #[y0_0,y0_1]))]) h K=∀x,h x=none->G x=none->K (.slice (some ⟨x,0,none⟩) 1 1) (h.set x (.cells #[y0_0,y0_1] 28 (0,0))):=by kernel_rfl
theorem at1 {G h:Hp} {y0_0 y0_1 y0_2 y0_3:Value} {K:VK}:wpH Tryz.prog G (Instr.buildSlice 216 1 #[(0,(.agg #[y0_0,y0_1,y0_2,y0_3]))]) h K=∀x,h x=none->G x=none->K (.slice (some ⟨x,0,none⟩) 1 1) (h.set x (.cells #[y0_0,y0_1,y0_2,y0_3] 227 (0,0))):=by kernel_rfl
theorem Po {G h:Hp} {k0:IntKind} {y0:Int} {K:VK}:wpH Tryz.prog G (Instr.buildSlice 168 1 #[(0,(.int k0 y0))]) h K=∀x,h x=none->G x=none->K (.slice (some ⟨x,0,none⟩) 1 1) (h.set x (.cells #[(.int k0 y0)] 3 (0,0))):=by kernel_rfl
theorem Pp {G h:Hp} {y0_0 y0_1:Value} {K:VK}:wpH Tryz.prog G (Instr.buildSlice 142 1 #[(0,(.agg #[y0_0,y0_1]))]) h K=∀x,h x=none->G x=none->K (.slice (some ⟨x,0,none⟩) 1 1) (h.set x (.cells #[y0_0,y0_1] 151 (0,0))):=by kernel_rfl
theorem as9 {G h:Hp} {y0_0 y0_1 y0_2 y0_3 y0_4 y0_5 y0_6 y0_7 y0_8 y0_9 y0_10 y0_11 y0_12:Value} {K:VK}:wpH Tryz.prog G (Instr.buildSlice 229 1 #[(0,(.agg #[y0_0,y0_1,y0_2,y0_3,y0_4,y0_5,y0_6,y0_7,y0_8,y0_9,y0_10,y0_11,y0_12]))]) h K=∀x,h x=none->G x=none->K (.slice (some ⟨x,0,none⟩) 1 1) (h.set x (.cells #[y0_0,y0_1,y0_2,y0_3,y0_4,y0_5,y0_6,y0_7,y0_8,y0_9,y0_10,y0_11,y0_12] 232 (0,0))):=by kernel_rfl
theorem aL9 {G h:Hp} {y0_0 y0_1 y0_2:Value} {K:VK}:wpH Tryz.prog G (Instr.buildSlice 71 1 #[(0,(.agg #[y0_0,y0_1,y0_2]))]) h K=∀x,h x=none->G x=none->K (.slice (some ⟨x,0,none⟩) 1 1) (h.set x (.cells #[y0_0,y0_1,y0_2] 75 (0,0))):=by kernel_rfl
theorem at5 {G h:Hp} {y0_0 y0_1 y0_2:Value} {K:VK}:wpH Tryz.prog G (Instr.buildSlice 114 1 #[(0,(.agg #[y0_0,y0_1,y0_2]))]) h K=∀x,h x=none->G x=none->K (.slice (some ⟨x,0,none⟩) 1 1) (h.set x (.cells #[y0_0,y0_1,y0_2] 186 (0,0))):=by kernel_rfl
theorem aM1 {G h:Hp} {y0_0 y0_1 y0_2:Value} {K:VK}:wpH Tryz.prog G (Instr.buildSlice 23 1 #[(0,(.agg #[y0_0,y0_1,y0_2]))]) h K=∀x,h x=none->G x=none->K (.slice (some ⟨x,0,none⟩) 1 1) (h.set x (.cells #[y0_0,y0_1,y0_2] 30 (0,0))):=by kernel_rfl
theorem eo48:iu Tryz.prog 48 11 88:=⟨by kernel_rfl,by kernel_rfl,by kernel_rfl⟩
theorem eo203:iu Tryz.prog 203 3 24:=⟨by kernel_rfl,by kernel_rfl,by kernel_rfl⟩
theorem eo110:iu Tryz.prog 110 2 16:=⟨by kernel_rfl,by kernel_rfl,by kernel_rfl⟩
theorem eo151:iu Tryz.prog 151 2 16:=⟨by kernel_rfl,by kernel_rfl,by kernel_rfl⟩
theorem eo3:iu Tryz.prog 3 1 8:=⟨by kernel_rfl,by kernel_rfl,by kernel_rfl⟩
theorem eo227:iu Tryz.prog 227 4 32:=⟨by kernel_rfl,by kernel_rfl,by kernel_rfl⟩
theorem eo232:iu Tryz.prog 232 13 120:=⟨by kernel_rfl,by kernel_rfl,by kernel_rfl⟩
theorem ad2 (d:Nat) {x0 y0:Int} {x1 y1:Int}:Det Tryz.prog (Op.equalIn (d+1+1) 28 (.agg #[x0,x1]) (.agg #[y0,y1])) ((x0==y0)&&((x1==y1)&&true)):=by refine zv Tryz.underlying28 (by kernel_rfl) ?_;refine rr (by decide) (jt Tryz.underlying3 rfl rfl) (jt Tryz.underlying3 rfl rfl) (zw (d:=d+0) Tryz.underlying3) ?_;refine rr (by decide) (jt Tryz.underlying3 rfl rfl) (jt Tryz.underlying3 rfl rfl) (zw (d:=d+0) Tryz.underlying3) ?_;exact Jo
theorem eq28 {G h:Hp} {cx cy:Operand} {x0 y0:Int} {x1 y1:Int} {K:VK}:opH Tryz.prog G (xEq .eql 28 cx cy (.agg #[x0,x1]) (.agg #[y0,y1])) h K=K (.bool (((x0==y0)&&((x1==y1)&&true)))) h:=aF1 (by kernel_rfl) (ad2 9998)
theorem Wg {G h h1:Hp} {cx cy:Operand} {x0 y0:Int} {x1 y1:Int} {K:VK}:dl Tryz.prog G h1 (xEq .eql 28 cx cy (.agg #[x0,x1]) (.agg #[y0,y1])) h K=K (.bool (((x0==y0)&&((x1==y1)&&true)))) h:=ac7 (by kernel_rfl) (ad2 9998)
theorem deq30 (d:Nat) {x0 y0:Int} {x1 y1:Int} {x2 y2:Bool}:Det Tryz.prog (Op.equalIn (d+2+1) 30 (.agg #[x0,x1,.bool x2]) (.agg #[y0,y1,.bool y2])) (((x0==y0)&&((x1==y1)&&true))&&((x2==y2)&&true)):=by refine zv Tryz.underlying30 (by kernel_rfl) ?_;refine rr (by decide) (U8 Tryz.underlying28 (n:=2) (by kernel_rfl)) (U8 Tryz.underlying28 (n:=2) (by kernel_rfl)) (ad2 (d+0)) ?_;refine rr (by decide) (jt Tryz.underlying4 rfl rfl) (jt Tryz.underlying4 rfl rfl) (aF2 (d:=d+1) Tryz.underlying4) ?_;exact Jo
theorem eq30 {G h:Hp} {cx cy:Operand} {x0 y0:Int} {x1 y1:Int} {x2 y2:Bool} {K:VK}:opH Tryz.prog G (xEq .eql 30 cx cy (.agg #[x0,x1,.bool x2]) (.agg #[y0,y1,.bool y2])) h K=K (.bool ((((x0==y0)&&((x1==y1)&&true))&&((x2==y2)&&true)))) h:=aF1 (by kernel_rfl) (deq30 9997)
theorem eq30p {G h h1:Hp} {cx cy:Operand} {x0 y0:Int} {x1 y1:Int} {x2 y2:Bool} {K:VK}:dl Tryz.prog G h1 (xEq .eql 30 cx cy (.agg #[x0,x1,.bool x2]) (.agg #[y0,y1,.bool y2])) h K=K (.bool ((((x0==y0)&&((x1==y1)&&true))&&((x2==y2)&&true)))) h:=ac7 (by kernel_rfl) (deq30 9997)
theorem eq34np {G h h1:Hp} {cx cy:Operand}  {K:VK}:dl Tryz.prog G h1 (xEq .eql 34 cx cy (.pointer none) (.pointer none)) h K=K (.bool true) h:=by kernel_rfl
theorem ac8 {G h:Hp} {cx cy:Operand} {a:Addr} {K:VK}:opH Tryz.prog G (xEq .eql 34 cx cy (.pointer (some a)) (.pointer none)) h K=K (.bool false) h:=by kernel_rfl
theorem eq34sp {G h h1:Hp} {cx cy:Operand} {a:Addr} {K:VK}:dl Tryz.prog G h1 (xEq .eql 34 cx cy (.pointer (some a)) (.pointer none)) h K=K (.bool false) h:=by kernel_rfl
theorem eq50s {G h:Hp} {cx cy:Operand} {a:Addr} {K:VK}:opH Tryz.prog G (xEq .eql 50 cx cy (.pointer (some a)) (.pointer none)) h K=K (.bool false) h:=by kernel_rfl
theorem eq68n {G h:Hp} {cx cy:Operand}  {K:VK}:opH Tryz.prog G (xEq .eql 68 cx cy (.pointer none) (.pointer none)) h K=K (.bool true) h:=by kernel_rfl
theorem eq68s {G h:Hp} {cx cy:Operand} {a:Addr} {K:VK}:opH Tryz.prog G (xEq .eql 68 cx cy (.pointer (some a)) (.pointer none)) h K=K (.bool false) h:=by kernel_rfl
theorem eq68sp {G h h1:Hp} {cx cy:Operand} {a:Addr} {K:VK}:dl Tryz.prog G h1 (xEq .eql 68 cx cy (.pointer (some a)) (.pointer none)) h K=K (.bool false) h:=by kernel_rfl
theorem eq106s {G h:Hp} {cx cy:Operand} {f:Fn} {p q:Array Value} {K:VK}:opH Tryz.prog G (xEq .eql 106 cx cy (.func f p q) .nilFunc) h K=K (.bool false) h:=by kernel_rfl
theorem eq132s {G h:Hp} {cx cy:Operand} {a:Addr} {K:VK}:opH Tryz.prog G (xEq .eql 132 cx cy (.pointer (some a)) (.pointer none)) h K=K (.bool false) h:=by kernel_rfl
theorem eq140s {G h:Hp} {cx cy:Operand} {f:Fn} {p q:Array Value} {K:VK}:opH Tryz.prog G (xEq .eql 140 cx cy (.func f p q) .nilFunc) h K=K (.bool false) h:=by kernel_rfl
theorem ne28p {G h h1:Hp} {cx cy:Operand} {x0 y0:Int} {x1 y1:Int} {K:VK}:dl Tryz.prog G h1 (xEq .neq 28 cx cy (.agg #[x0,x1]) (.agg #[y0,y1])) h K=K (.bool (!((x0==y0)&&((x1==y1)&&true)))) h:=Rn (by kernel_rfl) (ad2 9998)
theorem ne30p {G h h1:Hp} {cx cy:Operand} {x0 y0:Int} {x1 y1:Int} {x2 y2:Bool} {K:VK}:dl Tryz.prog G h1 (xEq .neq 30 cx cy (.agg #[x0,x1,.bool x2]) (.agg #[y0,y1,.bool y2])) h K=K (.bool (!(((x0==y0)&&((x1==y1)&&true))&&((x2==y2)&&true)))) h:=Rn (by kernel_rfl) (deq30 9997)
theorem ne34s {G h:Hp} {cx cy:Operand} {a:Addr} {K:VK}:opH Tryz.prog G (xEq .neq 34 cx cy (.pointer (some a)) (.pointer none)) h K=K (.bool true) h:=by kernel_rfl
theorem ne68n {G h:Hp} {cx cy:Operand}  {K:VK}:opH Tryz.prog G (xEq .neq 68 cx cy (.pointer none) (.pointer none)) h K=K (.bool false) h:=by kernel_rfl
theorem ne68s {G h:Hp} {cx cy:Operand} {a:Addr} {K:VK}:opH Tryz.prog G (xEq .neq 68 cx cy (.pointer (some a)) (.pointer none)) h K=K (.bool true) h:=by kernel_rfl
theorem deq203 (d:Nat) {x0 y0:Int} {x1 y1:Int} {x2 y2:Int}:Det Tryz.prog (Op.equalIn (d+1+1) 203 (.agg #[x0,x1,x2]) (.agg #[y0,y1,y2])) ((x0==y0)&&((x1==y1)&&((x2==y2)&&true))):=by refine zv Tryz.underlying203 (by kernel_rfl) ?_;refine rr (by decide) (jt Tryz.underlying3 rfl rfl) (jt Tryz.underlying3 rfl rfl) (zw (d:=d+0) Tryz.underlying3) ?_;refine rr (by decide) (jt Tryz.underlying3 rfl rfl) (jt Tryz.underlying3 rfl rfl) (zw (d:=d+0) Tryz.underlying3) ?_;refine rr (by decide) (jt Tryz.underlying3 rfl rfl) (jt Tryz.underlying3 rfl rfl) (zw (d:=d+0) Tryz.underlying3) ?_;exact Jo
theorem ne203p {G h h1:Hp} {cx cy:Operand} {x0 y0:Int} {x1 y1:Int} {x2 y2:Int} {K:VK}:dl Tryz.prog G h1 (xEq .neq 203 cx cy (.agg #[x0,x1,x2]) (.agg #[y0,y1,y2])) h K=K (.bool (!((x0==y0)&&((x1==y1)&&((x2==y2)&&true))))) h:=Rn (by kernel_rfl) (deq203 9998)
theorem jq {a b:Prop} (x:a) (y:b):a/\b:=⟨x,y⟩
set_option linter.defProp false in
def bC:=jq (jq (jq (jq (jq (jq @ay2 @opH_su) (jq @Kn @pick_t)) (jq (jq @pick_f @pick_tp) (jq @pick_fp @gd_tt))) (jq (jq (jq @gd_ft @gd_tf) (jq @gd_ff @box_new)) (jq (jq @regs0 @regs1) (jq @regs2 (jq @regs3 @regs4))))) (jq (jq (jq (jq @regs5 @regs6) (jq @ou @as8)) (jq (jq @Yq @aw9) (jq @ax0 @ao5))) (jq (jq (jq @ex0 @ex1) (jq @ex0p @ex1p)) (jq (jq @HL.as5 @HL.Ym) (jq @jj (jq @am4 @Xa)))))) (jq (jq (jq (jq (jq @Yt @ky) (jq @bin_add @bin_sub)) (jq (jq @bin_mul @bin_lss) (jq @aN0 @aM6))) (jq (jq (jq @aM9 @ng) (jq @un_not @un_notp)) (jq (jq @eq_int @ne_int) (jq @eq_intp (jq @ne_intp @ox))))) (jq (jq (jq (jq @upd_eq @bo) (jq @C8 @a1_)) (jq (jq @bc_ @Option.some.injEq.{0}) (jq @exists_eq_left'.{1} @as_.{0}))) (jq (jq (jq @ar_.{0} @bW_) (jq @bL_ @if_true.{1})) (jq (jq @if_true.{0} @if_false.{1}) (jq @aP_ (jq @bh_.{0} @b5_.{0}))))))
abbrev l_:=@Instr.loadAt
abbrev y_ (G:Hp):=opH P_ G
abbrev x_ (t:TypeId) (a v:Value):=su (Instr.storeAt t a v)
abbrev f_:=@Instr.fieldAt
abbrev i_:=@Instr.indexAt
abbrev z1_:=binOp .add 3
abbrev z2_:=binOp .lss 3
abbrev z3_:=binOp .sub 3
abbrev z4_:=binOp .mul 3
abbrev z5_:=binOp .geq 3
abbrev z6_:=binOp .gtr 3
abbrev z7_:=binOp .leq 3
abbrev k_ (t:Nat) (v:Value):=Builtin.len_ #[t] 3 #[v]
section
variable (G:Hp) (K:EK) (r:Rg) (h:Hp)
def md29:Nat->Hint
 |_=>m0_
def aT1:Prop:=
 o_ G (Instr.build 173 #[(0,(r 0)),(1,(r 1)),(2,(r 2))]) h fun g h=>o_ G (Instr.box 173 g) h fun j h=>
 K .ret (u7 r 24 (r 0) 25 (r 1) 26 (r 2) 27 g 28 j 6 j 7 (.int .i64 0)) h
def Qt:Prop:=
 o_ G (z1_ (r 14) (1:Int)) h fun g h=>
 K .normal (u2 r 23 g 14 g) h
def Qu:Prop:=
 o_ G (Instr.index 155 (r 13) (r 14)) h fun g h=>o_ G (z2_ g (1:Int)) h fun j h=>g_ j false (fun K1=>K1 g h) h fun s h=>g_ j false (o_ G (z6_ s (1000:Int)) h) h fun u h=>
 y_ G (dh j (.bool true) u) h fun w h=>
 (fun q=>cond w
 (K .ret (u2 q 6 (.pointer none) 7 (.int .i64 1)) h)
 (Qt G K q h))
 (u8 r 16 g 9 g 17 g 18 j 19 j 20 s 21 u 22 w)
def aT0 (r:Rg) (h:Hp) (K:EK):Prop:=
 o_ G (z2_ (r 14) (3:Int)) h fun g h=>
 cond g
 (Qu G K (upd r 15 g) h)
 (K (.exit 0) (upd r 15 g) h)
def S29:Prop:=
 o_ G (Instr.build 155 #[(0,(r 0)),(1,(r 1)),(2,(r 2))]) h fun g h=>
 du (aT0 G) (u7 r 6 (.pointer none) 7 (.int .i64 0) 10 (r 0) 11 (r 1) 12 (r 2) 13 g 14 (.int .i64 0)) h (dc 0 (di (aT1 G K) K))
theorem enter29:Ent 29 29 [.tmp 6,.tmp 7] S29:=ent_ (m:=md29) (c:=(Tryz.f29.body.getD .skip)) (fun _ _ _ _=>by kernel_rfl) Tryz.func29 rfl rfl rfl
def md72:Nat->Hint
 |_=>m0_
def S72:Prop:=
 c_ G 123 #[r 0,r 1] h fun g h=>o_ G (k_ 168 g) h fun j h=>
 K .ret (u6 r 4 (.int .i64 0) 5 (r 0) 6 (r 1) 7 g 8 j 4 j) h
theorem enter72:Ent 9 72 [.tmp 4] S72:=ent_ (m:=md72) (c:=(Tryz.f72.body.getD .skip)) (fun _ _ _ _=>by kernel_rfl) Tryz.func72 rfl rfl rfl
def md123:Nat->Hint
 |3=>mh false [0,0,1,5,15,0,63] [m_,m_,n_,n_,n_,.alloc,.store] (fs 7) false
 |_=>m0_
def aj7:Prop:=
 w_ G h (l_ 50 (r 2)) h fun g h'=>
 w_ G h (l_ 3 (r 3)) h' fun j h=>
 dl P_ noHp noHp (xNil g) h fun s h=>
 p_ (f_ 173 s 3) h fun u h=>
 p_ (i_ 171 u j) h fun w h=>o_ G (Instr.alloc 261 true (.tuple #[])) h fun z h=>
 y_ G (x_ 261 z w) h fun C h=>o_ G (l_ 261 z) h fun C h=>
 y_ G (xNil C) h fun D h=>o_ G (f_ 170 D 0) h fun E h=>
 y_ G (callFunc 150 #[E,(.func (.func 151) #[] #[r 2,r 3,z])]) h fun F h=>o_ G (l_ 261 z) h fun I h=>
 y_ G (xNil I) h fun J h=>o_ G (f_ 170 J 1) h fun L h=>o_ G (l_ 168 L) h fun M h=>
 K .ret (u6 (u10 r 23 g 24 j 25 s 26 u 27 w 5 z 28 C 29 D 30 E 31 (.func (.func 151) #[] #[r 2,r 3,z])) 32 F 33 I 34 J 35 L 36 M 4 M) h
def S123:Prop:=
 o_ G (Instr.box 50 (r 0)) h fun g h=>o_ G (Instr.box 3 (r 1)) h fun j h=>o_ G (l_ 50 g) h fun s h=>
 y_ G (xEq .eql 50 (.tmp 0) (.const .nilFunc) s (.pointer none)) h fun u h=>g_ u false (o_ G (l_ 50 g) h) h fun w h=>g_ u false (opH P_ G (xNil w) h) h fun z h=>g_ u false (o_ G (f_ 173 z 0) h) h fun C h=>g_ u false (o_ G (l_ 3 C) h) h fun D h=>g_ u false (o_ G (z2_ D (1:Int)) h) h fun E h=>
 y_ G (dh u (.bool true) E) h fun F h=>g_ F false (o_ G (l_ 3 j) h) h fun I h=>g_ F false (o_ G (z2_ I (1:Int)) h) h fun J h=>
 y_ G (dh F (.bool true) J) h fun L h=>g_ L false (o_ G (l_ 3 j) h) h fun M h=>g_ L false (o_ G (z6_ M (16:Int)) h) h fun N h=>
 y_ G (dh L (.bool true) N) h fun O h=>
 (fun q=>cond O
 (K .ret (upd q 4 (.slice none 0 0)) h)
 (aj7 G K q h))
 (u10 (u10 r 2 g 3 j 4 (.slice none 0 0) 6 s 7 u 8 u 9 w 10 z 11 C 12 D) 13 E 14 F 15 F 16 I 17 J 18 L 19 L 20 M 21 N 22 O)
theorem aJ1:Ent 37 123 [.tmp 4] S123:=ent_ (m:=md123) (c:=(Tryz.f123.body.getD .skip)) (fun _ _ _ _=>by kernel_rfl) Tryz.func123 rfl rfl rfl
def md151:Nat->Hint
 |0=>mh false [0,0,0,4,12,28,62,127] [m_,m_,m_,n_,n_,m_,n_,e_] (fs 8) false
 |2=>mh false [0,0,2,6,14,0,32,126,255,511,1023] [m_,m_,n_,n_,m_,n_,.alloc,e_,n_,n_,.store] (fs 7++[true]++fs 3) true
 |_=>m0_
def Tj (G:Hp) (r:Rg) (h:Hp) (K:EK):Prop:=
 K .normal (upd r 3 (r 12)) h
def Ti (r:Rg) (h:Hp) (K:EK):Prop:=
 ∃h':Hp,h'.le h/\
 w_ G h' (l_ 261 (r 2)) h fun g h=>
 w_ G h' (l_ 261 (r 2)) h fun j h=>
 dl P_ noHp noHp (xNil j) h fun s h=>
 p_ (f_ 170 s 1) h fun u h=>
 w_ G h' (l_ 168 u) h fun w h=>o_ G (Instr.buildSlice 168 1 #[(0,(r 3))]) h fun z h=>o_ G (Builtin.append_ #[168,168] 168 #[w,z]) h fun C h=>h'.le h/\
 dl P_ noHp noHp (xNil g) h fun D h=>
 p_ (f_ 170 D 1) h fun E h=>
 y_ G (x_ 168 E C) h fun F h=>
 K .normal (u10 r 13 g 14 j 15 s 16 u 17 w 18 (r 3) 19 z 20 C 21 D 22 E) h
def S151:Prop:=
 w_ G h (l_ 50 (r 0)) h fun g h'=>
 w_ G h (l_ 3 (r 1)) h' fun j h'=>
 w_ G h (l_ 50 (r 0)) h' fun s h'=>
 dl P_ noHp noHp (xNil s) h' fun u h'=>
 p_ (f_ 173 u 0) h' fun w h'=>
 w_ G h (l_ 3 w) h' fun z h=>
 p_ (z4_ j z) h fun C h=>
 c_ G 152 #[g,(.int .i64 0),(.int .i64 0),C,(.bool false)] h fun D h=>
 Nu P_ G 1 (Tj G) (Ti G) (setR 23 #[12]) D (u8 r 4 g 5 j 6 s 7 u 8 w 9 z 10 C 11 D) h (dc 0 K)
theorem aG8:Ent 23 151 [] S151:=ent_ (m:=md151) (c:=(Tryz.f151.body.getD .skip)) (fun _ _ _ _=>by kernel_rfl) Tryz.func151 rfl rfl rfl
def md152:Nat->Hint
 |_=>m0_
def S152:Prop:=
 o_ G (Instr.box 50 (r 0)) h fun g h=>o_ G (Instr.box 3 (r 1)) h fun j h=>o_ G (Instr.box 3 (r 2)) h fun s h=>o_ G (Instr.box 3 (r 3)) h fun u h=>o_ G (Instr.box 4 (r 4)) h fun w h=>
 K .ret (u8 r 5 g 6 j 7 s 8 u 9 w 10 .nilFunc 11 (.func (.func 169) #[] #[g,w,s,j,u]) 10 (.func (.func 169) #[] #[g,w,s,j,u])) h
theorem aG7:Ent 12 152 [.tmp 10] S152:=ent_ (m:=md152) (c:=(Tryz.f152.body.getD .skip)) (fun _ _ _ _=>by kernel_rfl) Tryz.func152 rfl rfl rfl
def md169:Nat->Hint
 |_=>m0_
def D9:Prop:=
 o_ G (l_ 3 (r 4)) h fun g h=>o_ G (l_ 3 (r 3)) h fun j h=>o_ G (z1_ g j) h fun s h=>
 y_ G (x_ 3 (r 4) s) h fun u h=>o_ G (l_ 3 (r 4)) h fun u h=>
 y_ G (jh (r 0) #[u]) h fun w h=>o_ G (Op.unary .not w) h fun z h=>
 (fun q=>cond z
 (K .ret q h)
 (K .normal q h))
 (u7 r 26 g 27 j 28 s 29 (r 0) 30 u 31 w 32 z)
def Mi:Prop:=
 o_ G (l_ 50 (r 1)) h fun g h=>o_ G (l_ 3 (r 5)) h fun j h=>o_ G (l_ 3 (r 4)) h fun s h=>o_ G (z3_ j s) h fun u h=>o_ G (l_ 3 (r 3)) h fun w h=>
 c_ G 170 #[g,u,w,r 7] h fun z h=>
 y_ G (x_ 3 (r 3) z) h fun C h=>o_ G (l_ 4 (r 2)) h fun C h=>
 cond C
 (o_ G (l_ 3 (r 3)) h fun D h'=>
 D9 G K (u10 r 17 g 18 j 19 s 20 u 21 w 22 (r 7) 23 z 24 C 25 D 7 D) h')
 (D9 G K (u8 r 17 g 18 j 19 s 20 u 21 w 22 (r 7) 23 z 24 C) h)
def af5 (r:Rg) (h:Hp) (K:EK):Prop:=
 o_ G (l_ 3 (r 4)) h fun g h=>o_ G (l_ 3 (r 5)) h fun j h=>o_ G (z2_ g j) h fun s h=>
 cond s
 (Mi G K (u3 r 14 g 15 j 16 s) h)
 (K (.exit 0) (u3 r 14 g 15 j 16 s) h)
def S8:Prop:=
 du (af5 G) r h (dc 0 K)
def S169:Prop:=
 o_ G (l_ 50 (r 1)) h fun g h=>
 y_ G (xNil g) h fun j h=>o_ G (f_ 173 j 2) h fun s h=>o_ G (l_ 3 s) h fun u h=>o_ G (l_ 4 (r 2)) h fun w h=>
 cond w
 (o_ G (l_ 3 (r 3)) h fun z h'=>
 S8 G K (u8 r 8 g 9 j 10 s 11 u 7 u 12 w 13 z 7 z) h')
 (S8 G K (u6 r 8 g 9 j 10 s 11 u 7 u 12 w) h)
theorem aF7:Ent 33 169 [] S169:=ent_ (m:=md169) (c:=(Tryz.f169.body.getD .skip)) (fun _ _ _ _=>by kernel_rfl) Tryz.func169 rfl rfl rfl
def md170:Nat->Hint
 |_=>m0_
def S7 (G:Hp) (K:EK) (r:Rg) (h:Hp):Prop:=
 K .ret (u2 r 32 (r 9) 8 (r 9)) h
def Mh:Prop:=
 o_ G (z3_ (r 9) (1:Int)) h fun g h=>
 K .normal (u3 r 30 (r 9) 31 g 9 g) h
def af4 (r:Rg) (h:Hp) (K:EK):Prop:=
 o_ G (z6_ (r 9) (1:Int)) h fun g h=>g_ g true (fun K1=>K1 (r 0) h) h fun j h=>g_ g true (fun K1=>K1 (r 9) h) h fun s h=>g_ g true (c_ G 187 #[j,s] h) h fun u h=>g_ g true (fun K1=>K1 (r 1) h) h fun w h=>g_ g true (fun K1=>K1 (r 9) h) h fun z h=>g_ g true (o_ G (z3_ w z) h) h fun C h=>g_ g true (o_ G (z6_ u C) h) h fun D h=>
 y_ G (dh g D (.bool false)) h fun E h=>
 (fun q=>cond E
 (Mh G K q h)
 (K (.exit 0) q h))
 (upd (u10 r 19 (r 9) 20 g 21 g 22 j 23 s 24 u 25 w 26 z 27 C 28 D) 29 E)
def S170:Prop:=
 y_ G (xNil (r 0)) h fun g h=>o_ G (f_ 173 g 1) h fun j h=>o_ G (l_ 3 j) h fun s h=>o_ G (z1_ (r 2) s) h fun u h=>o_ G (Builtin.min_ #[3,3,3] 3 #[u,r 3,r 1]) h fun w h=>
 du (af4 G) (upd (u10 r 8 (.int .i64 0) 10 (r 2) 11 (r 0) 12 g 13 j 14 s 15 u 16 (r 3) 17 (r 1) 18 w) 9 w) h (dc 0 (di (S7 G K) K))
theorem aF6:Ent 33 170 [.tmp 8] S170:=ent_ (m:=md170) (c:=(Tryz.f170.body.getD .skip)) (fun _ _ _ _=>by kernel_rfl) Tryz.func170 rfl rfl rfl
def md187:Nat->Hint
 |4=>mh false [0,0,2,6,14,31,63,0,128,384,896,2047,4095] [n_,n_,n_,n_,m_,n_,n_,n_,n_,n_,m_,n_,n_] (fs 13) false
 |_=>m0_
def af1 (G:Hp) (K:EK) (r:Rg) (h:Hp):Prop:=
 K .ret (u2 r 39 (r 5) 4 (r 5)) h
def Md:Prop:=
 y_ G (xNil (r 0)) h fun g h=>o_ G (f_ 173 g 1) h fun j h=>o_ G (l_ 3 j) h fun s h=>o_ G (z3_ (r 6) s) h fun u h=>
 K .normal (u7 r 30 (r 6) 31 (r 0) 32 g 33 j 34 s 35 u 6 u) h
def Me:Prop:=
 o_ G (z1_ (r 5) (r 6)) h fun g h=>
 Md G K (u4 r 36 (r 5) 37 (r 6) 38 g 5 g) h
def af0 (r:Rg) (h:Hp) (K:EK):Prop:=
 o_ G (z6_ (r 6) (0:Int)) h fun g h=>
 cond g
 (Me G K (u2 r 28 (r 6) 29 g) h)
 (K (.exit 0) (u2 r 28 (r 6) 29 g) h)
def af2:Prop:=
 dl P_ noHp noHp (xNil (r 0)) h fun g h'=>
 p_ (f_ 173 g 2) h' fun j h'=>
 w_ G h (l_ 3 j) h' fun s h'=>
 p_ (Builtin.min_ #[3,3] 3 #[r 1,s]) h' fun u h'=>
 p_ (Builtin.max_ #[3,3] 3 #[(.int .i64 0),u]) h' fun w h'=>
 dl P_ noHp noHp (xNil (r 0)) h' fun z h'=>
 p_ (f_ 173 z 1) h' fun C h'=>
 w_ G h (l_ 3 C) h' fun D h=>
 p_ (z3_ w D) h fun E h=>
 du (af0 G) (u4 (u10 r 5 (.int .i64 0) 16 (r 1) 17 (r 0) 18 g 19 j 20 s 21 u 22 w 23 (r 0) 24 z) 25 C 26 D 27 E 6 E) h (dc 0 (di (af1 G K) K))
def S187:Prop:=
 y_ G (xEq .eql 50 (.tmp 0) (.const .nilFunc) (r 0) (.pointer none)) h fun g h=>g_ g false (fun K1=>K1 (r 0) h) h fun j h=>g_ g false (opH P_ G (xNil j) h) h fun s h=>g_ g false (o_ G (f_ 173 s 1) h) h fun u h=>g_ g false (o_ G (l_ 3 u) h) h fun w h=>g_ g false (o_ G (z2_ w (1:Int)) h) h fun z h=>
 y_ G (dh g (.bool true) z) h fun C h=>
 (fun q=>cond C
 (K .ret (upd q 4 (.int .i64 0)) h)
 (af2 G K q h))
 (u10 r 4 (.int .i64 0) 7 (r 0) 8 g 9 g 10 j 11 s 12 u 13 w 14 z 15 C)
theorem aF4:Ent 40 187 [.tmp 4] S187:=ent_ (m:=md187) (c:=(Tryz.f187.body.getD .skip)) (fun _ _ _ _=>by kernel_rfl) Tryz.func187 rfl rfl rfl
def md30:Nat->Hint
 |_=>m0_
def aS9 (G:Hp) (K:EK) (r:Rg) (h:Hp):Prop:=
 K .ret (upd r 6 (.int .i64 0)) h
def S5:Prop:=
 cond (r 19)
 (o_ G (f_ 26 (r 3) 11) h fun g h'=>o_ G (l_ 3 g) h' fun j h'=>
 K .ret (u3 r 22 g 23 j 6 j) h')
 (aS9 G K r h)
def S30:Prop:=
 o_ G (Instr.box 26 (r 0)) h fun g h=>o_ G (Instr.box 48 (r 2)) h fun j h=>o_ G (f_ 48 j 0) h fun s h=>o_ G (l_ 3 s) h fun u h=>
 y_ G (xEq .eql 3 (.tmp 0) (.const .nilFunc) u (.int .i64 1)) h fun w h=>
 cond w
 (o_ G (f_ 48 j 2) h fun z h'=>o_ G (l_ 3 z) h' fun C h'=>
 c_ G 72 #[r 1,C] h' fun D h'=>
 K .ret (u2 (u10 r 3 g 5 j 6 (.int .i64 0) 7 s 8 u 10 w 9 w 11 (r 1) 12 z 13 C) 14 D 6 D) h')
 (opH P_ G (xEq .eql 3 (.tmp 0) (.const .nilFunc) u (.int .i64 2)) h fun z h=>
 cond z
 (o_ G (f_ 26 g 10) h fun C h'=>o_ G (l_ 3 C) h' fun D h'=>
 K .ret (u2 (u10 r 3 g 5 j 6 (.int .i64 0) 7 s 8 u 10 w 9 w 16 z 15 z 17 C) 18 D 6 D) h')
 (opH P_ G (xEq .eql 3 (.tmp 0) (.const .nilFunc) u (.int .i64 3)) h fun C h=>
 cond C
 (S5 G K (upd (u10 r 3 g 5 j 6 (.int .i64 0) 7 s 8 u 10 w 9 w 16 z 15 z 20 C) 19 C) h)
 (opH P_ G (xEq .eql 3 (.tmp 0) (.const .nilFunc) u (.int .i64 4)) h fun D h=>
 S5 G K (u3 (u10 r 3 g 5 j 6 (.int .i64 0) 7 s 8 u 10 w 9 w 16 z 15 z 20 C) 19 C 21 D 19 D) h)))
theorem enter30:Ent 24 30 [.tmp 6] S30:=ent_ (m:=md30) (c:=(Tryz.f30.body.getD .skip)) (fun _ _ _ _=>by kernel_rfl) Tryz.func30 rfl rfl rfl
end
end Go.Proofs.YtfflipnhffknnaaGreatDoor
end
section
namespace Go.Proofs.YtfflipnhffknnaaGreatDoor.On
open Go Go.HL
theorem disable (w:World):(callFunc 199 #[]).run Tryz.prog w = .ok (.value (.tuple #[])) w:=run_call_mark0 Tryz.func199 (by kernel_rfl) (by kernel_rfl) (by kernel_rfl) .disable (by kernel_rfl) w
theorem enable (w:World):(callFunc 201 #[]).run Tryz.prog w = .ok (.value (.tuple #[])) w:=run_call_mark0 Tryz.func201 (by kernel_rfl) (by kernel_rfl) (by kernel_rfl) .enable (by kernel_rfl) w
theorem acquire (a:Addr) (w:World):(callFunc 202 #[.pointer (some a)]).run Tryz.prog w = .ok (.value (.tuple #[])) w:=run_call_marked Tryz.func202 (by kernel_rfl) (by kernel_rfl) (by kernel_rfl) .acquire (by kernel_rfl) a w
theorem releaseMerge (a:Addr) (w:World):(callFunc 204 #[.pointer (some a)]).run Tryz.prog w = .ok (.value (.tuple #[])) w:=run_call_marked Tryz.func204 (by kernel_rfl) (by kernel_rfl) (by kernel_rfl) .releaseMerge (by kernel_rfl) a w
theorem J8 (a:Addr) (x:Value) (u:FrameMode) (w:World) (hc:w.cell? a=some x) (hz:w.frozen? a=false):
 CallsD Tryz.prog 186 #[.pointer (some a),.bool true] u w fun e u' w'=>u'=u/\(e = .returned (.tuple #[])/\w'=w.drew.setCell a (.int .u32 1)):=by
 have hc':w.drew.cell? a=some x:=by go_simp
 have hz':w.drew.frozen? a=false:=by go_simp
 have hst:=run_call_store (P:=Tryz.prog) Tryz.func196 (by kernel_rfl) (by kernel_rfl) (by kernel_rfl) (by kernel_rfl) (k := .u32) (y:=1) hc' hz';go_enter_d Tryz.func186,Tryz.ntmps186;go_wp2;go_region_calls;all_goals (go_end0;exact ⟨rfl,rfl⟩)
theorem Jd (a:Addr) (u:FrameMode) (w:World) (hc:w.cell? a=some (.int .i32 1)) (hz:w.frozen? a=false):
 CallsD Tryz.prog 185 #[.pointer (some a)] u w fun e u' w'=>u'=u/\(e = .returned (.tuple #[])/\w'=w.setCell a (.int .i32 0)):=by have hd:=disable;have he:=enable;have hr:=releaseMerge;have hadd:=run_call_add (P:=Tryz.prog) Tryz.func205 (by kernel_rfl) (by kernel_rfl) (by kernel_rfl) .i32 (by kernel_rfl) (y := -1) (s:=0) hc hz (by simp [go_sem];rfl);have hcv:=run_convert_to_unsafe (P:=Tryz.prog) (src:=302) (dst:=306) Tryz.underlying302 Tryz.underlying306 (by kernel_rfl) hc;go_enter_d Tryz.func185,Tryz.ntmps185;go_wp2;go_end0;go_wp2;go_end0;exact ⟨rfl,rfl⟩
theorem aq1 (a:Addr) (w:World) (hc:w.cell? a=some (.int .i32 0)) (hz:w.frozen? a=false):
 Calls Tryz.prog 184 #[.pointer (some a)] w fun e w'=>e = .returned (.tuple #[])/\w'=w.setCell a (.int .i32 1):=by
 have hd:=disable;have he:=enable;have ha:=acquire;have hcas:=run_call_cas_hit (P:=Tryz.prog) Tryz.func200 (by kernel_rfl) (by kernel_rfl) (by kernel_rfl) .i32 (by kernel_rfl) (y:=1) hc hz;have hc':(w.setCell a (.int .i32 1)).cell? a=some (.int .i32 1):=World.cell?_setCell_same w a _ hc;have hcv:=run_convert_to_unsafe (P:=Tryz.prog) (src:=302) (dst:=306) Tryz.underlying302 Tryz.underlying306 (by kernel_rfl) hc';go_enter Tryz.func184,Tryz.ntmps184;go_wp2;first|go_end0|(simp only [Exit.inBlock,Exit.then];refine bodyPost_ret (results_none rfl _ _ _) rfl ?_)|refine bodyPost_ret (results_none rfl _ _ _) rfl ?_
 go_wp2;go_end0;exact ⟨rfl,rfl⟩
theorem slow_w (b off id:Nat) (caps:Array Value) (w:World) (R:World->Prop)
 (h0:w.cell? ⟨b,off,none⟩=some (.int .u32 0)) (h1:w.cell? ⟨b,off+1,none⟩=some (.int .i32 0))
 (f0:w.frozen? ⟨b,off,none⟩=false) (f1:w.frozen? ⟨b,off+1,none⟩=false)
 (hid:∀args w,(callFunc id args).run Tryz.prog w = .ok (.enter id args) w)
 (hf:Calls Tryz.prog id caps (w.setCell ⟨b,off+1,none⟩ (.int .i32 1)) fun e w'=>e = .returned (.tuple #[])/\w'.cell? ⟨b,off,none⟩=some (.int .u32 0)/\w'.cell? ⟨b,off+1,none⟩=some (.int .i32 1)/\w'.frozen? ⟨b,off,none⟩=false/\w'.frozen? ⟨b,off+1,none⟩=false/\R w'):
 Calls Tryz.prog 168 #[.pointer (some ⟨b,off,none⟩),.func (.func id) #[] caps] w fun e w'=>e = .returned (.tuple #[])/\∃w1,R w1/\w'=(w1.drew.setCell ⟨b,off,none⟩ (.int .u32 1)).setCell ⟨b,off+1,none⟩ (.int .i32 0):=by
 have hl:=run_call_load (P:=Tryz.prog) Tryz.func183 (by kernel_rfl) (by kernel_rfl) (by kernel_rfl) .u32 (by kernel_rfl) (w:=w.setCell ⟨b,off+1,none⟩ (.int .i32 1)) (a:=⟨b,off,none⟩) (x:=0) ((World.cell?_setCell_other _ ⟨b,off+1,none⟩ ⟨b,off,none⟩ _ (by simp)).trans h0);have hnot:∀(x:Bool) (w:World),(Op.unary .not (.bool x)).run Tryz.prog w = .ok (.bool (!x)) w:=fun _ _=>rfl;go_enter_defers Tryz.func168,Tryz.ntmps168;go_wp2_with (go_at_call 184;refine (aq1 ⟨b,off+1,none⟩ _ (by go_simp) (by go_simp)).mono ?_;rintro e w' ⟨rfl,rfl⟩);go_wp2;refine hf.mono ?_;rintro e w' ⟨rfl,c0,c1,z0,z1,hR⟩;go_wp2;refine leaves_cons (f:=186) (args:=#[.pointer (some ⟨b,off,none⟩),.bool true]) (by simp) (by simp [go_sem]) ?_;refine (J8 ⟨b,off,none⟩ (.int .u32 0) .returning _ c0 z0).mono ?_;rintro e u' w'' ⟨rfl,rfl,rfl⟩;refine leaves_cons (f:=185) (args:=#[.pointer (some ⟨b,off+1,none⟩)]) (by simp [settle]) (by simp [go_sem]) ?_;refine (Jd ⟨b,off+1,none⟩ _ _ ?_ (by simp [z1])).mono ?_
 . refine (World.cell?_setCell_other _ ⟨b,off,none⟩ ⟨b,off+1,none⟩ _ (by simp)).trans ?_;rw [World.cell?_drew];exact c1
 rintro e u' w'' ⟨rfl,rfl,rfl⟩;simp [Leaves,settle,results,Tryz.results168];exact ⟨w',hR,rfl⟩
theorem aL2 (b off id:Nat) (caps:Array Value) (w:World) (R:World->Prop)
 (h0:w.cell? ⟨b,off,none⟩=some (.int .u32 0)) (h1:w.cell? ⟨b,off+1,none⟩=some (.int .i32 0))
 (f0:w.frozen? ⟨b,off,none⟩=false) (f1:w.frozen? ⟨b,off+1,none⟩=false)
 (hid:∀args w,(callFunc id args).run Tryz.prog w = .ok (.enter id args) w)
 (hf:Calls Tryz.prog id caps (w.setCell ⟨b,off+1,none⟩ (.int .i32 1)) fun e w'=>e = .returned (.tuple #[])/\w'.cell? ⟨b,off,none⟩=some (.int .u32 0)/\w'.cell? ⟨b,off+1,none⟩=some (.int .i32 1)/\w'.frozen? ⟨b,off,none⟩=false/\w'.frozen? ⟨b,off+1,none⟩=false/\R w'):
 Calls Tryz.prog 150 #[.pointer (some ⟨b,off,none⟩),.func (.func id) #[] caps] w fun e w'=>e = .returned (.tuple #[])/\∃w1,R w1/\w'=(w1.drew.setCell ⟨b,off,none⟩ (.int .u32 1)).setCell ⟨b,off+1,none⟩ (.int .i32 0):=by have hl:=run_call_load (P:=Tryz.prog) Tryz.func183 (by kernel_rfl) (by kernel_rfl) (by kernel_rfl) .u32 (by kernel_rfl) h0;have hnot:∀(x:Bool) (w:World),(Op.unary .not (.bool x)).run Tryz.prog w = .ok (.bool (!x)) w:=fun _ _=>rfl;go_enter Tryz.func150,Tryz.ntmps150;go_wp2_with (first|(go_at_call 168;refine (slow_w b off id caps _ R h0 h1 f0 f1 hid hf).mono ?_;rintro e w' ⟨rfl,w1,hR,rfl⟩)|(go_at_call 167;go_in));go_end0;exact ⟨rfl,w1,hR,rfl⟩
theorem do_done (a:Addr) (fv:Value) (w:World) (h0:w.cell? a=some (.int .u32 1)):
 Calls Tryz.prog 150 #[.pointer (some a),fv] w fun e w'=>e = .returned (.tuple #[])/\w'=w:=by
 have hl:=run_call_load (P:=Tryz.prog) Tryz.func183 (by kernel_rfl) (by kernel_rfl) (by kernel_rfl) .u32 (by kernel_rfl) h0;have hnot:∀(x:Bool) (w:World),(Op.unary .not (.bool x)).run Tryz.prog w = .ok (.bool (!x)) w:=fun _ _=>rfl;have hd':((1:Int) != 0)=true:=by decide
 go_enter Tryz.func150,Tryz.ntmps150;go_wp2;go_end0;exact ⟨rfl,rfl⟩
theorem Dp {G h:Hp} {w:World} (i:In G h w) {b:Nat} {l:List Value} {e:TypeId} (hb:h b=some (.cells l.toArray e (0,0))) {o:Nat} {v:Value}:Mv h w (h.set b (.cells (l.set o v).toArray e (0,0))) (w.setCell ⟨b,o,none⟩ v):=by have hw:=i.sub _ _ hb;refine Mv.put i hb (by simp [World.setCell]) ?_ (fun c hc=>by simp only [World.setCell,bk_];rw [ah_ (Ne.symm hc)]) rfl rfl rfl (aj_ _);simp only [World.setCell,bk_,ak_,hw,a0_];simp
theorem drew_mv {G h:Hp} {w:World} (i:In G h w):Mv h w h w.drew:=
 ⟨aj_ _,i.sub,fun _ _ h1 h2=>⟨h1,h2⟩,rfl,rfl,rfl,Nat.le_succ _⟩
theorem Fe {G h:Hp} {w:World} (i:In G h w) {b:Nat} {l:List Value} {e:TypeId} (hb:h b=some (.cells l.toArray e (0,0))) {o:Nat} {v:Value} (hv:l[o]?=some v):w.cell? ⟨b,o,none⟩=some v/\w.frozen? ⟨b,o,none⟩=false:=by
 have hw:=i.sub _ _ hb;have ho:o<l.length:=(ad_.1 hv).1;refine ⟨?_,?_⟩
 . unfold World.cell?;rw [hw];simpa using hv
 . unfold World.frozen?;rw [hw];simp
theorem ap1 {G h:Hp} {b o:Nat} {l:List Value} {e:TypeId} {fv:Value} (hb:h b=some (.cells l.toArray e (0,0))) (hd:l[o]?=some (.int .u32 1)):
 bn Tryz.prog G 150 #[.pointer (some ⟨b,o,none⟩),fv] h (fun v h'=>v = .tuple #[]/\h'=h):=by intro w i;refine (do_done _ fv w (Fe i hb hd).1).mono ?_;rintro e w' ⟨rfl,rfl⟩;exact ⟨_,h,rfl,.refl i,rfl,rfl⟩
theorem Xs {G h:Hp} {b o id:Nat} {l:List Value} {e:TypeId} {caps:Array Value} {Q:List Value->Hp->Prop} (hb:h b=some (.cells l.toArray e (0,0))) (h0:l[o]?=some (.int .u32 0)) (h1:l[o+1]?=some (.int .i32 0))
 (hid:∀args w,(callFunc id args).run Tryz.prog w = .ok (.enter id args) w)
 (hf:bn Tryz.prog G id caps (h.set b (.cells (l.set (o+1) (.int .i32 1)).toArray e (0,0))) (fun v h'=>v = .tuple #[]/\∃l',h' b=some (.cells l'.toArray e (0,0))/\l'[o]?=some (.int .u32 0)/\l'[o+1]?=some (.int .i32 1)/\Q l' h')):
 bn Tryz.prog G 150 #[.pointer (some ⟨b,o,none⟩),.func (.func id) #[] caps] h (fun v h'=>v = .tuple #[]/\∃l' h1,Q l' h1/\h1 b=some (.cells l'.toArray e (0,0))/\h'=h1.set b (.cells ((l'.set o (.int .u32 1)).set (o+1) (.int .i32 0)).toArray e (0,0))):=by
 intro w i;have m0:=Dp (o:=o+1) (v := .int .i32 1) i hb;obtain ⟨a0,z0⟩:=Fe i hb h0;obtain ⟨a1,z1⟩:=Fe i hb h1;refine (aL2 b o id caps w (fun w'=>∃l' h',Mv (h.set b (.cells (l.set (o+1) (.int .i32 1)).toArray e (0,0))) (w.setCell ⟨b,o+1,none⟩ (.int .i32 1)) h' w'/\h' b=some (.cells l'.toArray e (0,0))/\Q l' h') a0 a1 z0 z1 hid ((hf _ (m0.keeps i)).mono ?_)).mono ?_
 . rintro e' w' ⟨v,h',rfl,m,rfl,l',b1,b2,b3,hQ⟩;have i':=m.keeps (m0.keeps i);obtain ⟨c0,y0⟩:=Fe i' b1 b2;obtain ⟨c1,y1⟩:=Fe i' b1 b3;exact ⟨rfl,c0,c1,y0,y1,l',h',m,b1,hQ⟩
 . rintro e' w' ⟨rfl,w1,⟨l',h1,m,b1,hQ⟩,rfl⟩;have i1:=m.keeps (m0.keeps i);have m2:=drew_mv i1;have i2:=m2.keeps i1;have m3:=Dp (o:=o) (v := .int .u32 1) i2 b1;have i3:=m3.keeps i2;have m4:=Dp (o:=o+1) (v := .int .i32 0) i3 bh;rw [set_set]at m4;exact ⟨_,_,rfl,(((m0.trans m).trans m2).trans m3).trans m4,rfl,l',h1,hQ,b1,rfl⟩
end Go.Proofs.YtfflipnhffknnaaGreatDoor.On
end
section
namespace Go.Proofs.Resv
structure Slot where
 f:Int
 t:Int
 r:Int
 deriving DecidableEq
abbrev FV:Int:=4611686018427387904
def l8 (L:List Slot) (r f t:Int):Bool:=L.all fun s=>s.r==r || !(decide (s.f<t)&&decide (f<s.t))
def j9 (r f t:Int) (s:Slot):Bool:=s.r==r&&(decide (s.f<=t)&&decide (f<=s.t))
def m9 (r:Int):List Slot->Int->Int->List Slot->Int × Int × List Slot
 |[],f,t,out=>(f,t,out)
 |s::L,f,t,out=>if j9 r f t s=true then m9 r L (min f s.f) (max t s.t) out else m9 r L f t (out++[s])
def Bo (out:List Slot) (x:Slot):List Slot:=out.takeWhile (fun s=>decide (s.f<x.f))++x::out.dropWhile (fun s=>decide (s.f<x.f))
def putL (L:List Slot) (r f t:Int):List Slot:=Bo (m9 r L f t []).2.2 ⟨(m9 r L f t []).1,(m9 r L f t []).2.1,r⟩
def sepS (a b:Slot):Prop:=a.t<=b.f/\(a.t=b.f->a.r≠b.r)
def okS (s:Slot):Prop:=0<=s.f/\s.f<s.t/\s.t<=FV/\0<=s.r
structure Good (L:List Slot):Prop where
 ok:∀s∈L,okS s
 apart:L.Pairwise sepS
def has (L:List Slot) (r x:Int):Prop:=∃s∈L,s.r=r/\s.f<=x/\x<s.t
theorem Good.nil:Good []:=⟨(fun _ h=>by cases h),List.Pairwise.nil⟩
theorem Good.tail {s:Slot} {L:List Slot} (g:Good (s::L)):Good L:=⟨fun x hx=>g.ok x (.tail _ hx),(ap_.1 g.apart).2⟩
theorem Good.head {s:Slot} {L:List Slot} (g:Good (s::L)):∀x∈L,sepS s x:=(ap_.1 g.apart).1
theorem Q9 {L:List Slot} (h:L.Pairwise sepS):∀{a b:Slot},a∈L->b∈L->a=b\/sepS a b\/sepS b a:=by
 induction L with
 |nil=>intro a b ha;cases ha
 |cons s L ih=>
  intro a b ha hb;obtain ⟨h1,h2⟩:=ap_.1 h;rcases al_.1 ha with rfl|ha'<;>rcases al_.1 hb with rfl|hb'
  . exact .inl rfl
  . exact .inr (.inl (h1 _ hb'))
  . exact .inr (.inr (h1 _ ha'))
  . exact ih h2 ha' hb'
theorem nl {r f t:Int} {s:Slot}:j9 r f t s=true↔s.r=r/\s.f<=t/\f<=s.t:=by unfold j9;simp
theorem Br {L:List Slot} {r f t:Int}:l8 L r f t=true↔∀s∈L,s.r≠r->t<=s.f\/s.t<=f:=by
 unfold l8;rw [az_];constructor
 . intro h s hs hr;have h1:=h s hs;simp at h1;exact h1.resolve_left hr
 . intro h s hs;by_cases hr:s.r=r
   . simp [hr]
   . have:=h s hs hr;simp [hr];omega
theorem Dr {r:Int}:∀{L:List Slot} {f t:Int} {out:List Slot},L.Pairwise sepS->(∀s∈L,s.f<s.t)->f<t->
 ∃f' t',m9 r L f t out=(f',t',out++L.filter fun s => !j9 r f t s)/\f'<=f/\t<=t'/\(f'=f\/∃s∈L,j9 r f t s=true/\s.f=f')/\(t'=t\/∃s∈L,j9 r f t s=true/\s.t=t')/\
  ∀s∈L,j9 r f t s=true->f'<=s.f/\s.t<=t':=by
 intro L;induction L with
 |nil=>intro f t out _ _ _;exact ⟨f,t,by simp [m9],by omega,by omega,.inl rfl,.inl rfl,fun _ h=>by cases h⟩
 |cons s L ih=>
  intro f t out hp hl hft;obtain ⟨h1,h2⟩:=ap_.1 hp;have hl2:∀s∈L,s.f<s.t:=fun x hx=>hl x (.tail _ hx);unfold m9;by_cases ht:j9 r f t s=true
  . rw [ak_ ht];obtain ⟨t1,t2,t3⟩:=nl.1 ht;have hsl:=hl s (.head _)
    have same:∀x∈L,j9 r (min f s.f) (max t s.t) x=j9 r f t x:=fun x hx=>by
     have:=h1 x hx;have hxl:=hl2 x hx;rw [a6_,nl,nl];constructor
     . rintro ⟨a,b,c⟩;have:s.t≠x.f:=fun e=>this.2 e (by rw [t1,a]);have h3:=(h1 x hx).1;omega
     . rintro ⟨a,b,c⟩;omega
    obtain ⟨f',t',e,a1,a2,a3,a4,a5⟩:=ih (f:=min f s.f) (t:=max t s.t) (out:=out) h2 hl2 (by omega);have ef:(L.filter fun s_1 => !j9 r (min f s.f) (max t s.t) s_1)=L.filter fun x => !j9 r f t x:=List.filter_congr fun x hx=>by rw [same x hx]
    refine ⟨f',t',?_,Int.le_trans a1 (Int.min_le_left _ _),Int.le_trans (Int.le_max_left _ _) a2,?_,?_,?_⟩
    . rw [e,ef,List.filter_cons_of_neg (by simp [ht])]
    . rcases a3 with a3|⟨x,hx,b1,b2⟩
      . clear a4;by_cases hh:f<=s.f
        . exact .inl (by omega)
        . exact .inr ⟨s,.head _,ht,by omega⟩
      . exact .inr ⟨x,.tail _ hx,by rw [<- same x hx];exact b1,b2⟩
    . rcases a4 with a4|⟨x,hx,b1,b2⟩
      . clear a3;by_cases hh:s.t<=t
        . exact .inl (by omega)
        . exact .inr ⟨s,.head _,ht,by omega⟩
      . exact .inr ⟨x,.tail _ hx,by rw [<- same x hx];exact b1,b2⟩
    . intro x hx hxt;clear a3 a4;rcases al_.1 hx with rfl|hx'
      . omega
      . exact a5 x hx' (by rw [same x hx'];exact hxt)
  . rw [ah_ ht];obtain ⟨f',t',e,a1,a2,a3,a4,a5⟩:=ih (f:=f) (t:=t) (out:=out++[s]) h2 hl2 hft;refine ⟨f',t',?_,a1,a2,?_,?_,?_⟩
    . rw [e,List.filter_cons_of_pos (by simp [ht])];simp
    . exact a3.imp id fun ⟨x,hx,b⟩=>⟨x,.tail _ hx,b⟩
    . exact a4.imp id fun ⟨x,hx,b⟩=>⟨x,.tail _ hx,b⟩
    . intro x hx hxt;rcases al_.1 hx with rfl|hx'
      . exact absurd hxt ht
      . exact a5 x hx' hxt
theorem ad1 {v:Int}:∀{L:List Slot},L.Pairwise (fun a b=>a.f<=b.f)->∀s∈L.dropWhile (fun s=>decide (s.f<v)),v<=s.f:=by
 intro L;induction L with
 |nil=>intro _ s hs;cases hs
 |cons x L ih=>
  intro hp s hs;obtain ⟨h1,h2⟩:=ap_.1 hp;rw [List.dropWhile_cons]at hs;by_cases hx:x.f<v
  . rw [ak_ (by simpa using hx)]at hs;exact ih h2 s hs
  . rw [ah_ (by simpa using hx)]at hs;rcases al_.1 hs with rfl|hs'
    . omega
    . have:=h1 s hs';omega
theorem Zk {v:Int}:∀{L:List Slot},∀s∈L.takeWhile (fun s=>decide (s.f<v)),s.f<v:=by
 intro L;induction L with
 |nil=>intro s hs;cases hs
 |cons x L ih=>
  intro s hs;rw [List.takeWhile_cons]at hs;split at hs
  . rename_i h;rcases al_.1 hs with rfl|hs'
    . simpa using h
    . exact ih s hs'
  . cases hs
theorem Cn {out:List Slot} {x s:Slot}:s∈Bo out x↔s=x\/s∈out:=by
 unfold Bo;conv=>rhs;rw [<- bm_ (p:=fun s=>decide (s.f<x.f)) (l:=out)]
 simp only [ao_,al_];constructor
 . rintro (h|h|h)
   . exact .inr (.inl h)
   . exact .inl h
   . exact .inr (.inr h)
 . rintro (h|h|h)
   . exact .inr (.inl h)
   . exact .inl h
   . exact .inr (.inr h)
theorem Oj {L:List Slot} (g:L.Pairwise sepS) (hl:∀s∈L,s.f<s.t):L.Pairwise (fun a b=>a.f<=b.f):=by
 induction L with
 |nil=>exact .nil
 |cons s L ih=>obtain ⟨h1,h2⟩:=ap_.1 g;refine ap_.2 ⟨fun x hx=>?_,ih h2 fun x hx=>hl x (.tail _ hx)⟩;have:=(h1 x hx).1;have:=hl s (.head _);omega
theorem aq5 {out:List Slot} {x:Slot} (hp:out.Pairwise sepS) (hl:∀s∈out,s.f<s.t) (hx:x.f<x.t) (h:∀o∈out,sepS o x\/sepS x o):(Bo out x).Pairwise sepS:=by
 unfold Bo;have hs:=Oj hp hl;have e:=bm_ (p:=fun s=>decide (s.f<x.f)) (l:=out);have hA:∀a∈out.takeWhile (fun s=>decide (s.f<x.f)),a∈out:=fun a ha=>by rw [<- e];exact aZ_ _ ha
 have hB:∀a∈out.dropWhile (fun s=>decide (s.f<x.f)),a∈out:=fun a ha=>by rw [<- e];exact a7_ _ ha
 rw [<- e]at hp;obtain ⟨p1,p2,p3⟩:=bd_.1 hp;refine bd_.2 ⟨p1,ap_.2 ⟨fun b hb=>?_,p2⟩,fun a ha b hb=>?_⟩
 . rcases h b (hB b hb)with h1|h1
   . have:=ad1 hs b hb;have:=hl b (hB b hb);have:=h1.1;omega
   . exact h1
 . rcases al_.1 hb with rfl|hb'
   . rcases h a (hA a ha)with h1|h1
     . exact h1
     . have:=Zk a ha;have:=h1.1;omega
   . exact p3 a ha b hb'
theorem Uz {L:List Slot} {r f t:Int} (g:Good L) (h0:0<=f) (h1:f<t) (h2:t<=FV) (hr:0<=r) (hf:l8 L r f t=true):
 Good (putL L r f t)/\(∀r' x,has (putL L r f t) r' x↔has L r' x\/(r'=r/\f<=x/\x<t))/\∃s∈putL L r f t,s.r=r/\s.f<=f/\t<=s.t:=by
 have hl:∀s∈L,s.f<s.t:=fun s hs=>(g.ok s hs).2.1;have hfree:=Br.1 hf;obtain ⟨f',t',e,a1,a2,a3,a4,a5⟩:=Dr (r:=r) (f:=f) (t:=t) (out:=[]) g.apart hl h1;rw [a8_]at e;unfold putL;rw [e];simp only;have hm:∀s,s∈(L.filter fun s => !j9 r f t s)↔s∈L/\¬j9 r f t s=true:=fun s=>by rw [bF_];simp
 have hsep:∀o∈(L.filter fun s => !j9 r f t s),sepS o ⟨f',t',r⟩\/sepS ⟨f',t',r⟩ o:=by
  intro o ho;obtain ⟨o1,o2⟩:=(hm o).1 ho;rw [nl]at o2;have ol:=hl o o1;by_cases hor:o.r=r
  . by_cases hot:o.f<=t
    . have hof:o.t<f:=by
       by_cases hh:f<=o.t
       . exact absurd ⟨hor,hot,hh⟩ o2
       . omega
      left;rcases a3 with a3|⟨s,hs,b1,b2⟩
      . exact ⟨by show o.t<=f';omega,fun hh=>by have:o.t=f':=hh;omega⟩
      . obtain ⟨c1,c2,c3⟩:=nl.1 b1;rcases Q9 g.apart o1 hs with rfl|d|d
        . omega
        . have:o.t≠s.f:=fun hh=>d.2 hh (by rw [hor,c1]);exact ⟨by have:=d.1;show o.t<=f';omega,fun hh=>by have:o.t=f':=hh;omega⟩
        . have:=d.1;omega
    . right;rcases a4 with a4|⟨s,hs,b1,b2⟩
      . exact ⟨by show t'<=o.f;omega,fun hh=>by have:t'=o.f:=hh;omega⟩
      . obtain ⟨c1,c2,c3⟩:=nl.1 b1;have sl:=hl s hs;rcases Q9 g.apart o1 hs with rfl|d|d
        . omega
        . have:=d.1;omega
        . have:s.t≠o.f:=fun hh=>d.2 hh (by rw [hor,c1]);exact ⟨by have:=d.1;show t'<=o.f;omega,fun hh=>by have:t'=o.f:=hh;omega⟩
  . rcases hfree o o1 hor with hh|hh
    . right;refine ⟨?_,fun _=>Ne.symm hor⟩;show t'<=o.f;rcases a4 with a4|⟨s,hs,b1,b2⟩
      . omega
      . obtain ⟨c1,c2,c3⟩:=nl.1 b1;have sl:=hl s hs;rcases Q9 g.apart o1 hs with rfl|d|d
        . exact absurd c1 hor
        . have:=d.1;omega
        . have:=d.1;omega
    . left;refine ⟨?_,fun _=>hor⟩;show o.t<=f';rcases a3 with a3|⟨s,hs,b1,b2⟩
      . omega
      . obtain ⟨c1,c2,c3⟩:=nl.1 b1;rcases Q9 g.apart o1 hs with rfl|d|d
        . exact absurd c1 hor
        . have:=d.1;omega
        . have:=d.1;omega
 have hf0:0<=f':=by
  rcases a3 with a3|⟨s,hs,_,b2⟩
  . omega
  . have:=(g.ok s hs).1;omega
 have ht0:t'<=FV:=by
  rcases a4 with a4|⟨s,hs,_,b2⟩
  . omega
  . have:=(g.ok s hs).2.2.1;omega
 refine ⟨⟨fun s hs=>?_,aq5 (g.apart.filter _) (fun s hs=>hl s ((hm s).1 hs).1) (by show f'<t';omega) hsep⟩,fun r' x=>⟨?_,?_⟩,⟨f',t',r⟩,Cn.2 (.inl rfl),rfl,a1,a2⟩
 . rcases Cn.1 hs with rfl|hs'
   . exact ⟨hf0,by show f'<t';omega,ht0,hr⟩
   . exact g.ok s ((hm s).1 hs').1
 . rintro ⟨s,hs,rfl,e1,e2⟩;rcases Cn.1 hs with rfl|hs'
   . simp only at e1 e2 ⊢;by_cases q1:x<f
     . rcases a3 with a3|⟨s,hs,b1,b2⟩
       . omega
       . obtain ⟨c1,c2,c3⟩:=nl.1 b1;exact .inl ⟨s,hs,c1,by omega,by omega⟩
     . by_cases q2:x<t
       . exact .inr ⟨by simp,by omega,q2⟩
       . rcases a4 with a4|⟨s,hs,b1,b2⟩
         . omega
         . obtain ⟨c1,c2,c3⟩:=nl.1 b1;exact .inl ⟨s,hs,c1,by omega,by omega⟩
   . exact .inl ⟨s,((hm s).1 hs').1,rfl,e1,e2⟩
 . rintro (⟨s,hs,rfl,e1,e2⟩|⟨rfl,e1,e2⟩)
   . by_cases q:j9 r f t s=true
     . have:=a5 s hs q;exact ⟨⟨f',t',r⟩,Cn.2 (.inl rfl),(nl.1 q).1.symm,by show f'<=x;omega,by show x<t';omega⟩
     . exact ⟨s,Cn.2 (.inr ((hm s).2 ⟨hs,q⟩)),rfl,e1,e2⟩
   . exact ⟨⟨f',t',r'⟩,Cn.2 (.inl rfl),rfl,by show f'<=x;omega,by show x<t';omega⟩
theorem Dt {s:Slot} {L:List Slot} (g:Good (s::L)) {r x:Int} (h:has L r x):s.t<=x/\∃u∈L,u.r=r/\u.f<=x/\x<u.t/\sepS s u:=by obtain ⟨u,hu,e1,e2,e3⟩:=h;have:=g.head u hu;exact ⟨by have:=this.1;omega,u,hu,e1,e2,e3,this⟩
theorem rq {s:Slot} {L:List Slot} {r x:Int}:has (s::L) r x↔(s.r=r/\s.f<=x/\x<s.t)\/has L r x:=by unfold has;simp
theorem aA5:∀{L M:List Slot},Good L->Good M->(∀r x,has L r x↔has M r x)->L=M:=by
 intro L;induction L with
 |nil=>
  intro M _ gM h;cases M with
  |nil=>rfl
  |cons s M=>have ok:=gM.ok s (.head _);obtain ⟨u,hu,_⟩:=(h s.r s.f).2 ⟨s,.head _,rfl,by omega,ok.2.1⟩;cases hu
 |cons s L ih=>
  intro M gL gM h;have okL:=gL.ok s (.head _);cases M with
  |nil=>obtain ⟨u,hu,_⟩:=(h s.r s.f).1 ⟨s,.head _,rfl,by omega,okL.2.1⟩;cases hu
  |cons u M=>
   have okM:=gM.ok u (.head _);have hs:has (u::M) s.r s.f:=(h s.r s.f).1 ⟨s,.head _,rfl,by omega,okL.2.1⟩;have hu:has (s::L) u.r u.f:=(h u.r u.f).2 ⟨u,.head _,rfl,by omega,okM.2.1⟩
   have ef:s.f=u.f:=by
    have a:u.f<=s.f:=by
     rcases rq.1 hs with ⟨_,h1,_⟩|h1
     . exact h1
     . have:=(Dt gM h1).1;have:=okM.2.1;omega
    have b:s.f<=u.f:=by
     rcases rq.1 hu with ⟨_,h1,_⟩|h1
     . exact h1
     . have:=(Dt gL h1).1;have:=okL.2.1;omega
    omega
   have er:s.r=u.r:=by
    rcases rq.1 hs with ⟨h1,_,_⟩|h1
    . exact h1.symm
    . have:=(Dt gM h1).1;have:=okM.2.1;omega
   have et:s.t=u.t:=by
    by_cases q1:s.t<u.t
    . exfalso;have h2:has (s::L) u.r s.t:=(h u.r s.t).2 ⟨u,.head _,rfl,by have:=okL.2.1;omega,q1⟩;rcases rq.1 h2 with ⟨_,_,h3⟩|h3
      . omega
      . obtain ⟨h4,v,_,e1,e2,e3,e4⟩:=Dt gL h3;exact e4.2 (by have:=e4.1;omega) (by rw [er,e1])
    . by_cases q2:u.t<s.t
      . exfalso;have h2:has (u::M) s.r u.t:=(h s.r u.t).1 ⟨s,.head _,rfl,by have:=okM.2.1;omega,q2⟩;rcases rq.1 h2 with ⟨_,_,h3⟩|h3
        . omega
        . obtain ⟨h4,v,_,e1,e2,e3,e4⟩:=Dt gM h3;exact e4.2 (by have:=e4.1;omega) (by rw [<- er,e1])
      . omega
   have esu:s=u:=by obtain ⟨a,b,c⟩:=s;obtain ⟨a',b',c'⟩:=u;simp only at ef er et;rw [ef,er,et]
   subst esu;rw [ih gL.tail gM.tail fun r x=>?_];constructor
   . intro h1;rcases rq.1 ((h r x).1 (rq.2 (.inr h1)))with h2|h2
     . have:=(Dt gL h1).1;omega
     . exact h2
   . intro h1;rcases rq.1 ((h r x).2 (rq.2 (.inr h1)))with h2|h2
     . have:=(Dt gM h1).1;omega
     . exact h2
def ic (r:Int):List Slot->Int->List (Int × Int)
 |[],a=>if a<FV then [(a,FV)]else []
 |s::L,a=>if s.r=r then ic r L a else if s.f>a then (a,s.f)::ic r L s.t else ic r L s.t
def Ii (L:List Slot) (r:Int):List (Int × Int):=ic r L 0
def others (L:List Slot) (r:Int):List Slot:=L.filter fun s => !(s.r==r)
theorem Ig {L:List Slot} (g:Good L) (p:Slot->Bool):Good (L.filter p):=⟨fun s hs=>g.ok s (bF_.1 hs).1,g.apart.filter _⟩
theorem K5 {L:List Slot} {r r' x:Int}:has (others L r) r' x↔has L r' x/\r'≠r:=by
 unfold has others;constructor
 . rintro ⟨s,hs,rfl,e⟩;obtain ⟨h1,h2⟩:=bF_.1 hs;exact ⟨⟨s,h1,rfl,e⟩,by simpa using h2⟩
 . rintro ⟨⟨s,hs,rfl,e⟩,hne⟩;exact ⟨s,bF_.2 ⟨hs,by simpa using hne⟩,rfl,e⟩
theorem Xp {L:List Slot} {r f t:Int} (g:Good L) (h0:0<=f) (h1:f<t) (h2:t<=FV) (hr:0<=r) (hf:l8 L r f t=true):others (putL L r f t) r=others L r:=by
 obtain ⟨g1,h,_⟩:=Uz g h0 h1 h2 hr hf;refine aA5 (Ig g1 _) (Ig g _) fun r' x=>?_;rw [K5,K5,h];constructor
 . rintro ⟨h1|h1,h2⟩
   . exact ⟨h1,h2⟩
   . exact absurd h1.1 h2
 . rintro ⟨h1,h2⟩;exact ⟨.inl h1,h2⟩
theorem Ij {L:List Slot} {r f t:Int}:l8 (others L r) r f t=l8 L r f t:=by
 rw [a6_,Br,Br];unfold others;constructor
 . intro h s hs hr;exact h s (bF_.2 ⟨hs,by simpa using hr⟩) hr
 . intro h s hs hr;exact h s (bF_.1 hs).1 hr
theorem aB1 {L:List Slot} {r f t f2 t2:Int} (g:Good L) (h0:0<=f) (h1:f<t) (h2:t<=FV) (hr:0<=r) (hf:l8 L r f t=true):l8 (putL L r f t) r f2 t2=l8 L r f2 t2:=by rw [<- Ij,Xp g h0 h1 h2 hr hf,Ij]
theorem Pd {r:Int}:∀{L:List Slot} {a:Int},Good L->0<=a->a<=FV->(∀s∈L,a<=s.f\/s.r=r)->
 (ic r L a).Pairwise (fun x y=>x.2<y.1)/\∀g∈ic r L a,a<=g.1/\g.1<g.2/\g.2<=FV/\(g.1=a\/∃s∈L,s.r≠r/\s.t=g.1)/\(g.2=FV\/∃s∈L,s.r≠r/\s.f=g.2)/\(∀s∈L,s.r≠r->g.2<=s.f\/s.t<=g.1):=by
 intro L;induction L with
 |nil=>
  intro a _ h0 h1 _;unfold ic;split
  . rename_i h;refine ⟨by simp,fun g hg=>?_⟩;rw [aE_]at hg;subst hg;exact ⟨by simp,h,by simp,.inl rfl,.inl rfl,fun _ h=>by cases h⟩
  . exact ⟨.nil,fun _ h=>by cases h⟩
 |cons s L ih=>
  intro a gd h0 h1 hs;have ok:=gd.ok s (.head _);unfold ic;by_cases hr:s.r=r
  . rw [ak_ hr];obtain ⟨p1,p2⟩:=ih gd.tail h0 h1 fun x hx=>hs x (.tail _ hx);refine ⟨p1,fun g hg=>?_⟩;obtain ⟨q1,q2,q3,q4,q5,q6⟩:=p2 g hg;refine ⟨q1,q2,q3,q4.imp id fun ⟨x,hx,b⟩=>⟨x,.tail _ hx,b⟩,q5.imp id fun ⟨x,hx,b⟩=>⟨x,.tail _ hx,b⟩,fun x hx hxr=>?_⟩;rcases al_.1 hx with rfl|hx'
    . exact absurd hr hxr
    . exact q6 x hx' hxr
  . rw [ah_ hr];obtain ⟨p1,p2⟩:=ih (a:=s.t) gd.tail (by have:=ok.1;have:=ok.2.1;omega) ok.2.2.1 fun x hx => .inl (gd.head x hx).1;have hsa:a<=s.f:=(hs s (.head _)).resolve_right hr
    have lift:∀g∈ic r L s.t,a<=g.1/\g.1<g.2/\g.2<=FV/\(g.1=a\/∃u∈s::L,u.r≠r/\u.t=g.1)/\(g.2=FV\/∃u∈s::L,u.r≠r/\u.f=g.2)/\(∀u∈s::L,u.r≠r->g.2<=u.f\/u.t<=g.1):=fun g hg=>by
     obtain ⟨q1,q2,q3,q4,q5,q6⟩:=p2 g hg;have:=ok.2.1;refine ⟨by omega,q2,q3,.inr ?_,q5.imp id fun ⟨x,hx,b⟩=>⟨x,.tail _ hx,b⟩,fun x hx hxr=>?_⟩
     . rcases q4 with q4|⟨x,hx,b⟩
       . exact ⟨s,.head _,hr,q4.symm⟩
       . exact ⟨x,.tail _ hx,b⟩
     . rcases al_.1 hx with rfl|hx'
       . exact .inr q1
       . exact q6 x hx' hxr
    by_cases hgt:s.f>a
    . rw [ak_ hgt];refine ⟨ap_.2 ⟨fun g hg=>?_,p1⟩,fun g hg=>?_⟩
      . have:=(p2 g hg).1;have:=ok.2.1;show s.f<g.1;omega
      . rcases al_.1 hg with rfl|hg'
        . refine ⟨by simp,hgt,by have:=ok.2.1;have:=ok.2.2.1;show s.f<=FV;omega,.inl rfl,.inr ⟨s,.head _,hr,rfl⟩,fun x hx hxr=>?_⟩;rcases al_.1 hx with rfl|hx'
          . exact .inl (by simp)
          . have:=(gd.head x hx').1;have:=ok.2.1;exact .inl (by show s.f<=x.f;omega)
        . exact lift g hg'
    . rw [ah_ hgt];exact ⟨p1,lift⟩
theorem ap4 {r:Int}:∀{L:List Slot} {f t:Int} {out:List Slot},(m9 r L f t out).2.2.length<=out.length+L.length:=by
 intro L;induction L with
 |nil=>intro f t out;simp [m9]
 |cons s L ih=>
  intro f t out;unfold m9;split
  . have:=ih (f:=min f s.f) (t:=max t s.t) (out:=out);simp;omega
  . have:=ih (f:=f) (t:=t) (out:=out++[s]);simp at this ⊢;omega
theorem ins_len {out:List Slot} {x:Slot}:(Bo out x).length=out.length+1:=by have e:=congrArg List.length (bm_ (p:=fun s=>decide (s.f<x.f)) (l:=out));rw [ae_]at e;unfold Bo;rw [ae_,an_];omega
theorem put_len {L:List Slot} {r f t:Int}:(putL L r f t).length<=L.length+1:=by unfold putL;rw [ins_len];have:=ap4 (r:=r) (L:=L) (f:=f) (t:=t) (out:=[]);simp at this;omega
theorem aA6 {r:Int}:∀{L:List Slot} {a:Int},(ic r L a).length<=L.length+1:=by
 intro L;induction L with
 |nil=>intro a;unfold ic;split<;>simp
 |cons s L ih=>
  intro a;unfold ic;split
  . have:=ih (a:=a);simp;omega
  . split
    . have:=ih (a:=s.t);simp;omega
    . have:=ih (a:=s.t);simp;omega
abbrev Tb:=List (List Slot)
structure Want where
 c:Int
 f:Int
 t:Int
def rowT (T:Tb) (c:Int):List Slot:=if 0<=c then T.getD c.toNat []else []
def inT (n:Nat) (c:Int):Bool:=decide (0<=c)&&decide (c<n)
def oc (n:Nat) (w:Want):Bool:=inT n w.c&&(decide (0<=w.f)&&(decide (w.f<w.t)&&decide (w.t<=FV)))
def uk (T:Tb) (r:Int) (w:Want):Bool:=l8 (rowT T w.c) r w.f w.t
def putW (r:Int) (T:Tb) (w:Want):Tb:=T.set w.c.toNat (putL (rowT T w.c) r w.f w.t)
def wh (r:Int) (T:Tb) (l:List Want):Tb:=l.foldl (putW r) T
def lj (T:Tb) (r:Int) (l:List Want):Int × Tb:=
 if r<0 then (1,T)else if l.all (oc T.length)=true then (if l.all (uk T r)=true then (0,wh r T l)else (18,T))else (1,T)
def i7 (T:Tb):Prop:=∀L∈T,Good L
def Few (T:Tb) (b:Nat):Prop:=∀L∈T,L.length<=b
theorem uu {n:Nat} {c:Int}:inT n c=true↔0<=c/\c<n:=by unfold inT;simp
theorem sd {n:Nat} {w:Want}:oc n w=true↔(0<=w.c/\w.c<n)/\0<=w.f/\w.f<w.t/\w.t<=FV:=by unfold oc;rw [ag_,uu];simp
theorem pm {T:Tb} {c:Int} (h0:0<=c) (h1:c<T.length):T[c.toNat]?=some (rowT T c):=by unfold rowT;rw [ak_ h0,aG_,aa_ (by omega)];rfl
theorem A3 {T:Tb} {c:Int} (h:¬(0<=c/\c<T.length)):rowT T c=[]:=by
 unfold rowT;split
 . rename_i h0;rw [aG_,a4_ (by omega)];rfl
 . rfl
theorem sf {T:Tb} (g:i7 T) (c:Int):Good (rowT T c):=by
 by_cases h:0<=c/\c<T.length
 . exact g _ (ab_ (pm h.1 h.2))
 . rw [A3 h];exact Good.nil
theorem vh {T:Tb} {b:Nat} (g:Few T b) (c:Int):(rowT T c).length<=b:=by
 by_cases h:0<=c/\c<T.length
 . exact g _ (ab_ (pm h.1 h.2))
 . rw [A3 h];exact au_ _
theorem aw7 {T:Tb} {c d:Int} {L:List Slot} (h0:0<=c) (h1:c<T.length):rowT (T.set c.toNat L) d=if d=c then L else rowT T d:=by
 by_cases h:0<=d/\d<T.length
 . have e:=pm (T:=T.set c.toNat L) (c:=d) h.1 (by rw [aX_];exact h.2);by_cases hdc:d=c
   . subst hdc;rw [ak_ rfl];rw [aB_ (by omega)]at e;exact (Option.some.inj e).symm
   . rw [ah_ hdc];rw [ax_ (by omega),pm h.1 h.2]at e;exact (Option.some.inj e).symm
 . rw [A3 (by rw [aX_];exact h),ah_ (by omega),A3 h]
theorem Z6 {T:Tb} {k:Nat} {L M:List Slot} (h:M∈T.set k L):M=L\/M∈T:=by
 rcases bb_ h with h|h
 . exact .inr h
 . exact .inl h
theorem U0 {r:Int} {T:Tb} {w:Want}:(putW r T w).length=T.length:=by unfold putW;rw [aX_]
theorem ax3 {r:Int} {T:Tb} {w:Want} {b:Nat} (hr:0<=r) (g:i7 T) (fw:Few T b) (hv:oc T.length w=true) (hf:uk T r w=true):i7 (putW r T w)/\Few (putW r T w) (b+1)/\∀u,uk (putW r T w) r u=uk T r u:=by
 obtain ⟨⟨c0,c1⟩,f0,f1,f2⟩:=sd.1 hv;refine ⟨fun M hM=>?_,fun M hM=>?_,fun u=>?_⟩
 . rcases Z6 hM with rfl|h
   . exact (Uz (sf g _) f0 f1 f2 hr hf).1
   . exact g M h
 . rcases Z6 hM with rfl|h
   . exact bo_ put_len (Nat.succ_le_succ (vh fw _))
   . exact Nat.le_succ_of_le (fw M h)
 . unfold uk putW;rw [aw7 c0 c1];split
   . rename_i e;rw [aB1 (sf g _) f0 f1 f2 hr hf,e]
   . rfl
theorem Km {r:Int} (hr:0<=r):∀{l:List Want} {T:Tb} {b:Nat},i7 T->Few T b->l.all (oc T.length)=true->l.all (uk T r)=true->
 i7 (wh r T l)/\Few (wh r T l) (b+l.length)/\(wh r T l).length=T.length/\∀u,uk (wh r T l) r u=uk T r u:=by
 intro l;induction l with
 |nil=>intro T b g f _ _;exact ⟨g,f,rfl,fun _=>rfl⟩
 |cons w l ih=>
  intro T b g f hv hf;rw [List.all_cons,ag_]at hv hf;obtain ⟨g1,f1,k1⟩:=ax3 hr g f hv.1 hf.1;have e1:(l.all (uk (putW r T w) r))=l.all (uk T r):=by congr 1;funext u;exact k1 u
  obtain ⟨g2,f2,l2,k2⟩:=ih (T:=putW r T w) g1 f1 (by rw [U0];exact hv.2) (by rw [e1];exact hf.2);refine ⟨g2,fun M hM=>?_,l2.trans U0,fun u=>(k2 u).trans (k1 u)⟩;have:=f2 M hM;rw [an_];omega
theorem as7 {T:Tb} {r:Int} {l:List Want} {b:Nat} (g:i7 T) (f:Few T b):i7 (lj T r l).2/\Few (lj T r l).2 (b+l.length)/\(lj T r l).2.length=T.length:=by
 unfold lj;have few:Few T (b+l.length):=fun M hM=>bo_ (f M hM) (cm_ _ _);split
 . exact ⟨g,few,rfl⟩
 . rename_i hr;split
   . rename_i hv;split
     . rename_i hf;obtain ⟨g1,f1,l1,_⟩:=Km (by omega) g f hv hf;exact ⟨g1,f1,l1⟩
     . exact ⟨g,few,rfl⟩
   . exact ⟨g,few,rfl⟩
def cutI (a:Int):Int:=max 0 (min a FV)
def sumI (a b:Int):Int:=if cutI a>FV-cutI b then FV else cutI a+cutI b
end Go.Proofs.Resv
end
section
namespace Go.Proofs.Srch
open Go.Proofs.Resv
section
abbrev Sp:=Int × Int
structure Env (P M:Type) where
 num:P->Int
 ok:P->Prop
 spans:P->List Sp
 ways:P->List (M × P × Int × List Sp)
 stamp:M->Int->Int->M
structure St (P M:Type) where
 p:P
 i:Nat
 s:Sp
 a:Int
 mv:M
 b:Int
 dn:Bool
variable {P M:Type} [DecidableEq P]
def insB (t:Int) (x:Sp):Bool:=decide (x.1<=t)&&decide (t<x.2)
def inside (l:List Sp) (t:Int):Option Nat:=l.findIdx? (insB t)
def Vr (p:P) (i:Nat) (x:St P M):Bool:=decide (x.p=p)&&(x.i==i)
def key (S:List (St P M)) (p:P) (i:Nat):Option Nat:=S.findIdx? (Vr p i)
def Ai (S:List (St P M)) (p:P) (i:Nat) (s:Sp) (t:Int) (m:M) (b:Int):List (St P M):=match key S p i with
 |some k=>(match S[k]? with
  |some x=>if t<x.a then S.set k { x with a:=t,mv:=m,b:=b }else S
  |none=>S)
 |none=>S++[⟨p,i,s,t,m,b,false⟩]
variable (E:Env P M)
def note (S:List (St P M)) (p:P) (t:Int) (m:M) (b:Int):List (St P M):=match inside (E.spans p) t with
 |some i=>Ai S p i ((E.spans p).getD i (0,0)) t m b
 |none=>S
def ltK (x y:St P M):Bool:=decide (x.a<y.a\/(x.a=y.a/\(E.num x.p<E.num y.p\/(E.num x.p=E.num y.p/\x.i<y.i))))
def Bm:List (St P M)->Nat->Option (Nat × St P M)->Option (Nat × St P M)
 |[],_,b=>b
 |x::L,k,b=>if x.dn=true then Bm L (k+1) b else (match b with
  |none=>Bm L (k+1) (some (k,x))
  |some (j,y)=>if ltK E x y=true then Bm L (k+1) (some (k,x))else Bm L (k+1) (some (j,y)))
def least (S:List (St P M)):Option (Nat × St P M):=Bm E S 0 none
def ja (x:St P M) (k:Int) (w:M × P × Int × List Sp) (S:List (St P M)) (s:Sp):List (St P M):=
 if s.1<x.s.1\/s.2>x.s.2 then S
 else if sumI (max x.a s.1) w.2.2.1>s.2\/sumI (max x.a s.1) w.2.2.1>=FV then S
 else note E S w.2.1 (sumI (max x.a s.1) w.2.2.1) (E.stamp w.1 (max x.a s.1) (sumI (max x.a s.1) w.2.2.1)) k
def vm (x:St P M) (k:Int) (S:List (St P M)) (w:M × P × Int × List Sp):List (St P M):=w.2.2.2.foldl (ja E x k w) S
def Bq (x:St P M) (k:Int) (S:List (St P M)):List (St P M):=(E.ways x.p).foldl (vm E x k) S
def path (S:List (St P M)):Nat->Nat->List M->List M
 |0,_,acc=>acc
 |f+1,k,acc=>match S[k]? with
  |none=>acc
  |some x=>if x.b<0 then acc else path S f x.b.toNat (x.mv::acc)
inductive Res (M:Type) where
 |ok (l:List M)
 |no (e:Int)
def take (S:List (St P M)) (k:Nat) (x:St P M):List (St P M):=S.set k { x with dn:=true }
def run (goal:P->Sp->Bool):Nat->List (St P M)->Res M
 |0,_ => .no 7
 |n+1,S=>match least E S with
  |none => .no 6
  |some (k,x)=>if goal x.p x.s=true then .ok (path (take S k x) S.length k [])else run goal n (Bq E { x with dn:=true } k (take S k x))
def find (goal:P->Sp->Bool) (p:P) (t:Int) (z:M) (n:Nat):Res M:=match inside (E.spans p) t with
 |none => .no 18
 |some _=>run E goal n (note E [] p t z (-1))
def Lk (y x:St P M):Prop:=∃w∈E.ways y.p,∃s∈w.2.2.2,y.s.1<=s.1/\s.2<=y.s.2/\x.p=w.2.1/\x.a=sumI (max y.a s.1) w.2.2.1/\x.a<=s.2/\x.a<FV/\x.mv=E.stamp w.1 (max y.a s.1) x.a
structure rt:Prop where
 lasts:∀p,∀w∈E.ways p,1<=w.2.2.1/\w.2.2.1<=FV
 pos:∀p,∀s∈E.spans p,0<=s.1/\s.1<s.2/\s.2<=FV
 to:∀p,E.ok p->∀w∈E.ways p,E.ok w.2.1
 inj:∀p q,E.ok p->E.ok q->E.num p=E.num q->p=q
structure Inv (p0:P) (t0:Int) (z:M) (lo:Int) (S:List (St P M)):Prop where
 keys:S.Pairwise fun x y=>¬(x.p=y.p/\x.i=y.i)
 at_:∀x∈S,(E.spans x.p)[x.i]?=some x.s/\x.s.1<=x.a/\x.a<x.s.2
 dn:∀x∈S,x.dn=true->x.a<=lo
 op:∀x∈S,x.dn=false->lo<=x.a
 ok:∀x∈S,E.ok x.p
 by_:∀x∈S,(x.b = -1/\x.p=p0/\x.a=t0/\x.mv=z)\/∃y,0<=x.b/\S[x.b.toNat]?=some y/\y.dn=true/\y.a<x.a/\Lk E y x
section
variable {E}
theorem wo {l:List Sp} {t:Int} {i:Nat} (h:inside l t=some i):∃s,l[i]?=some s/\s.1<=t/\t<s.2/\i<l.length:=by unfold inside at h;rw [List.findIdx?_eq_some_iff_getElem]at h;obtain ⟨hi,h1,h2⟩:=h;refine ⟨l[i],aa_ hi,?_⟩;simp [insB]at h1;exact ⟨h1.1,h1.2,hi⟩
theorem vl {S:List (St P M)} {p:P} {i k:Nat} (h:key S p i=some k):∃x,S[k]?=some x/\x.p=p/\x.i=i:=by unfold key at h;rw [List.findIdx?_eq_some_iff_getElem]at h;obtain ⟨hi,h1,h2⟩:=h;refine ⟨S[k],aa_ hi,?_⟩;simpa [Vr]using h1
theorem Vl {S:List (St P M)} {p:P} {i:Nat} (h:key S p i=none):∀x∈S,¬(x.p=p/\x.i=i):=by unfold key at h;rw [List.findIdx?_eq_none_iff]at h;intro x hx;have:=h x hx;simpa [Vr]using this
theorem Inv.uniq {p0:P} {t0 lo:Int} {z:M} {S:List (St P M)} (v:Inv E p0 t0 z lo S) {j k:Nat} {x y:St P M} (hj:S[j]?=some x) (hk:S[k]?=some y) (e1:x.p=y.p) (e2:x.i=y.i):j=k:=by
 obtain ⟨hj',rfl⟩:=ad_.1 hj;obtain ⟨hk',rfl⟩:=ad_.1 hk;have:=aT_.1 v.keys;rcases Nat.lt_trichotomy j k with h|h|h
 . exact absurd ⟨e1,e2⟩ (this j k hj' hk' h)
 . exact h
 . exact absurd ⟨e1.symm,e2.symm⟩ (this k j hk' hj' h)
theorem aA1 {p0:P} {t0 lo:Int} {z:M} {S:List (St P M)} (v:Inv E p0 t0 z lo S) {k:Nat} {x:St P M} (hk:S[k]?=some x):key S x.p x.i=some k:=by
 cases h:key S x.p x.i with
 |none=>exact absurd ⟨rfl,rfl⟩ (Vl h x (ab_ hk))
 |some j=>obtain ⟨y,hy,e1,e2⟩:=vl h;rw [v.uniq hy hk e1 e2]
theorem Ks {p0:P} {t0 lo:Int} {z:M} {S:List (St P M)} (v:Inv E p0 t0 z lo S) {p:P} {t:Int} {m:M} {b:Int} (hlo:lo<=t) (hok:E.ok p)
 (hb:(b = -1/\p=p0/\t=t0/\m=z)\/∃y,0<=b/\S[b.toNat]?=some y/\y.dn=true/\y.a<t/\∀i s,Lk E y ⟨p,i,s,t,m,b,false⟩):Inv E p0 t0 z lo (note E S p t m b):=by
 unfold note;cases hi:inside (E.spans p) t with
 |none=>exact v
 |some i=>
  obtain ⟨s,hs,h1,h2,h3⟩:=wo hi;simp only;unfold Ai;cases hk:key S p i with
  |none=>
   simp only;have hn:=Vl hk;have hget:(E.spans p).getD i (0,0)=s:=by rw [aG_,hs];rfl
   rw [hget];have up:∀{j:Nat} {y:St P M},S[j]?=some y->(S++[(⟨p,i,s,t,m,b,false⟩:St P M)])[j]?=some y:=fun {j y} h=>by rw [aq_ (ad_.1 h).1];exact h
   refine ⟨?_,?_,?_,?_,?_,?_⟩
   . rw [bd_];refine ⟨v.keys,bR_ _ _,?_⟩;intro x hx y hy;rw [aE_]at hy;subst hy;exact hn x hx
   . intro x hx;rcases ao_.1 hx with hx|hx
     . exact v.at_ x hx
     . rw [aE_]at hx;subst hx;exact ⟨hs,h1,h2⟩
   . intro x hx hd;rcases ao_.1 hx with hx|hx
     . exact v.dn x hx hd
     . rw [aE_]at hx;subst hx;cases hd
   . intro x hx hd;rcases ao_.1 hx with hx|hx
     . exact v.op x hx hd
     . rw [aE_]at hx;subst hx;exact hlo
   . intro x hx;rcases ao_.1 hx with hx|hx
     . exact v.ok x hx
     . rw [aE_]at hx;subst hx;exact hok
   . intro x hx;rcases ao_.1 hx with hx|hx
     . rcases v.by_ x hx with h|⟨y,e1,e2,e3⟩
       . exact .inl h
       . exact .inr ⟨y,e1,up e2,e3⟩
     . rw [aE_]at hx;subst hx;rcases hb with h|⟨y,e1,e2,e3,e4,e5⟩
       . exact .inl h
       . exact .inr ⟨y,e1,up e2,e3,e4,e5 i s⟩
  |some k=>
   obtain ⟨x,hx,e1,e2⟩:=vl hk;simp only [hx];split
   . rename_i hlt;have hkl:k<S.length:=(ad_.1 hx).1;have hxm:=ab_ hx
     have hnd:x.dn=false:=by
      cases hd:x.dn with
      |false=>rfl
      |true=>have:=v.dn x hxm hd;omega
     have hxs:x.s=s:=by have:=(v.at_ x hxm).1;rw [e1,e2,hs]at this;exact (Option.some.inj this).symm
     have memset:∀y,y∈S.set k { x with a:=t,mv:=m,b:=b }->y={ x with a:=t,mv:=m,b:=b }\/y∈S:=fun y hy=>by
      rcases bb_ hy with h|h
      . exact .inr h
      . exact .inl h
     have up:∀{j:Nat} {y:St P M},S[j]?=some y->y.dn=true->(S.set k { x with a:=t,mv:=m,b:=b })[j]?=some y:=fun {j y} h hd=>by
      have hne:j≠k:=fun e=>by subst e;rw [hx]at h;cases h;rw [hnd]at hd;cases hd
      rw [ax_ (Ne.symm hne)];exact h
     refine ⟨?_,?_,?_,?_,?_,?_⟩
     . rw [aT_];intro j l hj hl hjl;simp only [aX_]at hj hl;have hp:=aT_.1 v.keys j l hj hl hjl;have hxe:S[k]=x:=by have:=ad_.1 hx;obtain ⟨_,e⟩:=this;exact e
       rw [bT_,bT_];split
       . rename_i h;subst h;rw [ah_ (by omega)];rw [hxe]at hp;exact hp
       . split
         . rename_i h;subst h;rw [hxe]at hp;exact hp
         . exact hp
     . intro y hy;rcases memset y hy with rfl|hy
       . refine ⟨(v.at_ x hxm).1,?_⟩;simp only [hxs];exact ⟨h1,h2⟩
       . exact v.at_ y hy
     . intro y hy hd;rcases memset y hy with rfl|hy
       . rw [hnd]at hd;cases hd
       . exact v.dn y hy hd
     . intro y hy hd;rcases memset y hy with rfl|hy
       . exact hlo
       . exact v.op y hy hd
     . intro y hy;rcases memset y hy with rfl|hy
       . exact v.ok x hxm
       . exact v.ok y hy
     . intro y hy;rcases memset y hy with rfl|hy
       . rcases hb with ⟨h,h',h'',h3⟩|⟨u,f1,f2,f3,f4,f5⟩
         . exact .inl ⟨h,by simp only [e1,h'],h'',h3⟩
         . refine .inr ⟨u,f1,up f2 f3,f3,f4,?_⟩;have:=f5 i s;unfold Lk at this ⊢;simp only [e1]at this ⊢;exact this
       . rcases v.by_ y hy with h|⟨u,f1,f2,f3,f4,f5⟩
         . exact .inl h
         . exact .inr ⟨u,f1,up f2 f3,f3,f4,f5⟩
   . exact v
theorem ap2 {p0:P} {t0 lo:Int} {z:M} {S:List (St P M)} (v:Inv E p0 t0 z lo S) {p:P} {t:Int} {m:M} {b:Int} (hlo:lo<=t) {j:Nat} {y:St P M} (h:S[j]?=some y) (hd:y.dn=true):(note E S p t m b)[j]?=some y:=by
 unfold note;split
 . unfold Ai;split
   . rename_i k hk;split
     . rename_i x hx;split
       . rename_i hlt;have hne:j≠k:=fun e=>by subst e;rw [hx]at h;cases h;have:=v.dn _ (ab_ hx) hd;omega
         rw [ax_ (Ne.symm hne)];exact h
       . exact h
     . exact h
   . rw [aq_ (ad_.1 h).1];exact h
 . exact h
theorem J7 {a d:Int} (h0:0<=a) (hd:1<=d) (h:sumI a d<FV):a<sumI a d:=by
 unfold sumI cutI FV at*;split at h
 . omega
 . rename_i h2;rw [ah_ h2];omega
theorem J9 (ok:rt E) {p0:P} {t0:Int} {z:M} {S:List (St P M)} {x:St P M} {k:Nat} (v:Inv E p0 t0 z x.a S) (hx:S[k]?=some x) (hd:x.dn=true) (ha:0<=x.a) (hox:E.ok x.p) {w:M × P × Int × List Sp} (hw:w∈E.ways x.p) {s:Sp} (hs:s∈w.2.2.2):
 Inv E p0 t0 z x.a (ja E x k w S s)/\(ja E x k w S s)[k]?=some x:=by
 unfold ja;split
 . exact ⟨v,hx⟩
 . split
   . exact ⟨v,hx⟩
   . rename_i h1 h2;have h3:sumI (max x.a s.1) w.2.2.1<FV:=by omega
     have h4:=J7 (show 0<=max x.a s.1 by omega) (ok.lasts _ w hw).1 h3;refine ⟨Ks v (by omega) (ok.to _ hox w hw) (.inr ⟨x,by omega,by simpa using hx,hd,by omega,fun i s'=>⟨w,hw,s,hs,by omega,by omega,rfl,rfl,by simp only;omega,h3,rfl⟩⟩),ap2 v (by omega) hx hd⟩
theorem Q1 (ok:rt E) {p0:P} {t0:Int} {z:M} {x:St P M} {k:Nat} (hd:x.dn=true) (ha:0<=x.a) (hox:E.ok x.p) {w:M × P × Int × List Sp} (hw:w∈E.ways x.p):∀(l:List Sp) {S:List (St P M)},(∀s∈l,s∈w.2.2.2)->Inv E p0 t0 z x.a S->S[k]?=some x->
 Inv E p0 t0 z x.a (l.foldl (ja E x k w) S)/\(l.foldl (ja E x k w) S)[k]?=some x
 |[],S,_,v,hx=>⟨v,hx⟩
 |s::l,S,hl,v,hx=>by obtain ⟨v1,h1⟩:=J9 ok v hx hd ha hox hw (hl s (.head _));exact Q1 ok hd ha hox hw l (fun s hs=>hl s (.tail _ hs)) v1 h1
theorem Jz (ok:rt E) {p0:P} {t0:Int} {z:M} {x:St P M} {k:Nat} (hd:x.dn=true) (ha:0<=x.a) (hox:E.ok x.p):∀(l:List (M × P × Int × List Sp)) {S:List (St P M)},(∀w∈l,w∈E.ways x.p)->Inv E p0 t0 z x.a S->S[k]?=some x->
 Inv E p0 t0 z x.a (l.foldl (vm E x k) S)/\(l.foldl (vm E x k) S)[k]?=some x
 |[],S,_,v,hx=>⟨v,hx⟩
 |w::l,S,hl,v,hx=>by obtain ⟨v1,h1⟩:=Q1 ok hd ha hox (hl w (.head _)) w.2.2.2 (fun _ h=>h) v hx;exact Jz ok hd ha hox l (fun w hw=>hl w (.tail _ hw)) v1 h1
theorem ap9 {x y u:St P M} (h1:ltK E x y=true) (h2:ltK E y u=true):ltK E x u=true:=by unfold ltK at*;simp only [aw_]at*;omega
theorem Z8 {x:St P M}:ltK E x x=false:=by unfold ltK;simp
theorem ltK_tot {x y:St P M} (h1:ltK E x y=false) (h2:ltK E y x=false):x.a=y.a/\E.num x.p=E.num y.p/\x.i=y.i:=by unfold ltK at*;simp only [aR_]at*;omega
def qt (S:List (St P M)) (n:Nat) (b:Option (Nat × St P M)):Prop:=match b with
 |none=>∀x∈S.take n,x.dn=true
 |some (j,y)=>j<n/\S[j]?=some y/\y.dn=false/\∀x∈S.take n,x.dn=false->ltK E x y=false
theorem ri:∀(L S:List (St P M)) (k:Nat) (b:Option (Nat × St P M)),S.drop k=L->qt (E:=E) S k b->qt (E:=E) S S.length (Bm E L k b)
 |[],S,k,b,hL,h=>by
  have hk:S.length<=k:=by have:=congrArg List.length hL;simp at this;omega
  unfold Bm;unfold qt at*;cases b with
  |none=>simp only at *;rw [am_ hk]at h;rw [bt_];exact h
  |some p=>obtain ⟨j,y⟩:=p;simp only at*;rw [am_ hk]at h;rw [bt_];exact ⟨(ad_.1 h.2.1).1,h.2⟩
 |x::L,S,k,b,hL,h=>by
  have hx:S[k]?=some x:=by
   have:(S.drop k)[0]?=some x:=by rw [hL];rfl
   simpa using this
  have hL':S.drop (k+1)=L:=by rw [<- List.drop_drop,hL];rfl
  have ht:S.take (k+1)=S.take k++[x]:=by rw [aL_,hx];rfl
  unfold Bm;split
  . rename_i hd;refine ri L S (k+1) b hL' ?_;unfold qt at*;cases b with
    |none=>
     simp only at*;intro y hy;rw [ht]at hy;rcases ao_.1 hy with hy|hy
     . exact h y hy
     . rw [aE_]at hy;subst hy;exact hd
    |some p=>
     obtain ⟨j,y⟩:=p;simp only at*;refine ⟨by omega,h.2.1,h.2.2.1,fun u hu hun=>?_⟩;rw [ht]at hu;rcases ao_.1 hu with hu|hu
     . exact h.2.2.2 u hu hun
     . rw [aE_]at hu;subst hu;rw [hd]at hun;cases hun
  . rename_i hd;have hd:x.dn=false:=by simpa using hd
    cases b with
    |none=>
     refine ri L S (k+1) _ hL' ?_;unfold qt at*;simp only at*;refine ⟨by omega,hx,hd,fun u hu hun=>?_⟩;rw [ht]at hu;rcases ao_.1 hu with hu|hu
     . have:=h u hu;rw [hun]at this;cases this
     . rw [aE_]at hu;subst hu;exact Z8
    |some p=>
     obtain ⟨j,y⟩:=p;unfold qt at h;simp only at h ⊢;split
     . rename_i hlt;refine ri L S (k+1) _ hL' ?_;unfold qt;simp only;refine ⟨by omega,hx,hd,fun u hu hun=>?_⟩;rw [ht]at hu;rcases ao_.1 hu with hu|hu
       . have h1:=h.2.2.2 u hu hun;cases h2:ltK E u x with
         |false=>rfl
         |true=>rw [ap9 h2 hlt]at h1;cases h1
       . rw [aE_]at hu;subst hu;exact Z8
     . rename_i hge;refine ri L S (k+1) _ hL' ?_;unfold qt;simp only;refine ⟨by omega,h.2.1,h.2.2.1,fun u hu hun=>?_⟩;rw [ht]at hu;rcases ao_.1 hu with hu|hu
       . exact h.2.2.2 u hu hun
       . rw [aE_]at hu;subst hu;simpa using hge
theorem Kv {S:List (St P M)} (h:least E S=none):∀x∈S,x.dn=true:=by have:=ri (E:=E) S S 0 none rfl (by unfold qt;simp);unfold least at h;rw [h]at this;unfold qt at this;simpa using this
theorem vk {S:List (St P M)} {k:Nat} {y:St P M} (h:least E S=some (k,y)):S[k]?=some y/\y.dn=false/\∀x∈S,x.dn=false->ltK E x y=false:=by have:=ri (E:=E) S S 0 none rfl (by unfold qt;simp);unfold least at h;rw [h]at this;unfold qt at this;simp only [bt_]at this;exact this.2
theorem J3 {p0:P} {t0 lo:Int} {z:M} {S:List (St P M)} (v:Inv E p0 t0 z lo S) {k:Nat} {x:St P M} (h:least E S=some (k,x)):
 Inv E p0 t0 z x.a (take S k x)/\(take S k x)[k]?=some { x with dn:=true }:=by
 obtain ⟨hx,hnd,hmin⟩:=vk h;have hkl:k<S.length:=(ad_.1 hx).1;have hxe:S[k]=x:=(ad_.1 hx).2;have hxm:=ab_ hx;unfold take
 have memset:∀y,y∈S.set k { x with dn:=true }->y={ x with dn:=true }\/y∈S:=fun y hy=>by
  rcases bb_ hy with h|h
  . exact .inr h
  . exact .inl h
 have up:∀{j:Nat} {y:St P M},S[j]?=some y->y.dn=true->(S.set k { x with dn:=true })[j]?=some y:=fun {j y} hj hd=>by
  have hne:j≠k:=fun e=>by subst e;rw [hx]at hj;cases hj;rw [hnd]at hd;cases hd
  rw [ax_ (Ne.symm hne)];exact hj
 refine ⟨⟨?_,?_,?_,?_,?_,?_⟩,by rw [aB_ hkl]⟩
 . rw [aT_];intro j l hj hl hjl;simp only [aX_]at hj hl;have hp:=aT_.1 v.keys j l hj hl hjl;rw [bT_,bT_];split
   . rename_i h;subst h;rw [ah_ (by omega)];rw [hxe]at hp;exact hp
   . split
     . rename_i h;subst h;rw [hxe]at hp;exact hp
     . exact hp
 . intro y hy;rcases memset y hy with rfl|hy
   . exact v.at_ x hxm
   . exact v.at_ y hy
 . intro y hy hd;rcases memset y hy with rfl|hy
   . exact aS_ _
   . have h1:=v.dn y hy hd;have h2:=v.op x hxm hnd;omega
 . intro y hy hd;rcases memset y hy with rfl|hy
   . cases hd
   . have:=hmin y hy hd;unfold ltK at this;simp only [aR_]at this;omega
 . intro y hy;rcases memset y hy with rfl|hy
   . exact v.ok x hxm
   . exact v.ok y hy
 . intro y hy;rcases memset y hy with rfl|hy
   . rcases v.by_ x hxm with h|⟨u,f1,f2,f3,f4,f5⟩
     . exact .inl h
     . exact .inr ⟨u,f1,up f2 f3,f3,f4,f5⟩
   . rcases v.by_ y hy with h|⟨u,f1,f2,f3,f4,f5⟩
     . exact .inl h
     . exact .inr ⟨u,f1,up f2 f3,f3,f4,f5⟩
theorem Inv.start (p0:P) (t0:Int) (z:M) (lo:Int):Inv E p0 t0 z lo []:=
 ⟨List.Pairwise.nil,fun _ h=>(by cases h),fun _ h=>(by cases h),fun _ h=>(by cases h),fun _ h=>(by cases h),fun _ h=>(by cases h)⟩
end
end
def capB (x y:Sp):List Sp:=if max x.1 y.1<min x.2 y.2 then [(max x.1 y.1,min x.2 y.2)]else []
def rj:List Sp->List Sp->List Sp
 |[],_=>[]
 |_::_,[]=>[]
 |x::a,y::b=>capB x y++(if x.2<y.2 then rj a (y::b)else rj (x::a) b)
 termination_by a b=>a.length+b.length
def tw (a b:List Sp):List Sp:=a.flatMap fun x=>b.flatMap fun y=>capB x y
structure Ris (l:List Sp):Prop where
 pw:l.Pairwise fun x y=>x.2<y.1
 bd:∀x∈l,0<=x.1/\x.1<x.2/\x.2<=FV
theorem Ris.tail {x:Sp} {l:List Sp} (h:Ris (x::l)):Ris l:=⟨h.pw.of_cons,fun y hy=>h.bd y (.tail _ hy)⟩
theorem Ris.hd {x:Sp} {l:List Sp} (h:Ris (x::l)):∀y∈l,x.2<y.1:=(ap_.1 h.pw).1
theorem Ws {x y:Sp} (h:x.2<=y.1\/y.2<=x.1):capB x y=[]:=by unfold capB;rw [ah_ (by omega)]
theorem G8 {α β:Type} {l:List α} {f:α->List β} (h:∀x∈l,f x=[]):l.flatMap f=[]:=by rw [List.flatMap_eq_nil_iff];exact h
theorem Cx:∀(n:Nat) (a b:List Sp),a.length+b.length<=n->Ris a->Ris b->rj a b=tw a b
 |_,[],b,_,_,_=>by rw [rj];rfl
 |_,x::a,[],_,_,_=>by rw [rj];unfold tw;rw [G8];intro y _;rfl
 |0,x::a,y::b,h,_,_=>by simp at h
 |n+1,x::a,y::b,h,ha,hb=>by
  simp only [an_]at h;rw [rj];split
  . rename_i hlt;rw [Cx n a (y::b) (by simp only [an_];omega) ha.tail hb];unfold tw;rw [bv_];congr 1;rw [bv_,G8 (l:=b),av_];intro u hu;have:=hb.hd u hu;exact Ws (.inl (by omega))
  . rename_i hge;rw [Cx n (x::a) b (by simp only [an_];omega) ha hb.tail];unfold tw;rw [bv_,bv_,bv_,aC_];congr 2;have:∀u∈a,(y::b).flatMap (fun z=>capB u z)=b.flatMap (fun z=>capB u z):=fun u hu=>by rw [bv_,Ws,a8_];have:=ha.hd u hu;exact .inr (by omega)
    rw [List.flatMap_def,List.flatMap_def,List.map_congr_left this]
theorem E8 {a b:List Sp} {s:Sp}:s∈tw a b↔∃x∈a,∃y∈b,s=(max x.1 y.1,min x.2 y.2)/\max x.1 y.1<min x.2 y.2:=by
 unfold tw;simp only [aY_];constructor
 . rintro ⟨x,hx,y,hy,h⟩;unfold capB at h;split at h
   . rename_i hlt;rw [aE_]at h;exact ⟨x,hx,y,hy,h,hlt⟩
   . cases h
 . rintro ⟨x,hx,y,hy,h,hlt⟩;exact ⟨x,hx,y,hy,by unfold capB;rw [ak_ hlt,h];exact .head _⟩
theorem ris_cap {b:List Sp} (hb:Ris b) (x:Sp):(b.flatMap fun y=>capB x y).Pairwise fun u v=>u.2<v.1:=by
 induction b with
 |nil=>exact .nil
 |cons y b ih=>
  rw [bv_,bd_];refine ⟨?_,ih hb.tail,?_⟩
  . unfold capB;split
    . exact bR_ _ _
    . exact .nil
  . intro u hu v hv;unfold capB at hu;split at hu
    . rw [aE_]at hu;subst hu;obtain ⟨z,hz,hv⟩:=aY_.1 hv;unfold capB at hv;split at hv
      . rw [aE_]at hv;subst hv;have:=hb.hd z hz;simp only;omega
      . cases hv
    . cases hu
theorem Uv {a b:List Sp} (ha:Ris a) (hb:Ris b):Ris (tw a b):=by
 refine ⟨?_,fun s hs=>?_⟩
 . induction a with
   |nil=>exact .nil
   |cons x a ih=>
    unfold tw;rw [bv_,bd_];refine ⟨ris_cap hb x,ih ha.tail,?_⟩;intro u hu v hv;obtain ⟨y,hy,hu⟩:=aY_.1 hu;obtain ⟨z,hz,w,hw,rfl,hlt⟩:=E8.1 hv;unfold capB at hu;split at hu
    . rw [aE_]at hu;subst hu;have:=ha.hd z hz;simp only;omega
    . cases hu
 . obtain ⟨x,hx,y,hy,rfl,hlt⟩:=E8.1 hs;have:=ha.bd x hx;have:=hb.bd y hy;simp only;omega
def o8 (T:Tb) (r:Int) (n:Int):List Sp:=if inT T.length n=true then Ii (rowT T n) r else []
def ly (T:Tb) (r:Int) (N:List Int):List Sp:=N.foldl (fun l n=>tw l (o8 T r n)) [(0,FV)]
theorem Zt:Ris [((0:Int),FV)]:=⟨bR_ _ _,fun x hx=>by rw [aE_]at hx;subst hx;exact ⟨aS_ _,by decide,aS_ _⟩⟩
theorem Ew {T:Tb} (g:i7 T) (r n:Int):Ris (o8 T r n):=by
 unfold o8;split
 . have gr:=sf g n;obtain ⟨h1,h2⟩:=Pd (r:=r) gr (aS_ 0) (by decide) (fun s hs => .inl (gr.ok s hs).1);exact ⟨h1,fun x hx=>let ⟨e1,e2,e3,_⟩:=h2 x hx;⟨e1,e2,e3⟩⟩
 . exact ⟨.nil,fun _ h=>by cases h⟩
theorem V2 {T:Tb} (g:i7 T) {r:Int}:∀(N:List Int) {l:List Sp},Ris l->Ris (N.foldl (fun l n=>tw l (o8 T r n)) l)
 |[],l,h=>h
 |n::N,l,h=>V2 g N (Uv h (Ew g r n))
theorem rn {T:Tb} (g:i7 T) (r:Int) (N:List Int):Ris (ly T r N):=V2 g N Zt
theorem az1 {b:List Sp}:tw [] b=[]:=rfl
theorem ap5 {a:List Sp}:tw a []=[]:=G8 fun _ _=>rfl
theorem V3 {T:Tb} {r:Int}:∀(N:List Int),N.foldl (fun l n=>tw l (o8 T r n)) []=[]
 |[]=>rfl
 |n::N=>by rw [bU_,az1,V3 N]
theorem aB2 {T:Tb} {r:Int} {N:List Int} {n:Int} (hn:n∈N) (h:inT T.length n=false):ly T r N=[]:=by
 unfold ly;generalize [((0:Int),FV)]=l;induction N generalizing l with
 |nil=>cases hn
 |cons m N ih=>
  rw [bU_];rcases al_.1 hn with rfl|hn
  . rw [show o8 T r n=[]by unfold o8;rw [ah_ (by rw [h];simp)],ap5,V3]
  . exact ih hn _
theorem F0:∀(n:Nat) (a b:List Sp),a.length+b.length<=n->(rj a b).length<=a.length+b.length
 |_,[],b,_=>by rw [rj];simp
 |_,x::a,[],_=>by rw [rj];simp
 |0,x::a,y::b,h=>by simp at h
 |n+1,x::a,y::b,h=>by
  simp only [an_]at h;rw [rj,ae_];have hc:(capB x y).length<=1:=by unfold capB;split<;>simp
  split
  . have:=F0 n a (y::b) (by simp only [an_];omega);simp only [an_]at *;omega
  . have:=F0 n (x::a) b (by simp only [an_];omega);simp only [an_]at *;omega
theorem G6 {T:Tb} {b:Nat} (f:Few T b) (r n:Int):(o8 T r n).length<=b+1:=by
 unfold o8;split
 . have h1:=aA6 (r:=r) (L:=rowT T n) (a:=0);have h2:=vh f n;unfold Ii;omega
 . simp
theorem Fh {T:Tb} {b:Nat} (g:i7 T) (f:Few T b) (r:Int) (N:List Int):(ly T r N).length<=1+N.length*(b+1):=by
 have key:∀(N:List Int) (l:List Sp),Ris l->(N.foldl (fun l n=>tw l (o8 T r n)) l).length<=l.length+N.length*(b+1):=by
  intro N;induction N with
  |nil=>intro l _;simp
  |cons n N ih=>intro l hl;rw [bU_];have h1:=ih _ (Uv hl (Ew g r n));rw [<- Cx _ _ _ (aj_ _) hl (Ew g r n)]at h1 ⊢;have h2:=F0 _ l (o8 T r n) (aj_ _);have h3:=G6 f r n;rw [an_,bK_,Nat.one_mul];omega
 have:=key N [(0,FV)] Zt;unfold ly;simpa using this
def brk (a:Int):Nat->Int->Int
 |0,_=>0
 |n+1,v=>if v>0 then v+brk a n (v-a)else 0
def xu (a s:Int):Int:=brk a s.toNat (s-a)
def dq (a r:Int):Nat->Int->Int
 |0,q=>q
 |n+1,q=>if q>1/\xu a q>r-q then dq a r n (q-1)else q
def tt (a r s v:Int):Int:=dq a r (min (min (s+a) v) r).toNat (min (min (s+a) v) r)
def prof (a v e:Int):Nat->Int->Int->List Int
 |0,_,_=>[]
 |n+1,p,s=>if p<e then (p+tt a (e-p) s v)::prof a v e n (p+tt a (e-p) s v) (tt a (e-p) s v)else []
def kq (U A V n:Int):List Int:=if 1<=n/\n<=16 then prof A V (n*U) (n*U).toNat 0 0 else []
def Hu (U A V n:Int):Int:=(kq U A V n).length
theorem dq_bd {a r:Int}:∀(n:Nat) (q:Int),1<=q->1<=dq a r n q/\dq a r n q<=q
 |0,q,h=>by simp [dq,h]
 |n+1,q,h=>by
  unfold dq;split
  . have:=dq_bd (a:=a) (r:=r) n (q-1) (by omega);omega
  . omega
theorem Z4 {a r s v:Int} (ha:1<=a) (hr:1<=r) (hs:0<=s) (hv:1<=v):1<=tt a r s v/\tt a r s v<=r/\tt a r s v<=v:=by unfold tt;have:=dq_bd (a:=a) (r:=r) (min (min (s+a) v) r).toNat (min (min (s+a) v) r) (by omega);omega
theorem E0 {a v e:Int}:∀(n:Nat) (p s:Int),(prof a v e n p s).length<=n
 |0,p,s=>by simp [prof]
 |n+1,p,s=>by
  unfold prof;split
  . have:=E0 (a:=a) (v:=v) (e:=e) n (p+tt a (e-p) s v) (tt a (e-p) s v);simpa using this
  . simp
theorem time_bd {U A V n:Int} (hU:1<=U) (hU2:U<=1000):0<=Hu U A V n/\Hu U A V n<=16000/\(1<=n->n<=16->1<=Hu U A V n):=by
 unfold Hu kq;refine ⟨by omega,?_,fun h1 h2=>?_⟩
 . split
   . rename_i h;have:=E0 (a:=A) (v:=V) (e:=n*U) (n*U).toNat 0 0;have:n*U<=16*1000:=bx_ h.2 hU2 (by omega) (by omega);omega
   . simp
 . rw [ak_ ⟨h1,h2⟩];have h3:1*1<=n*U:=bx_ h1 hU (by omega) (by omega);obtain ⟨m,hm⟩:∃m,(n*U).toNat=m+1:=⟨(n*U).toNat-1,by omega⟩;rw [hm];unfold prof;rw [ak_ (by omega)];simp;omega
end Go.Proofs.Srch
end
section
namespace Go.Proofs.YtfflipnhffknnaaGreatDoor
open Go Go.HL
section
variable (G:Hp) (K:EK) (r:Rg) (h:Hp)
def md38:Nat->Hint
 |6=>⟨false,[0,0,2,0,14,30,63,127,255,511,1023,511,2559,511,14847,31231,65535,131071,262143,524287,1048575,2097151,1048575,5242879,1048575,30408703,63963135,134217727,268435455,536870911],[.pureM,.pureN,.pureM,.pureN,.pureN,.pureM,.eff,.pureN,.pureN,.pureN,.pureM,.pureN,.pureM,.pureN,.pureN,.pureM,.eff,.pureN,.pureN,.pureN,.pureN,.pureM,.pureN,.pureM,.pureN,.pureN,.pureM,.eff,.pureN,.pureN],[.pureM,.pureN,.pureM,.pureN,.pureN,.pureM,.eff,.pureN,.pureN,.pureN,.late,.pureN,.late,.pureN,.pureN,.late,.eff,.pureN,.pureN,.pureN,.pureN,.late,.pureN,.late,.pureN,.pureN,.late,.eff,.pureN,.pureN],(fs 30),false⟩
 |11=>⟨false,[0,0,2,0,14,30,63,127,255,511,1023,511,2559,511,14847,31231,65535,131071,262143,524287,1048575,1048575,3145727,1048575,15728639,32505855,67108863,134217727,268435455,536870911,536870911,1610612735,536870911,8053063679,16642998271,34359738367,68719476735,137438953471],[.pureM,.pureN,.pureM,.pureN,.pureN,.pureM,.eff,.pureN,.pureN,.pureN,.pureM,.pureN,.pureM,.pureN,.pureN,.pureM,.eff,.pureN,.pureN,.pureN,.pureM,.pureN,.pureM,.pureN,.pureN,.pureM,.eff,.pureN,.pureN,.pureM,.pureN,.pureM,.pureN,.pureN,.pureM,.eff,.pureN,.pureN],[.pureM,.pureN,.pureM,.pureN,.pureN,.pureM,.eff,.pureN,.pureN,.pureN,.late,.pureN,.late,.pureN,.pureN,.late,.eff,.pureN,.pureN,.pureN,.late,.pureN,.late,.pureN,.pureN,.late,.eff,.pureN,.pureN,.late,.pureN,.late,.pureN,.pureN,.late,.eff,.pureN,.pureN],(fs 38),false⟩
 |17=>mh false [0,0,2,0,14,30,63,127] [m_,n_,m_,n_,n_,m_,e_,n_] (fs 8) false
 |_=>m0_
def aS3:Prop:=
 o_ G (l_ 26 (r 1)) h fun g h=>
 c_ G 86 #[g] h fun j h=>
 K .ret (u3 r 147 g 148 j 2 j) h
def Qq:Prop:=
 o_ G (z1_ (r 7) (1:Int)) h fun g h=>
 K .normal (u3 r 138 (r 7) 139 g 7 g) h
def Qs:Prop:=
 o_ G (i_ 22 (r 5) (r 7)) h fun g h=>o_ G (l_ 28 g) h fun j h=>
 c_ G 83 #[r 5,j] h fun s h=>o_ G (z6_ s (1:Int)) h fun u h=>
 (fun q=>cond u
 (K .ret (upd q 2 (.bool false)) h)
 (Qq G K q h))
 (u7 r 140 (r 5) 141 (r 5) 142 (r 7) 143 g 144 j 145 s 146 u)
def Zc (r:Rg) (h:Hp) (K:EK):Prop:=
 o_ G (k_ 22 (r 5)) h fun g h=>o_ G (z2_ (r 7) g) h fun j h=>
 (fun q=>cond j
 (Qs G K q h)
 (K (.exit 6) q h))
 (u4 r 134 (r 7) 135 (r 5) 136 g 137 j)
def aS4:Prop:=
 du (Zc G) (upd r 7 (.int .i64 0)) h (dc 6 (di (aS3 G K) K))
def Ma:Prop:=
 o_ G (z1_ (r 6) (1:Int)) h fun g h=>
 K .normal (u3 r 116 (r 6) 117 g 6 g) h
def L9:Prop:=
 o_ G (f_ 26 (r 1) 5) h fun g h=>o_ G (l_ 23 g) h fun j h=>o_ G (i_ 23 j (r 6)) h fun s h=>o_ G (l_ 30 s) h fun u h=>
 c_ G 40 #[u] h fun w h=>o_ G (Builtin.append_ #[22,22] 22 #[r 5,w]) h fun z h=>
 Ma G K (u9 r 126 (r 5) 127 g 128 j 129 (r 6) 130 s 131 u 132 w 133 z 5 z) h
def Mb:Prop:=
 w_ G h (l_ 26 (r 1)) h fun g h'=>
 p_ (f_ 26 (r 1) 5) h' fun j h'=>
 w_ G h (l_ 23 j) h' fun s h'=>
 p_ (i_ 23 s (r 6)) h' fun u h'=>
 w_ G h (l_ 30 u) h' fun w h=>
 c_ G 22 #[g,w] h fun z h=>
 p_ (Op.unary .not z) h fun C h=>
 (fun q=>cond C
 (K .ret (upd q 2 (.bool false)) h)
 (L9 G K q h))
 (u8 r 118 g 119 j 120 s 121 (r 6) 122 u 123 w 124 z 125 C)
def Zb (r:Rg) (h:Hp) (K:EK):Prop:=
 o_ G (f_ 26 (r 1) 5) h fun g h=>o_ G (l_ 23 g) h fun j h=>o_ G (k_ 23 j) h fun s h=>o_ G (z2_ (r 6) s) h fun u h=>
 (fun q=>cond u
 (Mb G K q h)
 (K (.exit 4) q h))
 (u5 r 111 (r 6) 112 g 113 j 114 s 115 u)
def aS5:Prop:=
 du (Zb G) (u2 r 5 (.slice none 0 0) 6 (.int .i64 0)) h (dc 4 (di (aS4 G K) K))
def I3:Prop:=
 o_ G (z1_ (r 4) (1:Int)) h fun g h=>
 K .normal (u3 r 71 (r 4) 72 g 4 g) h
def I4:Prop:=
 w_ G h (l_ 26 (r 1)) h fun g h'=>
 p_ (f_ 26 (r 1) 4) h' fun j h'=>
 w_ G h (l_ 22 j) h' fun s h'=>
 p_ (i_ 22 s (r 4)) h' fun u h'=>
 w_ G h (l_ 28 u) h' fun w h=>
 c_ G 82 #[g,w] h fun z h=>
 p_ (Op.unary .not z) h fun C h=>g_ C false (p_ (f_ 26 (r 1) 4) h) h fun D h=>g_ C false (w_ G h (l_ 22 D) h) h fun E h=>g_ C false (p_ (f_ 26 (r 1) 4) h) h fun F h=>g_ C false (w_ G h (l_ 22 F) h) h fun I h=>g_ C false (fun K1=>K1 (r 4) h) h fun J h=>g_ C false (p_ (i_ 22 I J) h) h fun L h=>g_ C false (w_ G h (l_ 28 L) h) h fun M h=>g_ C false (c_ G 83 #[E,M] h) h fun N h=>g_ C false (p_ (z6_ N (1:Int)) h) h fun O h=>
 dl P_ noHp noHp (dh C (.bool true) O) h fun P h=>g_ P false (w_ G h (l_ 26 (r 1)) h) h fun Q h=>g_ P false (p_ (f_ 26 (r 1) 4) h) h fun U h=>g_ P false (w_ G h (l_ 22 U) h) h fun V h=>g_ P false (fun K1=>K1 (r 4) h) h fun W h=>g_ P false (p_ (i_ 22 V W) h) h fun Y h=>g_ P false (w_ G h (l_ 28 Y) h) h fun Z h=>g_ P false (c_ G 84 #[Q,Z] h) h fun aa h=>
 dl P_ noHp noHp (dh P (.bool true) aa) h fun ab h=>g_ ab false (w_ G h (l_ 26 (r 1)) h) h fun ac h=>g_ ab false (p_ (f_ 26 (r 1) 4) h) h fun ae h=>g_ ab false (w_ G h (l_ 22 ae) h) h fun af h=>g_ ab false (fun K1=>K1 (r 4) h) h fun ag h=>g_ ab false (p_ (i_ 22 af ag) h) h fun ah h=>g_ ab false (w_ G h (l_ 28 ah) h) h fun ai h=>g_ ab false (c_ G 85 #[ac,ai] h) h fun aj h=>g_ ab false (p_ (Op.unary .not aj) h) h fun ak h=>
 dl P_ noHp noHp (dh ab (.bool true) ak) h fun al h=>
 (fun q=>cond al
 (K .ret (upd q 2 (.bool false)) h)
 (I3 G K q h))
 (u8 (u10 (u10 (u10 r 73 g 74 j 75 s 76 (r 4) 77 u 78 w 79 z 80 C 81 C 82 D) 83 E 84 F 85 I 86 J 87 L 88 M 89 N 90 O 91 P 92 P) 93 Q 94 U 95 V 96 W 97 Y 98 Z 99 aa 100 ab 101 ab 102 ac) 103 ae 104 af 105 ag 106 ah 107 ai 108 aj 109 ak 110 al)
def S4 (r:Rg) (h:Hp) (K:EK):Prop:=
 o_ G (f_ 26 (r 1) 4) h fun g h=>o_ G (l_ 22 g) h fun j h=>o_ G (k_ 22 j) h fun s h=>o_ G (z2_ (r 4) s) h fun u h=>
 (fun q=>cond u
 (I4 G K q h)
 (K (.exit 2) q h))
 (u5 r 66 (r 4) 67 g 68 j 69 s 70 u)
def aS6:Prop:=
 du (S4 G) (upd r 4 (.int .i64 0)) h (dc 2 (di (aS5 G K) K))
def I1:Prop:=
 o_ G (z1_ (r 3) (1:Int)) h fun g h=>
 K .normal (u3 r 34 (r 3) 35 g 3 g) h
def I2:Prop:=
 w_ G h (l_ 26 (r 1)) h fun g h'=>
 p_ (f_ 26 (r 1) 3) h' fun j h'=>
 w_ G h (l_ 22 j) h' fun s h'=>
 p_ (i_ 22 s (r 3)) h' fun u h'=>
 w_ G h (l_ 28 u) h' fun w h=>
 c_ G 82 #[g,w] h fun z h=>
 p_ (Op.unary .not z) h fun C h=>g_ C false (p_ (f_ 26 (r 1) 3) h) h fun D h=>g_ C false (w_ G h (l_ 22 D) h) h fun E h=>g_ C false (p_ (f_ 26 (r 1) 3) h) h fun F h=>g_ C false (w_ G h (l_ 22 F) h) h fun I h=>g_ C false (fun K1=>K1 (r 3) h) h fun J h=>g_ C false (p_ (i_ 22 I J) h) h fun L h=>g_ C false (w_ G h (l_ 28 L) h) h fun M h=>g_ C false (c_ G 83 #[E,M] h) h fun N h=>g_ C false (p_ (z6_ N (1:Int)) h) h fun O h=>
 dl P_ noHp noHp (dh C (.bool true) O) h fun P h=>g_ P false (p_ (f_ 26 (r 1) 4) h) h fun Q h=>g_ P false (w_ G h (l_ 22 Q) h) h fun U h=>g_ P false (p_ (f_ 26 (r 1) 3) h) h fun V h=>g_ P false (w_ G h (l_ 22 V) h) h fun W h=>g_ P false (fun K1=>K1 (r 3) h) h fun Y h=>g_ P false (p_ (i_ 22 W Y) h) h fun Z h=>g_ P false (w_ G h (l_ 28 Z) h) h fun aa h=>g_ P false (c_ G 83 #[U,aa] h) h fun ab h=>g_ P false (p_ (z6_ ab (0:Int)) h) h fun ac h=>
 dl P_ noHp noHp (dh P (.bool true) ac) h fun ae h=>
 (fun q=>cond ae
 (K .ret (upd q 2 (.bool false)) h)
 (I1 G K q h))
 (u10 (u10 (u10 r 36 g 37 j 38 s 39 (r 3) 40 u 41 w 42 z 43 C 44 C 45 D) 46 E 47 F 48 I 49 J 50 L 51 M 52 N 53 O 54 P 55 P) 56 Q 57 U 58 V 59 W 60 Y 61 Z 62 aa 63 ab 64 ac 65 ae)
def S3 (r:Rg) (h:Hp) (K:EK):Prop:=
 o_ G (f_ 26 (r 1) 3) h fun g h=>o_ G (l_ 22 g) h fun j h=>o_ G (k_ 22 j) h fun s h=>o_ G (z2_ (r 3) s) h fun u h=>
 (fun q=>cond u
 (I2 G K q h)
 (K (.exit 0) q h))
 (u5 r 29 (r 3) 30 g 31 j 32 s 33 u)
def aS7:Prop:=
 du (S3 G) (upd r 3 (.int .i64 0)) h (dc 0 (di (aS6 G K) K))
def S38:Prop:=
 o_ G (Instr.box 26 (r 0)) h fun g h=>o_ G (l_ 26 g) h fun j h=>
 c_ G 81 #[j] h fun s h=>o_ G (Op.unary .not s) h fun u h=>g_ u false (o_ G (f_ 26 g 4) h) h fun w h=>g_ u false (o_ G (l_ 22 w) h) h fun z h=>g_ u false (o_ G (k_ 22 z) h) h fun C h=>g_ u false (o_ G (z6_ C (8:Int)) h) h fun D h=>
 y_ G (dh u (.bool true) D) h fun E h=>g_ E false (o_ G (f_ 26 g 5) h) h fun F h=>g_ E false (o_ G (l_ 23 F) h) h fun I h=>g_ E false (o_ G (k_ 23 I) h) h fun J h=>g_ E false (o_ G (z6_ J (8:Int)) h) h fun L h=>
 y_ G (dh E (.bool true) L) h fun M h=>g_ M false (o_ G (f_ 26 g 3) h) h fun N h=>g_ M false (o_ G (l_ 22 N) h) h fun O h=>g_ M false (o_ G (k_ 22 O) h) h fun P h=>g_ M false (o_ G (z6_ P (256:Int)) h) h fun Q h=>
 y_ G (dh M (.bool true) Q) h fun U h=>
 (fun q=>cond U
 (K .ret (upd q 2 (.bool false)) h)
 (aS7 G K q h))
 (u3 (u10 (u10 r 1 g 2 (.bool false) 8 j 9 s 10 u 11 u 12 w 13 z 14 C 15 D) 16 E 17 E 18 F 19 I 20 J 21 L 22 M 23 M 24 N 25 O) 26 P 27 Q 28 U)
theorem enter38:Ent 149 38 [.tmp 2] S38:=ent_ (m:=md38) (c:=(Tryz.f38.body.getD .skip)) (fun _ _ _ _=>by kernel_rfl) Tryz.func38 rfl rfl rfl
def md40:Nat->Hint
 |_=>m0_
def aS2:Prop:=
 o_ G (f_ 30 (r 1) 0) h fun g h=>o_ G (l_ 28 g) h fun j h=>o_ G (f_ 30 (r 1) 0) h fun s h=>o_ G (f_ 28 s 0) h fun u h=>o_ G (l_ 3 u) h fun w h=>o_ G (z1_ w (1:Int)) h fun z h=>o_ G (f_ 30 (r 1) 0) h fun C h=>o_ G (f_ 28 C 1) h fun D h=>o_ G (l_ 3 D) h fun E h=>o_ G (Instr.build 28 #[(0,z),(1,E)]) h fun F h=>o_ G (Instr.buildSlice 22 2 #[(0,j),(1,F)]) h fun I h=>
 K .ret (u2 (u10 r 16 g 17 j 18 s 19 u 20 w 21 z 22 C 23 D 24 E 25 F) 26 I 2 I) h
def S40:Prop:=
 o_ G (Instr.box 30 (r 0)) h fun g h=>o_ G (f_ 30 g 1) h fun j h=>o_ G (l_ 4 j) h fun s h=>
 cond s
 (o_ G (f_ 30 g 0) h fun u h'=>o_ G (l_ 28 u) h' fun w h'=>o_ G (f_ 30 g 0) h' fun z h'=>o_ G (f_ 28 z 0) h' fun C h'=>o_ G (l_ 3 C) h' fun D h'=>o_ G (f_ 30 g 0) h' fun E h'=>o_ G (f_ 28 E 1) h' fun F h'=>o_ G (l_ 3 F) h' fun I h'=>o_ G (z1_ I (1:Int)) h' fun J h'=>o_ G (Instr.build 28 #[(0,D),(1,J)]) h' fun L h'=>o_ G (Instr.buildSlice 22 2 #[(0,w),(1,L)]) h' fun M h'=>
 K .ret (u6 (u10 r 1 g 2 (.slice none 0 0) 3 j 4 s 5 u 6 w 7 z 8 C 9 D 10 E) 11 F 12 I 13 J 14 L 15 M 2 M) h')
 (aS2 G K (u4 r 1 g 2 (.slice none 0 0) 3 j 4 s) h)
theorem enter40:Ent 27 40 [.tmp 2] S40:=ent_ (m:=md40) (c:=(Tryz.f40.body.getD .skip)) (fun _ _ _ _=>by kernel_rfl) Tryz.func40 rfl rfl rfl
def md22:Nat->Hint
 |2=>⟨false,[0,0,2,6,15,31,63,63,191,447,1023,2047,4095],[.pureM,.pureN,.pureN,.pureM,.eff,.pureN,.pureM,.pureN,.pureN,.pureM,.eff,.pureN,.pureN],[.pureM,.pureN,.pureN,.pureM,.eff,.pureN,.late,.pureN,.pureN,.late,.eff,.pureN,.pureN],(fs 13),false⟩
 |_=>m0_
def S22:Prop:=
 o_ G (Instr.box 26 (r 0)) h fun g h=>o_ G (Instr.box 30 (r 1)) h fun j h=>o_ G (l_ 30 j) h fun s h=>
 c_ G 40 #[s] h fun u h=>
 w_ G h (l_ 26 g) h fun w h'=>
 p_ (i_ 22 u (.int .i64 0)) h' fun z h'=>
 w_ G h (l_ 28 z) h' fun C h=>
 c_ G 60 #[w,C] h fun D h=>g_ D true (w_ G h (l_ 26 g) h) h fun E h=>g_ D true (fun K1=>K1 u h) h fun F h=>g_ D true (p_ (i_ 22 F (.int .i64 1)) h) h fun I h=>g_ D true (w_ G h (l_ 28 I) h) h fun J h=>g_ D true (c_ G 60 #[E,J] h) h fun L h=>
 dl P_ noHp noHp (dh D L (.bool false)) h fun M h=>
 K .ret (u9 (u10 r 2 g 3 j 4 (.bool false) 6 s 7 u 5 u 8 w 9 u 10 z 11 C) 12 D 13 D 14 E 15 F 16 I 17 J 18 L 19 M 4 M) h
theorem enter22:Ent 20 22 [.tmp 4] S22:=ent_ (m:=md22) (c:=(Tryz.f22.body.getD .skip)) (fun _ _ _ _=>by kernel_rfl) Tryz.func22 rfl rfl rfl
def md60:Nat->Hint
 |_=>m0_
def S60:Prop:=
 o_ G (Instr.box 26 (r 0)) h fun g h=>o_ G (Instr.box 28 (r 1)) h fun j h=>o_ G (l_ 26 g) h fun s h=>o_ G (l_ 28 j) h fun u h=>
 c_ G 82 #[s,u] h fun w h=>g_ w true (o_ G (f_ 26 g 3) h) h fun z h=>g_ w true (o_ G (l_ 22 z) h) h fun C h=>g_ w true (o_ G (l_ 28 j) h) h fun D h=>g_ w true (c_ G 83 #[C,D] h) h fun E h=>g_ w true (opH P_ G (xEq .eql 3 (.tmp 0) (.const .nilFunc) E (.int .i64 0)) h) h fun F h=>
 y_ G (dh w F (.bool false)) h fun I h=>
 K .ret (u4 (u10 r 2 g 3 j 4 (.bool false) 5 s 6 u 7 w 8 w 9 z 10 C 11 D) 12 E 13 F 14 I 4 I) h
theorem enter60:Ent 15 60 [.tmp 4] S60:=ent_ (m:=md60) (c:=(Tryz.f60.body.getD .skip)) (fun _ _ _ _=>by kernel_rfl) Tryz.func60 rfl rfl rfl
def md159:Nat->Hint
 |4=>mh false [0,1,0,7,15,0,63] [n_,m_,n_,n_,m_,m_,m_] (fs 7) false
 |_=>m0_
def Tg (G:Hp) (K:EK) (r:Rg) (h:Hp):Prop:=
 K .ret (upd r 4 (.int .i64 (-1))) h
def Mj:Prop:=
 o_ G (z1_ (r 5) (1:Int)) h fun g h=>
 K .normal (u3 r 11 (r 5) 12 g 5 g) h
def Mk:Prop:=
 p_ (f_ 26 (r 2) 4) h fun g h'=>
 w_ G h (l_ 22 g) h' fun j h'=>
 p_ (i_ 22 j (r 5)) h' fun s h'=>
 w_ G h (l_ 28 s) h' fun u h'=>
 w_ G h (l_ 28 (r 3)) h' fun w h'=>
 dl P_ G h (xEq .eql 28 (.tmp 0) (.tmp 0) u w) h' fun z h=>
 (fun q=>cond z
 (K .ret (u2 q 20 (r 5) 4 (r 5)) h)
 (Mj G K q h))
 (u7 r 13 g 14 j 15 (r 5) 16 s 17 u 18 w 19 z)
def af7 (r:Rg) (h:Hp) (K:EK):Prop:=
 o_ G (f_ 26 (r 2) 4) h fun g h=>o_ G (l_ 22 g) h fun j h=>o_ G (k_ 22 j) h fun s h=>o_ G (z2_ (r 5) s) h fun u h=>
 cond u
 (Mk G K (u5 r 6 (r 5) 7 g 8 j 9 s 10 u) h)
 (K (.exit 0) (u5 r 6 (r 5) 7 g 8 j 9 s 10 u) h)
def S159:Prop:=
 o_ G (Instr.box 26 (r 0)) h fun g h=>o_ G (Instr.box 28 (r 1)) h fun j h=>
 du (af7 G) (u4 r 2 g 3 j 4 (.int .i64 0) 5 (.int .i64 0)) h (dc 0 (di (Tg G K) K))
theorem aG0:Ent 21 159 [.tmp 4] S159:=ent_ (m:=md159) (c:=(Tryz.f159.body.getD .skip)) (fun _ _ _ _=>by kernel_rfl) Tryz.func159 rfl rfl rfl
def md133:Nat->Hint
 |_=>m0_
def S133:Prop:=
 o_ G (Instr.box 26 (r 0)) h fun g h=>o_ G (Instr.box 28 (r 1)) h fun j h=>o_ G (l_ 26 g) h fun s h=>o_ G (l_ 28 j) h fun u h=>
 c_ G 60 #[s,u] h fun w h=>g_ w true (o_ G (l_ 26 g) h) h fun z h=>g_ w true (o_ G (l_ 28 j) h) h fun C h=>g_ w true (c_ G 159 #[z,C] h) h fun D h=>g_ w true (o_ G (z2_ D (0:Int)) h) h fun E h=>
 y_ G (dh w E (.bool false)) h fun F h=>g_ F true (o_ G (l_ 26 g) h) h fun I h=>g_ F true (o_ G (l_ 28 j) h) h fun J h=>g_ F true (c_ G 84 #[I,J] h) h fun L h=>g_ F true (o_ G (Op.unary .not L) h) h fun M h=>
 y_ G (dh F M (.bool false)) h fun N h=>g_ N true (o_ G (l_ 26 g) h) h fun O h=>g_ N true (o_ G (l_ 28 j) h) h fun P h=>g_ N true (c_ G 85 #[O,P] h) h fun Q h=>
 y_ G (dh N Q (.bool false)) h fun U h=>
 K .ret (u4 (u10 (u10 r 2 g 3 j 4 (.bool false) 5 s 6 u 7 w 8 w 9 z 10 C 11 D) 12 E 13 F 14 F 15 I 16 J 17 L 18 M 19 N 20 N 21 O) 22 P 23 Q 24 U 4 U) h
theorem aI2:Ent 25 133 [.tmp 4] S133:=ent_ (m:=md133) (c:=(Tryz.f133.body.getD .skip)) (fun _ _ _ _=>by kernel_rfl) Tryz.func133 rfl rfl rfl
def md41:Nat->Hint
 |_=>m0_
def aS1:Prop:=
 o_ G (f_ 28 (r 3) 1) h fun g h=>o_ G (l_ 3 g) h fun j h=>o_ G (f_ 26 (r 2) 0) h fun s h=>o_ G (l_ 3 s) h fun u h=>o_ G (z4_ j u) h fun w h=>o_ G (f_ 28 (r 3) 0) h fun z h=>o_ G (l_ 3 z) h fun C h=>o_ G (z1_ w C) h fun D h=>
 K .ret (u9 r 9 g 10 j 11 s 12 u 13 w 14 z 15 C 16 D 4 D) h
def S41:Prop:=
 o_ G (Instr.box 26 (r 0)) h fun g h=>o_ G (Instr.box 28 (r 1)) h fun j h=>o_ G (l_ 26 g) h fun s h=>o_ G (l_ 28 j) h fun u h=>
 c_ G 82 #[s,u] h fun w h=>o_ G (Op.unary .not w) h fun z h=>
 (fun q=>cond z
 (K .ret (upd q 4 (.int .i64 (-1))) h)
 (aS1 G K q h))
 (u7 r 2 g 3 j 4 (.int .i64 0) 5 s 6 u 7 w 8 z)
theorem enter41:Ent 17 41 [.tmp 4] S41:=ent_ (m:=md41) (c:=(Tryz.f41.body.getD .skip)) (fun _ _ _ _=>by kernel_rfl) Tryz.func41 rfl rfl rfl
def md81:Nat->Hint
 |_=>m0_
def S81:Prop:=
 o_ G (Instr.box 26 (r 0)) h fun g h=>o_ G (f_ 26 g 0) h fun j h=>o_ G (l_ 3 j) h fun s h=>
 c_ G 98 #[s,(.int .i64 1),(.int .i64 16)] h fun u h=>g_ u true (o_ G (f_ 26 g 1) h) h fun w h=>g_ u true (o_ G (l_ 3 w) h) h fun z h=>g_ u true (c_ G 98 #[z,(.int .i64 1),(.int .i64 16)] h) h fun C h=>
 y_ G (dh u C (.bool false)) h fun D h=>g_ D true (o_ G (f_ 26 g 2) h) h fun E h=>g_ D true (o_ G (l_ 3 E) h) h fun F h=>g_ D true (c_ G 98 #[F,(.int .i64 1),(.int .i64 8)] h) h fun I h=>
 y_ G (dh D I (.bool false)) h fun J h=>g_ J true (o_ G (f_ 26 g 7) h) h fun L h=>g_ J true (o_ G (l_ 3 L) h) h fun M h=>g_ J true (c_ G 98 #[M,(.int .i64 1),(.int .i64 1000)] h) h fun N h=>
 y_ G (dh J N (.bool false)) h fun O h=>g_ O true (o_ G (f_ 26 g 8) h) h fun P h=>g_ O true (o_ G (l_ 3 P) h) h fun Q h=>g_ O true (c_ G 98 #[Q,(.int .i64 1),(.int .i64 1000)] h) h fun U h=>
 y_ G (dh O U (.bool false)) h fun V h=>g_ V true (o_ G (f_ 26 g 9) h) h fun W h=>g_ V true (o_ G (l_ 3 W) h) h fun Y h=>g_ V true (c_ G 98 #[Y,(.int .i64 1),(.int .i64 1000)] h) h fun Z h=>
 y_ G (dh V Z (.bool false)) h fun aa h=>g_ aa true (o_ G (f_ 26 g 10) h) h fun ab h=>g_ aa true (o_ G (l_ 3 ab) h) h fun ac h=>g_ aa true (c_ G 98 #[ac,(.int .i64 1),(.int .i64 1000)] h) h fun ae h=>
 y_ G (dh aa ae (.bool false)) h fun af h=>g_ af true (o_ G (f_ 26 g 11) h) h fun ag h=>g_ af true (o_ G (l_ 3 ag) h) h fun ah h=>g_ af true (c_ G 98 #[ah,(.int .i64 1),(.int .i64 1000)] h) h fun ai h=>
 y_ G (dh af ai (.bool false)) h fun aj h=>g_ aj true (o_ G (f_ 26 g 13) h) h fun ak h=>g_ aj true (o_ G (l_ 3 ak) h) h fun al h=>g_ aj true (c_ G 98 #[al,(.int .i64 1),(.int .i64 1000)] h) h fun am h=>
 y_ G (dh aj am (.bool false)) h fun an h=>g_ an true (o_ G (f_ 26 g 12) h) h fun ao h=>g_ an true (o_ G (l_ 3 ao) h) h fun ap h=>g_ an true (c_ G 98 #[ap,(.int .i64 1),(.int .i64 16)] h) h fun aq h=>
 y_ G (dh an aq (.bool false)) h fun ar h=>g_ ar true (o_ G (f_ 26 g 14) h) h fun au h=>g_ ar true (o_ G (l_ 3 au) h) h fun av h=>g_ ar true (c_ G 98 #[av,(.int .i64 1),(.int .i64 1048576)] h) h fun aw h=>
 y_ G (dh ar aw (.bool false)) h fun ax h=>
 K .ret (u6 (u10 (u10 (u10 (u10 (u10 r 1 g 2 (.bool false) 3 j 4 s 5 u 6 u 7 w 8 z 9 C 10 D) 11 D 12 E 13 F 14 I 15 J 16 J 17 L 18 M 19 N 20 O) 21 O 22 P 23 Q 24 U 25 V 26 V 27 W 28 Y 29 Z 30 aa) 31 aa 32 ab 33 ac 34 ae 35 af 36 af 37 ag 38 ah 39 ai 40 aj) 41 aj 42 ak 43 al 44 am 45 an 46 an 47 ao 48 ap 49 aq 50 ar) 51 ar 52 au 53 av 54 aw 55 ax 2 ax) h
theorem enter81:Ent 56 81 [.tmp 2] S81:=ent_ (m:=md81) (c:=(Tryz.f81.body.getD .skip)) (fun _ _ _ _=>by kernel_rfl) Tryz.func81 rfl rfl rfl
def md82:Nat->Hint
 |_=>m0_
def S82:Prop:=
 o_ G (Instr.box 26 (r 0)) h fun g h=>o_ G (Instr.box 28 (r 1)) h fun j h=>o_ G (f_ 28 j 0) h fun s h=>o_ G (l_ 3 s) h fun u h=>o_ G (z5_ u (0:Int)) h fun w h=>g_ w true (o_ G (f_ 28 j 1) h) h fun z h=>g_ w true (o_ G (l_ 3 z) h) h fun C h=>g_ w true (o_ G (z5_ C (0:Int)) h) h fun D h=>
 y_ G (dh w D (.bool false)) h fun E h=>g_ E true (o_ G (f_ 28 j 0) h) h fun F h=>g_ E true (o_ G (l_ 3 F) h) h fun I h=>g_ E true (o_ G (f_ 26 g 0) h) h fun J h=>g_ E true (o_ G (l_ 3 J) h) h fun L h=>g_ E true (o_ G (z2_ I L) h) h fun M h=>
 y_ G (dh E M (.bool false)) h fun N h=>g_ N true (o_ G (f_ 28 j 1) h) h fun O h=>g_ N true (o_ G (l_ 3 O) h) h fun P h=>g_ N true (o_ G (f_ 26 g 1) h) h fun Q h=>g_ N true (o_ G (l_ 3 Q) h) h fun U h=>g_ N true (o_ G (z2_ P U) h) h fun V h=>
 y_ G (dh N V (.bool false)) h fun W h=>
 K .ret (u6 (u10 (u10 r 2 g 3 j 4 (.bool false) 5 s 6 u 7 w 8 w 9 z 10 C 11 D) 12 E 13 E 14 F 15 I 16 J 17 L 18 M 19 N 20 N 21 O) 22 P 23 Q 24 U 25 V 26 W 4 W) h
theorem enter82:Ent 27 82 [.tmp 4] S82:=ent_ (m:=md82) (c:=(Tryz.f82.body.getD .skip)) (fun _ _ _ _=>by kernel_rfl) Tryz.func82 rfl rfl rfl
def md83:Nat->Hint
 |5=>mh false [0,0,3,7,0,31] [n_,n_,n_,m_,m_,m_] (fs 6) false
 |_=>m0_
def Y5 (G:Hp) (K:EK) (r:Rg) (h:Hp):Prop:=
 K .ret (u2 r 21 (r 5) 4 (r 5)) h
def Cy:Prop:=
 o_ G (z1_ (r 6) (1:Int)) h fun g h=>
 K .normal (u3 r 11 (r 6) 12 g 6 g) h
def P3:Prop:=
 p_ (i_ 22 (r 0) (r 6)) h fun g h'=>
 w_ G h (l_ 28 g) h' fun j h'=>
 w_ G h (l_ 28 (r 3)) h' fun s h'=>
 dl P_ G h (xEq .eql 28 (.tmp 0) (.tmp 0) j s) h' fun u h=>
 cond u
 (o_ G (z1_ (r 5) (1:Int)) h fun w h'=>
 Cy G K (u9 r 13 (r 0) 14 (r 6) 15 g 16 j 17 s 18 u 19 (r 5) 20 w 5 w) h')
 (Cy G K (u6 r 13 (r 0) 14 (r 6) 15 g 16 j 17 s 18 u) h)
def aO6 (r:Rg) (h:Hp) (K:EK):Prop:=
 o_ G (k_ 22 (r 0)) h fun g h=>o_ G (z2_ (r 6) g) h fun j h=>
 cond j
 (P3 G K (u4 r 7 (r 6) 8 (r 0) 9 g 10 j) h)
 (K (.exit 0) (u4 r 7 (r 6) 8 (r 0) 9 g 10 j) h)
def S83:Prop:=
 o_ G (Instr.box 28 (r 1)) h fun g h=>
 du (aO6 G) (u4 r 3 g 4 (.int .i64 0) 5 (.int .i64 0) 6 (.int .i64 0)) h (dc 0 (di (Y5 G K) K))
theorem enter83:Ent 22 83 [.tmp 4] S83:=ent_ (m:=md83) (c:=(Tryz.f83.body.getD .skip)) (fun _ _ _ _=>by kernel_rfl) Tryz.func83 rfl rfl rfl
def md84:Nat->Hint
 |4=>mh false [0,1,0,7,15,31,0,127,255] [n_,m_,n_,n_,m_,e_,m_,e_,n_] (fs 5++[true]++fs 3) true
 |_=>m0_
def Y4 (G:Hp) (K:EK) (r:Rg) (h:Hp):Prop:=
 K .ret (upd r 4 (.bool false)) h
def P0:Prop:=
 o_ G (z1_ (r 5) (1:Int)) h fun g h=>
 K .normal (u3 r 11 (r 5) 12 g 5 g) h
def P1:Prop:=
 ∃h':Hp,h'.le h/\
 p_ (f_ 26 (r 2) 5) h fun g h=>
 w_ G h' (l_ 23 g) h fun j h=>
 p_ (i_ 23 j (r 5)) h fun s h=>
 w_ G h' (l_ 30 s) h fun u h=>
 c_ G 40 #[u] h fun w h=>h'.le h/\
 w_ G h' (l_ 28 (r 3)) h fun z h=>
 c_ G 83 #[w,z] h fun C h=>
 p_ (z6_ C (0:Int)) h fun D h=>
 (fun q=>cond D
 (K .ret (upd q 4 (.bool true)) h)
 (P0 G K q h))
 (u9 r 13 g 14 j 15 (r 5) 16 s 17 u 18 w 19 z 20 C 21 D)
def aO5 (r:Rg) (h:Hp) (K:EK):Prop:=
 o_ G (f_ 26 (r 2) 5) h fun g h=>o_ G (l_ 23 g) h fun j h=>o_ G (k_ 23 j) h fun s h=>o_ G (z2_ (r 5) s) h fun u h=>
 cond u
 (P1 G K (u5 r 6 (r 5) 7 g 8 j 9 s 10 u) h)
 (K (.exit 0) (u5 r 6 (r 5) 7 g 8 j 9 s 10 u) h)
def S84:Prop:=
 o_ G (Instr.box 26 (r 0)) h fun g h=>o_ G (Instr.box 28 (r 1)) h fun j h=>
 du (aO5 G) (u4 r 2 g 3 j 4 (.bool false) 5 (.int .i64 0)) h (dc 0 (di (Y4 G K) K))
theorem enter84:Ent 22 84 [.tmp 4] S84:=ent_ (m:=md84) (c:=(Tryz.f84.body.getD .skip)) (fun _ _ _ _=>by kernel_rfl) Tryz.func84 rfl rfl rfl
def md85:Nat->Hint
 |_=>m0_
def S85:Prop:=
 o_ G (Instr.box 26 (r 0)) h fun g h=>o_ G (Instr.box 28 (r 1)) h fun j h=>o_ G (l_ 26 g) h fun s h=>o_ G (f_ 28 j 0) h fun u h=>o_ G (l_ 3 u) h fun w h=>o_ G (z1_ w (1:Int)) h fun z h=>o_ G (f_ 28 j 1) h fun C h=>o_ G (l_ 3 C) h fun D h=>o_ G (Instr.build 28 #[(0,z),(1,D)]) h fun E h=>
 c_ G 60 #[s,E] h fun F h=>g_ F false (o_ G (l_ 26 g) h) h fun I h=>g_ F false (o_ G (f_ 28 j 0) h) h fun J h=>g_ F false (o_ G (l_ 3 J) h) h fun L h=>g_ F false (o_ G (f_ 28 j 1) h) h fun M h=>g_ F false (o_ G (l_ 3 M) h) h fun N h=>g_ F false (o_ G (z1_ N (1:Int)) h) h fun O h=>g_ F false (o_ G (Instr.build 28 #[(0,L),(1,O)]) h) h fun P h=>g_ F false (c_ G 60 #[I,P] h) h fun Q h=>
 y_ G (dh F (.bool true) Q) h fun U h=>
 K .ret (u2 (u10 (u10 r 2 g 3 j 4 (.bool false) 5 s 6 u 7 w 8 z 9 C 10 D 11 E) 12 F 13 F 14 I 15 J 16 L 17 M 18 N 19 O 20 P 21 Q) 22 U 4 U) h
theorem enter85:Ent 23 85 [.tmp 4] S85:=ent_ (m:=md85) (c:=(Tryz.f85.body.getD .skip)) (fun _ _ _ _=>by kernel_rfl) Tryz.func85 rfl rfl rfl
def md86:Nat->Hint
 |5=>⟨false,[0,1,3,7,7,23,7,119,247,503,1023,2047,4095,8191,16383,32767,16383,131071,262143,524287,1048575,16383,2113535,8388607,16777215],[.pureN,.pureN,.pureN,.pureM,.pureN,.pureM,.pureN,.pureN,.pureN,.pureM,.eff,.pureN,.pureN,.pureN,.pureN,.pureM,.pureN,.pureN,.pureN,.pureM,.pureM,.pureN,.pureM,.pureN,.pureN],[.pureN,.pureN,.pureN,.pureM,.pureN,.pureM,.pureN,.pureN,.pureN,.pureM,.eff,.pureN,.pureN,.pureN,.pureN,.late,.pureN,.pureN,.pureN,.late,.late,.pureN,.late,.pureN,.pureN],(fs 25),false⟩
 |10=>mh false [0,1,0,7,15,31,0,64,0,448,960,1984,4095] [n_,m_,n_,n_,n_,m_,n_,m_,n_,n_,n_,m_,m_] (fs 13) false
 |23=>mh false [0,0,3,7,0,0,48,112,255] [n_,n_,n_,m_,n_,n_,n_,m_,m_] (fs 9) false
 |_=>m0_
def aO3 (G:Hp) (K:EK) (r:Rg) (h:Hp):Prop:=
 K .ret (upd r 2 (.bool true)) h
def Py:Prop:=
 o_ G (z1_ (r 6) (1:Int)) h fun g h=>
 K .normal (u3 r 73 (r 6) 74 g 6 g) h
def Dc:Prop:=
 o_ G (z1_ (r 7) (1:Int)) h fun g h=>
 K .normal (u3 r 84 (r 7) 85 g 7 g) h
def Ga:Prop:=
 p_ (i_ 168 (r 3) (r 7)) h fun g h'=>
 w_ G h (l_ 3 g) h' fun j h'=>
 p_ (i_ 168 (r 3) (r 6)) h' fun s h'=>
 w_ G h (l_ 3 s) h' fun u h'=>
 dl P_ G h (xEq .eql 3 (.tmp 0) (.tmp 0) j u) h' fun w h=>
 (fun q=>cond w
 (K .ret (upd q 2 (.bool false)) h)
 (Dc G K q h))
 (u9 r 86 (r 3) 87 (r 7) 88 g 89 j 90 (r 3) 91 (r 6) 92 s 93 u 94 w)
def Hf (r:Rg) (h:Hp) (K:EK):Prop:=
 o_ G (z2_ (r 7) (r 6)) h fun g h=>
 cond g
 (Ga G K (u3 r 81 (r 7) 82 (r 6) 83 g) h)
 (K (.exit 6) (u3 r 81 (r 7) 82 (r 6) 83 g) h)
def Px:Prop:=
 du (Hf G) (upd r 7 (.int .i64 0)) h (dc 6 (dc 5 (di (Py G K) K)))
def Pz:Prop:=
 o_ G (i_ 168 (r 3) (r 6)) h fun g h=>o_ G (l_ 3 g) h fun j h=>
 c_ G 98 #[j,(.int .i64 1),(.int .i64 1000000000)] h fun s h=>o_ G (Op.unary .not s) h fun u h=>
 (fun q=>cond u
 (K .ret (upd q 2 (.bool false)) h)
 (Px G K q h))
 (u6 r 75 (r 3) 76 (r 6) 77 g 78 j 79 s 80 u)
def aO2 (r:Rg) (h:Hp) (K:EK):Prop:=
 o_ G (k_ 168 (r 3)) h fun g h=>o_ G (z2_ (r 6) g) h fun j h=>
 cond j
 (Pz G K (u4 r 69 (r 6) 70 (r 3) 71 g 72 j) h)
 (K (.exit 4) (u4 r 69 (r 6) 70 (r 3) 71 g 72 j) h)
def aO4:Prop:=
 du (aO2 G) (upd r 6 (.int .i64 0)) h (dc 4 (di (aO3 G K) K))
def Y3:Prop:=
 o_ G (k_ 168 (r 3)) h fun g h=>o_ G (z6_ g (512:Int)) h fun j h=>
 cond j
 (K .ret (u4 r 66 (r 3) 67 g 68 j 2 (.bool false)) h)
 (aO4 G K (u3 r 66 (r 3) 67 g 68 j) h)
def B6:Prop:=
 o_ G (z1_ (r 4) (1:Int)) h fun g h=>
 K .normal (u3 r 13 (r 4) 14 g 4 g) h
def Iu:Prop:=
 o_ G (f_ 26 (r 1) 6) h fun g h=>o_ G (l_ 24 g) h fun j h=>o_ G (i_ 24 j (r 4)) h fun s h=>o_ G (f_ 234 s 1) h fun u h=>o_ G (l_ 168 u) h fun w h=>o_ G (Builtin.append_ #[168,168] 168 #[r 3,w]) h fun z h=>
 B6 G K (u9 r 58 (r 3) 59 g 60 j 61 (r 4) 62 s 63 u 64 w 65 z 3 z) h
def Aq:Prop:=
 o_ G (z1_ (r 5) (1:Int)) h fun g h=>
 K .normal (u3 r 43 (r 5) 44 g 5 g) h
def Ar:Prop:=
 p_ (f_ 26 (r 1) 6) h fun g h'=>
 w_ G h (l_ 24 g) h' fun j h'=>
 p_ (i_ 24 j (r 5)) h' fun s h'=>
 p_ (f_ 234 s 0) h' fun u h'=>
 w_ G h (l_ 28 u) h' fun w h'=>
 p_ (f_ 26 (r 1) 6) h' fun z h'=>
 w_ G h (l_ 24 z) h' fun C h'=>
 p_ (i_ 24 C (r 4)) h' fun D h'=>
 p_ (f_ 234 D 0) h' fun E h'=>
 w_ G h (l_ 28 E) h' fun F h'=>
 dl P_ G h (xEq .eql 28 (.tmp 0) (.tmp 0) w F) h' fun I h=>
 (fun q=>cond I
 (K .ret (upd q 2 (.bool false)) h)
 (Aq G K q h))
 (u3 (u10 r 45 g 46 j 47 (r 5) 48 s 49 u 50 w 51 z 52 C 53 (r 4) 54 D) 55 E 56 F 57 I)
def B5 (r:Rg) (h:Hp) (K:EK):Prop:=
 o_ G (z2_ (r 5) (r 4)) h fun g h=>
 cond g
 (Ar G K (u3 r 40 (r 5) 41 (r 4) 42 g) h)
 (K (.exit 2) (u3 r 40 (r 5) 41 (r 4) 42 g) h)
def Iv:Prop:=
 du (B5 G) (upd r 5 (.int .i64 0)) h (dc 2 (di (Iu G K) (dc 1 (di (B6 G K) K))))
def Iw:Prop:=
 p_ (z6_ (r 4) (256:Int)) h fun g h'=>g_ g false (w_ G h (l_ 26 (r 1)) h') h' fun j h'=>g_ g false (p_ (f_ 26 (r 1) 6) h') h' fun s h'=>g_ g false (w_ G h (l_ 24 s) h') h' fun u h'=>g_ g false (fun K1=>K1 (r 4) h') h' fun w h'=>g_ g false (p_ (i_ 24 u w) h') h' fun z h'=>g_ g false (p_ (f_ 234 z 0) h') h' fun C h'=>g_ g false (w_ G h (l_ 28 C) h') h' fun D h=>g_ g false (c_ G 133 #[j,D] h) h fun E h=>g_ g false (p_ (Op.unary .not E) h) h fun F h=>
 dl P_ noHp noHp (dh g (.bool true) F) h fun I h=>g_ I false (p_ (f_ 26 (r 1) 6) h) h fun J h=>g_ I false (w_ G h (l_ 24 J) h) h fun L h=>g_ I false (fun K1=>K1 (r 4) h) h fun M h=>g_ I false (p_ (i_ 24 L M) h) h fun N h=>g_ I false (p_ (f_ 234 N 1) h) h fun O h=>g_ I false (w_ G h (l_ 168 O) h) h fun P h=>g_ I false (w_ G h (k_ 168 P) h) h fun Q h=>g_ I false (p_ (f_ 26 (r 1) 2) h) h fun U h=>g_ I false (w_ G h (l_ 3 U) h) h fun V h=>g_ I false (p_ (z6_ Q V) h) h fun W h=>
 dl P_ noHp noHp (dh I (.bool true) W) h fun Y h=>
 (fun q=>cond Y
 (K .ret (upd q 2 (.bool false)) h)
 (Iv G K q h))
 (u5 (u10 (u10 r 15 (r 4) 16 g 17 g 18 j 19 s 20 u 21 w 22 z 23 C 24 D) 25 E 26 F 27 I 28 I 29 J 30 L 31 M 32 N 33 O 34 P) 35 Q 36 U 37 V 38 W 39 Y)
def ae2 (r:Rg) (h:Hp) (K:EK):Prop:=
 o_ G (f_ 26 (r 1) 6) h fun g h=>o_ G (l_ 24 g) h fun j h=>o_ G (k_ 24 j) h fun s h=>o_ G (z2_ (r 4) s) h fun u h=>
 (fun q=>cond u
 (Iw G K q h)
 (K (.exit 0) q h))
 (u5 r 8 (r 4) 9 g 10 j 11 s 12 u)
def S86:Prop:=
 o_ G (Instr.box 26 (r 0)) h fun g h=>
 du (ae2 G) (u4 r 1 g 2 (.bool false) 3 (.slice none 0 0) 4 (.int .i64 0)) h (dc 0 (di (Y3 G K) K))
theorem enter86:Ent 95 86 [.tmp 2] S86:=ent_ (m:=md86) (c:=(Tryz.f86.body.getD .skip)) (fun _ _ _ _=>by kernel_rfl) Tryz.func86 rfl rfl rfl
def md98:Nat->Hint
 |_=>m0_
def S98:Prop:=
 o_ G (z5_ (r 0) (r 1)) h fun g h=>g_ g true (fun K1=>K1 (r 0) h) h fun j h=>g_ g true (fun K1=>K1 (r 2) h) h fun s h=>g_ g true (o_ G (z7_ j s) h) h fun u h=>
 y_ G (dh g u (.bool false)) h fun w h=>
 K .ret (u10 r 6 (.bool false) 7 (r 0) 8 (r 1) 9 g 10 g 11 j 12 s 13 u 14 w 6 w) h
theorem enter98:Ent 15 98 [.tmp 6] S98:=ent_ (m:=md98) (c:=(Tryz.f98.body.getD .skip)) (fun _ _ _ _=>by kernel_rfl) Tryz.func98 rfl rfl rfl
end
end Go.Proofs.YtfflipnhffknnaaGreatDoor
end

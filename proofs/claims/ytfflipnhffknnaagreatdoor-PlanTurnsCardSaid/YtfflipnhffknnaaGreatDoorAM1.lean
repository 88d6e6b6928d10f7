/- Texts of the proof, one behind the other. -/
import Derived.Test.YtfflipnhffknnaaGreatDoorAH2
import Derived.Test.YtfflipnhffknnaaGreatDoorProg
import Derived.Test.YtfflipnhffknnaaGreatDoorAH3
import Derived.Tactics
import Derived.Tactics2
import Derived.Defers
import Derived.Laws.Pointers
import Derived.Laws.LoneSync
import Derived.RegionTactic
import Derived.RegionCalls
import Derived.ChangeAlike
set_option linter.unusedVariables false
set_option maxRecDepth 100000
set_option linter.unusedSimpArgs false
set_option maxHeartbeats 1600000
set_option linter.unusedSectionVars false
set_option linter.defProp false
section
namespace Go.Proofs.YtfflipnhffknnaaGreatDoor
open Go Go.HL
noncomputable abbrev P_:Program:=Tryz.prog
theorem mixed:Tryz.prog.follows .mixedOrders=true:=by kernel_rfl
abbrev FA (t i o:Nat):Prop:=∀{G h:Hp} {a:Addr} {K:VK},wpH Tryz.prog G (Instr.fieldAt t (.pointer (some a)) i) h K=K (.pointer (some (a.add o))) h
abbrev FB (t i o:Nat):Prop:=∀{G h:Hp} {a:Addr} {K:Value->Prop},pw Tryz.prog G h (Instr.fieldAt t (.pointer (some a)) i) K=K (.pointer (some (a.add o)))
abbrev LA (t:Nat):Prop:=∀{G h:Hp} {a:Addr} {K:VK},wpH Tryz.prog G (Instr.loadAt t (.pointer (some a))) h K=(∃x,af G h a=some x/\K x h)
abbrev LB (t:Nat):Prop:=∀{G h:Hp} {a:Addr} {K:Value->Prop},pw Tryz.prog G h (Instr.loadAt t (.pointer (some a))) K=(∃x,af G h a=some x/\K x)
abbrev CF (f:Nat):Prop:=∀{G h:Hp} {args:Array Value} {K:VK},opH Tryz.prog G (callFunc f args) h K=al Tryz.prog G f args h K
abbrev EK:=Exit->Rg->Hp->Prop
abbrev Ent (n f:Nat) (l:List ResultVar) (S:Hp->EK->Rg->Hp->Prop):Prop:=∀{G:Hp} {h:Hp} {args:Array Value} {R:VK},args.size<=n->S G (retK Tryz.prog G l R) (regs args) h->al Tryz.prog G f args h R
abbrev Weq (n:Nat) (m:Nat->Hint) (c:Code) (S:Hp->EK->Rg->Hp->Prop):Prop:=∀(G:Hp) (K:EK) (r:Rg) (h:Hp),wpC Tryz.prog G n m true c r h K=S G K r h
theorem ent_ {n f:Nat} {l:List ResultVar} {m:Nat->Hint} {S:Hp->EK->Rg->Hp->Prop} {fn:Func} {c:Code} (e:Weq n m c S) (hf:Tryz.prog.funcs[f]?=some fn) (hb:fn.body=some c) (hn:fn.ntmps=n) (hl:fn.results.toList=l):Ent n f l S:=fun hq H=>al.enter (md:=m) mixed hf hb (by rw [hn];exact hq) (by rw [hn,hl,e];exact H)
abbrev o_ (G:Hp) (x:Sem Value) (h:Hp) (K:Value->Hp->Prop):Prop:=opH Tryz.prog G (sv x) h K
def mh (a:Bool) (B:List Nat) (k:List Kind) (n:List Bool) (p:Bool):Hint:=⟨a,B,k,k,n,p⟩
def n_:Kind := .pureN
def m_:Kind := .pureM
def e_:Kind := .eff
def fs (n:Nat):List Bool:=List.replicate n false
abbrev u2 (r:Rg) (a0:Nat) (v0:Value) (a1:Nat) (v1:Value):Rg:=upd (upd r a0 v0) a1 v1
abbrev u3 (r:Rg) (a0:Nat) (v0:Value) (a1:Nat) (v1:Value) (a2:Nat) (v2:Value):Rg:=upd (u2 r a0 v0 a1 v1) a2 v2
abbrev u4 (r:Rg) (a0:Nat) (v0:Value) (a1:Nat) (v1:Value) (a2:Nat) (v2:Value) (a3:Nat) (v3:Value):Rg:=upd (u3 r a0 v0 a1 v1 a2 v2) a3 v3
abbrev u5 (r:Rg) (a0:Nat) (v0:Value) (a1:Nat) (v1:Value) (a2:Nat) (v2:Value) (a3:Nat) (v3:Value) (a4:Nat) (v4:Value):Rg:=upd (u4 r a0 v0 a1 v1 a2 v2 a3 v3) a4 v4
abbrev u6 (r:Rg) (a0:Nat) (v0:Value) (a1:Nat) (v1:Value) (a2:Nat) (v2:Value) (a3:Nat) (v3:Value) (a4:Nat) (v4:Value) (a5:Nat) (v5:Value):Rg:=upd (u5 r a0 v0 a1 v1 a2 v2 a3 v3 a4 v4) a5 v5
abbrev u7 (r:Rg) (a0:Nat) (v0:Value) (a1:Nat) (v1:Value) (a2:Nat) (v2:Value) (a3:Nat) (v3:Value) (a4:Nat) (v4:Value) (a5:Nat) (v5:Value) (a6:Nat) (v6:Value):Rg:=upd (u6 r a0 v0 a1 v1 a2 v2 a3 v3 a4 v4 a5 v5) a6 v6
abbrev u8 (r:Rg) (a0:Nat) (v0:Value) (a1:Nat) (v1:Value) (a2:Nat) (v2:Value) (a3:Nat) (v3:Value) (a4:Nat) (v4:Value) (a5:Nat) (v5:Value) (a6:Nat) (v6:Value) (a7:Nat) (v7:Value):Rg:=upd (u7 r a0 v0 a1 v1 a2 v2 a3 v3 a4 v4 a5 v5 a6 v6) a7 v7
abbrev u9 (r:Rg) (a0:Nat) (v0:Value) (a1:Nat) (v1:Value) (a2:Nat) (v2:Value) (a3:Nat) (v3:Value) (a4:Nat) (v4:Value) (a5:Nat) (v5:Value) (a6:Nat) (v6:Value) (a7:Nat) (v7:Value) (a8:Nat) (v8:Value):Rg:=upd (u8 r a0 v0 a1 v1 a2 v2 a3 v3 a4 v4 a5 v5 a6 v6 a7 v7) a8 v8
abbrev u10 (r:Rg) (a0:Nat) (v0:Value) (a1:Nat) (v1:Value) (a2:Nat) (v2:Value) (a3:Nat) (v3:Value) (a4:Nat) (v4:Value) (a5:Nat) (v5:Value) (a6:Nat) (v6:Value) (a7:Nat) (v7:Value) (a8:Nat) (v8:Value) (a9:Nat) (v9:Value):Rg:=upd (u9 r a0 v0 a1 v1 a2 v2 a3 v3 a4 v4 a5 v5 a6 v6 a7 v7 a8 v8) a9 v9
abbrev c_ (G:Hp) (f:FuncId) (a:Array Value) (h:Hp) (K:Value->Hp->Prop):Prop:=opH Tryz.prog G (callFunc f a) h K
abbrev g_ (v:Value) (b:Bool) (X:(Value->Hp->Prop)->Prop) (h:Hp) (K:Value->Hp->Prop):Prop:=gd (Hb v b) X h K
abbrev w_ (G q:Hp) (x:Sem Value) (h:Hp) (K:Value->Hp->Prop):Prop:=bm Tryz.prog G q (sv x) h K
abbrev p_ (x:Sem Value) (h:Hp) (K:Value->Hp->Prop):Prop:=bm Tryz.prog noHp noHp (sv x) h K
theorem fa119_0:FA 119 0 0:=fun {_ _ _ _}=>by kernel_rfl
theorem ao4:FB 119 0 0:=fun {_ _ _ _}=>by kernel_rfl
theorem fa119_1:FA 119 1 2:=fun {_ _ _ _}=>by kernel_rfl
theorem Tp:FB 119 1 2:=fun {_ _ _ _}=>by kernel_rfl
theorem Xv:FA 124 0 0:=fun {_ _ _ _}=>by kernel_rfl
theorem Tn:FB 124 0 0:=fun {_ _ _ _}=>by kernel_rfl
theorem ao3:FB 134 0 0:=fun {_ _ _ _}=>by kernel_rfl
theorem Di:FB 134 1 16:=fun {_ _ _ _}=>by kernel_rfl
theorem ao2:FB 134 2 17:=fun {_ _ _ _}=>by kernel_rfl
theorem Tm:FB 134 3 18:=fun {_ _ _ _}=>by kernel_rfl
theorem Tl:FB 134 4 19:=fun {_ _ _ _}=>by kernel_rfl
theorem fa134_5:FA 134 5 20:=fun {_ _ _ _}=>by kernel_rfl
theorem fa134_6:FA 134 6 21:=fun {_ _ _ _}=>by kernel_rfl
theorem ao1:FB 134 6 21:=fun {_ _ _ _}=>by kernel_rfl
theorem I6:FB 134 7 22:=fun {_ _ _ _}=>by kernel_rfl
theorem I5:FB 134 8 23:=fun {_ _ _ _}=>by kernel_rfl
theorem Xu:FA 134 9 24:=fun {_ _ _ _}=>by kernel_rfl
theorem ao0:FB 134 9 24:=fun {_ _ _ _}=>by kernel_rfl
theorem fa137_0:FA 137 0 0:=fun {_ _ _ _}=>by kernel_rfl
theorem Tk:FB 137 0 0:=fun {_ _ _ _}=>by kernel_rfl
theorem fa137_1:FA 137 1 1:=fun {_ _ _ _}=>by kernel_rfl
theorem Tj:FB 137 1 1:=fun {_ _ _ _}=>by kernel_rfl
theorem Xt:FA 139 0 0:=fun {_ _ _ _}=>by kernel_rfl
theorem an9:FB 139 0 0:=fun {_ _ _ _}=>by kernel_rfl
theorem Xs:FA 139 1 1:=fun {_ _ _ _}=>by kernel_rfl
theorem an8:FB 139 1 1:=fun {_ _ _ _}=>by kernel_rfl
theorem an7:FB 146 0 0:=fun {_ _ _ _}=>by kernel_rfl
theorem fa146_1:FA 146 1 2:=fun {_ _ _ _}=>by kernel_rfl
theorem fa146_2:FA 146 2 13:=fun {_ _ _ _}=>by kernel_rfl
theorem an6:FB 146 2 13:=fun {_ _ _ _}=>by kernel_rfl
theorem Xr:FA 146 3 14:=fun {_ _ _ _}=>by kernel_rfl
theorem an5:FB 146 3 14:=fun {_ _ _ _}=>by kernel_rfl
theorem Px:FA 151 0 0:=fun {_ _ _ _}=>by kernel_rfl
theorem an4:FB 151 0 0:=fun {_ _ _ _}=>by kernel_rfl
theorem Pw:FA 151 1 1:=fun {_ _ _ _}=>by kernel_rfl
theorem Ti:FB 151 1 1:=fun {_ _ _ _}=>by kernel_rfl
theorem fa170_0:FA 170 0 0:=fun {_ _ _ _}=>by kernel_rfl
theorem fa170_1:FA 170 1 3:=fun {_ _ _ _}=>by kernel_rfl
theorem an3:FB 170 1 3:=fun {_ _ _ _}=>by kernel_rfl
theorem fa173_0:FA 173 0 0:=fun {_ _ _ _}=>by kernel_rfl
theorem an2:FB 173 0 0:=fun {_ _ _ _}=>by kernel_rfl
theorem fa173_1:FA 173 1 1:=fun {_ _ _ _}=>by kernel_rfl
theorem an1:FB 173 1 1:=fun {_ _ _ _}=>by kernel_rfl
theorem fa173_2:FA 173 2 2:=fun {_ _ _ _}=>by kernel_rfl
theorem an0:FB 173 2 2:=fun {_ _ _ _}=>by kernel_rfl
theorem am9:FB 173 3 3:=fun {_ _ _ _}=>by kernel_rfl
theorem fa188_0:FA 188 0 0:=fun {_ _ _ _}=>by kernel_rfl
theorem Gz:FA 203 0 0:=fun {_ _ _ _}=>by kernel_rfl
theorem Gy:FA 203 1 1:=fun {_ _ _ _}=>by kernel_rfl
theorem Gw:FA 203 2 2:=fun {_ _ _ _}=>by kernel_rfl
theorem Th:FB 215 0 0:=fun {_ _ _ _}=>by kernel_rfl
theorem am8:FB 215 1 1:=fun {_ _ _ _}=>by kernel_rfl
theorem Dh:FA 215 2 2:=fun {_ _ _ _}=>by kernel_rfl
theorem am7:FB 215 2 2:=fun {_ _ _ _}=>by kernel_rfl
theorem fa218_0:FA 218 0 0:=fun {_ _ _ _}=>by kernel_rfl
theorem am6:FB 218 0 0:=fun {_ _ _ _}=>by kernel_rfl
theorem fa218_1:FA 218 1 1:=fun {_ _ _ _}=>by kernel_rfl
theorem am5:FB 218 1 1:=fun {_ _ _ _}=>by kernel_rfl
theorem fa218_2:FA 218 2 2:=fun {_ _ _ _}=>by kernel_rfl
theorem am4:FB 218 2 2:=fun {_ _ _ _}=>by kernel_rfl
theorem fa227_0:FA 227 0 0:=fun {_ _ _ _}=>by kernel_rfl
theorem am3:FB 227 0 0:=fun {_ _ _ _}=>by kernel_rfl
theorem fa227_1:FA 227 1 3:=fun {_ _ _ _}=>by kernel_rfl
theorem fa232_0:FA 232 0 0:=fun {_ _ _ _}=>by kernel_rfl
theorem fa232_1:FA 232 1 11:=fun {_ _ _ _}=>by kernel_rfl
theorem fa232_2:FA 232 2 12:=fun {_ _ _ _}=>by kernel_rfl
theorem fa234_0:FA 234 0 0:=fun {_ _ _ _}=>by kernel_rfl
theorem I4:FB 234 0 0:=fun {_ _ _ _}=>by kernel_rfl
theorem Xq:FA 234 1 2:=fun {_ _ _ _}=>by kernel_rfl
theorem Tg:FB 234 1 2:=fun {_ _ _ _}=>by kernel_rfl
theorem Bz:FA 26 0 0:=fun {_ _ _ _}=>by kernel_rfl
theorem Xp:FB 26 0 0:=fun {_ _ _ _}=>by kernel_rfl
theorem E0:FA 26 1 1:=fun {_ _ _ _}=>by kernel_rfl
theorem Xm:FB 26 1 1:=fun {_ _ _ _}=>by kernel_rfl
theorem Dg:FA 26 10 10:=fun {_ _ _ _}=>by kernel_rfl
theorem Df:FA 26 11 11:=fun {_ _ _ _}=>by kernel_rfl
theorem am2:FB 26 11 11:=fun {_ _ _ _}=>by kernel_rfl
theorem Xo:FA 26 12 12:=fun {_ _ _ _}=>by kernel_rfl
theorem Xn:FA 26 13 13:=fun {_ _ _ _}=>by kernel_rfl
theorem Gv:FA 26 14 14:=fun {_ _ _ _}=>by kernel_rfl
theorem am1:FA 26 2 2:=fun {_ _ _ _}=>by kernel_rfl
theorem fa26_2p:FB 26 2 2:=fun {_ _ _ _}=>by kernel_rfl
theorem I3:FA 26 3 3:=fun {_ _ _ _}=>by kernel_rfl
theorem Pv:FB 26 3 3:=fun {_ _ _ _}=>by kernel_rfl
theorem Pu:FA 26 4 4:=fun {_ _ _ _}=>by kernel_rfl
theorem Pt:FB 26 4 4:=fun {_ _ _ _}=>by kernel_rfl
theorem I2:FA 26 5 5:=fun {_ _ _ _}=>by kernel_rfl
theorem Xl:FB 26 5 5:=fun {_ _ _ _}=>by kernel_rfl
theorem Vo:FA 26 6 6:=fun {_ _ _ _}=>by kernel_rfl
theorem Xk:FB 26 6 6:=fun {_ _ _ _}=>by kernel_rfl
theorem Bw:FA 26 7 7:=fun {_ _ _ _}=>by kernel_rfl
theorem Ez:FA 26 8 8:=fun {_ _ _ _}=>by kernel_rfl
theorem Ey:FA 26 9 9:=fun {_ _ _ _}=>by kernel_rfl
theorem zr:FA 28 0 0:=fun {_ _ _ _}=>by kernel_rfl
theorem Xj:FB 28 0 0:=fun {_ _ _ _}=>by kernel_rfl
theorem Bv:FA 28 1 1:=fun {_ _ _ _}=>by kernel_rfl
theorem Xi:FB 28 1 1:=fun {_ _ _ _}=>by kernel_rfl
theorem tk:FA 30 0 0:=fun {_ _ _ _}=>by kernel_rfl
theorem Ps:FB 30 0 0:=fun {_ _ _ _}=>by kernel_rfl
theorem Ex:FA 30 1 2:=fun {_ _ _ _}=>by kernel_rfl
theorem fa30_1p:FB 30 1 2:=fun {_ _ _ _}=>by kernel_rfl
theorem am0:FA 45 0 0:=fun {_ _ _ _}=>by kernel_rfl
theorem al9:FA 45 1 3:=fun {_ _ _ _}=>by kernel_rfl
theorem zq:FA 48 0 0:=fun {_ _ _ _}=>by kernel_rfl
theorem al8:FA 48 1 1:=fun {_ _ _ _}=>by kernel_rfl
theorem fa48_1p:FB 48 1 1:=fun {_ _ _ _}=>by kernel_rfl
theorem Vn:FA 48 2 2:=fun {_ _ _ _}=>by kernel_rfl
theorem Pr:FB 48 2 2:=fun {_ _ _ _}=>by kernel_rfl
theorem al7:FA 48 3 3:=fun {_ _ _ _}=>by kernel_rfl
theorem Pq:FB 48 3 3:=fun {_ _ _ _}=>by kernel_rfl
theorem Pp:FA 48 4 6:=fun {_ _ _ _}=>by kernel_rfl
theorem De:FB 48 4 6:=fun {_ _ _ _}=>by kernel_rfl
theorem Vm:FA 48 5 9:=fun {_ _ _ _}=>by kernel_rfl
theorem Xh:FB 48 5 9:=fun {_ _ _ _}=>by kernel_rfl
theorem I1:FA 48 6 10:=fun {_ _ _ _}=>by kernel_rfl
theorem Po:FB 48 6 10:=fun {_ _ _ _}=>by kernel_rfl
theorem fa54_0:FA 54 0 0:=fun {_ _ _ _}=>by kernel_rfl
theorem fa54_1:FA 54 1 1:=fun {_ _ _ _}=>by kernel_rfl
theorem fa54_2:FA 54 2 2:=fun {_ _ _ _}=>by kernel_rfl
theorem fa75_0:FA 75 0 0:=fun {_ _ _ _}=>by kernel_rfl
theorem fa75_1:FA 75 1 1:=fun {_ _ _ _}=>by kernel_rfl
theorem fa75_2:FA 75 2 2:=fun {_ _ _ _}=>by kernel_rfl
theorem ld3:LA 3:=fun {_ _ _ _}=>by kernel_rfl
theorem ld3p:LB 3:=fun {_ _ _ _}=>by kernel_rfl
theorem ld4:LA 4:=fun {_ _ _ _}=>by kernel_rfl
theorem ld4p:LB 4:=fun {_ _ _ _}=>by kernel_rfl
theorem ld22:LA 22:=fun {_ _ _ _}=>by kernel_rfl
theorem Xc:LB 22:=fun {_ _ _ _}=>by kernel_rfl
theorem ld23:LA 23:=fun {_ _ _ _}=>by kernel_rfl
theorem ld23p:LB 23:=fun {_ _ _ _}=>by kernel_rfl
theorem ld24:LA 24:=fun {_ _ _ _}=>by kernel_rfl
theorem ld24p:LB 24:=fun {_ _ _ _}=>by kernel_rfl
theorem ld26 {G h:Hp} {a:Addr} {K:VK}:wpH Tryz.prog G (Instr.loadAt 26 (.pointer (some a))) h K=(∃x0,af G h (a.add 0)=some x0/\∃x1,af G h (a.add 1)=some x1/\∃x2,af G h (a.add 2)=some x2/\∃x3,af G h (a.add 3)=some x3/\∃x4,af G h (a.add 4)=some x4/\∃x5,af G h (a.add 5)=some x5/\∃x6,af G h (a.add 6)=some x6/\∃x7,af G h (a.add 7)=some x7/\∃x8,af G h (a.add 8)=some x8/\∃x9,af G h (a.add 9)=some x9/\∃x10,af G h (a.add 10)=some x10/\∃x11,af G h (a.add 11)=some x11/\∃x12,af G h (a.add 12)=some x12/\∃x13,af G h (a.add 13)=some x13/\∃x14,af G h (a.add 14)=some x14/\∃x15,af G h (a.add 15)=some x15/\K (.agg #[x0,x1,x2,x3,x4,x5,x6,x7,x8,x9,x10,x11,x12,x13,x14,x15]) h):=by kernel_rfl
theorem zi {G h:Hp} {a:Addr} {K:Value->Prop}:pw Tryz.prog G h (Instr.loadAt 26 (.pointer (some a))) K=(∃x0,af G h (a.add 0)=some x0/\∃x1,af G h (a.add 1)=some x1/\∃x2,af G h (a.add 2)=some x2/\∃x3,af G h (a.add 3)=some x3/\∃x4,af G h (a.add 4)=some x4/\∃x5,af G h (a.add 5)=some x5/\∃x6,af G h (a.add 6)=some x6/\∃x7,af G h (a.add 7)=some x7/\∃x8,af G h (a.add 8)=some x8/\∃x9,af G h (a.add 9)=some x9/\∃x10,af G h (a.add 10)=some x10/\∃x11,af G h (a.add 11)=some x11/\∃x12,af G h (a.add 12)=some x12/\∃x13,af G h (a.add 13)=some x13/\∃x14,af G h (a.add 14)=some x14/\∃x15,af G h (a.add 15)=some x15/\K (.agg #[x0,x1,x2,x3,x4,x5,x6,x7,x8,x9,x10,x11,x12,x13,x14,x15])):=by kernel_rfl
theorem ld28 {G h:Hp} {a:Addr} {K:VK}:wpH Tryz.prog G (Instr.loadAt 28 (.pointer (some a))) h K=(∃x0,af G h (a.add 0)=some x0/\∃x1,af G h (a.add 1)=some x1/\K (.agg #[x0,x1]) h):=by kernel_rfl
theorem t6 {G h:Hp} {a:Addr} {K:Value->Prop}:pw Tryz.prog G h (Instr.loadAt 28 (.pointer (some a))) K=(∃x0,af G h (a.add 0)=some x0/\∃x1,af G h (a.add 1)=some x1/\K (.agg #[x0,x1])):=by kernel_rfl
theorem ld30 {G h:Hp} {a:Addr} {K:VK}:wpH Tryz.prog G (Instr.loadAt 30 (.pointer (some a))) h K=(∃x0,af G h (a.add 0)=some x0/\∃x1,af G h (a.add 1)=some x1/\∃x2,af G h (a.add 2)=some x2/\K (.agg #[x0,x1,x2]) h):=by kernel_rfl
theorem qw {G h:Hp} {a:Addr} {K:Value->Prop}:pw Tryz.prog G h (Instr.loadAt 30 (.pointer (some a))) K=(∃x0,af G h (a.add 0)=some x0/\∃x1,af G h (a.add 1)=some x1/\∃x2,af G h (a.add 2)=some x2/\K (.agg #[x0,x1,x2])):=by kernel_rfl
theorem ld34:LA 34:=fun {_ _ _ _}=>by kernel_rfl
theorem Xb:LB 34:=fun {_ _ _ _}=>by kernel_rfl
theorem ld35:LA 35:=fun {_ _ _ _}=>by kernel_rfl
theorem ld35p:LB 35:=fun {_ _ _ _}=>by kernel_rfl
theorem ld40:LA 40:=fun {_ _ _ _}=>by kernel_rfl
theorem ld45 {G h:Hp} {a:Addr} {K:VK}:wpH Tryz.prog G (Instr.loadAt 45 (.pointer (some a))) h K=(∃x0,af G h (a.add 0)=some x0/\∃x1,af G h (a.add 1)=some x1/\∃x2,af G h (a.add 2)=some x2/\∃x3,af G h (a.add 3)=some x3/\K (.agg #[x0,x1,x2,x3]) h):=by kernel_rfl
theorem ld48 {G h:Hp} {a:Addr} {K:VK}:wpH Tryz.prog G (Instr.loadAt 48 (.pointer (some a))) h K=(∃x0,af G h (a.add 0)=some x0/\∃x1,af G h (a.add 1)=some x1/\∃x2,af G h (a.add 2)=some x2/\∃x3,af G h (a.add 3)=some x3/\∃x4,af G h (a.add 4)=some x4/\∃x5,af G h (a.add 5)=some x5/\∃x6,af G h (a.add 6)=some x6/\∃x7,af G h (a.add 7)=some x7/\∃x8,af G h (a.add 8)=some x8/\∃x9,af G h (a.add 9)=some x9/\∃x10,af G h (a.add 10)=some x10/\K (.agg #[x0,x1,x2,x3,x4,x5,x6,x7,x8,x9,x10]) h):=by kernel_rfl
theorem Sj {G h:Hp} {a:Addr} {K:Value->Prop}:pw Tryz.prog G h (Instr.loadAt 48 (.pointer (some a))) K=(∃x0,af G h (a.add 0)=some x0/\∃x1,af G h (a.add 1)=some x1/\∃x2,af G h (a.add 2)=some x2/\∃x3,af G h (a.add 3)=some x3/\∃x4,af G h (a.add 4)=some x4/\∃x5,af G h (a.add 5)=some x5/\∃x6,af G h (a.add 6)=some x6/\∃x7,af G h (a.add 7)=some x7/\∃x8,af G h (a.add 8)=some x8/\∃x9,af G h (a.add 9)=some x9/\∃x10,af G h (a.add 10)=some x10/\K (.agg #[x0,x1,x2,x3,x4,x5,x6,x7,x8,x9,x10])):=by kernel_rfl
theorem ld50:LA 50:=fun {_ _ _ _}=>by kernel_rfl
theorem ld50p:LB 50:=fun {_ _ _ _}=>by kernel_rfl
theorem ld54 {G h:Hp} {a:Addr} {K:VK}:wpH Tryz.prog G (Instr.loadAt 54 (.pointer (some a))) h K=(∃x0,af G h (a.add 0)=some x0/\∃x1,af G h (a.add 1)=some x1/\∃x2,af G h (a.add 2)=some x2/\K (.agg #[x0,x1,x2]) h):=by kernel_rfl
theorem ld68:LA 68:=fun {_ _ _ _}=>by kernel_rfl
theorem Mn:LB 68:=fun {_ _ _ _}=>by kernel_rfl
theorem ld71:LA 71:=fun {_ _ _ _}=>by kernel_rfl
theorem ld71p:LB 71:=fun {_ _ _ _}=>by kernel_rfl
theorem ld75 {G h:Hp} {a:Addr} {K:VK}:wpH Tryz.prog G (Instr.loadAt 75 (.pointer (some a))) h K=(∃x0,af G h (a.add 0)=some x0/\∃x1,af G h (a.add 1)=some x1/\∃x2,af G h (a.add 2)=some x2/\K (.agg #[x0,x1,x2]) h):=by kernel_rfl
theorem ld75p {G h:Hp} {a:Addr} {K:Value->Prop}:pw Tryz.prog G h (Instr.loadAt 75 (.pointer (some a))) K=(∃x0,af G h (a.add 0)=some x0/\∃x1,af G h (a.add 1)=some x1/\∃x2,af G h (a.add 2)=some x2/\K (.agg #[x0,x1,x2])):=by kernel_rfl
theorem ld98:LA 98:=fun {_ _ _ _}=>by kernel_rfl
theorem ld98p:LB 98:=fun {_ _ _ _}=>by kernel_rfl
theorem ld99:LA 99:=fun {_ _ _ _}=>by kernel_rfl
theorem ld99p:LB 99:=fun {_ _ _ _}=>by kernel_rfl
theorem ld103:LA 103:=fun {_ _ _ _}=>by kernel_rfl
theorem ld119 {G h:Hp} {a:Addr} {K:VK}:wpH Tryz.prog G (Instr.loadAt 119 (.pointer (some a))) h K=(∃x0,af G h (a.add 0)=some x0/\∃x1,af G h (a.add 1)=some x1/\∃x2,af G h (a.add 2)=some x2/\K (.agg #[x0,x1,x2]) h):=by kernel_rfl
theorem ld127:LA 127:=fun {_ _ _ _}=>by kernel_rfl
theorem aj8:LB 127:=fun {_ _ _ _}=>by kernel_rfl
theorem ld128:LA 128:=fun {_ _ _ _}=>by kernel_rfl
theorem ld129:LA 129:=fun {_ _ _ _}=>by kernel_rfl
theorem ld129p:LB 129:=fun {_ _ _ _}=>by kernel_rfl
theorem Va:LB 130:=fun {_ _ _ _}=>by kernel_rfl
theorem U9:LB 131:=fun {_ _ _ _}=>by kernel_rfl
theorem ld132:LA 132:=fun {_ _ _ _}=>by kernel_rfl
theorem ld132p:LB 132:=fun {_ _ _ _}=>by kernel_rfl
theorem ld137 {G h:Hp} {a:Addr} {K:VK}:wpH Tryz.prog G (Instr.loadAt 137 (.pointer (some a))) h K=(∃x0,af G h (a.add 0)=some x0/\∃x1,af G h (a.add 1)=some x1/\K (.agg #[x0,x1]) h):=by kernel_rfl
theorem U8 {G h:Hp} {a:Addr} {K:Value->Prop}:pw Tryz.prog G h (Instr.loadAt 137 (.pointer (some a))) K=(∃x0,af G h (a.add 0)=some x0/\∃x1,af G h (a.add 1)=some x1/\K (.agg #[x0,x1])):=by kernel_rfl
theorem ld139 {G h:Hp} {a:Addr} {K:VK}:wpH Tryz.prog G (Instr.loadAt 139 (.pointer (some a))) h K=(∃x0,af G h (a.add 0)=some x0/\∃x1,af G h (a.add 1)=some x1/\∃x2,af G h (a.add 2)=some x2/\K (.agg #[x0,x1,x2]) h):=by kernel_rfl
theorem ld139p {G h:Hp} {a:Addr} {K:Value->Prop}:pw Tryz.prog G h (Instr.loadAt 139 (.pointer (some a))) K=(∃x0,af G h (a.add 0)=some x0/\∃x1,af G h (a.add 1)=some x1/\∃x2,af G h (a.add 2)=some x2/\K (.agg #[x0,x1,x2])):=by kernel_rfl
theorem ld140:LA 140:=fun {_ _ _ _}=>by kernel_rfl
theorem ld140p:LB 140:=fun {_ _ _ _}=>by kernel_rfl
theorem ld142:LA 142:=fun {_ _ _ _}=>by kernel_rfl
theorem ld151 {G h:Hp} {a:Addr} {K:VK}:wpH Tryz.prog G (Instr.loadAt 151 (.pointer (some a))) h K=(∃x0,af G h (a.add 0)=some x0/\∃x1,af G h (a.add 1)=some x1/\K (.agg #[x0,x1]) h):=by kernel_rfl
theorem ld151p {G h:Hp} {a:Addr} {K:Value->Prop}:pw Tryz.prog G h (Instr.loadAt 151 (.pointer (some a))) K=(∃x0,af G h (a.add 0)=some x0/\∃x1,af G h (a.add 1)=some x1/\K (.agg #[x0,x1])):=by kernel_rfl
theorem Ii:LA 168:=fun {_ _ _ _}=>by kernel_rfl
theorem Pc:LB 168:=fun {_ _ _ _}=>by kernel_rfl
theorem ld178:LA 178:=fun {_ _ _ _}=>by kernel_rfl
theorem ld203 {G h:Hp} {a:Addr} {K:VK}:wpH Tryz.prog G (Instr.loadAt 203 (.pointer (some a))) h K=(∃x0,af G h (a.add 0)=some x0/\∃x1,af G h (a.add 1)=some x1/\∃x2,af G h (a.add 2)=some x2/\K (.agg #[x0,x1,x2]) h):=by kernel_rfl
theorem ld203p {G h:Hp} {a:Addr} {K:Value->Prop}:pw Tryz.prog G h (Instr.loadAt 203 (.pointer (some a))) K=(∃x0,af G h (a.add 0)=some x0/\∃x1,af G h (a.add 1)=some x1/\∃x2,af G h (a.add 2)=some x2/\K (.agg #[x0,x1,x2])):=by kernel_rfl
theorem ld216:LA 216:=fun {_ _ _ _}=>by kernel_rfl
theorem ld216p:LB 216:=fun {_ _ _ _}=>by kernel_rfl
theorem ld227p {G h:Hp} {a:Addr} {K:Value->Prop}:pw Tryz.prog G h (Instr.loadAt 227 (.pointer (some a))) K=(∃x0,af G h (a.add 0)=some x0/\∃x1,af G h (a.add 1)=some x1/\∃x2,af G h (a.add 2)=some x2/\∃x3,af G h (a.add 3)=some x3/\K (.agg #[x0,x1,x2,x3])):=by kernel_rfl
theorem ld229:LA 229:=fun {_ _ _ _}=>by kernel_rfl
theorem aj7:LB 229:=fun {_ _ _ _}=>by kernel_rfl
theorem ld232 {G h:Hp} {a:Addr} {K:VK}:wpH Tryz.prog G (Instr.loadAt 232 (.pointer (some a))) h K=(∃x0,af G h (a.add 0)=some x0/\∃x1,af G h (a.add 1)=some x1/\∃x2,af G h (a.add 2)=some x2/\∃x3,af G h (a.add 3)=some x3/\∃x4,af G h (a.add 4)=some x4/\∃x5,af G h (a.add 5)=some x5/\∃x6,af G h (a.add 6)=some x6/\∃x7,af G h (a.add 7)=some x7/\∃x8,af G h (a.add 8)=some x8/\∃x9,af G h (a.add 9)=some x9/\∃x10,af G h (a.add 10)=some x10/\∃x11,af G h (a.add 11)=some x11/\∃x12,af G h (a.add 12)=some x12/\K (.agg #[x0,x1,x2,x3,x4,x5,x6,x7,x8,x9,x10,x11,x12]) h):=by kernel_rfl
theorem ld234 {G h:Hp} {a:Addr} {K:VK}:wpH Tryz.prog G (Instr.loadAt 234 (.pointer (some a))) h K=(∃x0,af G h (a.add 0)=some x0/\∃x1,af G h (a.add 1)=some x1/\∃x2,af G h (a.add 2)=some x2/\K (.agg #[x0,x1,x2]) h):=by kernel_rfl
theorem ld261:LA 261:=fun {_ _ _ _}=>by kernel_rfl
theorem ld261p:LB 261:=fun {_ _ _ _}=>by kernel_rfl
theorem sz3:(Tryz.prog.info? 3).map (·.size)=some 1:=by kernel_rfl
theorem sz4:(Tryz.prog.info? 4).map (·.size)=some 1:=by kernel_rfl
theorem sz22:(Tryz.prog.info? 22).map (·.size)=some 1:=by kernel_rfl
theorem sz23:(Tryz.prog.info? 23).map (·.size)=some 1:=by kernel_rfl
theorem sz24:(Tryz.prog.info? 24).map (·.size)=some 1:=by kernel_rfl
theorem sz26:(Tryz.prog.info? 26).map (·.size)=some 16:=by kernel_rfl
theorem sz28:(Tryz.prog.info? 28).map (·.size)=some 2:=by kernel_rfl
theorem sz30:(Tryz.prog.info? 30).map (·.size)=some 3:=by kernel_rfl
theorem sz35:(Tryz.prog.info? 35).map (·.size)=some 1:=by kernel_rfl
theorem sz40:(Tryz.prog.info? 40).map (·.size)=some 1:=by kernel_rfl
theorem sz48:(Tryz.prog.info? 48).map (·.size)=some 11:=by kernel_rfl
theorem sz54:(Tryz.prog.info? 54).map (·.size)=some 3:=by kernel_rfl
theorem sz71:(Tryz.prog.info? 71).map (·.size)=some 1:=by kernel_rfl
theorem sz75:(Tryz.prog.info? 75).map (·.size)=some 3:=by kernel_rfl
theorem sz99:(Tryz.prog.info? 99).map (·.size)=some 1:=by kernel_rfl
theorem sz103:(Tryz.prog.info? 103).map (·.size)=some 1:=by kernel_rfl
theorem sz110:(Tryz.prog.info? 110).map (·.size)=some 2:=by kernel_rfl
theorem Wr:(Tryz.prog.info? 119).map (·.size)=some 3:=by kernel_rfl
theorem sz132:(Tryz.prog.info? 132).map (·.size)=some 1:=by kernel_rfl
theorem sz137:(Tryz.prog.info? 137).map (·.size)=some 2:=by kernel_rfl
theorem sz139:(Tryz.prog.info? 139).map (·.size)=some 3:=by kernel_rfl
theorem sz142:(Tryz.prog.info? 142).map (·.size)=some 1:=by kernel_rfl
theorem sz151:(Tryz.prog.info? 151).map (·.size)=some 2:=by kernel_rfl
theorem sz168:(Tryz.prog.info? 168).map (·.size)=some 1:=by kernel_rfl
theorem sz203:(Tryz.prog.info? 203).map (·.size)=some 3:=by kernel_rfl
theorem sz216:(Tryz.prog.info? 216).map (·.size)=some 1:=by kernel_rfl
theorem Hd:(Tryz.prog.info? 227).map (·.size)=some 4:=by kernel_rfl
theorem sz229:(Tryz.prog.info? 229).map (·.size)=some 1:=by kernel_rfl
theorem sz232:(Tryz.prog.info? 232).map (·.size)=some 13:=by kernel_rfl
theorem sz234:(Tryz.prog.info? 234).map (·.size)=some 3:=by kernel_rfl
theorem sz261:(Tryz.prog.info? 261).map (·.size)=some 1:=by kernel_rfl
theorem st3s {G h:Hp} {b i:Nat} {e:TypeId} {l:List Value} {v:Value} {K:Unit->Hp->Prop} (h1:js v=true) (hl:i<l.length):wpH Tryz.prog G (Instr.storeAt 3 (.pointer (some ⟨b,i,none⟩)) v) (h.set b (.cells l.toArray e (0,0))) K=K () (h.set b (.cells (l.set i v).toArray e (0,0))):=Fg sz3 h1 hl
theorem st26w {G h:Hp} {b:Nat} {e:TypeId} {z0 z1 z2 z3 z4 z5 z6 z7 z8 z9 z10 z11 z12 z13 z14 z15:Value} {k0:IntKind} {y0:Int} {k1:IntKind} {y1:Int} {k2:IntKind} {y2:Int} {y3:Option Addr} {n3 c3:Nat} {y4:Option Addr} {n4 c4:Nat} {y5:Option Addr} {n5 c5:Nat} {y6:Option Addr} {n6 c6:Nat} {k7:IntKind} {y7:Int} {k8:IntKind} {y8:Int} {k9:IntKind} {y9:Int} {k10:IntKind} {y10:Int} {k11:IntKind} {y11:Int} {k12:IntKind} {y12:Int} {k13:IntKind} {y13:Int} {k14:IntKind} {y14:Int} {y15:Bool} {K:Unit->Hp->Prop}:wpH Tryz.prog G (Instr.storeAt 26 (.pointer (some ⟨b,0,none⟩)) (.agg #[(.int k0 y0),(.int k1 y1),(.int k2 y2),(.slice y3 n3 c3),(.slice y4 n4 c4),(.slice y5 n5 c5),(.slice y6 n6 c6),(.int k7 y7),(.int k8 y8),(.int k9 y9),(.int k10 y10),(.int k11 y11),(.int k12 y12),(.int k13 y13),(.int k14 y14),(.bool y15)])) (h.set b (.cells #[z0,z1,z2,z3,z4,z5,z6,z7,z8,z9,z10,z11,z12,z13,z14,z15] e (0,0))) K=K () (h.set b (.cells #[(.int k0 y0),(.int k1 y1),(.int k2 y2),(.slice y3 n3 c3),(.slice y4 n4 c4),(.slice y5 n5 c5),(.slice y6 n6 c6),(.int k7 y7),(.int k8 y8),(.int k9 y9),(.int k10 y10),(.int k11 y11),(.int k12 y12),(.int k13 y13),(.int k14 y14),(.bool y15)] e (0,0))):=il sz26 rfl rfl (fun x hx=>by simp only [List.mem_cons,List.not_mem_nil,or_false]at hx;rcases hx with rfl|rfl|rfl|rfl|rfl|rfl|rfl|rfl|rfl|rfl|rfl|rfl|rfl|rfl|rfl|rfl<;>first|rfl|assumption)
theorem Lo {G h:Hp} {b:Nat} {e:TypeId} {z0 z1:Value} {k0:IntKind} {y0:Int} {k1:IntKind} {y1:Int} {K:Unit->Hp->Prop}:wpH Tryz.prog G (Instr.storeAt 28 (.pointer (some ⟨b,0,none⟩)) (.agg #[(.int k0 y0),(.int k1 y1)])) (h.set b (.cells #[z0,z1] e (0,0))) K=K () (h.set b (.cells #[(.int k0 y0),(.int k1 y1)] e (0,0))):=il sz28 rfl rfl (fun x hx=>by simp only [List.mem_cons,List.not_mem_nil,or_false]at hx;rcases hx with rfl|rfl<;>first|rfl|assumption)
theorem A0 {G h:Hp} {b:Nat} {e:TypeId} {z0 z1 z2:Value} {k0:IntKind} {y0:Int} {k1:IntKind} {y1:Int} {y2:Bool} {K:Unit->Hp->Prop}:wpH Tryz.prog G (Instr.storeAt 30 (.pointer (some ⟨b,0,none⟩)) (.agg #[(.int k0 y0),(.int k1 y1),(.bool y2)])) (h.set b (.cells #[z0,z1,z2] e (0,0))) K=K () (h.set b (.cells #[(.int k0 y0),(.int k1 y1),(.bool y2)] e (0,0))):=il sz30 rfl rfl (fun x hx=>by simp only [List.mem_cons,List.not_mem_nil,or_false]at hx;rcases hx with rfl|rfl|rfl<;>first|rfl|assumption)
theorem st35s {G h:Hp} {b i:Nat} {e:TypeId} {l:List Value} {v:Value} {K:Unit->Hp->Prop} (h1:js v=true) (hl:i<l.length):wpH Tryz.prog G (Instr.storeAt 35 (.pointer (some ⟨b,i,none⟩)) v) (h.set b (.cells l.toArray e (0,0))) K=K () (h.set b (.cells (l.set i v).toArray e (0,0))):=Fg sz35 h1 hl
theorem Hn {G h:Hp} {b:Nat} {e:TypeId} {z0 z1 z2 z3 z4 z5 z6 z7 z8 z9 z10:Value} {k0:IntKind} {y0:Int} {k1:IntKind} {y1:Int} {k2:IntKind} {y2:Int} {k3:IntKind} {y3:Int} {k4:IntKind} {y4:Int} {y5:Bool} {k6:IntKind} {y6:Int} {k7:IntKind} {y7:Int} {y8:Bool} {k9:IntKind} {y9:Int} {k10:IntKind} {y10:Int} {K:Unit->Hp->Prop}:wpH Tryz.prog G (Instr.storeAt 48 (.pointer (some ⟨b,0,none⟩)) (.agg #[(.int k0 y0),(.int k1 y1),(.int k2 y2),(.int k3 y3),(.int k4 y4),(.bool y5),(.int k6 y6),(.int k7 y7),(.bool y8),(.int k9 y9),(.int k10 y10)])) (h.set b (.cells #[z0,z1,z2,z3,z4,z5,z6,z7,z8,z9,z10] e (0,0))) K=K () (h.set b (.cells #[(.int k0 y0),(.int k1 y1),(.int k2 y2),(.int k3 y3),(.int k4 y4),(.bool y5),(.int k6 y6),(.int k7 y7),(.bool y8),(.int k9 y9),(.int k10 y10)] e (0,0))):=il sz48 rfl rfl (fun x hx=>by simp only [List.mem_cons,List.not_mem_nil,or_false]at hx;rcases hx with rfl|rfl|rfl|rfl|rfl|rfl|rfl|rfl|rfl|rfl|rfl<;>first|rfl|assumption)
theorem st75w {G h:Hp} {b:Nat} {e:TypeId} {z0 z1 z2:Value} {k0:IntKind} {y0:Int} {k1:IntKind} {y1:Int} {k2:IntKind} {y2:Int} {K:Unit->Hp->Prop}:wpH Tryz.prog G (Instr.storeAt 75 (.pointer (some ⟨b,0,none⟩)) (.agg #[(.int k0 y0),(.int k1 y1),(.int k2 y2)])) (h.set b (.cells #[z0,z1,z2] e (0,0))) K=K () (h.set b (.cells #[(.int k0 y0),(.int k1 y1),(.int k2 y2)] e (0,0))):=il sz75 rfl rfl (fun x hx=>by simp only [List.mem_cons,List.not_mem_nil,or_false]at hx;rcases hx with rfl|rfl|rfl<;>first|rfl|assumption)
theorem st110w {G h:Hp} {b:Nat} {e:TypeId} {z0 z1:Value} {k0:IntKind} {y0:Int} {k1:IntKind} {y1:Int} {K:Unit->Hp->Prop}:wpH Tryz.prog G (Instr.storeAt 110 (.pointer (some ⟨b,0,none⟩)) (.agg #[(.int k0 y0),(.int k1 y1)])) (h.set b (.cells #[z0,z1] e (0,0))) K=K () (h.set b (.cells #[(.int k0 y0),(.int k1 y1)] e (0,0))):=il sz110 rfl rfl (fun x hx=>by simp only [List.mem_cons,List.not_mem_nil,or_false]at hx;rcases hx with rfl|rfl<;>first|rfl|assumption)
theorem ag2 {G h:Hp} {b:Nat} {e:TypeId} {z0 z1 z2:Value} {k0:IntKind} {y0:Int} {k1:IntKind} {y1:Int} {k2:IntKind} {y2:Int} {K:Unit->Hp->Prop}:wpH Tryz.prog G (Instr.storeAt 119 (.pointer (some ⟨b,0,none⟩)) (.agg #[(.int k0 y0),(.int k1 y1),(.int k2 y2)])) (h.set b (.cells #[z0,z1,z2] e (0,0))) K=K () (h.set b (.cells #[(.int k0 y0),(.int k1 y1),(.int k2 y2)] e (0,0))):=il Wr rfl rfl (fun x hx=>by simp only [List.mem_cons,List.not_mem_nil,or_false]at hx;rcases hx with rfl|rfl|rfl<;>first|rfl|assumption)
theorem st137w {G h:Hp} {b:Nat} {e:TypeId} {z0 z1:Value} {k0:IntKind} {y0:Int} {k1:IntKind} {y1:Int} {K:Unit->Hp->Prop}:wpH Tryz.prog G (Instr.storeAt 137 (.pointer (some ⟨b,0,none⟩)) (.agg #[(.int k0 y0),(.int k1 y1)])) (h.set b (.cells #[z0,z1] e (0,0))) K=K () (h.set b (.cells #[(.int k0 y0),(.int k1 y1)] e (0,0))):=il sz137 rfl rfl (fun x hx=>by simp only [List.mem_cons,List.not_mem_nil,or_false]at hx;rcases hx with rfl|rfl<;>first|rfl|assumption)
theorem ag1 {G h:Hp} {b:Nat} {e:TypeId} {z0 z1 z2:Value} {k0:IntKind} {y0:Int} {k1:IntKind} {y1:Int} {k2:IntKind} {y2:Int} {K:Unit->Hp->Prop}:wpH Tryz.prog G (Instr.storeAt 139 (.pointer (some ⟨b,0,none⟩)) (.agg #[(.int k0 y0),(.int k1 y1),(.int k2 y2)])) (h.set b (.cells #[z0,z1,z2] e (0,0))) K=K () (h.set b (.cells #[(.int k0 y0),(.int k1 y1),(.int k2 y2)] e (0,0))):=il sz139 rfl rfl (fun x hx=>by simp only [List.mem_cons,List.not_mem_nil,or_false]at hx;rcases hx with rfl|rfl|rfl<;>first|rfl|assumption)
theorem Ur {G h:Hp} {b:Nat} {e:TypeId} {z0 z1:Value} {k0:IntKind} {y0:Int} {k1:IntKind} {y1:Int} {K:Unit->Hp->Prop}:wpH Tryz.prog G (Instr.storeAt 151 (.pointer (some ⟨b,0,none⟩)) (.agg #[(.int k0 y0),(.int k1 y1)])) (h.set b (.cells #[z0,z1] e (0,0))) K=K () (h.set b (.cells #[(.int k0 y0),(.int k1 y1)] e (0,0))):=il sz151 rfl rfl (fun x hx=>by simp only [List.mem_cons,List.not_mem_nil,or_false]at hx;rcases hx with rfl|rfl<;>first|rfl|assumption)
theorem Uq {G h:Hp} {b:Nat} {e:TypeId} {z0 z1 z2:Value} {k0:IntKind} {y0:Int} {k1:IntKind} {y1:Int} {k2:IntKind} {y2:Int} {K:Unit->Hp->Prop}:wpH Tryz.prog G (Instr.storeAt 203 (.pointer (some ⟨b,0,none⟩)) (.agg #[(.int k0 y0),(.int k1 y1),(.int k2 y2)])) (h.set b (.cells #[z0,z1,z2] e (0,0))) K=K () (h.set b (.cells #[(.int k0 y0),(.int k1 y1),(.int k2 y2)] e (0,0))):=il sz203 rfl rfl (fun x hx=>by simp only [List.mem_cons,List.not_mem_nil,or_false]at hx;rcases hx with rfl|rfl|rfl<;>first|rfl|assumption)
theorem st227w {G h:Hp} {b:Nat} {e:TypeId} {z0 z1 z2 z3:Value} {k0:IntKind} {y0:Int} {k1:IntKind} {y1:Int} {k2:IntKind} {y2:Int} {k3:IntKind} {y3:Int} {K:Unit->Hp->Prop}:wpH Tryz.prog G (Instr.storeAt 227 (.pointer (some ⟨b,0,none⟩)) (.agg #[(.int k0 y0),(.int k1 y1),(.int k2 y2),(.int k3 y3)])) (h.set b (.cells #[z0,z1,z2,z3] e (0,0))) K=K () (h.set b (.cells #[(.int k0 y0),(.int k1 y1),(.int k2 y2),(.int k3 y3)] e (0,0))):=il Hd rfl rfl (fun x hx=>by simp only [List.mem_cons,List.not_mem_nil,or_false]at hx;rcases hx with rfl|rfl|rfl|rfl<;>first|rfl|assumption)
theorem st232w {G h:Hp} {b:Nat} {e:TypeId} {z0 z1 z2 z3 z4 z5 z6 z7 z8 z9 z10 z11 z12:Value} {k0:IntKind} {y0:Int} {k1:IntKind} {y1:Int} {k2:IntKind} {y2:Int} {k3:IntKind} {y3:Int} {k4:IntKind} {y4:Int} {y5:Bool} {k6:IntKind} {y6:Int} {k7:IntKind} {y7:Int} {y8:Bool} {k9:IntKind} {y9:Int} {k10:IntKind} {y10:Int} {k11:IntKind} {y11:Int} {y12:Option Addr} {n12 c12:Nat} {K:Unit->Hp->Prop}:wpH Tryz.prog G (Instr.storeAt 232 (.pointer (some ⟨b,0,none⟩)) (.agg #[(.int k0 y0),(.int k1 y1),(.int k2 y2),(.int k3 y3),(.int k4 y4),(.bool y5),(.int k6 y6),(.int k7 y7),(.bool y8),(.int k9 y9),(.int k10 y10),(.int k11 y11),(.slice y12 n12 c12)])) (h.set b (.cells #[z0,z1,z2,z3,z4,z5,z6,z7,z8,z9,z10,z11,z12] e (0,0))) K=K () (h.set b (.cells #[(.int k0 y0),(.int k1 y1),(.int k2 y2),(.int k3 y3),(.int k4 y4),(.bool y5),(.int k6 y6),(.int k7 y7),(.bool y8),(.int k9 y9),(.int k10 y10),(.int k11 y11),(.slice y12 n12 c12)] e (0,0))):=il sz232 rfl rfl (fun x hx=>by simp only [List.mem_cons,List.not_mem_nil,or_false]at hx;rcases hx with rfl|rfl|rfl|rfl|rfl|rfl|rfl|rfl|rfl|rfl|rfl|rfl|rfl<;>first|rfl|assumption)
theorem ag0 {G h:Hp} {b:Nat} {e:TypeId} {z0 z1 z2:Value} {k0:IntKind} {y0:Int} {k1:IntKind} {y1:Int} {y2:Option Addr} {n2 c2:Nat} {K:Unit->Hp->Prop}:wpH Tryz.prog G (Instr.storeAt 234 (.pointer (some ⟨b,0,none⟩)) (.agg #[(.int k0 y0),(.int k1 y1),(.slice y2 n2 c2)])) (h.set b (.cells #[z0,z1,z2] e (0,0))) K=K () (h.set b (.cells #[(.int k0 y0),(.int k1 y1),(.slice y2 n2 c2)] e (0,0))):=il sz234 rfl rfl (fun x hx=>by simp only [List.mem_cons,List.not_mem_nil,or_false]at hx;rcases hx with rfl|rfl|rfl<;>first|rfl|assumption)
theorem un22:Tryz.prog.underlying 22=some (.slice 28):=by kernel_rfl
theorem ix22 {G h:Hp} {ad:Addr} {len cap:Nat} {k:IntKind} {i:Int} {K:VK} (h1:0<=i) (h2:i<len):wpH Tryz.prog G (Instr.indexAt 22 (.slice (some ad) len cap) (.int k i)) h K=K (.pointer (some (ad.add (i.toNat*2)))) h:=jg un22 sz28 h1 h2
theorem qe {G h:Hp} {ad:Addr} {len cap:Nat} {k:IntKind} {i:Int} {K:Value->Prop} (h1:0<=i) (h2:i<len):pw Tryz.prog G h (Instr.indexAt 22 (.slice (some ad) len cap) (.int k i)) K=K (.pointer (some (ad.add (i.toNat*2)))):=jt un22 sz28 h1 h2
theorem un23:Tryz.prog.underlying 23=some (.slice 30):=by kernel_rfl
theorem ix23 {G h:Hp} {ad:Addr} {len cap:Nat} {k:IntKind} {i:Int} {K:VK} (h1:0<=i) (h2:i<len):wpH Tryz.prog G (Instr.indexAt 23 (.slice (some ad) len cap) (.int k i)) h K=K (.pointer (some (ad.add (i.toNat*3)))) h:=jg un23 sz30 h1 h2
theorem ix23p {G h:Hp} {ad:Addr} {len cap:Nat} {k:IntKind} {i:Int} {K:Value->Prop} (h1:0<=i) (h2:i<len):pw Tryz.prog G h (Instr.indexAt 23 (.slice (some ad) len cap) (.int k i)) K=K (.pointer (some (ad.add (i.toNat*3)))):=jt un23 sz30 h1 h2
theorem un24:Tryz.prog.underlying 24=some (.slice 234):=by kernel_rfl
theorem ix24 {G h:Hp} {ad:Addr} {len cap:Nat} {k:IntKind} {i:Int} {K:VK} (h1:0<=i) (h2:i<len):wpH Tryz.prog G (Instr.indexAt 24 (.slice (some ad) len cap) (.int k i)) h K=K (.pointer (some (ad.add (i.toNat*3)))) h:=jg un24 sz234 h1 h2
theorem Sn {G h:Hp} {ad:Addr} {len cap:Nat} {k:IntKind} {i:Int} {K:Value->Prop} (h1:0<=i) (h2:i<len):pw Tryz.prog G h (Instr.indexAt 24 (.slice (some ad) len cap) (.int k i)) K=K (.pointer (some (ad.add (i.toNat*3)))):=jt un24 sz234 h1 h2
theorem un40:Tryz.prog.underlying 40=some (.slice 48):=by kernel_rfl
theorem ix40 {G h:Hp} {ad:Addr} {len cap:Nat} {k:IntKind} {i:Int} {K:VK} (h1:0<=i) (h2:i<len):wpH Tryz.prog G (Instr.indexAt 40 (.slice (some ad) len cap) (.int k i)) h K=K (.pointer (some (ad.add (i.toNat*11)))) h:=jg un40 sz48 h1 h2
theorem Sm {G h:Hp} {ad:Addr} {len cap:Nat} {k:IntKind} {i:Int} {K:Value->Prop} (h1:0<=i) (h2:i<len):pw Tryz.prog G h (Instr.indexAt 40 (.slice (some ad) len cap) (.int k i)) K=K (.pointer (some (ad.add (i.toNat*11)))):=jt un40 sz48 h1 h2
theorem un59:Tryz.prog.underlying 59=some (.slice 119):=by kernel_rfl
theorem ix59 {G h:Hp} {ad:Addr} {len cap:Nat} {k:IntKind} {i:Int} {K:VK} (h1:0<=i) (h2:i<len):wpH Tryz.prog G (Instr.indexAt 59 (.slice (some ad) len cap) (.int k i)) h K=K (.pointer (some (ad.add (i.toNat*3)))) h:=jg un59 Wr h1 h2
theorem ix59p {G h:Hp} {ad:Addr} {len cap:Nat} {k:IntKind} {i:Int} {K:Value->Prop} (h1:0<=i) (h2:i<len):pw Tryz.prog G h (Instr.indexAt 59 (.slice (some ad) len cap) (.int k i)) K=K (.pointer (some (ad.add (i.toNat*3)))):=jt un59 Wr h1 h2
theorem un60:Tryz.prog.underlying 60=some (.slice 175):=by kernel_rfl
theorem un71:Tryz.prog.underlying 71=some (.slice 75):=by kernel_rfl
theorem ix71p {G h:Hp} {ad:Addr} {len cap:Nat} {k:IntKind} {i:Int} {K:Value->Prop} (h1:0<=i) (h2:i<len):pw Tryz.prog G h (Instr.indexAt 71 (.slice (some ad) len cap) (.int k i)) K=K (.pointer (some (ad.add (i.toNat*3)))):=jt un71 sz75 h1 h2
theorem un90:Tryz.prog.underlying 90=some (.slice 4):=by kernel_rfl
theorem ix90 {G h:Hp} {ad:Addr} {len cap:Nat} {k:IntKind} {i:Int} {K:VK} (h1:0<=i) (h2:i<len):wpH Tryz.prog G (Instr.indexAt 90 (.slice (some ad) len cap) (.int k i)) h K=K (.pointer (some (ad.add (i.toNat*1)))) h:=jg un90 sz4 h1 h2
theorem un98:Tryz.prog.underlying 98=some (.slice 99):=by kernel_rfl
theorem ix98 {G h:Hp} {ad:Addr} {len cap:Nat} {k:IntKind} {i:Int} {K:VK} (h1:0<=i) (h2:i<len):wpH Tryz.prog G (Instr.indexAt 98 (.slice (some ad) len cap) (.int k i)) h K=K (.pointer (some (ad.add (i.toNat*1)))) h:=jg un98 sz99 h1 h2
theorem ix98p {G h:Hp} {ad:Addr} {len cap:Nat} {k:IntKind} {i:Int} {K:Value->Prop} (h1:0<=i) (h2:i<len):pw Tryz.prog G h (Instr.indexAt 98 (.slice (some ad) len cap) (.int k i)) K=K (.pointer (some (ad.add (i.toNat*1)))):=jt un98 sz99 h1 h2
theorem un99:Tryz.prog.underlying 99=some (.slice 203):=by kernel_rfl
theorem ix99 {G h:Hp} {ad:Addr} {len cap:Nat} {k:IntKind} {i:Int} {K:VK} (h1:0<=i) (h2:i<len):wpH Tryz.prog G (Instr.indexAt 99 (.slice (some ad) len cap) (.int k i)) h K=K (.pointer (some (ad.add (i.toNat*3)))) h:=jg un99 sz203 h1 h2
theorem un103:Tryz.prog.underlying 103=some (.slice 110):=by kernel_rfl
theorem Wo:Tryz.prog.underlying 142=some (.slice 151):=by kernel_rfl
theorem Sq {G h:Hp} {ad:Addr} {len cap:Nat} {k:IntKind} {i:Int} {K:VK} (h1:0<=i) (h2:i<len):wpH Tryz.prog G (Instr.indexAt 142 (.slice (some ad) len cap) (.int k i)) h K=K (.pointer (some (ad.add (i.toNat*2)))) h:=jg Wo sz151 h1 h2
theorem En {G h:Hp} {ad:Addr} {len cap:Nat} {k:IntKind} {i:Int} {K:Value->Prop} (h1:0<=i) (h2:i<len):pw Tryz.prog G h (Instr.indexAt 142 (.slice (some ad) len cap) (.int k i)) K=K (.pointer (some (ad.add (i.toNat*2)))):=jt Wo sz151 h1 h2
theorem Fe:Tryz.prog.underlying 168=some (.slice 3):=by kernel_rfl
theorem So {G h:Hp} {ad:Addr} {len cap:Nat} {k:IntKind} {i:Int} {K:VK} (h1:0<=i) (h2:i<len):wpH Tryz.prog G (Instr.indexAt 168 (.slice (some ad) len cap) (.int k i)) h K=K (.pointer (some (ad.add (i.toNat*1)))) h:=jg Fe sz3 h1 h2
theorem Vb {G h:Hp} {ad:Addr} {len cap:Nat} {k:IntKind} {i:Int} {K:Value->Prop} (h1:0<=i) (h2:i<len):pw Tryz.prog G h (Instr.indexAt 168 (.slice (some ad) len cap) (.int k i)) K=K (.pointer (some (ad.add (i.toNat*1)))):=jt Fe sz3 h1 h2
theorem Wn:Tryz.prog.underlying 216=some (.slice 227):=by kernel_rfl
theorem ix216 {G h:Hp} {ad:Addr} {len cap:Nat} {k:IntKind} {i:Int} {K:VK} (h1:0<=i) (h2:i<len):wpH Tryz.prog G (Instr.indexAt 216 (.slice (some ad) len cap) (.int k i)) h K=K (.pointer (some (ad.add (i.toNat*4)))) h:=jg Wn Hd h1 h2
theorem ix216p {G h:Hp} {ad:Addr} {len cap:Nat} {k:IntKind} {i:Int} {K:Value->Prop} (h1:0<=i) (h2:i<len):pw Tryz.prog G h (Instr.indexAt 216 (.slice (some ad) len cap) (.int k i)) K=K (.pointer (some (ad.add (i.toNat*4)))):=jt Wn Hd h1 h2
theorem un229:Tryz.prog.underlying 229=some (.slice 232):=by kernel_rfl
theorem ix229 {G h:Hp} {ad:Addr} {len cap:Nat} {k:IntKind} {i:Int} {K:VK} (h1:0<=i) (h2:i<len):wpH Tryz.prog G (Instr.indexAt 229 (.slice (some ad) len cap) (.int k i)) h K=K (.pointer (some (ad.add (i.toNat*13)))) h:=jg un229 sz232 h1 h2
theorem ln22 {G h:Hp} {a:Option Addr} {n c:Nat} {K:VK}:wpH Tryz.prog G (Builtin.len_ #[22] 3 #[.slice a n c]) h K=K n h:=by kernel_rfl
theorem ln22p {G h:Hp} {a:Option Addr} {n c:Nat} {K:Value->Prop}:pw Tryz.prog G h (Builtin.len_ #[22] 3 #[.slice a n c]) K=K n:=by kernel_rfl
theorem ln23 {G h:Hp} {a:Option Addr} {n c:Nat} {K:VK}:wpH Tryz.prog G (Builtin.len_ #[23] 3 #[.slice a n c]) h K=K n h:=by kernel_rfl
theorem ln24 {G h:Hp} {a:Option Addr} {n c:Nat} {K:VK}:wpH Tryz.prog G (Builtin.len_ #[24] 3 #[.slice a n c]) h K=K n h:=by kernel_rfl
theorem ln40 {G h:Hp} {a:Option Addr} {n c:Nat} {K:VK}:wpH Tryz.prog G (Builtin.len_ #[40] 3 #[.slice a n c]) h K=K n h:=by kernel_rfl
theorem ln40p {G h:Hp} {a:Option Addr} {n c:Nat} {K:Value->Prop}:pw Tryz.prog G h (Builtin.len_ #[40] 3 #[.slice a n c]) K=K n:=by kernel_rfl
theorem ln59 {G h:Hp} {a:Option Addr} {n c:Nat} {K:VK}:wpH Tryz.prog G (Builtin.len_ #[59] 3 #[.slice a n c]) h K=K n h:=by kernel_rfl
theorem ln71 {G h:Hp} {a:Option Addr} {n c:Nat} {K:VK}:wpH Tryz.prog G (Builtin.len_ #[71] 3 #[.slice a n c]) h K=K n h:=by kernel_rfl
theorem ln71p {G h:Hp} {a:Option Addr} {n c:Nat} {K:Value->Prop}:pw Tryz.prog G h (Builtin.len_ #[71] 3 #[.slice a n c]) K=K n:=by kernel_rfl
theorem ln98 {G h:Hp} {a:Option Addr} {n c:Nat} {K:VK}:wpH Tryz.prog G (Builtin.len_ #[98] 3 #[.slice a n c]) h K=K n h:=by kernel_rfl
theorem ln99 {G h:Hp} {a:Option Addr} {n c:Nat} {K:VK}:wpH Tryz.prog G (Builtin.len_ #[99] 3 #[.slice a n c]) h K=K n h:=by kernel_rfl
theorem ln99p {G h:Hp} {a:Option Addr} {n c:Nat} {K:Value->Prop}:pw Tryz.prog G h (Builtin.len_ #[99] 3 #[.slice a n c]) K=K n:=by kernel_rfl
theorem ln103 {G h:Hp} {a:Option Addr} {n c:Nat} {K:VK}:wpH Tryz.prog G (Builtin.len_ #[103] 3 #[.slice a n c]) h K=K n h:=by kernel_rfl
theorem ln142 {G h:Hp} {a:Option Addr} {n c:Nat} {K:VK}:wpH Tryz.prog G (Builtin.len_ #[142] 3 #[.slice a n c]) h K=K n h:=by kernel_rfl
theorem Mk {G h:Hp} {a:Option Addr} {n c:Nat} {K:VK}:wpH Tryz.prog G (Builtin.len_ #[168] 3 #[.slice a n c]) h K=K n h:=by kernel_rfl
theorem ln168p {G h:Hp} {a:Option Addr} {n c:Nat} {K:Value->Prop}:pw Tryz.prog G h (Builtin.len_ #[168] 3 #[.slice a n c]) K=K n:=by kernel_rfl
theorem ln216 {G h:Hp} {a:Option Addr} {n c:Nat} {K:VK}:wpH Tryz.prog G (Builtin.len_ #[216] 3 #[.slice a n c]) h K=K n h:=by kernel_rfl
theorem ln229 {G h:Hp} {a:Option Addr} {n c:Nat} {K:VK}:wpH Tryz.prog G (Builtin.len_ #[229] 3 #[.slice a n c]) h K=K n h:=by kernel_rfl
theorem al26 {G h:Hp} {v:Value} {K:VK}:wpH Tryz.prog G (Instr.alloc 26 true v) h K=∀x,h x=none->G x=none->K (.pointer (some ⟨x,0,none⟩)) (h.set x (.cells #[(.int .i64 0),(.int .i64 0),(.int .i64 0),(.slice none 0 0),(.slice none 0 0),(.slice none 0 0),(.slice none 0 0),(.int .i64 0),(.int .i64 0),(.int .i64 0),(.int .i64 0),(.int .i64 0),(.int .i64 0),(.int .i64 0),(.int .i64 0),(.bool false)] 26 (0,0))):=by kernel_rfl
theorem al28 {G h:Hp} {v:Value} {K:VK}:wpH Tryz.prog G (Instr.alloc 28 true v) h K=∀x,h x=none->G x=none->K (.pointer (some ⟨x,0,none⟩)) (h.set x (.cells #[(.int .i64 0),(.int .i64 0)] 28 (0,0))):=by kernel_rfl
theorem al30 {G h:Hp} {v:Value} {K:VK}:wpH Tryz.prog G (Instr.alloc 30 true v) h K=∀x,h x=none->G x=none->K (.pointer (some ⟨x,0,none⟩)) (h.set x (.cells #[(.int .i64 0),(.int .i64 0),(.bool false)] 30 (0,0))):=by kernel_rfl
theorem al35 {G h:Hp} {v:Value} {K:VK}:wpH Tryz.prog G (Instr.alloc 35 true v) h K=∀x,h x=none->G x=none->K (.pointer (some ⟨x,0,none⟩)) (h.set x (.cells #[(.int .i64 0)] 35 (0,0))):=by kernel_rfl
theorem al40 {G h:Hp} {v:Value} {K:VK}:wpH Tryz.prog G (Instr.alloc 40 true v) h K=∀x,h x=none->G x=none->K (.pointer (some ⟨x,0,none⟩)) (h.set x (.cells #[(.slice none 0 0)] 40 (0,0))):=by kernel_rfl
theorem al48 {G h:Hp} {v:Value} {K:VK}:wpH Tryz.prog G (Instr.alloc 48 true v) h K=∀x,h x=none->G x=none->K (.pointer (some ⟨x,0,none⟩)) (h.set x (.cells #[(.int .i64 0),(.int .i64 0),(.int .i64 0),(.int .i64 0),(.int .i64 0),(.bool false),(.int .i64 0),(.int .i64 0),(.bool false),(.int .i64 0),(.int .i64 0)] 48 (0,0))):=by kernel_rfl
theorem al54 {G h:Hp} {v:Value} {K:VK}:wpH Tryz.prog G (Instr.alloc 54 true v) h K=∀x,h x=none->G x=none->K (.pointer (some ⟨x,0,none⟩)) (h.set x (.cells #[(.int .i64 0),(.int .i64 0),(.int .i64 0)] 54 (0,0))):=by kernel_rfl
theorem al71 {G h:Hp} {v:Value} {K:VK}:wpH Tryz.prog G (Instr.alloc 71 true v) h K=∀x,h x=none->G x=none->K (.pointer (some ⟨x,0,none⟩)) (h.set x (.cells #[(.slice none 0 0)] 71 (0,0))):=by kernel_rfl
theorem al75 {G h:Hp} {v:Value} {K:VK}:wpH Tryz.prog G (Instr.alloc 75 true v) h K=∀x,h x=none->G x=none->K (.pointer (some ⟨x,0,none⟩)) (h.set x (.cells #[(.int .i64 0),(.int .i64 0),(.int .i64 0)] 75 (0,0))):=by kernel_rfl
theorem al103 {G h:Hp} {v:Value} {K:VK}:wpH Tryz.prog G (Instr.alloc 103 true v) h K=∀x,h x=none->G x=none->K (.pointer (some ⟨x,0,none⟩)) (h.set x (.cells #[(.slice none 0 0)] 103 (0,0))):=by kernel_rfl
theorem al110 {G h:Hp} {v:Value} {K:VK}:wpH Tryz.prog G (Instr.alloc 110 true v) h K=∀x,h x=none->G x=none->K (.pointer (some ⟨x,0,none⟩)) (h.set x (.cells #[(.int .i64 0),(.int .i64 0)] 110 (0,0))):=by kernel_rfl
theorem al119 {G h:Hp} {v:Value} {K:VK}:wpH Tryz.prog G (Instr.alloc 119 true v) h K=∀x,h x=none->G x=none->K (.pointer (some ⟨x,0,none⟩)) (h.set x (.cells #[(.int .i64 0),(.int .i64 0),(.int .i64 0)] 119 (0,0))):=by kernel_rfl
theorem al137 {G h:Hp} {v:Value} {K:VK}:wpH Tryz.prog G (Instr.alloc 137 true v) h K=∀x,h x=none->G x=none->K (.pointer (some ⟨x,0,none⟩)) (h.set x (.cells #[(.int .i64 0),(.int .i64 0)] 137 (0,0))):=by kernel_rfl
theorem al139 {G h:Hp} {v:Value} {K:VK}:wpH Tryz.prog G (Instr.alloc 139 true v) h K=∀x,h x=none->G x=none->K (.pointer (some ⟨x,0,none⟩)) (h.set x (.cells #[(.int .i64 0),(.int .i64 0),(.int .i64 0)] 139 (0,0))):=by kernel_rfl
theorem al142 {G h:Hp} {v:Value} {K:VK}:wpH Tryz.prog G (Instr.alloc 142 true v) h K=∀x,h x=none->G x=none->K (.pointer (some ⟨x,0,none⟩)) (h.set x (.cells #[(.slice none 0 0)] 142 (0,0))):=by kernel_rfl
theorem al151 {G h:Hp} {v:Value} {K:VK}:wpH Tryz.prog G (Instr.alloc 151 true v) h K=∀x,h x=none->G x=none->K (.pointer (some ⟨x,0,none⟩)) (h.set x (.cells #[(.int .i64 0),(.int .i64 0)] 151 (0,0))):=by kernel_rfl
theorem al203 {G h:Hp} {v:Value} {K:VK}:wpH Tryz.prog G (Instr.alloc 203 true v) h K=∀x,h x=none->G x=none->K (.pointer (some ⟨x,0,none⟩)) (h.set x (.cells #[(.int .i64 0),(.int .i64 0),(.int .i64 0)] 203 (0,0))):=by kernel_rfl
theorem al227 {G h:Hp} {v:Value} {K:VK}:wpH Tryz.prog G (Instr.alloc 227 true v) h K=∀x,h x=none->G x=none->K (.pointer (some ⟨x,0,none⟩)) (h.set x (.cells #[(.int .i64 0),(.int .i64 0),(.int .i64 0),(.int .i64 0)] 227 (0,0))):=by kernel_rfl
theorem al229 {G h:Hp} {v:Value} {K:VK}:wpH Tryz.prog G (Instr.alloc 229 true v) h K=∀x,h x=none->G x=none->K (.pointer (some ⟨x,0,none⟩)) (h.set x (.cells #[(.slice none 0 0)] 229 (0,0))):=by kernel_rfl
theorem al232 {G h:Hp} {v:Value} {K:VK}:wpH Tryz.prog G (Instr.alloc 232 true v) h K=∀x,h x=none->G x=none->K (.pointer (some ⟨x,0,none⟩)) (h.set x (.cells #[(.int .i64 0),(.int .i64 0),(.int .i64 0),(.int .i64 0),(.int .i64 0),(.bool false),(.int .i64 0),(.int .i64 0),(.bool false),(.int .i64 0),(.int .i64 0),(.int .i64 0),(.slice none 0 0)] 232 (0,0))):=by kernel_rfl
theorem al234 {G h:Hp} {v:Value} {K:VK}:wpH Tryz.prog G (Instr.alloc 234 true v) h K=∀x,h x=none->G x=none->K (.pointer (some ⟨x,0,none⟩)) (h.set x (.cells #[(.int .i64 0),(.int .i64 0),(.slice none 0 0)] 234 (0,0))):=by kernel_rfl
theorem al261 {G h:Hp} {v:Value} {K:VK}:wpH Tryz.prog G (Instr.alloc 261 true v) h K=∀x,h x=none->G x=none->K (.pointer (some ⟨x,0,none⟩)) (h.set x (.cells #[(.pointer none)] 261 (0,0))):=by kernel_rfl
theorem cf21:CF 21:=fun {_ _ _ _}=>by kernel_rfl
theorem cf22:CF 22:=fun {_ _ _ _}=>by kernel_rfl
theorem cf24:CF 24:=fun {_ _ _ _}=>by kernel_rfl
theorem cf25:CF 25:=fun {_ _ _ _}=>by kernel_rfl
theorem cf26:CF 26:=fun {_ _ _ _}=>by kernel_rfl
theorem cf27:CF 27:=fun {_ _ _ _}=>by kernel_rfl
theorem cf28:CF 28:=fun {_ _ _ _}=>by kernel_rfl
theorem cf29:CF 29:=fun {_ _ _ _}=>by kernel_rfl
theorem cf30:CF 30:=fun {_ _ _ _}=>by kernel_rfl
theorem cf31:CF 31:=fun {_ _ _ _}=>by kernel_rfl
theorem cf32:CF 32:=fun {_ _ _ _}=>by kernel_rfl
theorem cf33:CF 33:=fun {_ _ _ _}=>by kernel_rfl
theorem cf34:CF 34:=fun {_ _ _ _}=>by kernel_rfl
theorem cf35:CF 35:=fun {_ _ _ _}=>by kernel_rfl
theorem cf36:CF 36:=fun {_ _ _ _}=>by kernel_rfl
theorem cf37:CF 37:=fun {_ _ _ _}=>by kernel_rfl
theorem cf38:CF 38:=fun {_ _ _ _}=>by kernel_rfl
theorem cf39:CF 39:=fun {_ _ _ _}=>by kernel_rfl
theorem cf40:CF 40:=fun {_ _ _ _}=>by kernel_rfl
theorem cf41:CF 41:=fun {_ _ _ _}=>by kernel_rfl
theorem cf45:CF 45:=fun {_ _ _ _}=>by kernel_rfl
theorem cf46:CF 46:=fun {_ _ _ _}=>by kernel_rfl
theorem cf60:CF 60:=fun {_ _ _ _}=>by kernel_rfl
theorem cf61:CF 61:=fun {_ _ _ _}=>by kernel_rfl
theorem cf62:CF 62:=fun {_ _ _ _}=>by kernel_rfl
theorem cf63:CF 63:=fun {_ _ _ _}=>by kernel_rfl
theorem cf64:CF 64:=fun {_ _ _ _}=>by kernel_rfl
theorem cf65:CF 65:=fun {_ _ _ _}=>by kernel_rfl
theorem cf66:CF 66:=fun {_ _ _ _}=>by kernel_rfl
theorem cf67:CF 67:=fun {_ _ _ _}=>by kernel_rfl
theorem cf68:CF 68:=fun {_ _ _ _}=>by kernel_rfl
theorem cf69:CF 69:=fun {_ _ _ _}=>by kernel_rfl
theorem cf70:CF 70:=fun {_ _ _ _}=>by kernel_rfl
theorem cf71:CF 71:=fun {_ _ _ _}=>by kernel_rfl
theorem cf72:CF 72:=fun {_ _ _ _}=>by kernel_rfl
theorem cf73:CF 73:=fun {_ _ _ _}=>by kernel_rfl
theorem cf74:CF 74:=fun {_ _ _ _}=>by kernel_rfl
theorem cf75:CF 75:=fun {_ _ _ _}=>by kernel_rfl
theorem cf76:CF 76:=fun {_ _ _ _}=>by kernel_rfl
theorem cf77:CF 77:=fun {_ _ _ _}=>by kernel_rfl
theorem cf78:CF 78:=fun {_ _ _ _}=>by kernel_rfl
theorem cf79:CF 79:=fun {_ _ _ _}=>by kernel_rfl
theorem cf80:CF 80:=fun {_ _ _ _}=>by kernel_rfl
theorem cf81:CF 81:=fun {_ _ _ _}=>by kernel_rfl
theorem cf82:CF 82:=fun {_ _ _ _}=>by kernel_rfl
theorem cf83:CF 83:=fun {_ _ _ _}=>by kernel_rfl
theorem cf84:CF 84:=fun {_ _ _ _}=>by kernel_rfl
theorem cf85:CF 85:=fun {_ _ _ _}=>by kernel_rfl
theorem cf86:CF 86:=fun {_ _ _ _}=>by kernel_rfl
theorem cf87:CF 87:=fun {_ _ _ _}=>by kernel_rfl
theorem cf88:CF 88:=fun {_ _ _ _}=>by kernel_rfl
theorem cf89:CF 89:=fun {_ _ _ _}=>by kernel_rfl
theorem cf90:CF 90:=fun {_ _ _ _}=>by kernel_rfl
theorem cf93:CF 93:=fun {_ _ _ _}=>by kernel_rfl
theorem cf98:CF 98:=fun {_ _ _ _}=>by kernel_rfl
theorem cf99:CF 99:=fun {_ _ _ _}=>by kernel_rfl
theorem cf100:CF 100:=fun {_ _ _ _}=>by kernel_rfl
theorem X6:CF 103:=fun {_ _ _ _}=>by kernel_rfl
theorem cf104:CF 104:=fun {_ _ _ _}=>by kernel_rfl
theorem cf105:CF 105:=fun {_ _ _ _}=>by kernel_rfl
theorem cf106:CF 106:=fun {_ _ _ _}=>by kernel_rfl
theorem cf107:CF 107:=fun {_ _ _ _}=>by kernel_rfl
theorem cf108:CF 108:=fun {_ _ _ _}=>by kernel_rfl
theorem cf113:CF 113:=fun {_ _ _ _}=>by kernel_rfl
theorem cf114:CF 114:=fun {_ _ _ _}=>by kernel_rfl
theorem cf115:CF 115:=fun {_ _ _ _}=>by kernel_rfl
theorem cf116:CF 116:=fun {_ _ _ _}=>by kernel_rfl
theorem cf117:CF 117:=fun {_ _ _ _}=>by kernel_rfl
theorem cf118:CF 118:=fun {_ _ _ _}=>by kernel_rfl
theorem cf119:CF 119:=fun {_ _ _ _}=>by kernel_rfl
theorem cf120:CF 120:=fun {_ _ _ _}=>by kernel_rfl
theorem cf121:CF 121:=fun {_ _ _ _}=>by kernel_rfl
theorem cf122:CF 122:=fun {_ _ _ _}=>by kernel_rfl
theorem cf123:CF 123:=fun {_ _ _ _}=>by kernel_rfl
theorem cf124:CF 124:=fun {_ _ _ _}=>by kernel_rfl
theorem cf125:CF 125:=fun {_ _ _ _}=>by kernel_rfl
theorem cf126:CF 126:=fun {_ _ _ _}=>by kernel_rfl
theorem cf127:CF 127:=fun {_ _ _ _}=>by kernel_rfl
theorem cf128:CF 128:=fun {_ _ _ _}=>by kernel_rfl
theorem T3:CF 129:=fun {_ _ _ _}=>by kernel_rfl
theorem cf130:CF 130:=fun {_ _ _ _}=>by kernel_rfl
theorem cf131:CF 131:=fun {_ _ _ _}=>by kernel_rfl
theorem cf132:CF 132:=fun {_ _ _ _}=>by kernel_rfl
theorem cf133:CF 133:=fun {_ _ _ _}=>by kernel_rfl
theorem cf134:CF 134:=fun {_ _ _ _}=>by kernel_rfl
theorem cf136:CF 136:=fun {_ _ _ _}=>by kernel_rfl
theorem cf137:CF 137:=fun {_ _ _ _}=>by kernel_rfl
theorem cf143:CF 143:=fun {_ _ _ _}=>by kernel_rfl
theorem cf145:CF 145:=fun {_ _ _ _}=>by kernel_rfl
theorem cf146:CF 146:=fun {_ _ _ _}=>by kernel_rfl
theorem cf147:CF 147:=fun {_ _ _ _}=>by kernel_rfl
theorem cf148:CF 148:=fun {_ _ _ _}=>by kernel_rfl
theorem cf149:CF 149:=fun {_ _ _ _}=>by kernel_rfl
theorem cf150:CF 150:=fun {_ _ _ _}=>by kernel_rfl
theorem cf152:CF 152:=fun {_ _ _ _}=>by kernel_rfl
theorem cf153:CF 153:=fun {_ _ _ _}=>by kernel_rfl
theorem cf154:CF 154:=fun {_ _ _ _}=>by kernel_rfl
theorem cf155:CF 155:=fun {_ _ _ _}=>by kernel_rfl
theorem cf156:CF 156:=fun {_ _ _ _}=>by kernel_rfl
theorem cf157:CF 157:=fun {_ _ _ _}=>by kernel_rfl
theorem cf158:CF 158:=fun {_ _ _ _}=>by kernel_rfl
theorem cf159:CF 159:=fun {_ _ _ _}=>by kernel_rfl
theorem cf164:CF 164:=fun {_ _ _ _}=>by kernel_rfl
theorem cf166:CF 166:=fun {_ _ _ _}=>by kernel_rfl
theorem cf170:CF 170:=fun {_ _ _ _}=>by kernel_rfl
theorem cf187:CF 187:=fun {_ _ _ _}=>by kernel_rfl
theorem E3 {G h:Hp} {k0:IntKind} {y0:Int} {k1:IntKind} {y1:Int} {K:VK}:wpH Tryz.prog G (Instr.build 110 #[(0,(.int k0 y0)),(1,(.int k1 y1))]) h K=K (.agg #[(.int k0 y0),(.int k1 y1)]) h:=by kernel_rfl
theorem bd119_1 {G h:Hp} {k1:IntKind} {y1:Int} {K:VK}:wpH Tryz.prog G (Instr.build 119 #[(1,(.int k1 y1))]) h K=K (.agg #[(.int .i64 0),(.int .i64 0),(.int k1 y1)]) h:=by kernel_rfl
theorem bd124_0 {G h:Hp} {y0:Option Addr} {n0 c0:Nat} {K:VK}:wpH Tryz.prog G (Instr.build 124 #[(0,(.slice y0 n0 c0))]) h K=K (.agg #[(.slice y0 n0 c0)]) h:=by kernel_rfl
theorem tt {G h:Hp} {y0_0 y0_1 y0_2 y0_3 y0_4 y0_5 y0_6 y0_7 y0_8 y0_9 y0_10 y0_11 y0_12 y0_13 y0_14 y0_15:Value} {y1:Option Addr} {y2:Option Addr} {y3:Option Addr} {k4:IntKind} {y4:Int} {y5:Option Nat} {y6:Option Nat} {y7:Option Nat} {y8:Option Nat} {y9:Option Addr} {K:VK}:wpH Tryz.prog G (Instr.build 134 #[(0,(.agg #[y0_0,y0_1,y0_2,y0_3,y0_4,y0_5,y0_6,y0_7,y0_8,y0_9,y0_10,y0_11,y0_12,y0_13,y0_14,y0_15])),(1,(.pointer y1)),(2,(.pointer y2)),(3,(.pointer y3)),(4,(.int k4 y4)),(5,(.map y5)),(6,(.map y6)),(7,(.map y7)),(8,(.map y8)),(9,(.pointer y9))]) h K=K (.agg #[y0_0,y0_1,y0_2,y0_3,y0_4,y0_5,y0_6,y0_7,y0_8,y0_9,y0_10,y0_11,y0_12,y0_13,y0_14,y0_15,(.pointer y1),(.pointer y2),(.pointer y3),(.int k4 y4),(.map y5),(.map y6),(.map y7),(.map y8),(.pointer y9)]) h:=by kernel_rfl
theorem ae5 {G h:Hp} {k0:IntKind} {y0:Int} {k1:IntKind} {y1:Int} {K:VK}:wpH Tryz.prog G (Instr.build 137 #[(0,(.int k0 y0)),(1,(.int k1 y1))]) h K=K (.agg #[(.int k0 y0),(.int k1 y1)]) h:=by kernel_rfl
theorem V2 {G h:Hp} {k0:IntKind} {y0:Int} {y1_0 y1_1:Value} {K:Value->Prop}:pw Tryz.prog G h (Instr.build 139 #[(0,(.int k0 y0)),(1,(.agg #[y1_0,y1_1]))]) K=K (.agg #[(.int k0 y0),y1_0,y1_1]):=by kernel_rfl
theorem bd146_ {G h:Hp}  {K:VK}:wpH Tryz.prog G (Instr.build 146 #[]) h K=K (.agg #[(.int .i64 0),(.int .i64 0),(.int .i64 0),(.int .i64 0),(.int .i64 0),(.int .i64 0),(.int .i64 0),(.bool false),(.int .i64 0),(.int .i64 0),(.bool false),(.int .i64 0),(.int .i64 0),(.int .i64 0),(.bool false)]) h:=by kernel_rfl
theorem ae2 {G h:Hp} {y0_0 y0_1:Value} {y1_0 y1_1 y1_2 y1_3 y1_4 y1_5 y1_6 y1_7 y1_8 y1_9 y1_10:Value} {K:VK}:wpH Tryz.prog G (Instr.build 146 #[(0,(.agg #[y0_0,y0_1])),(1,(.agg #[y1_0,y1_1,y1_2,y1_3,y1_4,y1_5,y1_6,y1_7,y1_8,y1_9,y1_10]))]) h K=K (.agg #[y0_0,y0_1,y1_0,y1_1,y1_2,y1_3,y1_4,y1_5,y1_6,y1_7,y1_8,y1_9,y1_10,(.int .i64 0),(.bool false)]) h:=by kernel_rfl
theorem ae0 {G h:Hp} {k0:IntKind} {y0:Int} {k1:IntKind} {y1:Int} {K:VK}:wpH Tryz.prog G (Instr.build 151 #[(0,(.int k0 y0)),(1,(.int k1 y1))]) h K=K (.agg #[(.int k0 y0),(.int k1 y1)]) h:=by kernel_rfl
theorem V1 {G h:Hp} {k0:IntKind} {y0:Int} {k1:IntKind} {y1:Int} {K:Value->Prop}:pw Tryz.prog G h (Instr.build 151 #[(0,(.int k0 y0)),(1,(.int k1 y1))]) K=K (.agg #[(.int k0 y0),(.int k1 y1)]):=by kernel_rfl
theorem Ua {G h:Hp} {k0:IntKind} {y0:Int} {k1:IntKind} {y1:Int} {k2:IntKind} {y2:Int} {K:VK}:wpH Tryz.prog G (Instr.build 155 #[(0,(.int k0 y0)),(1,(.int k1 y1)),(2,(.int k2 y2))]) h K=K (.agg #[(.int k0 y0),(.int k1 y1),(.int k2 y2)]) h:=by kernel_rfl
theorem V0 {G h:Hp} {y0_0 y0_1:Value} {k1:IntKind} {y1:Int} {K:Value->Prop}:pw Tryz.prog G h (Instr.build 175 #[(0,(.agg #[y0_0,y0_1])),(1,(.int k1 y1))]) K=K (.agg #[y0_0,y0_1,(.int k1 y1)]):=by kernel_rfl
theorem bd188_0 {G h:Hp} {y0:Option Addr} {n0 c0:Nat} {K:VK}:wpH Tryz.prog G (Instr.build 188 #[(0,(.slice y0 n0 c0))]) h K=K (.agg #[(.slice y0 n0 c0)]) h:=by kernel_rfl
theorem P4 {G h:Hp} {k0:IntKind} {y0:Int} {k1:IntKind} {y1:Int} {y2:Option Addr} {n2 c2:Nat} {K:Value->Prop}:pw Tryz.prog G h (Instr.build 215 #[(0,(.int k0 y0)),(1,(.int k1 y1)),(2,(.slice y2 n2 c2))]) K=K (.agg #[(.int k0 y0),(.int k1 y1),(.slice y2 n2 c2)]):=by kernel_rfl
theorem bd218_0 {G h:Hp} {y0:Fn} {p0 q0:Array Value} {K:VK}:wpH Tryz.prog G (Instr.build 218 #[(0,(.func y0 p0 q0))]) h K=K (.agg #[(.func y0 p0 q0),(.slice none 0 0),(.int .i64 0)]) h:=by kernel_rfl
theorem bd227_ {G h:Hp}  {K:VK}:wpH Tryz.prog G (Instr.build 227 #[]) h K=K (.agg #[(.int .i64 0),(.int .i64 0),(.int .i64 0),(.int .i64 0)]) h:=by kernel_rfl
theorem Vz {G h:Hp} {y0_0 y0_1 y0_2:Value} {k1:IntKind} {y1:Int} {K:Value->Prop}:pw Tryz.prog G h (Instr.build 227 #[(0,(.agg #[y0_0,y0_1,y0_2])),(1,(.int k1 y1))]) K=K (.agg #[y0_0,y0_1,y0_2,(.int k1 y1)]):=by kernel_rfl
theorem P3 {G h:Hp} {y0_0 y0_1 y0_2 y0_3 y0_4 y0_5 y0_6 y0_7 y0_8 y0_9 y0_10:Value} {k1:IntKind} {y1:Int} {y2:Option Addr} {n2 c2:Nat} {K:Value->Prop}:pw Tryz.prog G h (Instr.build 232 #[(0,(.agg #[y0_0,y0_1,y0_2,y0_3,y0_4,y0_5,y0_6,y0_7,y0_8,y0_9,y0_10])),(1,(.int k1 y1)),(2,(.slice y2 n2 c2))]) K=K (.agg #[y0_0,y0_1,y0_2,y0_3,y0_4,y0_5,y0_6,y0_7,y0_8,y0_9,y0_10,(.int k1 y1),(.slice y2 n2 c2)]):=by kernel_rfl
theorem Vy {G h:Hp} {y0_0 y0_1:Value} {y1:Option Addr} {n1 c1:Nat} {K:Value->Prop}:pw Tryz.prog G h (Instr.build 234 #[(0,(.agg #[y0_0,y0_1])),(1,(.slice y1 n1 c1))]) K=K (.agg #[y0_0,y0_1,(.slice y1 n1 c1)]):=by kernel_rfl
theorem p9 {G h:Hp} {k0:IntKind} {y0:Int} {k1:IntKind} {y1:Int} {k2:IntKind} {y2:Int} {k7:IntKind} {y7:Int} {k8:IntKind} {y8:Int} {k9:IntKind} {y9:Int} {k10:IntKind} {y10:Int} {k11:IntKind} {y11:Int} {k12:IntKind} {y12:Int} {k13:IntKind} {y13:Int} {k14:IntKind} {y14:Int} {K:VK}:wpH Tryz.prog G (Instr.build 26 #[(0,(.int k0 y0)),(1,(.int k1 y1)),(2,(.int k2 y2)),(7,(.int k7 y7)),(8,(.int k8 y8)),(9,(.int k9 y9)),(10,(.int k10 y10)),(11,(.int k11 y11)),(12,(.int k12 y12)),(13,(.int k13 y13)),(14,(.int k14 y14))]) h K=K (.agg #[(.int k0 y0),(.int k1 y1),(.int k2 y2),(.slice none 0 0),(.slice none 0 0),(.slice none 0 0),(.slice none 0 0),(.int k7 y7),(.int k8 y8),(.int k9 y9),(.int k10 y10),(.int k11 y11),(.int k12 y12),(.int k13 y13),(.int k14 y14),(.bool false)]) h:=by kernel_rfl
theorem bd28_0 {G h:Hp} {k0:IntKind} {y0:Int} {K:VK}:wpH Tryz.prog G (Instr.build 28 #[(0,(.int k0 y0))]) h K=K (.agg #[(.int k0 y0),(.int .i64 0)]) h:=by kernel_rfl
theorem Ds {G h:Hp} {k0:IntKind} {y0:Int} {k1:IntKind} {y1:Int} {K:VK}:wpH Tryz.prog G (Instr.build 28 #[(0,(.int k0 y0)),(1,(.int k1 y1))]) h K=K (.agg #[(.int k0 y0),(.int k1 y1)]) h:=by kernel_rfl
theorem ad9 {G h:Hp} {k0:IntKind} {y0:Int} {k1:IntKind} {y1:Int} {K:Value->Prop}:pw Tryz.prog G h (Instr.build 28 #[(0,(.int k0 y0)),(1,(.int k1 y1))]) K=K (.agg #[(.int k0 y0),(.int k1 y1)]):=by kernel_rfl
theorem bd30_ {G h:Hp}  {K:VK}:wpH Tryz.prog G (Instr.build 30 #[]) h K=K (.agg #[(.int .i64 0),(.int .i64 0),(.bool false)]) h:=by kernel_rfl
theorem Dr {G h:Hp} {y0_0 y0_1:Value} {y1:Bool} {K:VK}:wpH Tryz.prog G (Instr.build 30 #[(0,(.agg #[y0_0,y0_1])),(1,(.bool y1))]) h K=K (.agg #[y0_0,y0_1,(.bool y1)]) h:=by kernel_rfl
theorem ad8 {G h:Hp} {y0_0 y0_1:Value} {y1:Bool} {K:Value->Prop}:pw Tryz.prog G h (Instr.build 30 #[(0,(.agg #[y0_0,y0_1])),(1,(.bool y1))]) K=K (.agg #[y0_0,y0_1,(.bool y1)]):=by kernel_rfl
theorem aw0 {G h:Hp} {y0_0 y0_1:Value} {K:VK}:wpH Tryz.prog G (Instr.build 30 #[(0,(.agg #[y0_0,y0_1]))]) h K=K (.agg #[y0_0,y0_1,(.bool false)]) h:=by kernel_rfl
theorem bd30_0p {G h:Hp} {y0_0 y0_1:Value} {K:Value->Prop}:pw Tryz.prog G h (Instr.build 30 #[(0,(.agg #[y0_0,y0_1]))]) K=K (.agg #[y0_0,y0_1,(.bool false)]):=by kernel_rfl
theorem bd45_0 {G h:Hp} {y0_0 y0_1 y0_2:Value} {K:VK}:wpH Tryz.prog G (Instr.build 45 #[(0,(.agg #[y0_0,y0_1,y0_2]))]) h K=K (.agg #[y0_0,y0_1,y0_2,(.bool false)]) h:=by kernel_rfl
theorem av9 {G h:Hp} {y0_0 y0_1 y0_2:Value} {y1:Bool} {K:VK}:wpH Tryz.prog G (Instr.build 45 #[(0,(.agg #[y0_0,y0_1,y0_2])),(1,(.bool y1))]) h K=K (.agg #[y0_0,y0_1,y0_2,(.bool y1)]) h:=by kernel_rfl
theorem Jf {G h:Hp} {k0:IntKind} {y0:Int} {k1:IntKind} {y1:Int} {k2:IntKind} {y2:Int} {y3_0 y3_1 y3_2:Value} {y4_0 y4_1 y4_2:Value} {K:VK}:wpH Tryz.prog G (Instr.build 48 #[(0,(.int k0 y0)),(1,(.int k1 y1)),(2,(.int k2 y2)),(3,(.agg #[y3_0,y3_1,y3_2])),(4,(.agg #[y4_0,y4_1,y4_2]))]) h K=K (.agg #[(.int k0 y0),(.int k1 y1),(.int k2 y2),y3_0,y3_1,y3_2,y4_0,y4_1,y4_2,(.int .i64 0),(.int .i64 0)]) h:=by kernel_rfl
theorem Je {G h:Hp} {k0:IntKind} {y0:Int} {y3_0 y3_1 y3_2:Value} {y4_0 y4_1 y4_2:Value} {K:VK}:wpH Tryz.prog G (Instr.build 48 #[(0,(.int k0 y0)),(3,(.agg #[y3_0,y3_1,y3_2])),(4,(.agg #[y4_0,y4_1,y4_2]))]) h K=K (.agg #[(.int k0 y0),(.int .i64 0),(.int .i64 0),y3_0,y3_1,y3_2,y4_0,y4_1,y4_2,(.int .i64 0),(.int .i64 0)]) h:=by kernel_rfl
theorem Gm {G h:Hp} {k0:IntKind} {y0:Int} {y3_0 y3_1 y3_2:Value} {y4_0 y4_1 y4_2:Value} {k5:IntKind} {y5:Int} {k6:IntKind} {y6:Int} {K:Value->Prop}:pw Tryz.prog G h (Instr.build 48 #[(0,(.int k0 y0)),(3,(.agg #[y3_0,y3_1,y3_2])),(4,(.agg #[y4_0,y4_1,y4_2])),(5,(.int k5 y5)),(6,(.int k6 y6))]) K=K (.agg #[(.int k0 y0),(.int .i64 0),(.int .i64 0),y3_0,y3_1,y3_2,y4_0,y4_1,y4_2,(.int k5 y5),(.int k6 y6)]):=by kernel_rfl
theorem Vx {G h:Hp} {k0:IntKind} {y0:Int} {k1:IntKind} {y1:Int} {k2:IntKind} {y2:Int} {K:VK}:wpH Tryz.prog G (Instr.build 54 #[(0,(.int k0 y0)),(1,(.int k1 y1)),(2,(.int k2 y2))]) h K=K (.agg #[(.int k0 y0),(.int k1 y1),(.int k2 y2)]) h:=by kernel_rfl
theorem F5 {G h:Hp} {k0:IntKind} {y0:Int} {k1:IntKind} {y1:Int} {k2:IntKind} {y2:Int} {K:Value->Prop}:pw Tryz.prog G h (Instr.build 75 #[(0,(.int k0 y0)),(1,(.int k1 y1)),(2,(.int k2 y2))]) K=K (.agg #[(.int k0 y0),(.int k1 y1),(.int k2 y2)]):=by kernel_rfl
theorem ad5 {G h:Hp} {y0_0 y0_1:Value} {K:VK}:wpH Tryz.prog G (Instr.buildSlice 103 1 #[(0,(.agg #[y0_0,y0_1]))]) h K=∀x,h x=none->G x=none->K (.slice (some ⟨x,0,none⟩) 1 1) (h.set x (.cells #[y0_0,y0_1] 110 (0,0))):=by kernel_rfl
theorem Jc {G h:Hp} {y0_0 y0_1:Value} {y1_0 y1_1:Value} {K:VK}:wpH Tryz.prog G (Instr.buildSlice 22 2 #[(0,(.agg #[y0_0,y0_1])),(1,(.agg #[y1_0,y1_1]))]) h K=∀x,h x=none->G x=none->K (.slice (some ⟨x,0,none⟩) 2 2) (h.set x (.cells #[y0_0,y0_1,y1_0,y1_1] 28 (0,0))):=by kernel_rfl
theorem Az {G h:Hp} {k0:IntKind} {y0:Int} {k1:IntKind} {y1:Int} {k2:IntKind} {y2:Int} {k3:IntKind} {y3:Int} {k4:IntKind} {y4:Int} {k5:IntKind} {y5:Int} {K:VK}:wpH Tryz.prog G (Instr.buildSlice 168 6 #[(0,(.int k0 y0)),(1,(.int k1 y1)),(2,(.int k2 y2)),(3,(.int k3 y3)),(4,(.int k4 y4)),(5,(.int k5 y5))]) h K=∀x,h x=none->G x=none->K (.slice (some ⟨x,0,none⟩) 6 6) (h.set x (.cells #[(.int k0 y0),(.int k1 y1),(.int k2 y2),(.int k3 y3),(.int k4 y4),(.int k5 y5)] 3 (0,0))):=by kernel_rfl
theorem zx {G h:Hp} {y0_0 y0_1:Value} {y1_0 y1_1:Value} {y2_0 y2_1:Value} {y3_0 y3_1:Value} {K:VK}:wpH Tryz.prog G (Instr.buildSlice 22 4 #[(0,(.agg #[y0_0,y0_1])),(1,(.agg #[y1_0,y1_1])),(2,(.agg #[y2_0,y2_1])),(3,(.agg #[y3_0,y3_1]))]) h K=∀x,h x=none->G x=none->K (.slice (some ⟨x,0,none⟩) 4 4) (h.set x (.cells #[y0_0,y0_1,y1_0,y1_1,y2_0,y2_1,y3_0,y3_1] 28 (0,0))):=by kernel_rfl
theorem au9 {G h:Hp} {y0_0 y0_1 y0_2:Value} {K:VK}:wpH Tryz.prog G (Instr.buildSlice 24 1 #[(0,(.agg #[y0_0,y0_1,y0_2]))]) h K=∀x,h x=none->G x=none->K (.slice (some ⟨x,0,none⟩) 1 1) (h.set x (.cells #[y0_0,y0_1,y0_2] 234 (0,0))):=by kernel_rfl
theorem T8 {G h:Hp} {y0_0 y0_1 y0_2 y0_3 y0_4 y0_5 y0_6 y0_7 y0_8 y0_9 y0_10:Value} {K:VK}:wpH Tryz.prog G (Instr.buildSlice 40 1 #[(0,(.agg #[y0_0,y0_1,y0_2,y0_3,y0_4,y0_5,y0_6,y0_7,y0_8,y0_9,y0_10]))]) h K=∀x,h x=none->G x=none->K (.slice (some ⟨x,0,none⟩) 1 1) (h.set x (.cells #[y0_0,y0_1,y0_2,y0_3,y0_4,y0_5,y0_6,y0_7,y0_8,y0_9,y0_10] 48 (0,0))):=by kernel_rfl
theorem ad4 {G h:Hp} {y0_0 y0_1 y0_2 y0_3:Value} {K:VK}:wpH Tryz.prog G (Instr.buildSlice 216 1 #[(0,(.agg #[y0_0,y0_1,y0_2,y0_3]))]) h K=∀x,h x=none->G x=none->K (.slice (some ⟨x,0,none⟩) 1 1) (h.set x (.cells #[y0_0,y0_1,y0_2,y0_3] 227 (0,0))):=by kernel_rfl
theorem M9 {G h:Hp} {k0:IntKind} {y0:Int} {K:VK}:wpH Tryz.prog G (Instr.buildSlice 168 1 #[(0,(.int k0 y0))]) h K=∀x,h x=none->G x=none->K (.slice (some ⟨x,0,none⟩) 1 1) (h.set x (.cells #[(.int k0 y0)] 3 (0,0))):=by kernel_rfl
theorem Na {G h:Hp} {y0_0 y0_1:Value} {K:VK}:wpH Tryz.prog G (Instr.buildSlice 142 1 #[(0,(.agg #[y0_0,y0_1]))]) h K=∀x,h x=none->G x=none->K (.slice (some ⟨x,0,none⟩) 1 1) (h.set x (.cells #[y0_0,y0_1] 151 (0,0))):=by kernel_rfl
theorem ad3 {G h:Hp} {y0_0 y0_1 y0_2 y0_3 y0_4 y0_5 y0_6 y0_7 y0_8 y0_9 y0_10 y0_11 y0_12:Value} {K:VK}:wpH Tryz.prog G (Instr.buildSlice 229 1 #[(0,(.agg #[y0_0,y0_1,y0_2,y0_3,y0_4,y0_5,y0_6,y0_7,y0_8,y0_9,y0_10,y0_11,y0_12]))]) h K=∀x,h x=none->G x=none->K (.slice (some ⟨x,0,none⟩) 1 1) (h.set x (.cells #[y0_0,y0_1,y0_2,y0_3,y0_4,y0_5,y0_6,y0_7,y0_8,y0_9,y0_10,y0_11,y0_12] 232 (0,0))):=by kernel_rfl
theorem au7 {G h:Hp} {y0_0 y0_1 y0_2:Value} {K:VK}:wpH Tryz.prog G (Instr.buildSlice 71 1 #[(0,(.agg #[y0_0,y0_1,y0_2]))]) h K=∀x,h x=none->G x=none->K (.slice (some ⟨x,0,none⟩) 1 1) (h.set x (.cells #[y0_0,y0_1,y0_2] 75 (0,0))):=by kernel_rfl
theorem T7 {G h:Hp} {y0_0 y0_1 y0_2:Value} {K:VK}:wpH Tryz.prog G (Instr.buildSlice 59 1 #[(0,(.agg #[y0_0,y0_1,y0_2]))]) h K=∀x,h x=none->G x=none->K (.slice (some ⟨x,0,none⟩) 1 1) (h.set x (.cells #[y0_0,y0_1,y0_2] 119 (0,0))):=by kernel_rfl
theorem au8 {G h:Hp} {y0_0 y0_1 y0_2:Value} {K:VK}:wpH Tryz.prog G (Instr.buildSlice 60 1 #[(0,(.agg #[y0_0,y0_1,y0_2]))]) h K=∀x,h x=none->G x=none->K (.slice (some ⟨x,0,none⟩) 1 1) (h.set x (.cells #[y0_0,y0_1,y0_2] 175 (0,0))):=by kernel_rfl
theorem eo48:gc Tryz.prog 48 11 88:=⟨by kernel_rfl,by kernel_rfl,by kernel_rfl⟩
theorem eo119:gc Tryz.prog 119 3 24:=⟨by kernel_rfl,by kernel_rfl,by kernel_rfl⟩
theorem eo175:gc Tryz.prog 175 3 24:=⟨by kernel_rfl,by kernel_rfl,by kernel_rfl⟩
theorem eo75:gc Tryz.prog 75 3 24:=⟨by kernel_rfl,by kernel_rfl,by kernel_rfl⟩
theorem eo203:gc Tryz.prog 203 3 24:=⟨by kernel_rfl,by kernel_rfl,by kernel_rfl⟩
theorem eo110:gc Tryz.prog 110 2 16:=⟨by kernel_rfl,by kernel_rfl,by kernel_rfl⟩
theorem eo151:gc Tryz.prog 151 2 16:=⟨by kernel_rfl,by kernel_rfl,by kernel_rfl⟩
theorem eo3:gc Tryz.prog 3 1 8:=⟨by kernel_rfl,by kernel_rfl,by kernel_rfl⟩
theorem eo227:gc Tryz.prog 227 4 32:=⟨by kernel_rfl,by kernel_rfl,by kernel_rfl⟩
theorem eo232:gc Tryz.prog 232 13 120:=⟨by kernel_rfl,by kernel_rfl,by kernel_rfl⟩
theorem eq4p {G h h1:Hp} {cx cy:Operand} {x y:Bool} {K:VK}:bm Tryz.prog G h1 (xEq .eql 4 cx cy (.bool x) (.bool y)) h K=K (.bool ((x==y))) h:=by kernel_rfl
theorem X5 (d:Nat) {x0 y0:Int} {x1 y1:Int}:Det Tryz.prog (Op.equalIn (d+1+1) 28 (.agg #[x0,x1]) (.agg #[y0,y1])) ((x0==y0)&&((x1==y1)&&true)):=by
 refine ql Tryz.underlying28 (by kernel_rfl) ?_
 refine jd (by decide) (dj Tryz.underlying3 rfl rfl) (dj Tryz.underlying3 rfl rfl) (mo (d:=d+0) Tryz.underlying3) ?_
 refine jd (by decide) (dj Tryz.underlying3 rfl rfl) (dj Tryz.underlying3 rfl rfl) (mo (d:=d+0) Tryz.underlying3) ?_
 exact Ar
theorem eq28 {G h:Hp} {cx cy:Operand} {x0 y0:Int} {x1 y1:Int} {K:VK}:opH Tryz.prog G (xEq .eql 28 cx cy (.agg #[x0,x1]) (.agg #[y0,y1])) h K=K (.bool (((x0==y0)&&((x1==y1)&&true)))) h:=ao5 (by kernel_rfl) (X5 9998)
theorem X0 {G h h1:Hp} {cx cy:Operand} {x0 y0:Int} {x1 y1:Int} {K:VK}:bm Tryz.prog G h1 (xEq .eql 28 cx cy (.agg #[x0,x1]) (.agg #[y0,y1])) h K=K (.bool (((x0==y0)&&((x1==y1)&&true)))) h:=Py (by kernel_rfl) (X5 9998)
theorem Tv (d:Nat) {x0 y0:Int} {x1 y1:Int} {x2 y2:Bool}:Det Tryz.prog (Op.equalIn (d+2+1) 30 (.agg #[x0,x1,.bool x2]) (.agg #[y0,y1,.bool y2])) (((x0==y0)&&((x1==y1)&&true))&&((x2==y2)&&true)):=by
 refine ql Tryz.underlying30 (by kernel_rfl) ?_
 refine jd (by decide) (us Tryz.underlying28 (n:=2) (by kernel_rfl)) (us Tryz.underlying28 (n:=2) (by kernel_rfl)) (X5 (d+0)) ?_
 refine jd (by decide) (dj Tryz.underlying4 rfl rfl) (dj Tryz.underlying4 rfl rfl) (ao6 (d:=d+1) Tryz.underlying4) ?_
 exact Ar
theorem eq30 {G h:Hp} {cx cy:Operand} {x0 y0:Int} {x1 y1:Int} {x2 y2:Bool} {K:VK}:opH Tryz.prog G (xEq .eql 30 cx cy (.agg #[x0,x1,.bool x2]) (.agg #[y0,y1,.bool y2])) h K=K (.bool ((((x0==y0)&&((x1==y1)&&true))&&((x2==y2)&&true)))) h:=ao5 (by kernel_rfl) (Tv 9997)
theorem eq30p {G h h1:Hp} {cx cy:Operand} {x0 y0:Int} {x1 y1:Int} {x2 y2:Bool} {K:VK}:bm Tryz.prog G h1 (xEq .eql 30 cx cy (.agg #[x0,x1,.bool x2]) (.agg #[y0,y1,.bool y2])) h K=K (.bool ((((x0==y0)&&((x1==y1)&&true))&&((x2==y2)&&true)))) h:=Py (by kernel_rfl) (Tv 9997)
theorem eq34np {G h h1:Hp} {cx cy:Operand}  {K:VK}:bm Tryz.prog G h1 (xEq .eql 34 cx cy (.pointer none) (.pointer none)) h K=K (.bool true) h:=by kernel_rfl
theorem Tq {G h:Hp} {cx cy:Operand} {a:Addr} {K:VK}:opH Tryz.prog G (xEq .eql 34 cx cy (.pointer (some a)) (.pointer none)) h K=K (.bool false) h:=by kernel_rfl
theorem eq34sp {G h h1:Hp} {cx cy:Operand} {a:Addr} {K:VK}:bm Tryz.prog G h1 (xEq .eql 34 cx cy (.pointer (some a)) (.pointer none)) h K=K (.bool false) h:=by kernel_rfl
theorem Xz {G h:Hp} {cx cy:Operand} {a:Addr} {K:VK}:opH Tryz.prog G (xEq .eql 50 cx cy (.pointer (some a)) (.pointer none)) h K=K (.bool false) h:=by kernel_rfl
theorem eq68n {G h:Hp} {cx cy:Operand}  {K:VK}:opH Tryz.prog G (xEq .eql 68 cx cy (.pointer none) (.pointer none)) h K=K (.bool true) h:=by kernel_rfl
theorem eq68s {G h:Hp} {cx cy:Operand} {a:Addr} {K:VK}:opH Tryz.prog G (xEq .eql 68 cx cy (.pointer (some a)) (.pointer none)) h K=K (.bool false) h:=by kernel_rfl
theorem eq68sp {G h h1:Hp} {cx cy:Operand} {a:Addr} {K:VK}:bm Tryz.prog G h1 (xEq .eql 68 cx cy (.pointer (some a)) (.pointer none)) h K=K (.bool false) h:=by kernel_rfl
theorem deq75 (d:Nat) {x0 y0:Int} {x1 y1:Int} {x2 y2:Int}:Det Tryz.prog (Op.equalIn (d+1+1) 75 (.agg #[x0,x1,x2]) (.agg #[y0,y1,y2])) ((x0==y0)&&((x1==y1)&&((x2==y2)&&true))):=by
 refine ql Tryz.underlying75 (by kernel_rfl) ?_
 refine jd (by decide) (dj Tryz.underlying3 rfl rfl) (dj Tryz.underlying3 rfl rfl) (mo (d:=d+0) Tryz.underlying3) ?_
 refine jd (by decide) (dj Tryz.underlying3 rfl rfl) (dj Tryz.underlying3 rfl rfl) (mo (d:=d+0) Tryz.underlying3) ?_
 refine jd (by decide) (dj Tryz.underlying3 rfl rfl) (dj Tryz.underlying3 rfl rfl) (mo (d:=d+0) Tryz.underlying3) ?_
 exact Ar
theorem eq75p {G h h1:Hp} {cx cy:Operand} {x0 y0:Int} {x1 y1:Int} {x2 y2:Int} {K:VK}:bm Tryz.prog G h1 (xEq .eql 75 cx cy (.agg #[x0,x1,x2]) (.agg #[y0,y1,y2])) h K=K (.bool (((x0==y0)&&((x1==y1)&&((x2==y2)&&true))))) h:=Py (by kernel_rfl) (deq75 9998)
theorem eq106s {G h:Hp} {cx cy:Operand} {f:Fn} {p q:Array Value} {K:VK}:opH Tryz.prog G (xEq .eql 106 cx cy (.func f p q) .nilFunc) h K=K (.bool false) h:=by kernel_rfl
theorem eq132s {G h:Hp} {cx cy:Operand} {a:Addr} {K:VK}:opH Tryz.prog G (xEq .eql 132 cx cy (.pointer (some a)) (.pointer none)) h K=K (.bool false) h:=by kernel_rfl
theorem eq140s {G h:Hp} {cx cy:Operand} {f:Fn} {p q:Array Value} {K:VK}:opH Tryz.prog G (xEq .eql 140 cx cy (.func f p q) .nilFunc) h K=K (.bool false) h:=by kernel_rfl
theorem ne28p {G h h1:Hp} {cx cy:Operand} {x0 y0:Int} {x1 y1:Int} {K:VK}:bm Tryz.prog G h1 (xEq .neq 28 cx cy (.agg #[x0,x1]) (.agg #[y0,y1])) h K=K (.bool (!((x0==y0)&&((x1==y1)&&true)))) h:=Gs (by kernel_rfl) (X5 9998)
theorem ne30p {G h h1:Hp} {cx cy:Operand} {x0 y0:Int} {x1 y1:Int} {x2 y2:Bool} {K:VK}:bm Tryz.prog G h1 (xEq .neq 30 cx cy (.agg #[x0,x1,.bool x2]) (.agg #[y0,y1,.bool y2])) h K=K (.bool (!(((x0==y0)&&((x1==y1)&&true))&&((x2==y2)&&true)))) h:=Gs (by kernel_rfl) (Tv 9997)
theorem ne34s {G h:Hp} {cx cy:Operand} {a:Addr} {K:VK}:opH Tryz.prog G (xEq .neq 34 cx cy (.pointer (some a)) (.pointer none)) h K=K (.bool true) h:=by kernel_rfl
theorem deq48 (d:Nat) {x0 y0:Int} {x1 y1:Int} {x2 y2:Int} {x3 y3:Int} {x4 y4:Int} {x5 y5:Bool} {x6 y6:Int} {x7 y7:Int} {x8 y8:Bool} {x9 y9:Int} {x10 y10:Int}:Det Tryz.prog (Op.equalIn (d+3+1) 48 (.agg #[x0,x1,x2,x3,x4,.bool x5,x6,x7,.bool x8,x9,x10]) (.agg #[y0,y1,y2,y3,y4,.bool y5,y6,y7,.bool y8,y9,y10])) ((x0==y0)&&((x1==y1)&&((x2==y2)&&((((x3==y3)&&((x4==y4)&&true))&&((x5==y5)&&true))&&((((x6==y6)&&((x7==y7)&&true))&&((x8==y8)&&true))&&((x9==y9)&&((x10==y10)&&true))))))):=by
 refine ql Tryz.underlying48 (by kernel_rfl) ?_
 refine jd (by decide) (dj Tryz.underlying3 rfl rfl) (dj Tryz.underlying3 rfl rfl) (mo (d:=d+2) Tryz.underlying3) ?_
 refine jd (by decide) (dj Tryz.underlying3 rfl rfl) (dj Tryz.underlying3 rfl rfl) (mo (d:=d+2) Tryz.underlying3) ?_
 refine jd (by decide) (dj Tryz.underlying3 rfl rfl) (dj Tryz.underlying3 rfl rfl) (mo (d:=d+2) Tryz.underlying3) ?_
 refine jd (by decide) (us Tryz.underlying30 (n:=3) (by kernel_rfl)) (us Tryz.underlying30 (n:=3) (by kernel_rfl)) (Tv (d+0)) ?_
 refine jd (by decide) (us Tryz.underlying30 (n:=3) (by kernel_rfl)) (us Tryz.underlying30 (n:=3) (by kernel_rfl)) (Tv (d+0)) ?_
 refine jd (by decide) (dj Tryz.underlying3 rfl rfl) (dj Tryz.underlying3 rfl rfl) (mo (d:=d+2) Tryz.underlying3) ?_
 refine jd (by decide) (dj Tryz.underlying3 rfl rfl) (dj Tryz.underlying3 rfl rfl) (mo (d:=d+2) Tryz.underlying3) ?_
 exact Ar
theorem ne48p {G h h1:Hp} {cx cy:Operand} {x0 y0:Int} {x1 y1:Int} {x2 y2:Int} {x3 y3:Int} {x4 y4:Int} {x5 y5:Bool} {x6 y6:Int} {x7 y7:Int} {x8 y8:Bool} {x9 y9:Int} {x10 y10:Int} {K:VK}:bm Tryz.prog G h1 (xEq .neq 48 cx cy (.agg #[x0,x1,x2,x3,x4,.bool x5,x6,x7,.bool x8,x9,x10]) (.agg #[y0,y1,y2,y3,y4,.bool y5,y6,y7,.bool y8,y9,y10])) h K=K (.bool (!((x0==y0)&&((x1==y1)&&((x2==y2)&&((((x3==y3)&&((x4==y4)&&true))&&((x5==y5)&&true))&&((((x6==y6)&&((x7==y7)&&true))&&((x8==y8)&&true))&&((x9==y9)&&((x10==y10)&&true))))))))) h:=Gs (by kernel_rfl) (deq48 9996)
theorem ne68n {G h:Hp} {cx cy:Operand}  {K:VK}:opH Tryz.prog G (xEq .neq 68 cx cy (.pointer none) (.pointer none)) h K=K (.bool false) h:=by kernel_rfl
theorem ne68s {G h:Hp} {cx cy:Operand} {a:Addr} {K:VK}:opH Tryz.prog G (xEq .neq 68 cx cy (.pointer (some a)) (.pointer none)) h K=K (.bool true) h:=by kernel_rfl
theorem deq203 (d:Nat) {x0 y0:Int} {x1 y1:Int} {x2 y2:Int}:Det Tryz.prog (Op.equalIn (d+1+1) 203 (.agg #[x0,x1,x2]) (.agg #[y0,y1,y2])) ((x0==y0)&&((x1==y1)&&((x2==y2)&&true))):=by
 refine ql Tryz.underlying203 (by kernel_rfl) ?_
 refine jd (by decide) (dj Tryz.underlying3 rfl rfl) (dj Tryz.underlying3 rfl rfl) (mo (d:=d+0) Tryz.underlying3) ?_
 refine jd (by decide) (dj Tryz.underlying3 rfl rfl) (dj Tryz.underlying3 rfl rfl) (mo (d:=d+0) Tryz.underlying3) ?_
 refine jd (by decide) (dj Tryz.underlying3 rfl rfl) (dj Tryz.underlying3 rfl rfl) (mo (d:=d+0) Tryz.underlying3) ?_
 exact Ar
theorem ne203p {G h h1:Hp} {cx cy:Operand} {x0 y0:Int} {x1 y1:Int} {x2 y2:Int} {K:VK}:bm Tryz.prog G h1 (xEq .neq 203 cx cy (.agg #[x0,x1,x2]) (.agg #[y0,y1,y2])) h K=K (.bool (!((x0==y0)&&((x1==y1)&&((x2==y2)&&true))))) h:=Gs (by kernel_rfl) (deq203 9998)
theorem jq {a b:Prop} (x:a) (y:b):a/\b:=⟨x,y⟩
set_option linter.defProp false in
def bC:=jq (jq (jq (jq (jq (jq @ai4 @opH_su) (jq @H6 @pick_t)) (jq (jq @pick_f @pick_tp) (jq @pick_fp @gd_tt))) (jq (jq (jq @gd_ft @gd_tf) (jq @gd_ff @box_new)) (jq (jq @regs0 @regs1) (jq @regs2 (jq @regs3 @regs4))))) (jq (jq (jq (jq @regs5 @regs6) (jq @ly @ad2)) (jq (jq @Vt @ag9) (jq @ah0 @Z3))) (jq (jq (jq @ex0 @ex1) (jq @ex0p @ex1p)) (jq (jq @HL.ad0 @HL.Vq) (jq @i8 (jq @Zq @Uj)))))) (jq (jq (jq (jq (jq @Vw @jw) (jq @bin_add @bin_sub)) (jq (jq @bin_mul @bin_lss) (jq @av8 @av3))) (jq (jq (jq @av6 @kf) (jq @un_not @un_notp)) (jq (jq @eq_int @ne_int) (jq @eq_intp (jq @ne_intp @nt))))) (jq (jq (jq (jq @af3 @av) (jq @Bc @Nat.zero_add)) (jq (jq @Nat.add_zero @Option.some.injEq.{0}) (jq @exists_eq_left'.{1} @List.getElem?_cons_succ.{0}))) (jq (jq (jq @List.getElem?_cons_zero.{0} @Bool.not_true) (jq @Bool.not_false @if_true.{1})) (jq (jq @if_true.{0} @if_false.{1}) (jq @Int.toNat_natCast (jq @List.set_cons_zero.{0} @List.set_cons_succ.{0}))))))
section
variable (G:Hp) (K:EK) (r:Rg) (h:Hp)
def md29:Nat->Hint
 |_=>mh false [] [] [] false
def aB8:Prop:=
 o_ G (Instr.build 173 #[(0,(r 0)),(1,(r 1)),(2,(r 2))]) h fun v1 h1=>o_ G (Instr.box 173 v1) h1 fun v2 h2=>
 K .ret (u7 r 24 (r 0) 25 (r 1) 26 (r 2) 27 v1 28 v2 6 v2 7 (.int .i64 0)) h2
def Od:Prop:=
 o_ G (binOp .add 3 (r 14) (.int .i64 1)) h fun v4 h4=>
 K .normal (u2 r 23 v4 14 v4) h4
def Oe:Prop:=
 o_ G (Instr.index 155 (r 13) (r 14)) h fun v5 h5=>o_ G (binOp .lss 3 v5 (.int .i64 1)) h5 fun v6 h6=>g_ v6 false (fun K1=>K1 v5 h6) h6 fun v7 h7=>g_ v6 false (o_ G (binOp .gtr 3 v7 (.int .i64 1000)) h7) h7 fun v8 h8=>
 opH P_ G (bj v6 (.bool true) v8) h8 fun v9 h9=>
 (fun q=>cond v9
 (K .ret (u2 q 6 (.pointer none) 7 (.int .i64 1)) h9)
 (Od G K q h9))
 (u8 r 16 v5 9 v5 17 v5 18 v6 19 v6 20 v7 21 v8 22 v9)
def aB7 (r:Rg) (h:Hp) (K:EK):Prop:=
 o_ G (binOp .lss 3 (r 14) (.int .i64 3)) h fun v3 h3=>
 cond v3
 (Oe G K (upd r 15 v3) h3)
 (K (.exit 0) (upd r 15 v3) h3)
def S29:Prop:=
 o_ G (Instr.build 155 #[(0,(r 0)),(1,(r 1)),(2,(r 2))]) h fun v0 h0=>
 dl (aB7 G) (u7 r 6 (.pointer none) 7 (.int .i64 0) 10 (r 0) 11 (r 1) 12 (r 2) 13 v0 14 (.int .i64 0)) h0 (bo 0 (ci (aB8 G K) K))
theorem enter29:Ent 29 29 [.tmp 6,.tmp 7] S29:=ent_ (m:=md29) (c:=(Tryz.f29.body.getD .skip)) (fun _ _ _ _=>by kernel_rfl) Tryz.func29 rfl rfl rfl
def md72:Nat->Hint
 |_=>mh false [] [] [] false
def S72:Prop:=
 c_ G 123 #[(r 0),(r 1)] h fun v0 h0=>o_ G (Builtin.len_ #[168] 3 #[v0]) h0 fun v1 h1=>
 K .ret (u6 r 4 (.int .i64 0) 5 (r 0) 6 (r 1) 7 v0 8 v1 4 v1) h1
theorem enter72:Ent 9 72 [.tmp 4] S72:=ent_ (m:=md72) (c:=(Tryz.f72.body.getD .skip)) (fun _ _ _ _=>by kernel_rfl) Tryz.func72 rfl rfl rfl
def md123:Nat->Hint
 |3=>mh false [0,0,1,5,15,0,63] [m_,m_,n_,n_,n_,.alloc,.store] (fs 7) false
 |_=>mh false [] [] [] false
def Y7:Prop:=
 w_ G h (Instr.loadAt 50 (r 2)) h fun v16 h16=>
 w_ G h (Instr.loadAt 3 (r 3)) h16 fun v17 h17=>
 bm P_ noHp noHp (xNil v16) h17 fun v18 h18=>
 p_ (Instr.fieldAt 173 v18 3) h18 fun v19 h19=>
 p_ (Instr.indexAt 171 v19 v17) h19 fun v20 h20=>o_ G (Instr.alloc 261 true (.tuple #[])) h20 fun v21 h21=>
 opH P_ G (su (Instr.storeAt 261 v21 v20)) h21 fun v22 h22=>o_ G (Instr.loadAt 261 v21) h22 fun v23 h23=>
 opH P_ G (xNil v23) h23 fun v24 h24=>o_ G (Instr.fieldAt 170 v24 0) h24 fun v25 h25=>
 opH P_ G (callFunc 150 #[v25,(.func (.func 151) #[] #[(r 2),(r 3),v21])]) h25 fun v26 h26=>o_ G (Instr.loadAt 261 v21) h26 fun v27 h27=>
 opH P_ G (xNil v27) h27 fun v28 h28=>o_ G (Instr.fieldAt 170 v28 1) h28 fun v29 h29=>o_ G (Instr.loadAt 168 v29) h29 fun v30 h30=>
 K .ret (u6 (u10 r 23 v16 24 v17 25 v18 26 v19 27 v20 5 v21 28 v23 29 v24 30 v25 31 (.func (.func 151) #[] #[(r 2),(r 3),v21])) 32 v26 33 v27 34 v28 35 v29 36 v30 4 v30) h30
def S123:Prop:=
 o_ G (Instr.box 50 (r 0)) h fun v0 h0=>o_ G (Instr.box 3 (r 1)) h0 fun v1 h1=>o_ G (Instr.loadAt 50 v0) h1 fun v2 h2=>
 opH P_ G (xEq .eql 50 (.tmp 0) (.const .nilFunc) v2 (.pointer none)) h2 fun v3 h3=>g_ v3 false (o_ G (Instr.loadAt 50 v0) h3) h3 fun v4 h4=>g_ v3 false (opH P_ G (xNil v4) h4) h4 fun v5 h5=>g_ v3 false (o_ G (Instr.fieldAt 173 v5 0) h5) h5 fun v6 h6=>g_ v3 false (o_ G (Instr.loadAt 3 v6) h6) h6 fun v7 h7=>g_ v3 false (o_ G (binOp .lss 3 v7 (.int .i64 1)) h7) h7 fun v8 h8=>
 opH P_ G (bj v3 (.bool true) v8) h8 fun v9 h9=>g_ v9 false (o_ G (Instr.loadAt 3 v1) h9) h9 fun v10 h10=>g_ v9 false (o_ G (binOp .lss 3 v10 (.int .i64 1)) h10) h10 fun v11 h11=>
 opH P_ G (bj v9 (.bool true) v11) h11 fun v12 h12=>g_ v12 false (o_ G (Instr.loadAt 3 v1) h12) h12 fun v13 h13=>g_ v12 false (o_ G (binOp .gtr 3 v13 (.int .i64 16)) h13) h13 fun v14 h14=>
 opH P_ G (bj v12 (.bool true) v14) h14 fun v15 h15=>
 (fun q=>cond v15
 (K .ret (upd q 4 (.slice none 0 0)) h15)
 (Y7 G K q h15))
 (u10 (u10 r 2 v0 3 v1 4 (.slice none 0 0) 6 v2 7 v3 8 v3 9 v4 10 v5 11 v6 12 v7) 13 v8 14 v9 15 v9 16 v10 17 v11 18 v12 19 v12 20 v13 21 v14 22 v15)
theorem as4:Ent 37 123 [.tmp 4] S123:=ent_ (m:=md123) (c:=(Tryz.f123.body.getD .skip)) (fun _ _ _ _=>by kernel_rfl) Tryz.func123 rfl rfl rfl
def md151:Nat->Hint
 |0=>mh false [0,0,0,4,12,28,62,127] [m_,m_,m_,n_,n_,m_,n_,e_] (fs 8) false
 |2=>mh false [0,0,2,6,14,0,32,126,255,511,1023] [m_,m_,n_,n_,m_,n_,.alloc,e_,n_,n_,.store] [false,false,false,false,false,false,false,true,false,false,false] true
 |_=>mh false [] [] [] false
def Qv (G:Hp) (r:Rg) (h:Hp) (K:EK):Prop:=
 K .normal (upd r 3 (r 12)) h
def Qu (r:Rg) (h:Hp) (K:EK):Prop:=
 ∃q8:Hp,q8.le h/\
 w_ G q8 (Instr.loadAt 261 (r 2)) h fun v9 h9=>
 w_ G q8 (Instr.loadAt 261 (r 2)) h9 fun v10 h10=>
 bm P_ noHp noHp (xNil v10) h10 fun v11 h11=>
 p_ (Instr.fieldAt 170 v11 1) h11 fun v12 h12=>
 w_ G q8 (Instr.loadAt 168 v12) h12 fun v13 h13=>o_ G (Instr.buildSlice 168 1 #[(0,(r 3))]) h13 fun v14 h14=>o_ G (Builtin.append_ #[168,168] 168 #[v13,v14]) h14 fun v15 h15=>q8.le h15/\
 bm P_ noHp noHp (xNil v9) h15 fun v16 h16=>
 p_ (Instr.fieldAt 170 v16 1) h16 fun v17 h17=>
 opH P_ G (su (Instr.storeAt 168 v17 v15)) h17 fun v18 h18=>
 K .normal (u10 r 13 v9 14 v10 15 v11 16 v12 17 v13 18 (r 3) 19 v14 20 v15 21 v16 22 v17) h18
def S151:Prop:=
 w_ G h (Instr.loadAt 50 (r 0)) h fun v0 h0=>
 w_ G h (Instr.loadAt 3 (r 1)) h0 fun v1 h1=>
 w_ G h (Instr.loadAt 50 (r 0)) h1 fun v2 h2=>
 bm P_ noHp noHp (xNil v2) h2 fun v3 h3=>
 p_ (Instr.fieldAt 173 v3 0) h3 fun v4 h4=>
 w_ G h (Instr.loadAt 3 v4) h4 fun v5 h5=>
 p_ (binOp .mul 3 v1 v5) h5 fun v6 h6=>
 c_ G 152 #[v0,(.int .i64 0),(.int .i64 0),v6,(.bool false)] h6 fun v7 h7=>
 Kz P_ G 1 (Qv G) (Qu G) (setR 23 #[12]) v7 (u8 r 4 v0 5 v1 6 v2 7 v3 8 v4 9 v5 10 v6 11 v7) h7 (bo 0 K)
theorem aq3:Ent 23 151 [] S151:=ent_ (m:=md151) (c:=(Tryz.f151.body.getD .skip)) (fun _ _ _ _=>by kernel_rfl) Tryz.func151 rfl rfl rfl
def md152:Nat->Hint
 |_=>mh false [] [] [] false
def S152:Prop:=
 o_ G (Instr.box 50 (r 0)) h fun v0 h0=>o_ G (Instr.box 3 (r 1)) h0 fun v1 h1=>o_ G (Instr.box 3 (r 2)) h1 fun v2 h2=>o_ G (Instr.box 3 (r 3)) h2 fun v3 h3=>o_ G (Instr.box 4 (r 4)) h3 fun v4 h4=>
 K .ret (u8 r 5 v0 6 v1 7 v2 8 v3 9 v4 10 .nilFunc 11 (.func (.func 169) #[] #[v0,v4,v2,v1,v3]) 10 (.func (.func 169) #[] #[v0,v4,v2,v1,v3])) h4
theorem aq2:Ent 12 152 [.tmp 10] S152:=ent_ (m:=md152) (c:=(Tryz.f152.body.getD .skip)) (fun _ _ _ _=>by kernel_rfl) Tryz.func152 rfl rfl rfl
def md169:Nat->Hint
 |_=>mh false [] [] [] false
def B6:Prop:=
 o_ G (Instr.loadAt 3 (r 4)) h fun v16 h16=>o_ G (Instr.loadAt 3 (r 3)) h16 fun v17 h17=>o_ G (binOp .add 3 v16 v17) h17 fun v18 h18=>
 opH P_ G (su (Instr.storeAt 3 (r 4) v18)) h18 fun v19 h19=>o_ G (Instr.loadAt 3 (r 4)) h19 fun v20 h20=>
 opH P_ G (ij (r 0) #[v20]) h20 fun v21 h21=>o_ G (Op.unary .not v21) h21 fun v22 h22=>
 (fun q=>cond v22
 (K .ret q h22)
 (K .normal q h22))
 (u7 r 26 v16 27 v17 28 v18 29 (r 0) 30 v20 31 v21 32 v22)
def Jz:Prop:=
 o_ G (Instr.loadAt 50 (r 1)) h fun v8 h8=>o_ G (Instr.loadAt 3 (r 5)) h8 fun v9 h9=>o_ G (Instr.loadAt 3 (r 4)) h9 fun v10 h10=>o_ G (binOp .sub 3 v9 v10) h10 fun v11 h11=>o_ G (Instr.loadAt 3 (r 3)) h11 fun v12 h12=>
 c_ G 170 #[v8,v11,v12,(r 7)] h12 fun v13 h13=>
 opH P_ G (su (Instr.storeAt 3 (r 3) v13)) h13 fun v14 h14=>o_ G (Instr.loadAt 4 (r 2)) h14 fun v15 h15=>
 cond v15
 (o_ G (Instr.loadAt 3 (r 3)) h15 fun v23 h23=>
 B6 G K (u10 r 17 v8 18 v9 19 v10 20 v11 21 v12 22 (r 7) 23 v13 24 v15 25 v23 7 v23) h23)
 (B6 G K (u8 r 17 v8 18 v9 19 v10 20 v11 21 v12 22 (r 7) 23 v13 24 v15) h15)
def Yh (r:Rg) (h:Hp) (K:EK):Prop:=
 o_ G (Instr.loadAt 3 (r 4)) h fun v5 h5=>o_ G (Instr.loadAt 3 (r 5)) h5 fun v6 h6=>o_ G (binOp .lss 3 v5 v6) h6 fun v7 h7=>
 cond v7
 (Jz G K (u3 r 14 v5 15 v6 16 v7) h7)
 (K (.exit 0) (u3 r 14 v5 15 v6 16 v7) h7)
def Ql:Prop:=
 dl (Yh G) r h (bo 0 K)
def S169:Prop:=
 o_ G (Instr.loadAt 50 (r 1)) h fun v0 h0=>
 opH P_ G (xNil v0) h0 fun v1 h1=>o_ G (Instr.fieldAt 173 v1 2) h1 fun v2 h2=>o_ G (Instr.loadAt 3 v2) h2 fun v3 h3=>o_ G (Instr.loadAt 4 (r 2)) h3 fun v4 h4=>
 cond v4
 (o_ G (Instr.loadAt 3 (r 3)) h4 fun v24 h24=>
 Ql G K (u8 r 8 v0 9 v1 10 v2 11 v3 7 v3 12 v4 13 v24 7 v24) h24)
 (Ql G K (u6 r 8 v0 9 v1 10 v2 11 v3 7 v3 12 v4) h4)
theorem ap2:Ent 33 169 [] S169:=ent_ (m:=md169) (c:=(Tryz.f169.body.getD .skip)) (fun _ _ _ _=>by kernel_rfl) Tryz.func169 rfl rfl rfl
def md170:Nat->Hint
 |_=>mh false [] [] [] false
def Qk (G:Hp) (K:EK) (r:Rg) (h:Hp):Prop:=
 K .ret (u2 r 32 (r 9) 8 (r 9)) h
def Jy:Prop:=
 o_ G (binOp .sub 3 (r 9) (.int .i64 1)) h fun v14 h14=>
 K .normal (u3 r 30 (r 9) 31 v14 9 v14) h14
def Yg (r:Rg) (h:Hp) (K:EK):Prop:=
 o_ G (binOp .gtr 3 (r 9) (.int .i64 1)) h fun v5 h5=>g_ v5 true (fun K1=>K1 (r 0) h5) h5 fun v6 h6=>g_ v5 true (fun K1=>K1 (r 9) h6) h6 fun v7 h7=>g_ v5 true (c_ G 187 #[v6,v7] h7) h7 fun v8 h8=>g_ v5 true (fun K1=>K1 (r 1) h8) h8 fun v9 h9=>g_ v5 true (fun K1=>K1 (r 9) h9) h9 fun v10 h10=>g_ v5 true (o_ G (binOp .sub 3 v9 v10) h10) h10 fun v11 h11=>g_ v5 true (o_ G (binOp .gtr 3 v8 v11) h11) h11 fun v12 h12=>
 opH P_ G (bj v5 v12 (.bool false)) h12 fun v13 h13=>
 (fun q=>cond v13
 (Jy G K q h13)
 (K (.exit 0) q h13))
 (upd (u10 r 19 (r 9) 20 v5 21 v5 22 v6 23 v7 24 v8 25 v9 26 v10 27 v11 28 v12) 29 v13)
def S170:Prop:=
 opH P_ G (xNil (r 0)) h fun v0 h0=>o_ G (Instr.fieldAt 173 v0 1) h0 fun v1 h1=>o_ G (Instr.loadAt 3 v1) h1 fun v2 h2=>o_ G (binOp .add 3 (r 2) v2) h2 fun v3 h3=>o_ G (Builtin.min_ #[3,3,3] 3 #[v3,(r 3),(r 1)]) h3 fun v4 h4=>
 dl (Yg G) (upd (u10 r 8 (.int .i64 0) 10 (r 2) 11 (r 0) 12 v0 13 v1 14 v2 15 v3 16 (r 3) 17 (r 1) 18 v4) 9 v4) h4 (bo 0 (ci (Qk G K) K))
theorem ap1:Ent 33 170 [.tmp 8] S170:=ent_ (m:=md170) (c:=(Tryz.f170.body.getD .skip)) (fun _ _ _ _=>by kernel_rfl) Tryz.func170 rfl rfl rfl
def md187:Nat->Hint
 |4=>mh false [0,0,2,6,14,31,63,0,128,384,896,2047,4095] [n_,n_,n_,n_,m_,n_,n_,n_,n_,n_,m_,n_,n_] (fs 13) false
 |_=>mh false [] [] [] false
def Yc (G:Hp) (K:EK) (r:Rg) (h:Hp):Prop:=
 K .ret (u2 r 39 (r 5) 4 (r 5)) h
def Ju:Prop:=
 opH P_ G (xNil (r 0)) h fun v17 h17=>o_ G (Instr.fieldAt 173 v17 1) h17 fun v18 h18=>o_ G (Instr.loadAt 3 v18) h18 fun v19 h19=>o_ G (binOp .sub 3 (r 6) v19) h19 fun v20 h20=>
 K .normal (u7 r 30 (r 6) 31 (r 0) 32 v17 33 v18 34 v19 35 v20 6 v20) h20
def Jv:Prop:=
 o_ G (binOp .add 3 (r 5) (r 6)) h fun v21 h21=>
 Ju G K (u4 r 36 (r 5) 37 (r 6) 38 v21 5 v21) h21
def Yb (r:Rg) (h:Hp) (K:EK):Prop:=
 o_ G (binOp .gtr 3 (r 6) (.int .i64 0)) h fun v16 h16=>
 cond v16
 (Jv G K (u2 r 28 (r 6) 29 v16) h16)
 (K (.exit 0) (u2 r 28 (r 6) 29 v16) h16)
def Yd:Prop:=
 bm P_ noHp noHp (xNil (r 0)) h fun v7 h7=>
 p_ (Instr.fieldAt 173 v7 2) h7 fun v8 h8=>
 w_ G h (Instr.loadAt 3 v8) h8 fun v9 h9=>
 p_ (Builtin.min_ #[3,3] 3 #[(r 1),v9]) h9 fun v10 h10=>
 p_ (Builtin.max_ #[3,3] 3 #[(.int .i64 0),v10]) h10 fun v11 h11=>
 bm P_ noHp noHp (xNil (r 0)) h11 fun v12 h12=>
 p_ (Instr.fieldAt 173 v12 1) h12 fun v13 h13=>
 w_ G h (Instr.loadAt 3 v13) h13 fun v14 h14=>
 p_ (binOp .sub 3 v11 v14) h14 fun v15 h15=>
 dl (Yb G) (u4 (u10 r 5 (.int .i64 0) 16 (r 1) 17 (r 0) 18 v7 19 v8 20 v9 21 v10 22 v11 23 (r 0) 24 v12) 25 v13 26 v14 27 v15 6 v15) h15 (bo 0 (ci (Yc G K) K))
def S187:Prop:=
 opH P_ G (xEq .eql 50 (.tmp 0) (.const .nilFunc) (r 0) (.pointer none)) h fun v0 h0=>g_ v0 false (fun K1=>K1 (r 0) h0) h0 fun v1 h1=>g_ v0 false (opH P_ G (xNil v1) h1) h1 fun v2 h2=>g_ v0 false (o_ G (Instr.fieldAt 173 v2 1) h2) h2 fun v3 h3=>g_ v0 false (o_ G (Instr.loadAt 3 v3) h3) h3 fun v4 h4=>g_ v0 false (o_ G (binOp .lss 3 v4 (.int .i64 1)) h4) h4 fun v5 h5=>
 opH P_ G (bj v0 (.bool true) v5) h5 fun v6 h6=>
 (fun q=>cond v6
 (K .ret (upd q 4 (.int .i64 0)) h6)
 (Yd G K q h6))
 (u10 r 4 (.int .i64 0) 7 (r 0) 8 v0 9 v0 10 v1 11 v2 12 v3 13 v4 14 v5 15 v6)
theorem ao9:Ent 40 187 [.tmp 4] S187:=ent_ (m:=md187) (c:=(Tryz.f187.body.getD .skip)) (fun _ _ _ _=>by kernel_rfl) Tryz.func187 rfl rfl rfl
def md30:Nat->Hint
 |_=>mh false [] [] [] false
def aB6 (G:Hp) (K:EK) (r:Rg) (h:Hp):Prop:=
 K .ret (upd r 6 (.int .i64 0)) h
def Qi:Prop:=
 cond (r 19)
 (o_ G (Instr.fieldAt 26 (r 3) 11) h fun v12 h12=>o_ G (Instr.loadAt 3 v12) h12 fun v13 h13=>
 K .ret (u3 r 22 v12 23 v13 6 v13) h13)
 (aB6 G K r h)
def S30:Prop:=
 o_ G (Instr.box 26 (r 0)) h fun v0 h0=>o_ G (Instr.box 48 (r 2)) h0 fun v1 h1=>o_ G (Instr.fieldAt 48 v1 0) h1 fun v2 h2=>o_ G (Instr.loadAt 3 v2) h2 fun v3 h3=>
 opH P_ G (xEq .eql 3 (.tmp 0) (.const .nilFunc) v3 (.int .i64 1)) h3 fun v4 h4=>
 cond v4
 (o_ G (Instr.fieldAt 48 v1 2) h4 fun v5 h5=>o_ G (Instr.loadAt 3 v5) h5 fun v6 h6=>
 c_ G 72 #[(r 1),v6] h6 fun v7 h7=>
 K .ret (u2 (u10 r 3 v0 5 v1 6 (.int .i64 0) 7 v2 8 v3 10 v4 9 v4 11 (r 1) 12 v5 13 v6) 14 v7 6 v7) h7)
 (opH P_ G (xEq .eql 3 (.tmp 0) (.const .nilFunc) v3 (.int .i64 2)) h4 fun v8 h8=>
 cond v8
 (o_ G (Instr.fieldAt 26 v0 10) h8 fun v9 h9=>o_ G (Instr.loadAt 3 v9) h9 fun v10 h10=>
 K .ret (u2 (u10 r 3 v0 5 v1 6 (.int .i64 0) 7 v2 8 v3 10 v4 9 v4 16 v8 15 v8 17 v9) 18 v10 6 v10) h10)
 (opH P_ G (xEq .eql 3 (.tmp 0) (.const .nilFunc) v3 (.int .i64 3)) h8 fun v11 h11=>
 cond v11
 (Qi G K (upd (u10 r 3 v0 5 v1 6 (.int .i64 0) 7 v2 8 v3 10 v4 9 v4 16 v8 15 v8 20 v11) 19 v11) h11)
 (opH P_ G (xEq .eql 3 (.tmp 0) (.const .nilFunc) v3 (.int .i64 4)) h11 fun v14 h14=>
 Qi G K (u3 (u10 r 3 v0 5 v1 6 (.int .i64 0) 7 v2 8 v3 10 v4 9 v4 16 v8 15 v8 20 v11) 19 v11 21 v14 19 v14) h14)))
theorem enter30:Ent 24 30 [.tmp 6] S30:=ent_ (m:=md30) (c:=(Tryz.f30.body.getD .skip)) (fun _ _ _ _=>by kernel_rfl) Tryz.func30 rfl rfl rfl
end
end Go.Proofs.YtfflipnhffknnaaGreatDoor
end
section
namespace Go.Proofs.YtfflipnhffknnaaGreatDoor.On
open Go Go.HL
theorem disable (w:World):(callFunc 199 #[]).run Tryz.prog w = .ok (.value (.tuple #[])) w:=run_call_mark0 Tryz.func199 (by kernel_rfl) (by kernel_rfl) (by kernel_rfl) .disable (by kernel_rfl) w
theorem enable (w:World):(callFunc 201 #[]).run Tryz.prog w = .ok (.value (.tuple #[])) w:=run_call_mark0 Tryz.func201 (by kernel_rfl) (by kernel_rfl) (by kernel_rfl) .enable (by kernel_rfl) w
theorem acquire (a:Addr) (w:World):(callFunc 202 #[.pointer (some a)]).run Tryz.prog w = .ok (.value (.tuple #[])) w:=run_call_marked Tryz.func202 (by kernel_rfl) (by kernel_rfl) (by kernel_rfl) .acquire (by kernel_rfl) a w
theorem releaseMerge (a:Addr) (w:World):(callFunc 204 #[.pointer (some a)]).run Tryz.prog w = .ok (.value (.tuple #[])) w:=run_call_marked Tryz.func204 (by kernel_rfl) (by kernel_rfl) (by kernel_rfl) .releaseMerge (by kernel_rfl) a w
theorem Hi (a:Addr) (x:Value) (u:FrameMode) (w:World) (hc:w.cell? a=some x) (hz:w.frozen? a=false):
   CallsD Tryz.prog 186 #[.pointer (some a),.bool true] u w fun e u' w'=>u'=u/\(e = .returned (.tuple #[])/\w'=w.drew.setCell a (.int .u32 1)):=by
 have hc':w.drew.cell? a=some x:=by go_simp
 have hz':w.drew.frozen? a=false:=by go_simp
 have hst:=run_call_store (P:=Tryz.prog) Tryz.func196 (by kernel_rfl) (by kernel_rfl) (by kernel_rfl) (by kernel_rfl) (k := .u32) (y:=1) hc' hz'
 go_enter_d Tryz.func186,Tryz.ntmps186
 go_wp2
 go_region_calls
 all_goals (go_end0;exact ⟨rfl,rfl⟩)
theorem Gi (a:Addr) (u:FrameMode) (w:World) (hc:w.cell? a=some (.int .i32 1)) (hz:w.frozen? a=false):
   CallsD Tryz.prog 185 #[.pointer (some a)] u w fun e u' w'=>u'=u/\(e = .returned (.tuple #[])/\w'=w.setCell a (.int .i32 0)):=by
 have hd:=disable
 have he:=enable
 have hr:=releaseMerge
 have hadd:=run_call_add (P:=Tryz.prog) Tryz.func205 (by kernel_rfl) (by kernel_rfl) (by kernel_rfl) .i32 (by kernel_rfl) (y := -1) (s:=0) hc hz (by simp [go_sem];rfl)
 have hcv:=run_convert_to_unsafe (P:=Tryz.prog) (src:=302) (dst:=306) Tryz.underlying302 Tryz.underlying306 (by kernel_rfl) hc
 go_enter_d Tryz.func185,Tryz.ntmps185
 go_wp2
 go_end0
 go_wp2
 go_end0
 exact ⟨rfl,rfl⟩
theorem aa8 (a:Addr) (w:World) (hc:w.cell? a=some (.int .i32 0)) (hz:w.frozen? a=false):
   Calls Tryz.prog 184 #[.pointer (some a)] w fun e w'=>e = .returned (.tuple #[])/\w'=w.setCell a (.int .i32 1):=by
 have hd:=disable
 have he:=enable
 have ha:=acquire
 have hcas:=run_call_cas_hit (P:=Tryz.prog) Tryz.func200 (by kernel_rfl) (by kernel_rfl) (by kernel_rfl) .i32 (by kernel_rfl) (y:=1) hc hz
 have hc':(w.setCell a (.int .i32 1)).cell? a=some (.int .i32 1):=World.cell?_setCell_same w a _ hc
 have hcv:=run_convert_to_unsafe (P:=Tryz.prog) (src:=302) (dst:=306) Tryz.underlying302 Tryz.underlying306 (by kernel_rfl) hc'
 go_enter Tryz.func184,Tryz.ntmps184
 go_wp2
 first|go_end0|(simp only [Exit.inBlock,Exit.then];refine bodyPost_ret (results_none rfl _ _ _) rfl ?_)|refine bodyPost_ret (results_none rfl _ _ _) rfl ?_
 go_wp2
 go_end0
 exact ⟨rfl,rfl⟩
theorem slow_w (b off id:Nat) (caps:Array Value) (w:World) (R:World->Prop)
   (h0:w.cell? ⟨b,off,none⟩=some (.int .u32 0)) (h1:w.cell? ⟨b,off+1,none⟩=some (.int .i32 0))
   (f0:w.frozen? ⟨b,off,none⟩=false) (f1:w.frozen? ⟨b,off+1,none⟩=false)
   (hid:∀args w,(callFunc id args).run Tryz.prog w = .ok (.enter id args) w)
   (hf:Calls Tryz.prog id caps (w.setCell ⟨b,off+1,none⟩ (.int .i32 1)) fun e w'=>e = .returned (.tuple #[])/\w'.cell? ⟨b,off,none⟩=some (.int .u32 0)/\w'.cell? ⟨b,off+1,none⟩=some (.int .i32 1)/\w'.frozen? ⟨b,off,none⟩=false/\w'.frozen? ⟨b,off+1,none⟩=false/\R w'):
   Calls Tryz.prog 168 #[.pointer (some ⟨b,off,none⟩),.func (.func id) #[] caps] w fun e w'=>e = .returned (.tuple #[])/\∃w1,R w1/\w'=(w1.drew.setCell ⟨b,off,none⟩ (.int .u32 1)).setCell ⟨b,off+1,none⟩ (.int .i32 0):=by
 have hl:=run_call_load (P:=Tryz.prog) Tryz.func183 (by kernel_rfl) (by kernel_rfl) (by kernel_rfl) .u32 (by kernel_rfl) (w:=w.setCell ⟨b,off+1,none⟩ (.int .i32 1)) (a:=⟨b,off,none⟩) (x:=0) ((World.cell?_setCell_other _ ⟨b,off+1,none⟩ ⟨b,off,none⟩ _ (by simp)).trans h0)
 have hnot:∀(x:Bool) (w:World),(Op.unary .not (.bool x)).run Tryz.prog w = .ok (.bool (!x)) w:=fun _ _=>rfl
 go_enter_defers Tryz.func168,Tryz.ntmps168
 go_wp2_with (go_at_call 184;refine (aa8 ⟨b,off+1,none⟩ _ (by go_simp) (by go_simp)).mono ?_;rintro e w' ⟨rfl,rfl⟩)
 go_wp2
 refine hf.mono ?_
 rintro e w' ⟨rfl,c0,c1,z0,z1,hR⟩
 go_wp2
 refine leaves_cons (f:=186) (args:=#[.pointer (some ⟨b,off,none⟩),.bool true]) (by simp) (by simp [go_sem]) ?_
 refine (Hi ⟨b,off,none⟩ (.int .u32 0) .returning _ c0 z0).mono ?_
 rintro e u' w'' ⟨rfl,rfl,rfl⟩
 refine leaves_cons (f:=185) (args:=#[.pointer (some ⟨b,off+1,none⟩)]) (by simp [settle]) (by simp [go_sem]) ?_
 refine (Gi ⟨b,off+1,none⟩ _ _ ?_ (by simp [z1])).mono ?_
 . refine (World.cell?_setCell_other _ ⟨b,off,none⟩ ⟨b,off+1,none⟩ _ (by simp)).trans ?_
   rw [World.cell?_drew]
   exact c1
 rintro e u' w'' ⟨rfl,rfl,rfl⟩
 simp [Leaves,settle,results,Tryz.results168]
 exact ⟨w',hR,rfl⟩
theorem au1 (b off id:Nat) (caps:Array Value) (w:World) (R:World->Prop)
   (h0:w.cell? ⟨b,off,none⟩=some (.int .u32 0)) (h1:w.cell? ⟨b,off+1,none⟩=some (.int .i32 0))
   (f0:w.frozen? ⟨b,off,none⟩=false) (f1:w.frozen? ⟨b,off+1,none⟩=false)
   (hid:∀args w,(callFunc id args).run Tryz.prog w = .ok (.enter id args) w)
   (hf:Calls Tryz.prog id caps (w.setCell ⟨b,off+1,none⟩ (.int .i32 1)) fun e w'=>e = .returned (.tuple #[])/\w'.cell? ⟨b,off,none⟩=some (.int .u32 0)/\w'.cell? ⟨b,off+1,none⟩=some (.int .i32 1)/\w'.frozen? ⟨b,off,none⟩=false/\w'.frozen? ⟨b,off+1,none⟩=false/\R w'):
   Calls Tryz.prog 150 #[.pointer (some ⟨b,off,none⟩),.func (.func id) #[] caps] w fun e w'=>e = .returned (.tuple #[])/\∃w1,R w1/\w'=(w1.drew.setCell ⟨b,off,none⟩ (.int .u32 1)).setCell ⟨b,off+1,none⟩ (.int .i32 0):=by
 have hl:=run_call_load (P:=Tryz.prog) Tryz.func183 (by kernel_rfl) (by kernel_rfl) (by kernel_rfl) .u32 (by kernel_rfl) h0
 have hnot:∀(x:Bool) (w:World),(Op.unary .not (.bool x)).run Tryz.prog w = .ok (.bool (!x)) w:=fun _ _=>rfl
 go_enter Tryz.func150,Tryz.ntmps150
 go_wp2_with (first|(go_at_call 168;refine (slow_w b off id caps _ R h0 h1 f0 f1 hid hf).mono ?_;rintro e w' ⟨rfl,w1,hR,rfl⟩)|(go_at_call 167;go_in))
 go_end0
 exact ⟨rfl,w1,hR,rfl⟩
theorem do_done (a:Addr) (fv:Value) (w:World) (h0:w.cell? a=some (.int .u32 1)):
   Calls Tryz.prog 150 #[.pointer (some a),fv] w fun e w'=>e = .returned (.tuple #[])/\w'=w:=by
 have hl:=run_call_load (P:=Tryz.prog) Tryz.func183 (by kernel_rfl) (by kernel_rfl) (by kernel_rfl) .u32 (by kernel_rfl) h0
 have hnot:∀(x:Bool) (w:World),(Op.unary .not (.bool x)).run Tryz.prog w = .ok (.bool (!x)) w:=fun _ _=>rfl
 have hd':((1:Int) != 0)=true:=by decide
 go_enter Tryz.func150,Tryz.ntmps150
 go_wp2
 go_end0
 exact ⟨rfl,rfl⟩
theorem Br {G h:Hp} {w:World} (i:In G h w) {b:Nat} {l:List Value} {e:TypeId} (hb:h b=some (.cells l.toArray e (0,0))) {o:Nat} {v:Value}:Mv h w (h.set b (.cells (l.set o v).toArray e (0,0))) (w.setCell ⟨b,o,none⟩ v):=by
 have hw:=i.sub _ _ hb
 refine Mv.put i hb (by simp [World.setCell]) ?_ (fun c hc=>by simp only [World.setCell,Array.getElem?_modify];rw [if_neg (Ne.symm hc)]) rfl rfl rfl (Nat.le_refl _)
 simp only [World.setCell,Array.getElem?_modify,if_pos,hw,Option.map_some]
 simp
theorem drew_mv {G h:Hp} {w:World} (i:In G h w):Mv h w h w.drew:=
 ⟨Nat.le_refl _,i.sub,fun _ _ h1 h2=>⟨h1,h2⟩,rfl,rfl,rfl,Nat.le_succ _⟩
theorem C9 {G h:Hp} {w:World} (i:In G h w) {b:Nat} {l:List Value} {e:TypeId} (hb:h b=some (.cells l.toArray e (0,0))) {o:Nat} {v:Value} (hv:l[o]?=some v):w.cell? ⟨b,o,none⟩=some v/\w.frozen? ⟨b,o,none⟩=false:=by
 have hw:=i.sub _ _ hb
 have ho:o<l.length:=(List.getElem?_eq_some_iff.1 hv).1
 refine ⟨?_,?_⟩
 . unfold World.cell?;rw [hw];simpa using hv
 . unfold World.frozen?;rw [hw];simp
theorem aa0 {G h:Hp} {b o:Nat} {l:List Value} {e:TypeId} {fv:Value} (hb:h b=some (.cells l.toArray e (0,0))) (hd:l[o]?=some (.int .u32 1)):
   al Tryz.prog G 150 #[.pointer (some ⟨b,o,none⟩),fv] h (fun v h'=>v = .tuple #[]/\h'=h):=by
 intro w i
 refine (do_done _ fv w (C9 i hb hd).1).mono ?_
 rintro e w' ⟨rfl,rfl⟩
 exact ⟨_,h,rfl,.refl i,rfl,rfl⟩
theorem U1 {G h:Hp} {b o id:Nat} {l:List Value} {e:TypeId} {caps:Array Value} {Q:List Value->Hp->Prop} (hb:h b=some (.cells l.toArray e (0,0))) (h0:l[o]?=some (.int .u32 0)) (h1:l[o+1]?=some (.int .i32 0))
   (hid:∀args w,(callFunc id args).run Tryz.prog w = .ok (.enter id args) w)
   (hf:al Tryz.prog G id caps (h.set b (.cells (l.set (o+1) (.int .i32 1)).toArray e (0,0))) (fun v h'=>v = .tuple #[]/\∃l',h' b=some (.cells l'.toArray e (0,0))/\l'[o]?=some (.int .u32 0)/\l'[o+1]?=some (.int .i32 1)/\Q l' h')):
   al Tryz.prog G 150 #[.pointer (some ⟨b,o,none⟩),.func (.func id) #[] caps] h (fun v h'=>v = .tuple #[]/\∃l' h1,Q l' h1/\h1 b=some (.cells l'.toArray e (0,0))/\h'=h1.set b (.cells ((l'.set o (.int .u32 1)).set (o+1) (.int .i32 0)).toArray e (0,0))):=by
 intro w i
 have m0:=Br (o:=o+1) (v := .int .i32 1) i hb
 obtain ⟨a0,z0⟩:=C9 i hb h0
 obtain ⟨a1,z1⟩:=C9 i hb h1
 refine (au1 b o id caps w (fun w'=>∃l' h',Mv (h.set b (.cells (l.set (o+1) (.int .i32 1)).toArray e (0,0))) (w.setCell ⟨b,o+1,none⟩ (.int .i32 1)) h' w'/\h' b=some (.cells l'.toArray e (0,0))/\Q l' h') a0 a1 z0 z1 hid ((hf _ (m0.keeps i)).mono ?_)).mono ?_
 . rintro e' w' ⟨v,h',rfl,m,rfl,l',b1,b2,b3,hQ⟩
   have i':=m.keeps (m0.keeps i)
   obtain ⟨c0,y0⟩:=C9 i' b1 b2
   obtain ⟨c1,y1⟩:=C9 i' b1 b3
   exact ⟨rfl,c0,c1,y0,y1,l',h',m,b1,hQ⟩
 . rintro e' w' ⟨rfl,w1,⟨l',h1,m,b1,hQ⟩,rfl⟩
   have i1:=m.keeps (m0.keeps i)
   have m2:=drew_mv i1
   have i2:=m2.keeps i1
   have m3:=Br (o:=o) (v := .int .u32 1) i2 b1
   have i3:=m3.keeps i2
   have m4:=Br (o:=o+1) (v := .int .i32 0) i3 ag
   rw [set_set]at m4
   exact ⟨_,_,rfl,(((m0.trans m).trans m2).trans m3).trans m4,rfl,l',h1,hQ,b1,rfl⟩
end Go.Proofs.YtfflipnhffknnaaGreatDoor.On
end
section
namespace Go.Proofs.Resv
structure Slot where
 f:Int
 t:Int
 r:Int
 deriving DecidableEq
abbrev FV:Int:=4611686018427387904
def ub (L:List Slot) (r f t:Int):Bool:=L.all fun s=>s.r==r || !(decide (s.f<t)&&decide (f<s.t))
def touchB (r f t:Int) (s:Slot):Bool:=s.r==r&&(decide (s.f<=t)&&decide (f<=s.t))
def Ic (r:Int):List Slot->Int->Int->List Slot->Int × Int × List Slot
 |[],f,t,out=>(f,t,out)
 |s::L,f,t,out=>if touchB r f t s=true then Ic r L (min f s.f) (max t s.t) out else Ic r L f t (out++[s])
def insAt (out:List Slot) (x:Slot):List Slot:=out.takeWhile (fun s=>decide (s.f<x.f))++x::out.dropWhile (fun s=>decide (s.f<x.f))
def putL (L:List Slot) (r f t:Int):List Slot:=insAt (Ic r L f t []).2.2 ⟨(Ic r L f t []).1,(Ic r L f t []).2.1,r⟩
def sepS (a b:Slot):Prop:=a.t<=b.f/\(a.t=b.f->a.r≠b.r)
def okS (s:Slot):Prop:=0<=s.f/\s.f<s.t/\s.t<=FV/\0<=s.r
structure Good (L:List Slot):Prop where
 ok:∀s∈L,okS s
 apart:L.Pairwise sepS
def has (L:List Slot) (r x:Int):Prop:=∃s∈L,s.r=r/\s.f<=x/\x<s.t
theorem Good.nil:Good []:=⟨(fun _ h=>by cases h),List.Pairwise.nil⟩
theorem Good.tail {s:Slot} {L:List Slot} (g:Good (s::L)):Good L:=⟨fun x hx=>g.ok x (.tail _ hx),(List.pairwise_cons.1 g.apart).2⟩
theorem Good.head {s:Slot} {L:List Slot} (g:Good (s::L)):∀x∈L,sepS s x:=(List.pairwise_cons.1 g.apart).1
theorem al2 {L:List Slot} {r f t:Int}:ub L r f t=true↔∀s∈L,s.r≠r->t<=s.f\/s.t<=f:=by
 unfold ub
 rw [List.all_eq_true]
 constructor
 . intro h s hs hr
   have h1:=h s hs
   simp at h1
   exact h1.resolve_left hr
 . intro h s hs
   by_cases hr:s.r=r
   . simp [hr]
   . have:=h s hs hr
     simp [hr]
     omega
def fu (r:Int):List Slot->Int->List (Int × Int)
 |[],a=>if a<FV then [(a,FV)]else []
 |s::L,a=>if s.r=r then fu r L a else if s.f>a then (a,s.f)::fu r L s.t else fu r L s.t
def F0 (L:List Slot) (r:Int):List (Int × Int):=fu r L 0
def others (L:List Slot) (r:Int):List Slot:=L.filter fun s => !(s.r==r)
theorem Mu {r:Int}:∀{L:List Slot} {a:Int},Good L->0<=a->a<=FV->(∀s∈L,a<=s.f\/s.r=r)->
   (fu r L a).Pairwise (fun x y=>x.2<y.1)/\∀g∈fu r L a,a<=g.1/\g.1<g.2/\g.2<=FV/\(g.1=a\/∃s∈L,s.r≠r/\s.t=g.1)/\(g.2=FV\/∃s∈L,s.r≠r/\s.f=g.2)/\(∀s∈L,s.r≠r->g.2<=s.f\/s.t<=g.1):=by
 intro L
 induction L with
 |nil=>
   intro a _ h0 h1 _
   unfold fu
   split
   . rename_i h
     refine ⟨by simp,fun g hg=>?_⟩
     rw [List.mem_singleton]at hg
     subst hg
     exact ⟨by simp,h,by simp,.inl rfl,.inl rfl,fun _ h=>by cases h⟩
   . exact ⟨.nil,fun _ h=>by cases h⟩
 |cons s L ih=>
   intro a gd h0 h1 hs
   have ok:=gd.ok s (.head _)
   unfold fu
   by_cases hr:s.r=r
   . rw [if_pos hr]
     obtain ⟨p1,p2⟩:=ih gd.tail h0 h1 fun x hx=>hs x (.tail _ hx)
     refine ⟨p1,fun g hg=>?_⟩
     obtain ⟨q1,q2,q3,q4,q5,q6⟩:=p2 g hg
     refine ⟨q1,q2,q3,q4.imp id fun ⟨x,hx,b⟩=>⟨x,.tail _ hx,b⟩,q5.imp id fun ⟨x,hx,b⟩=>⟨x,.tail _ hx,b⟩,fun x hx hxr=>?_⟩
     rcases List.mem_cons.1 hx with rfl|hx'
     . exact absurd hr hxr
     . exact q6 x hx' hxr
   . rw [if_neg hr]
     obtain ⟨p1,p2⟩:=ih (a:=s.t) gd.tail (by have:=ok.1;have:=ok.2.1;omega) ok.2.2.1 fun x hx => .inl (gd.head x hx).1
     have hsa:a<=s.f:=(hs s (.head _)).resolve_right hr
     have lift:∀g∈fu r L s.t,a<=g.1/\g.1<g.2/\g.2<=FV/\(g.1=a\/∃u∈s::L,u.r≠r/\u.t=g.1)/\(g.2=FV\/∃u∈s::L,u.r≠r/\u.f=g.2)/\(∀u∈s::L,u.r≠r->g.2<=u.f\/u.t<=g.1):=fun g hg=>by
       obtain ⟨q1,q2,q3,q4,q5,q6⟩:=p2 g hg
       have:=ok.2.1
       refine ⟨by omega,q2,q3,.inr ?_,q5.imp id fun ⟨x,hx,b⟩=>⟨x,.tail _ hx,b⟩,fun x hx hxr=>?_⟩
       . rcases q4 with q4|⟨x,hx,b⟩
         . exact ⟨s,.head _,hr,q4.symm⟩
         . exact ⟨x,.tail _ hx,b⟩
       . rcases List.mem_cons.1 hx with rfl|hx'
         . exact .inr q1
         . exact q6 x hx' hxr
     by_cases hgt:s.f>a
     . rw [if_pos hgt]
       refine ⟨List.pairwise_cons.2 ⟨fun g hg=>?_,p1⟩,fun g hg=>?_⟩
       . have:=(p2 g hg).1
         have:=ok.2.1
         show s.f<g.1
         omega
       . rcases List.mem_cons.1 hg with rfl|hg'
         . refine ⟨by simp,hgt,by have:=ok.2.1;have:=ok.2.2.1;show s.f<=FV;omega,.inl rfl,.inr ⟨s,.head _,hr,rfl⟩,fun x hx hxr=>?_⟩
           rcases List.mem_cons.1 hx with rfl|hx'
           . exact .inl (by simp)
           . have:=(gd.head x hx').1
             have:=ok.2.1
             exact .inl (by show s.f<=x.f;omega)
         . exact lift g hg'
     . rw [if_neg hgt]
       exact ⟨p1,lift⟩
theorem ak3 {r:Int}:∀{L:List Slot} {a:Int},(fu r L a).length<=L.length+1:=by
 intro L
 induction L with
 |nil=>intro a;unfold fu;split<;>simp
 |cons s L ih=>
   intro a
   unfold fu
   split
   . have:=ih (a:=a);simp;omega
   . split
     . have:=ih (a:=s.t);simp;omega
     . have:=ih (a:=s.t);simp;omega
abbrev Tb:=List (List Slot)
structure Want where
 c:Int
 f:Int
 t:Int
def rowT (T:Tb) (c:Int):List Slot:=if 0<=c then T.getD c.toNat []else []
def inT (n:Nat) (c:Int):Bool:=decide (0<=c)&&decide (c<n)
def kc (T:Tb):Prop:=∀L∈T,Good L
def Few (T:Tb) (b:Nat):Prop:=∀L∈T,L.length<=b
theorem Da {n:Nat} {c:Int}:inT n c=true↔0<=c/\c<n:=by unfold inT;simp
theorem yo {T:Tb} {c:Int} (h0:0<=c) (h1:c<T.length):T[c.toNat]?=some (rowT T c):=by
 unfold rowT
 rw [if_pos h0,List.getD_eq_getElem?_getD,List.getElem?_eq_getElem (by omega)]
 rfl
theorem Rz {T:Tb} {c:Int} (h:¬(0<=c/\c<T.length)):rowT T c=[]:=by
 unfold rowT
 split
 . rename_i h0
   rw [List.getD_eq_getElem?_getD,List.getElem?_eq_none (by omega)]
   rfl
 . rfl
theorem Ls {T:Tb} (g:kc T) (c:Int):Good (rowT T c):=by
 by_cases h:0<=c/\c<T.length
 . exact g _ (List.mem_of_getElem? (yo h.1 h.2))
 . rw [Rz h];exact Good.nil
theorem ag5 {T:Tb} {b:Nat} (g:Few T b) (c:Int):(rowT T c).length<=b:=by
 by_cases h:0<=c/\c<T.length
 . exact g _ (List.mem_of_getElem? (yo h.1 h.2))
 . rw [Rz h];exact Nat.zero_le _
def cutI (a:Int):Int:=max 0 (min a FV)
def sumI (a b:Int):Int:=if cutI a>FV-cutI b then FV else cutI a+cutI b
end Go.Proofs.Resv
end
section
namespace Go.Proofs.Srch
open Go.Proofs.Resv
section
abbrev Sp:=Int × Int
structure Env (P M:Type) where
 num:P->Int
 ok:P->Prop
 spans:P->List Sp
 ways:P->List (M × P × Int × List Sp)
 stamp:M->Int->Int->M
structure St (P M:Type) where
 p:P
 i:Nat
 s:Sp
 a:Int
 mv:M
 b:Int
 dn:Bool
variable {P M:Type} [DecidableEq P]
def insB (t:Int) (x:Sp):Bool:=decide (x.1<=t)&&decide (t<x.2)
def inside (l:List Sp) (t:Int):Option Nat:=l.findIdx? (insB t)
def Sr (p:P) (i:Nat) (x:St P M):Bool:=decide (x.p=p)&&(x.i==i)
def key (S:List (St P M)) (p:P) (i:Nat):Option Nat:=S.findIdx? (Sr p i)
def xv (S:List (St P M)) (p:P) (i:Nat) (s:Sp) (t:Int) (m:M) (b:Int):List (St P M):=match key S p i with
 |some k=>(match S[k]? with
   |some x=>if t<x.a then S.set k { x with a:=t,mv:=m,b:=b }else S
   |none=>S)
 |none=>S++[⟨p,i,s,t,m,b,false⟩]
variable (E:Env P M)
def note (S:List (St P M)) (p:P) (t:Int) (m:M) (b:Int):List (St P M):=match inside (E.spans p) t with
 |some i=>xv S p i ((E.spans p).getD i (0,0)) t m b
 |none=>S
def ltK (x y:St P M):Bool:=decide (x.a<y.a\/(x.a=y.a/\(E.num x.p<E.num y.p\/(E.num x.p=E.num y.p/\x.i<y.i))))
def zh:List (St P M)->Nat->Option (Nat × St P M)->Option (Nat × St P M)
 |[],_,b=>b
 |x::L,k,b=>if x.dn=true then zh L (k+1) b else (match b with
   |none=>zh L (k+1) (some (k,x))
   |some (j,y)=>if ltK E x y=true then zh L (k+1) (some (k,x))else zh L (k+1) (some (j,y)))
def least (S:List (St P M)):Option (Nat × St P M):=zh E S 0 none
def ik (x:St P M) (k:Int) (w:M × P × Int × List Sp) (S:List (St P M)) (s:Sp):List (St P M):=
 if s.1<x.s.1\/s.2>x.s.2 then S
 else if sumI (max x.a s.1) w.2.2.1>s.2\/sumI (max x.a s.1) w.2.2.1>=FV then S
 else note E S w.2.1 (sumI (max x.a s.1) w.2.2.1) (E.stamp w.1 (max x.a s.1) (sumI (max x.a s.1) w.2.2.1)) k
def tj (x:St P M) (k:Int) (S:List (St P M)) (w:M × P × Int × List Sp):List (St P M):=w.2.2.2.foldl (ik E x k w) S
def zm (x:St P M) (k:Int) (S:List (St P M)):List (St P M):=(E.ways x.p).foldl (tj E x k) S
def path (S:List (St P M)):Nat->Nat->List M->List M
 |0,_,acc=>acc
 |f+1,k,acc=>match S[k]? with
   |none=>acc
   |some x=>if x.b<0 then acc else path S f x.b.toNat (x.mv::acc)
inductive Res (M:Type) where
 |ok (l:List M)
 |no (e:Int)
def take (S:List (St P M)) (k:Nat) (x:St P M):List (St P M):=S.set k { x with dn:=true }
def run (goal:P->Sp->Bool):Nat->List (St P M)->Res M
 |0,_ => .no 7
 |n+1,S=>match least E S with
   |none => .no 6
   |some (k,x)=>if goal x.p x.s=true then .ok (path (take S k x) S.length k [])else run goal n (zm E { x with dn:=true } k (take S k x))
def find (goal:P->Sp->Bool) (p:P) (t:Int) (z:M) (n:Nat):Res M:=match inside (E.spans p) t with
 |none => .no 18
 |some _=>run E goal n (note E [] p t z (-1))
def Lk (y x:St P M):Prop:=∃w∈E.ways y.p,∃s∈w.2.2.2,y.s.1<=s.1/\s.2<=y.s.2/\x.p=w.2.1/\x.a=sumI (max y.a s.1) w.2.2.1/\x.a<=s.2/\x.a<FV/\x.mv=E.stamp w.1 (max y.a s.1) x.a
structure p8:Prop where
 lasts:∀p,∀w∈E.ways p,1<=w.2.2.1/\w.2.2.1<=FV
 pos:∀p,∀s∈E.spans p,0<=s.1/\s.1<s.2/\s.2<=FV
 to:∀p,E.ok p->∀w∈E.ways p,E.ok w.2.1
 inj:∀p q,E.ok p->E.ok q->E.num p=E.num q->p=q
structure Inv (p0:P) (t0:Int) (z:M) (lo:Int) (S:List (St P M)):Prop where
 keys:S.Pairwise fun x y=>¬(x.p=y.p/\x.i=y.i)
 at_:∀x∈S,(E.spans x.p)[x.i]?=some x.s/\x.s.1<=x.a/\x.a<x.s.2
 dn:∀x∈S,x.dn=true->x.a<=lo
 op:∀x∈S,x.dn=false->lo<=x.a
 ok:∀x∈S,E.ok x.p
 by_:∀x∈S,(x.b = -1/\x.p=p0/\x.a=t0/\x.mv=z)\/∃y,0<=x.b/\S[x.b.toNat]?=some y/\y.dn=true/\y.a<x.a/\Lk E y x
section
variable {E}
theorem Fx {l:List Sp} {t:Int} {i:Nat} (h:inside l t=some i):∃s,l[i]?=some s/\s.1<=t/\t<s.2/\i<l.length:=by
 unfold inside at h
 rw [List.findIdx?_eq_some_iff_getElem]at h
 obtain ⟨hi,h1,h2⟩:=h
 refine ⟨l[i],List.getElem?_eq_getElem hi,?_⟩
 simp [insB]at h1
 exact ⟨h1.1,h1.2,hi⟩
theorem ti {S:List (St P M)} {p:P} {i k:Nat} (h:key S p i=some k):∃x,S[k]?=some x/\x.p=p/\x.i=i:=by
 unfold key at h
 rw [List.findIdx?_eq_some_iff_getElem]at h
 obtain ⟨hi,h1,h2⟩:=h
 refine ⟨S[k],List.getElem?_eq_getElem hi,?_⟩
 simpa [Sr]using h1
theorem Sk {S:List (St P M)} {p:P} {i:Nat} (h:key S p i=none):∀x∈S,¬(x.p=p/\x.i=i):=by
 unfold key at h
 rw [List.findIdx?_eq_none_iff]at h
 intro x hx
 have:=h x hx
 simpa [Sr]using this
theorem Inv.uniq {p0:P} {t0 lo:Int} {z:M} {S:List (St P M)} (v:Inv E p0 t0 z lo S) {j k:Nat} {x y:St P M} (hj:S[j]?=some x) (hk:S[k]?=some y) (e1:x.p=y.p) (e2:x.i=y.i):j=k:=by
 obtain ⟨hj',rfl⟩:=List.getElem?_eq_some_iff.1 hj
 obtain ⟨hk',rfl⟩:=List.getElem?_eq_some_iff.1 hk
 have:=List.pairwise_iff_getElem.1 v.keys
 rcases Nat.lt_trichotomy j k with h|h|h
 . exact absurd ⟨e1,e2⟩ (this j k hj' hk' h)
 . exact h
 . exact absurd ⟨e1.symm,e2.symm⟩ (this k j hk' hj' h)
theorem ak0 {p0:P} {t0 lo:Int} {z:M} {S:List (St P M)} (v:Inv E p0 t0 z lo S) {k:Nat} {x:St P M} (hk:S[k]?=some x):key S x.p x.i=some k:=by
 cases h:key S x.p x.i with
 |none=>exact absurd ⟨rfl,rfl⟩ (Sk h x (List.mem_of_getElem? hk))
 |some j=>
   obtain ⟨y,hy,e1,e2⟩:=ti h
   rw [v.uniq hy hk e1 e2]
theorem Ib {p0:P} {t0 lo:Int} {z:M} {S:List (St P M)} (v:Inv E p0 t0 z lo S) {p:P} {t:Int} {m:M} {b:Int} (hlo:lo<=t) (hok:E.ok p)
   (hb:(b = -1/\p=p0/\t=t0/\m=z)\/∃y,0<=b/\S[b.toNat]?=some y/\y.dn=true/\y.a<t/\∀i s,Lk E y ⟨p,i,s,t,m,b,false⟩):Inv E p0 t0 z lo (note E S p t m b):=by
 unfold note
 cases hi:inside (E.spans p) t with
 |none=>exact v
 |some i=>
   obtain ⟨s,hs,h1,h2,h3⟩:=Fx hi
   simp only
   unfold xv
   cases hk:key S p i with
   |none=>
     simp only
     have hn:=Sk hk
     have hget:(E.spans p).getD i (0,0)=s:=by rw [List.getD_eq_getElem?_getD,hs];rfl
     rw [hget]
     have up:∀{j:Nat} {y:St P M},S[j]?=some y->(S++[(⟨p,i,s,t,m,b,false⟩:St P M)])[j]?=some y:=fun {j y} h=>by
       rw [List.getElem?_append_left (List.getElem?_eq_some_iff.1 h).1];exact h
     refine ⟨?_,?_,?_,?_,?_,?_⟩
     . rw [List.pairwise_append]
       refine ⟨v.keys,List.pairwise_singleton _ _,?_⟩
       intro x hx y hy
       rw [List.mem_singleton]at hy
       subst hy
       exact hn x hx
     . intro x hx
       rcases List.mem_append.1 hx with hx|hx
       . exact v.at_ x hx
       . rw [List.mem_singleton]at hx;subst hx;exact ⟨hs,h1,h2⟩
     . intro x hx hd
       rcases List.mem_append.1 hx with hx|hx
       . exact v.dn x hx hd
       . rw [List.mem_singleton]at hx;subst hx;cases hd
     . intro x hx hd
       rcases List.mem_append.1 hx with hx|hx
       . exact v.op x hx hd
       . rw [List.mem_singleton]at hx;subst hx;exact hlo
     . intro x hx
       rcases List.mem_append.1 hx with hx|hx
       . exact v.ok x hx
       . rw [List.mem_singleton]at hx;subst hx;exact hok
     . intro x hx
       rcases List.mem_append.1 hx with hx|hx
       . rcases v.by_ x hx with h|⟨y,e1,e2,e3⟩
         . exact .inl h
         . exact .inr ⟨y,e1,up e2,e3⟩
       . rw [List.mem_singleton]at hx;subst hx
         rcases hb with h|⟨y,e1,e2,e3,e4,e5⟩
         . exact .inl h
         . exact .inr ⟨y,e1,up e2,e3,e4,e5 i s⟩
   |some k=>
     obtain ⟨x,hx,e1,e2⟩:=ti hk
     simp only [hx]
     split
     . rename_i hlt
       have hkl:k<S.length:=(List.getElem?_eq_some_iff.1 hx).1
       have hxm:=List.mem_of_getElem? hx
       have hnd:x.dn=false:=by
         cases hd:x.dn with
         |false=>rfl
         |true=>have:=v.dn x hxm hd;omega
       have hxs:x.s=s:=by
         have:=(v.at_ x hxm).1
         rw [e1,e2,hs]at this
         exact (Option.some.inj this).symm
       have memset:∀y,y∈S.set k { x with a:=t,mv:=m,b:=b }->y={ x with a:=t,mv:=m,b:=b }\/y∈S:=fun y hy=>by
         rcases List.mem_or_eq_of_mem_set hy with h|h
         . exact .inr h
         . exact .inl h
       have up:∀{j:Nat} {y:St P M},S[j]?=some y->y.dn=true->(S.set k { x with a:=t,mv:=m,b:=b })[j]?=some y:=fun {j y} h hd=>by
         have hne:j≠k:=fun e=>by subst e;rw [hx]at h;cases h;rw [hnd]at hd;cases hd
         rw [List.getElem?_set_ne (Ne.symm hne)];exact h
       refine ⟨?_,?_,?_,?_,?_,?_⟩
       . rw [List.pairwise_iff_getElem]
         intro j l hj hl hjl
         simp only [List.length_set]at hj hl
         have hp:=List.pairwise_iff_getElem.1 v.keys j l hj hl hjl
         have hxe:S[k]=x:=by have:=List.getElem?_eq_some_iff.1 hx;obtain ⟨_,e⟩:=this;exact e
         rw [List.getElem_set,List.getElem_set]
         split
         . rename_i h;subst h
           rw [if_neg (by omega)]
           rw [hxe]at hp;exact hp
         . split
           . rename_i h;subst h
             rw [hxe]at hp;exact hp
           . exact hp
       . intro y hy
         rcases memset y hy with rfl|hy
         . refine ⟨(v.at_ x hxm).1,?_⟩
           simp only [hxs]
           exact ⟨h1,h2⟩
         . exact v.at_ y hy
       . intro y hy hd
         rcases memset y hy with rfl|hy
         . rw [hnd]at hd;cases hd
         . exact v.dn y hy hd
       . intro y hy hd
         rcases memset y hy with rfl|hy
         . exact hlo
         . exact v.op y hy hd
       . intro y hy
         rcases memset y hy with rfl|hy
         . exact v.ok x hxm
         . exact v.ok y hy
       . intro y hy
         rcases memset y hy with rfl|hy
         . rcases hb with ⟨h,h',h'',h3⟩|⟨u,f1,f2,f3,f4,f5⟩
           . exact .inl ⟨h,by simp only [e1,h'],h'',h3⟩
           . refine .inr ⟨u,f1,up f2 f3,f3,f4,?_⟩
             have:=f5 i s
             unfold Lk at this ⊢
             simp only [e1]at this ⊢
             exact this
         . rcases v.by_ y hy with h|⟨u,f1,f2,f3,f4,f5⟩
           . exact .inl h
           . exact .inr ⟨u,f1,up f2 f3,f3,f4,f5⟩
     . exact v
theorem aa1 {p0:P} {t0 lo:Int} {z:M} {S:List (St P M)} (v:Inv E p0 t0 z lo S) {p:P} {t:Int} {m:M} {b:Int} (hlo:lo<=t) {j:Nat} {y:St P M} (h:S[j]?=some y) (hd:y.dn=true):(note E S p t m b)[j]?=some y:=by
 unfold note
 split
 . unfold xv
   split
   . rename_i k hk
     split
     . rename_i x hx
       split
       . rename_i hlt
         have hne:j≠k:=fun e=>by
           subst e;rw [hx]at h;cases h
           have:=v.dn _ (List.mem_of_getElem? hx) hd
           omega
         rw [List.getElem?_set_ne (Ne.symm hne)];exact h
       . exact h
     . exact h
   . rw [List.getElem?_append_left (List.getElem?_eq_some_iff.1 h).1];exact h
 . exact h
theorem Hh {a d:Int} (h0:0<=a) (hd:1<=d) (h:sumI a d<FV):a<sumI a d:=by
 unfold sumI cutI FV at*
 split at h
 . omega
 . rename_i h2;rw [if_neg h2];omega
theorem Hk (ok:p8 E) {p0:P} {t0:Int} {z:M} {S:List (St P M)} {x:St P M} {k:Nat} (v:Inv E p0 t0 z x.a S) (hx:S[k]?=some x) (hd:x.dn=true) (ha:0<=x.a) (hox:E.ok x.p) {w:M × P × Int × List Sp} (hw:w∈E.ways x.p) {s:Sp} (hs:s∈w.2.2.2):
   Inv E p0 t0 z x.a (ik E x k w S s)/\(ik E x k w S s)[k]?=some x:=by
 unfold ik
 split
 . exact ⟨v,hx⟩
 . split
   . exact ⟨v,hx⟩
   . rename_i h1 h2
     have h3:sumI (max x.a s.1) w.2.2.1<FV:=by omega
     have h4:=Hh (show 0<=max x.a s.1 by omega) (ok.lasts _ w hw).1 h3
     refine ⟨Ib v (by omega) (ok.to _ hox w hw) (.inr ⟨x,by omega,by simpa using hx,hd,by omega,fun i s'=>⟨w,hw,s,hs,by omega,by omega,rfl,rfl,by simp only;omega,h3,rfl⟩⟩),aa1 v (by omega) hx hd⟩
theorem Oj (ok:p8 E) {p0:P} {t0:Int} {z:M} {x:St P M} {k:Nat} (hd:x.dn=true) (ha:0<=x.a) (hox:E.ok x.p) {w:M × P × Int × List Sp} (hw:w∈E.ways x.p):∀(l:List Sp) {S:List (St P M)},(∀s∈l,s∈w.2.2.2)->Inv E p0 t0 z x.a S->S[k]?=some x->
   Inv E p0 t0 z x.a (l.foldl (ik E x k w) S)/\(l.foldl (ik E x k w) S)[k]?=some x
 |[],S,_,v,hx=>⟨v,hx⟩
 |s::l,S,hl,v,hx=>by
   obtain ⟨v1,h1⟩:=Hk ok v hx hd ha hox hw (hl s (.head _))
   exact Oj ok hd ha hox hw l (fun s hs=>hl s (.tail _ hs)) v1 h1
theorem G9 (ok:p8 E) {p0:P} {t0:Int} {z:M} {x:St P M} {k:Nat} (hd:x.dn=true) (ha:0<=x.a) (hox:E.ok x.p):∀(l:List (M × P × Int × List Sp)) {S:List (St P M)},(∀w∈l,w∈E.ways x.p)->Inv E p0 t0 z x.a S->S[k]?=some x->
   Inv E p0 t0 z x.a (l.foldl (tj E x k) S)/\(l.foldl (tj E x k) S)[k]?=some x
 |[],S,_,v,hx=>⟨v,hx⟩
 |w::l,S,hl,v,hx=>by
   obtain ⟨v1,h1⟩:=Oj ok hd ha hox (hl w (.head _)) w.2.2.2 (fun _ h=>h) v hx
   exact G9 ok hd ha hox l (fun w hw=>hl w (.tail _ hw)) v1 h1
theorem aa6 {x y u:St P M} (h1:ltK E x y=true) (h2:ltK E y u=true):ltK E x u=true:=by
 unfold ltK at*
 simp only [decide_eq_true_eq]at*
 omega
theorem Xa {x:St P M}:ltK E x x=false:=by
 unfold ltK
 simp
theorem ltK_tot {x y:St P M} (h1:ltK E x y=false) (h2:ltK E y x=false):x.a=y.a/\E.num x.p=E.num y.p/\x.i=y.i:=by
 unfold ltK at*
 simp only [decide_eq_false_iff_not]at*
 omega
def ov (S:List (St P M)) (n:Nat) (b:Option (Nat × St P M)):Prop:=match b with
 |none=>∀x∈S.take n,x.dn=true
 |some (j,y)=>j<n/\S[j]?=some y/\y.dn=false/\∀x∈S.take n,x.dn=false->ltK E x y=false
theorem pk:∀(L S:List (St P M)) (k:Nat) (b:Option (Nat × St P M)),S.drop k=L->ov (E:=E) S k b->ov (E:=E) S S.length (zh E L k b)
 |[],S,k,b,hL,h=>by
   have hk:S.length<=k:=by
     have:=congrArg List.length hL
     simp at this;omega
   unfold zh
   unfold ov at*
   cases b with
   |none=>simp only at *;rw [List.take_of_length_le hk]at h;rw [List.take_length];exact h
   |some p=>
     obtain ⟨j,y⟩:=p
     simp only at*
     rw [List.take_of_length_le hk]at h
     rw [List.take_length]
     exact ⟨(List.getElem?_eq_some_iff.1 h.2.1).1,h.2⟩
 |x::L,S,k,b,hL,h=>by
   have hx:S[k]?=some x:=by
     have:(S.drop k)[0]?=some x:=by rw [hL];rfl
     simpa using this
   have hL':S.drop (k+1)=L:=by
     rw [<- List.drop_drop,hL];rfl
   have ht:S.take (k+1)=S.take k++[x]:=by rw [List.take_add_one,hx];rfl
   unfold zh
   split
   . rename_i hd
     refine pk L S (k+1) b hL' ?_
     unfold ov at*
     cases b with
     |none=>
       simp only at*
       intro y hy
       rw [ht]at hy
       rcases List.mem_append.1 hy with hy|hy
       . exact h y hy
       . rw [List.mem_singleton]at hy;subst hy;exact hd
     |some p=>
       obtain ⟨j,y⟩:=p
       simp only at*
       refine ⟨by omega,h.2.1,h.2.2.1,fun u hu hun=>?_⟩
       rw [ht]at hu
       rcases List.mem_append.1 hu with hu|hu
       . exact h.2.2.2 u hu hun
       . rw [List.mem_singleton]at hu;subst hu;rw [hd]at hun;cases hun
   . rename_i hd
     have hd:x.dn=false:=by simpa using hd
     cases b with
     |none=>
       refine pk L S (k+1) _ hL' ?_
       unfold ov at*
       simp only at*
       refine ⟨by omega,hx,hd,fun u hu hun=>?_⟩
       rw [ht]at hu
       rcases List.mem_append.1 hu with hu|hu
       . have:=h u hu;rw [hun]at this;cases this
       . rw [List.mem_singleton]at hu;subst hu;exact Xa
     |some p=>
       obtain ⟨j,y⟩:=p
       unfold ov at h
       simp only at h ⊢
       split
       . rename_i hlt
         refine pk L S (k+1) _ hL' ?_
         unfold ov
         simp only
         refine ⟨by omega,hx,hd,fun u hu hun=>?_⟩
         rw [ht]at hu
         rcases List.mem_append.1 hu with hu|hu
         . have h1:=h.2.2.2 u hu hun
           cases h2:ltK E u x with
           |false=>rfl
           |true=>rw [aa6 h2 hlt]at h1;cases h1
         . rw [List.mem_singleton]at hu;subst hu;exact Xa
       . rename_i hge
         refine pk L S (k+1) _ hL' ?_
         unfold ov
         simp only
         refine ⟨by omega,h.2.1,h.2.2.1,fun u hu hun=>?_⟩
         rw [ht]at hu
         rcases List.mem_append.1 hu with hu|hu
         . exact h.2.2.2 u hu hun
         . rw [List.mem_singleton]at hu;subst hu;simpa using hge
theorem Ih {S:List (St P M)} (h:least E S=none):∀x∈S,x.dn=true:=by
 have:=pk (E:=E) S S 0 none rfl (by unfold ov;simp)
 unfold least at h
 rw [h]at this
 unfold ov at this
 simpa using this
theorem th {S:List (St P M)} {k:Nat} {y:St P M} (h:least E S=some (k,y)):S[k]?=some y/\y.dn=false/\∀x∈S,x.dn=false->ltK E x y=false:=by
 have:=pk (E:=E) S S 0 none rfl (by unfold ov;simp)
 unfold least at h
 rw [h]at this
 unfold ov at this
 simp only [List.take_length]at this
 exact this.2
theorem Hc {p0:P} {t0 lo:Int} {z:M} {S:List (St P M)} (v:Inv E p0 t0 z lo S) {k:Nat} {x:St P M} (h:least E S=some (k,x)):
   Inv E p0 t0 z x.a (take S k x)/\(take S k x)[k]?=some { x with dn:=true }:=by
 obtain ⟨hx,hnd,hmin⟩:=th h
 have hkl:k<S.length:=(List.getElem?_eq_some_iff.1 hx).1
 have hxe:S[k]=x:=(List.getElem?_eq_some_iff.1 hx).2
 have hxm:=List.mem_of_getElem? hx
 unfold take
 have memset:∀y,y∈S.set k { x with dn:=true }->y={ x with dn:=true }\/y∈S:=fun y hy=>by
   rcases List.mem_or_eq_of_mem_set hy with h|h
   . exact .inr h
   . exact .inl h
 have up:∀{j:Nat} {y:St P M},S[j]?=some y->y.dn=true->(S.set k { x with dn:=true })[j]?=some y:=fun {j y} hj hd=>by
   have hne:j≠k:=fun e=>by subst e;rw [hx]at hj;cases hj;rw [hnd]at hd;cases hd
   rw [List.getElem?_set_ne (Ne.symm hne)];exact hj
 refine ⟨⟨?_,?_,?_,?_,?_,?_⟩,by rw [List.getElem?_set_self hkl]⟩
 . rw [List.pairwise_iff_getElem]
   intro j l hj hl hjl
   simp only [List.length_set]at hj hl
   have hp:=List.pairwise_iff_getElem.1 v.keys j l hj hl hjl
   rw [List.getElem_set,List.getElem_set]
   split
   . rename_i h;subst h
     rw [if_neg (by omega)]
     rw [hxe]at hp;exact hp
   . split
     . rename_i h;subst h
       rw [hxe]at hp;exact hp
     . exact hp
 . intro y hy
   rcases memset y hy with rfl|hy
   . exact v.at_ x hxm
   . exact v.at_ y hy
 . intro y hy hd
   rcases memset y hy with rfl|hy
   . exact Int.le_refl _
   . have h1:=v.dn y hy hd
     have h2:=v.op x hxm hnd
     omega
 . intro y hy hd
   rcases memset y hy with rfl|hy
   . cases hd
   . have:=hmin y hy hd
     unfold ltK at this
     simp only [decide_eq_false_iff_not]at this
     omega
 . intro y hy
   rcases memset y hy with rfl|hy
   . exact v.ok x hxm
   . exact v.ok y hy
 . intro y hy
   rcases memset y hy with rfl|hy
   . rcases v.by_ x hxm with h|⟨u,f1,f2,f3,f4,f5⟩
     . exact .inl h
     . exact .inr ⟨u,f1,up f2 f3,f3,f4,f5⟩
   . rcases v.by_ y hy with h|⟨u,f1,f2,f3,f4,f5⟩
     . exact .inl h
     . exact .inr ⟨u,f1,up f2 f3,f3,f4,f5⟩
theorem Inv.start (p0:P) (t0:Int) (z:M) (lo:Int):Inv E p0 t0 z lo []:=
 ⟨List.Pairwise.nil,fun _ h=>(by cases h),fun _ h=>(by cases h),fun _ h=>(by cases h),fun _ h=>(by cases h),fun _ h=>(by cases h)⟩
end
end
def capB (x y:Sp):List Sp:=if max x.1 y.1<min x.2 y.2 then [(max x.1 y.1,min x.2 y.2)]else []
def pm:List Sp->List Sp->List Sp
 |[],_=>[]
 |_::_,[]=>[]
 |x::a,y::b=>capB x y++(if x.2<y.2 then pm a (y::b)else pm (x::a) b)
 termination_by a b=>a.length+b.length
def qc (a b:List Sp):List Sp:=a.flatMap fun x=>b.flatMap fun y=>capB x y
structure Ris (l:List Sp):Prop where
 pw:l.Pairwise fun x y=>x.2<y.1
 bd:∀x∈l,0<=x.1/\x.1<x.2/\x.2<=FV
theorem Ris.tail {x:Sp} {l:List Sp} (h:Ris (x::l)):Ris l:=⟨h.pw.of_cons,fun y hy=>h.bd y (.tail _ hy)⟩
theorem Ris.hd {x:Sp} {l:List Sp} (h:Ris (x::l)):∀y∈l,x.2<y.1:=(List.pairwise_cons.1 h.pw).1
theorem T5 {x y:Sp} (h:x.2<=y.1\/y.2<=x.1):capB x y=[]:=by
 unfold capB
 rw [if_neg (by omega)]
theorem Ev {α β:Type} {l:List α} {f:α->List β} (h:∀x∈l,f x=[]):l.flatMap f=[]:=by
 rw [List.flatMap_eq_nil_iff];exact h
theorem Av:∀(n:Nat) (a b:List Sp),a.length+b.length<=n->Ris a->Ris b->pm a b=qc a b
 |_,[],b,_,_,_=>by rw [pm];rfl
 |_,x::a,[],_,_,_=>by
   rw [pm]
   unfold qc
   rw [Ev]
   intro y _;rfl
 |0,x::a,y::b,h,_,_=>by simp at h
 |n+1,x::a,y::b,h,ha,hb=>by
   simp only [List.length_cons]at h
   rw [pm]
   split
   . rename_i hlt
     rw [Av n a (y::b) (by simp only [List.length_cons];omega) ha.tail hb]
     unfold qc
     rw [List.flatMap_cons]
     congr 1
     rw [List.flatMap_cons,Ev (l:=b),List.append_nil]
     intro u hu
     have:=hb.hd u hu
     exact T5 (.inl (by omega))
   . rename_i hge
     rw [Av n (x::a) b (by simp only [List.length_cons];omega) ha hb.tail]
     unfold qc
     rw [List.flatMap_cons,List.flatMap_cons,List.flatMap_cons,List.append_assoc]
     congr 2
     have:∀u∈a,(y::b).flatMap (fun z=>capB u z)=b.flatMap (fun z=>capB u z):=fun u hu=>by
       rw [List.flatMap_cons,T5,List.nil_append]
       have:=ha.hd u hu
       exact .inr (by omega)
     rw [List.flatMap_def,List.flatMap_def,List.map_congr_left this]
theorem C2 {a b:List Sp} {s:Sp}:s∈qc a b↔∃x∈a,∃y∈b,s=(max x.1 y.1,min x.2 y.2)/\max x.1 y.1<min x.2 y.2:=by
 unfold qc
 simp only [List.mem_flatMap]
 constructor
 . rintro ⟨x,hx,y,hy,h⟩
   unfold capB at h
   split at h
   . rename_i hlt
     rw [List.mem_singleton]at h
     exact ⟨x,hx,y,hy,h,hlt⟩
   . cases h
 . rintro ⟨x,hx,y,hy,h,hlt⟩
   exact ⟨x,hx,y,hy,by unfold capB;rw [if_pos hlt,h];exact .head _⟩
theorem ris_cap {b:List Sp} (hb:Ris b) (x:Sp):(b.flatMap fun y=>capB x y).Pairwise fun u v=>u.2<v.1:=by
 induction b with
 |nil=>exact .nil
 |cons y b ih=>
   rw [List.flatMap_cons,List.pairwise_append]
   refine ⟨?_,ih hb.tail,?_⟩
   . unfold capB;split
     . exact List.pairwise_singleton _ _
     . exact .nil
   . intro u hu v hv
     unfold capB at hu
     split at hu
     . rw [List.mem_singleton]at hu;subst hu
       obtain ⟨z,hz,hv⟩:=List.mem_flatMap.1 hv
       unfold capB at hv
       split at hv
       . rw [List.mem_singleton]at hv;subst hv
         have:=hb.hd z hz
         simp only;omega
       . cases hv
     . cases hu
theorem R4 {a b:List Sp} (ha:Ris a) (hb:Ris b):Ris (qc a b):=by
 refine ⟨?_,fun s hs=>?_⟩
 . induction a with
   |nil=>exact .nil
   |cons x a ih=>
     unfold qc
     rw [List.flatMap_cons,List.pairwise_append]
     refine ⟨ris_cap hb x,ih ha.tail,?_⟩
     intro u hu v hv
     obtain ⟨y,hy,hu⟩:=List.mem_flatMap.1 hu
     obtain ⟨z,hz,w,hw,rfl,hlt⟩:=C2.1 hv
     unfold capB at hu
     split at hu
     . rw [List.mem_singleton]at hu;subst hu
       have:=ha.hd z hz
       simp only;omega
     . cases hu
 . obtain ⟨x,hx,y,hy,rfl,hlt⟩:=C2.1 hs
   have:=ha.bd x hx
   have:=hb.bd y hy
   simp only;omega
def mu (T:Tb) (r:Int) (n:Int):List Sp:=if inT T.length n=true then F0 (rowT T n) r else []
def li (T:Tb) (r:Int) (N:List Int):List Sp:=N.foldl (fun l n=>qc l (mu T r n)) [(0,FV)]
theorem W0:Ris [((0:Int),FV)]:=⟨List.pairwise_singleton _ _,fun x hx=>by rw [List.mem_singleton]at hx;subst hx;exact ⟨Int.le_refl _,by decide,Int.le_refl _⟩⟩
theorem Cq {T:Tb} (g:kc T) (r n:Int):Ris (mu T r n):=by
 unfold mu
 split
 . have gr:=Ls g n
   obtain ⟨h1,h2⟩:=Mu (r:=r) gr (Int.le_refl 0) (by decide) (fun s hs => .inl (gr.ok s hs).1)
   exact ⟨h1,fun x hx=>let ⟨e1,e2,e3,_⟩:=h2 x hx;⟨e1,e2,e3⟩⟩
 . exact ⟨.nil,fun _ h=>by cases h⟩
theorem Ta {T:Tb} (g:kc T) {r:Int}:∀(N:List Int) {l:List Sp},Ris l->Ris (N.foldl (fun l n=>qc l (mu T r n)) l)
 |[],l,h=>h
 |n::N,l,h=>Ta g N (R4 h (Cq g r n))
theorem yq {T:Tb} (g:kc T) (r:Int) (N:List Int):Ris (li T r N):=Ta g N W0
theorem aj4 {b:List Sp}:qc [] b=[]:=rfl
theorem aa4 {a:List Sp}:qc a []=[]:=Ev fun _ _=>rfl
theorem Tc {T:Tb} {r:Int}:∀(N:List Int),N.foldl (fun l n=>qc l (mu T r n)) []=[]
 |[]=>rfl
 |n::N=>by rw [List.foldl_cons,aj4,Tc N]
theorem al0 {T:Tb} {r:Int} {N:List Int} {n:Int} (hn:n∈N) (h:inT T.length n=false):li T r N=[]:=by
 unfold li
 generalize [((0:Int),FV)]=l
 induction N generalizing l with
 |nil=>cases hn
 |cons m N ih=>
   rw [List.foldl_cons]
   rcases List.mem_cons.1 hn with rfl|hn
   . rw [show mu T r n=[]by unfold mu;rw [if_neg (by rw [h];simp)],aa4,Tc]
   . exact ih hn _
theorem Dn:∀(n:Nat) (a b:List Sp),a.length+b.length<=n->(pm a b).length<=a.length+b.length
 |_,[],b,_=>by rw [pm];simp
 |_,x::a,[],_=>by rw [pm];simp
 |0,x::a,y::b,h=>by simp at h
 |n+1,x::a,y::b,h=>by
   simp only [List.length_cons]at h
   rw [pm,List.length_append]
   have hc:(capB x y).length<=1:=by unfold capB;split<;>simp
   split
   . have:=Dn n a (y::b) (by simp only [List.length_cons];omega)
     simp only [List.length_cons]at *;omega
   . have:=Dn n (x::a) b (by simp only [List.length_cons];omega)
     simp only [List.length_cons]at *;omega
theorem Et {T:Tb} {b:Nat} (f:Few T b) (r n:Int):(mu T r n).length<=b+1:=by
 unfold mu
 split
 . have h1:=ak3 (r:=r) (L:=rowT T n) (a:=0)
   have h2:=ag5 f n
   unfold F0;omega
 . simp
theorem Dd {T:Tb} {b:Nat} (g:kc T) (f:Few T b) (r:Int) (N:List Int):(li T r N).length<=1+N.length*(b+1):=by
 have key:∀(N:List Int) (l:List Sp),Ris l->(N.foldl (fun l n=>qc l (mu T r n)) l).length<=l.length+N.length*(b+1):=by
   intro N
   induction N with
   |nil=>intro l _;simp
   |cons n N ih=>
     intro l hl
     rw [List.foldl_cons]
     have h1:=ih _ (R4 hl (Cq g r n))
     rw [<- Av _ _ _ (Nat.le_refl _) hl (Cq g r n)]at h1 ⊢
     have h2:=Dn _ l (mu T r n) (Nat.le_refl _)
     have h3:=Et f r n
     rw [List.length_cons,Nat.add_mul,Nat.one_mul]
     omega
 have:=key N [(0,FV)] W0
 unfold li
 simpa using this
def brk (a:Int):Nat->Int->Int
 |0,_=>0
 |n+1,v=>if v>0 then v+brk a n (v-a)else 0
def uj (a s:Int):Int:=brk a s.toNat (s-a)
def dq (a r:Int):Nat->Int->Int
 |0,q=>q
 |n+1,q=>if q>1/\uj a q>r-q then dq a r n (q-1)else q
def qv (a r s v:Int):Int:=dq a r (min (min (s+a) v) r).toNat (min (min (s+a) v) r)
def prof (a v e:Int):Nat->Int->Int->List Int
 |0,_,_=>[]
 |n+1,p,s=>if p<e then (p+qv a (e-p) s v)::prof a v e n (p+qv a (e-p) s v) (qv a (e-p) s v)else []
def jr (U A V n:Int):List Int:=if 1<=n/\n<=16 then prof A V (n*U) (n*U).toNat 0 0 else []
def Ff (U A V n:Int):Int:=(jr U A V n).length
theorem dq_bd {a r:Int}:∀(n:Nat) (q:Int),1<=q->1<=dq a r n q/\dq a r n q<=q
 |0,q,h=>by simp [dq,h]
 |n+1,q,h=>by
   unfold dq
   split
   . have:=dq_bd (a:=a) (r:=r) n (q-1) (by omega);omega
   . omega
theorem W9 {a r s v:Int} (ha:1<=a) (hr:1<=r) (hs:0<=s) (hv:1<=v):1<=qv a r s v/\qv a r s v<=r/\qv a r s v<=v:=by
 unfold qv
 have:=dq_bd (a:=a) (r:=r) (min (min (s+a) v) r).toNat (min (min (s+a) v) r) (by omega)
 omega
theorem Cv {a v e:Int}:∀(n:Nat) (p s:Int),(prof a v e n p s).length<=n
 |0,p,s=>by simp [prof]
 |n+1,p,s=>by
   unfold prof
   split
   . have:=Cv (a:=a) (v:=v) (e:=e) n (p+qv a (e-p) s v) (qv a (e-p) s v)
     simpa using this
   . simp
theorem Wq {U A V n:Int} (hU:1<=U) (hU2:U<=1000):0<=Ff U A V n/\Ff U A V n<=16000/\(1<=n->n<=16->1<=Ff U A V n):=by
 unfold Ff jr
 refine ⟨by omega,?_,fun h1 h2=>?_⟩
 . split
   . rename_i h
     have:=Cv (a:=A) (v:=V) (e:=n*U) (n*U).toNat 0 0
     have:n*U<=16*1000:=Int.mul_le_mul h.2 hU2 (by omega) (by omega)
     omega
   . simp
 . rw [if_pos ⟨h1,h2⟩]
   have h3:1*1<=n*U:=Int.mul_le_mul h1 hU (by omega) (by omega)
   obtain ⟨m,hm⟩:∃m,(n*U).toNat=m+1:=⟨(n*U).toNat-1,by omega⟩
   rw [hm]
   unfold prof
   rw [if_pos (by omega)]
   simp
   omega
end Go.Proofs.Srch
end
section
namespace Go.Proofs.YtfflipnhffknnaaGreatDoor
open Go Go.HL
section
variable (G:Hp) (K:EK) (r:Rg) (h:Hp)
def md38:Nat->Hint
 |6=>⟨false,[0,0,2,0,14,30,63,127,255,511,1023,511,2559,511,14847,31231,65535,131071,262143,524287,1048575,2097151,1048575,5242879,1048575,30408703,63963135,134217727,268435455,536870911],[.pureM,.pureN,.pureM,.pureN,.pureN,.pureM,.eff,.pureN,.pureN,.pureN,.pureM,.pureN,.pureM,.pureN,.pureN,.pureM,.eff,.pureN,.pureN,.pureN,.pureN,.pureM,.pureN,.pureM,.pureN,.pureN,.pureM,.eff,.pureN,.pureN],[.pureM,.pureN,.pureM,.pureN,.pureN,.pureM,.eff,.pureN,.pureN,.pureN,.late,.pureN,.late,.pureN,.pureN,.late,.eff,.pureN,.pureN,.pureN,.pureN,.late,.pureN,.late,.pureN,.pureN,.late,.eff,.pureN,.pureN],[false,false,false,false,false,false,false,false,false,false,false,false,false,false,false,false,false,false,false,false,false,false,false,false,false,false,false,false,false,false],false⟩
 |11=>⟨false,[0,0,2,0,14,30,63,127,255,511,1023,511,2559,511,14847,31231,65535,131071,262143,524287,1048575,1048575,3145727,1048575,15728639,32505855,67108863,134217727,268435455,536870911,536870911,1610612735,536870911,8053063679,16642998271,34359738367,68719476735,137438953471],[.pureM,.pureN,.pureM,.pureN,.pureN,.pureM,.eff,.pureN,.pureN,.pureN,.pureM,.pureN,.pureM,.pureN,.pureN,.pureM,.eff,.pureN,.pureN,.pureN,.pureM,.pureN,.pureM,.pureN,.pureN,.pureM,.eff,.pureN,.pureN,.pureM,.pureN,.pureM,.pureN,.pureN,.pureM,.eff,.pureN,.pureN],[.pureM,.pureN,.pureM,.pureN,.pureN,.pureM,.eff,.pureN,.pureN,.pureN,.late,.pureN,.late,.pureN,.pureN,.late,.eff,.pureN,.pureN,.pureN,.late,.pureN,.late,.pureN,.pureN,.late,.eff,.pureN,.pureN,.late,.pureN,.late,.pureN,.pureN,.late,.eff,.pureN,.pureN],[false,false,false,false,false,false,false,false,false,false,false,false,false,false,false,false,false,false,false,false,false,false,false,false,false,false,false,false,false,false,false,false,false,false,false,false,false,false],false⟩
 |17=>mh false [0,0,2,0,14,30,63,127] [m_,n_,m_,n_,n_,m_,e_,n_] (fs 8) false
 |_=>mh false [] [] [] false
def aA1:Prop:=
 o_ G (Instr.loadAt 26 (r 1)) h fun v19 h19=>
 c_ G 86 #[v19] h19 fun v20 h20=>
 K .ret (u3 r 147 v19 148 v20 2 v20) h20
def N0:Prop:=
 o_ G (binOp .add 3 (r 7) (.int .i64 1)) h fun v23 h23=>
 K .normal (u3 r 138 (r 7) 139 v23 7 v23) h23
def N1:Prop:=
 o_ G (Instr.indexAt 22 (r 5) (r 7)) h fun v24 h24=>o_ G (Instr.loadAt 28 v24) h24 fun v25 h25=>
 c_ G 83 #[(r 5),v25] h25 fun v26 h26=>o_ G (binOp .gtr 3 v26 (.int .i64 1)) h26 fun v27 h27=>
 (fun q=>cond v27
 (K .ret (upd q 2 (.bool false)) h27)
 (N0 G K q h27))
 (u7 r 140 (r 5) 141 (r 5) 142 (r 7) 143 v24 144 v25 145 v26 146 v27)
def Wd (r:Rg) (h:Hp) (K:EK):Prop:=
 o_ G (Builtin.len_ #[22] 3 #[(r 5)]) h fun v21 h21=>o_ G (binOp .lss 3 (r 7) v21) h21 fun v22 h22=>
 (fun q=>cond v22
 (N1 G K q h22)
 (K (.exit 6) q h22))
 (u4 r 134 (r 7) 135 (r 5) 136 v21 137 v22)
def aA2:Prop:=
 dl (Wd G) (upd r 7 (.int .i64 0)) h (bo 6 (ci (aA1 G K) K))
def Jq:Prop:=
 o_ G (binOp .add 3 (r 6) (.int .i64 1)) h fun v32 h32=>
 K .normal (u3 r 116 (r 6) 117 v32 6 v32) h32
def Jp:Prop:=
 o_ G (Instr.fieldAt 26 (r 1) 5) h fun v40 h40=>o_ G (Instr.loadAt 23 v40) h40 fun v41 h41=>o_ G (Instr.indexAt 23 v41 (r 6)) h41 fun v42 h42=>o_ G (Instr.loadAt 30 v42) h42 fun v43 h43=>
 c_ G 40 #[v43] h43 fun v44 h44=>o_ G (Builtin.append_ #[22,22] 22 #[(r 5),v44]) h44 fun v45 h45=>
 Jq G K (u9 r 126 (r 5) 127 v40 128 v41 129 (r 6) 130 v42 131 v43 132 v44 133 v45 5 v45) h45
def Jr:Prop:=
 w_ G h (Instr.loadAt 26 (r 1)) h fun v33 h33=>
 p_ (Instr.fieldAt 26 (r 1) 5) h33 fun v34 h34=>
 w_ G h (Instr.loadAt 23 v34) h34 fun v35 h35=>
 p_ (Instr.indexAt 23 v35 (r 6)) h35 fun v36 h36=>
 w_ G h (Instr.loadAt 30 v36) h36 fun v37 h37=>
 c_ G 22 #[v33,v37] h37 fun v38 h38=>
 p_ (Op.unary .not v38) h38 fun v39 h39=>
 (fun q=>cond v39
 (K .ret (upd q 2 (.bool false)) h39)
 (Jp G K q h39))
 (u8 r 118 v33 119 v34 120 v35 121 (r 6) 122 v36 123 v37 124 v38 125 v39)
def Wc (r:Rg) (h:Hp) (K:EK):Prop:=
 o_ G (Instr.fieldAt 26 (r 1) 5) h fun v28 h28=>o_ G (Instr.loadAt 23 v28) h28 fun v29 h29=>o_ G (Builtin.len_ #[23] 3 #[v29]) h29 fun v30 h30=>o_ G (binOp .lss 3 (r 6) v30) h30 fun v31 h31=>
 (fun q=>cond v31
 (Jr G K q h31)
 (K (.exit 4) q h31))
 (u5 r 111 (r 6) 112 v28 113 v29 114 v30 115 v31)
def aA3:Prop:=
 dl (Wc G) (u2 r 5 (.slice none 0 0) 6 (.int .i64 0)) h (bo 4 (ci (aA2 G K) K))
def Gf:Prop:=
 o_ G (binOp .add 3 (r 4) (.int .i64 1)) h fun v50 h50=>
 K .normal (u3 r 71 (r 4) 72 v50 4 v50) h50
def Gg:Prop:=
 w_ G h (Instr.loadAt 26 (r 1)) h fun v51 h51=>
 p_ (Instr.fieldAt 26 (r 1) 4) h51 fun v52 h52=>
 w_ G h (Instr.loadAt 22 v52) h52 fun v53 h53=>
 p_ (Instr.indexAt 22 v53 (r 4)) h53 fun v54 h54=>
 w_ G h (Instr.loadAt 28 v54) h54 fun v55 h55=>
 c_ G 82 #[v51,v55] h55 fun v56 h56=>
 p_ (Op.unary .not v56) h56 fun v57 h57=>g_ v57 false (p_ (Instr.fieldAt 26 (r 1) 4) h57) h57 fun v58 h58=>g_ v57 false (w_ G h58 (Instr.loadAt 22 v58) h58) h58 fun v59 h59=>g_ v57 false (p_ (Instr.fieldAt 26 (r 1) 4) h59) h59 fun v60 h60=>g_ v57 false (w_ G h60 (Instr.loadAt 22 v60) h60) h60 fun v61 h61=>g_ v57 false (fun K1=>K1 (r 4) h61) h61 fun v62 h62=>g_ v57 false (p_ (Instr.indexAt 22 v61 v62) h62) h62 fun v63 h63=>g_ v57 false (w_ G h63 (Instr.loadAt 28 v63) h63) h63 fun v64 h64=>g_ v57 false (c_ G 83 #[v59,v64] h64) h64 fun v65 h65=>g_ v57 false (p_ (binOp .gtr 3 v65 (.int .i64 1)) h65) h65 fun v66 h66=>
 bm P_ noHp noHp (bj v57 (.bool true) v66) h66 fun v67 h67=>g_ v67 false (w_ G h67 (Instr.loadAt 26 (r 1)) h67) h67 fun v68 h68=>g_ v67 false (p_ (Instr.fieldAt 26 (r 1) 4) h68) h68 fun v69 h69=>g_ v67 false (w_ G h69 (Instr.loadAt 22 v69) h69) h69 fun v70 h70=>g_ v67 false (fun K1=>K1 (r 4) h70) h70 fun v71 h71=>g_ v67 false (p_ (Instr.indexAt 22 v70 v71) h71) h71 fun v72 h72=>g_ v67 false (w_ G h72 (Instr.loadAt 28 v72) h72) h72 fun v73 h73=>g_ v67 false (c_ G 84 #[v68,v73] h73) h73 fun v74 h74=>
 bm P_ noHp noHp (bj v67 (.bool true) v74) h74 fun v75 h75=>g_ v75 false (w_ G h75 (Instr.loadAt 26 (r 1)) h75) h75 fun v76 h76=>g_ v75 false (p_ (Instr.fieldAt 26 (r 1) 4) h76) h76 fun v77 h77=>g_ v75 false (w_ G h77 (Instr.loadAt 22 v77) h77) h77 fun v78 h78=>g_ v75 false (fun K1=>K1 (r 4) h78) h78 fun v79 h79=>g_ v75 false (p_ (Instr.indexAt 22 v78 v79) h79) h79 fun v80 h80=>g_ v75 false (w_ G h80 (Instr.loadAt 28 v80) h80) h80 fun v81 h81=>g_ v75 false (c_ G 85 #[v76,v81] h81) h81 fun v82 h82=>g_ v75 false (p_ (Op.unary .not v82) h82) h82 fun v83 h83=>
 bm P_ noHp noHp (bj v75 (.bool true) v83) h83 fun v84 h84=>
 (fun q=>cond v84
 (K .ret (upd q 2 (.bool false)) h84)
 (Gf G K q h84))
 (u8 (u10 (u10 (u10 r 73 v51 74 v52 75 v53 76 (r 4) 77 v54 78 v55 79 v56 80 v57 81 v57 82 v58) 83 v59 84 v60 85 v61 86 v62 87 v63 88 v64 89 v65 90 v66 91 v67 92 v67) 93 v68 94 v69 95 v70 96 v71 97 v72 98 v73 99 v74 100 v75 101 v75 102 v76) 103 v77 104 v78 105 v79 106 v80 107 v81 108 v82 109 v83 110 v84)
def Qg (r:Rg) (h:Hp) (K:EK):Prop:=
 o_ G (Instr.fieldAt 26 (r 1) 4) h fun v46 h46=>o_ G (Instr.loadAt 22 v46) h46 fun v47 h47=>o_ G (Builtin.len_ #[22] 3 #[v47]) h47 fun v48 h48=>o_ G (binOp .lss 3 (r 4) v48) h48 fun v49 h49=>
 (fun q=>cond v49
 (Gg G K q h49)
 (K (.exit 2) q h49))
 (u5 r 66 (r 4) 67 v46 68 v47 69 v48 70 v49)
def aA4:Prop:=
 dl (Qg G) (upd r 4 (.int .i64 0)) h (bo 2 (ci (aA3 G K) K))
def Gd:Prop:=
 o_ G (binOp .add 3 (r 3) (.int .i64 1)) h fun v89 h89=>
 K .normal (u3 r 34 (r 3) 35 v89 3 v89) h89
def Ge:Prop:=
 w_ G h (Instr.loadAt 26 (r 1)) h fun v90 h90=>
 p_ (Instr.fieldAt 26 (r 1) 3) h90 fun v91 h91=>
 w_ G h (Instr.loadAt 22 v91) h91 fun v92 h92=>
 p_ (Instr.indexAt 22 v92 (r 3)) h92 fun v93 h93=>
 w_ G h (Instr.loadAt 28 v93) h93 fun v94 h94=>
 c_ G 82 #[v90,v94] h94 fun v95 h95=>
 p_ (Op.unary .not v95) h95 fun v96 h96=>g_ v96 false (p_ (Instr.fieldAt 26 (r 1) 3) h96) h96 fun v97 h97=>g_ v96 false (w_ G h97 (Instr.loadAt 22 v97) h97) h97 fun v98 h98=>g_ v96 false (p_ (Instr.fieldAt 26 (r 1) 3) h98) h98 fun v99 h99=>g_ v96 false (w_ G h99 (Instr.loadAt 22 v99) h99) h99 fun v100 h100=>g_ v96 false (fun K1=>K1 (r 3) h100) h100 fun v101 h101=>g_ v96 false (p_ (Instr.indexAt 22 v100 v101) h101) h101 fun v102 h102=>g_ v96 false (w_ G h102 (Instr.loadAt 28 v102) h102) h102 fun v103 h103=>g_ v96 false (c_ G 83 #[v98,v103] h103) h103 fun v104 h104=>g_ v96 false (p_ (binOp .gtr 3 v104 (.int .i64 1)) h104) h104 fun v105 h105=>
 bm P_ noHp noHp (bj v96 (.bool true) v105) h105 fun v106 h106=>g_ v106 false (p_ (Instr.fieldAt 26 (r 1) 4) h106) h106 fun v107 h107=>g_ v106 false (w_ G h107 (Instr.loadAt 22 v107) h107) h107 fun v108 h108=>g_ v106 false (p_ (Instr.fieldAt 26 (r 1) 3) h108) h108 fun v109 h109=>g_ v106 false (w_ G h109 (Instr.loadAt 22 v109) h109) h109 fun v110 h110=>g_ v106 false (fun K1=>K1 (r 3) h110) h110 fun v111 h111=>g_ v106 false (p_ (Instr.indexAt 22 v110 v111) h111) h111 fun v112 h112=>g_ v106 false (w_ G h112 (Instr.loadAt 28 v112) h112) h112 fun v113 h113=>g_ v106 false (c_ G 83 #[v108,v113] h113) h113 fun v114 h114=>g_ v106 false (p_ (binOp .gtr 3 v114 (.int .i64 0)) h114) h114 fun v115 h115=>
 bm P_ noHp noHp (bj v106 (.bool true) v115) h115 fun v116 h116=>
 (fun q=>cond v116
 (K .ret (upd q 2 (.bool false)) h116)
 (Gd G K q h116))
 (u10 (u10 (u10 r 36 v90 37 v91 38 v92 39 (r 3) 40 v93 41 v94 42 v95 43 v96 44 v96 45 v97) 46 v98 47 v99 48 v100 49 v101 50 v102 51 v103 52 v104 53 v105 54 v106 55 v106) 56 v107 57 v108 58 v109 59 v110 60 v111 61 v112 62 v113 63 v114 64 v115 65 v116)
def Qf (r:Rg) (h:Hp) (K:EK):Prop:=
 o_ G (Instr.fieldAt 26 (r 1) 3) h fun v85 h85=>o_ G (Instr.loadAt 22 v85) h85 fun v86 h86=>o_ G (Builtin.len_ #[22] 3 #[v86]) h86 fun v87 h87=>o_ G (binOp .lss 3 (r 3) v87) h87 fun v88 h88=>
 (fun q=>cond v88
 (Ge G K q h88)
 (K (.exit 0) q h88))
 (u5 r 29 (r 3) 30 v85 31 v86 32 v87 33 v88)
def aA5:Prop:=
 dl (Qf G) (upd r 3 (.int .i64 0)) h (bo 0 (ci (aA4 G K) K))
def S38:Prop:=
 o_ G (Instr.box 26 (r 0)) h fun v0 h0=>o_ G (Instr.loadAt 26 v0) h0 fun v1 h1=>
 c_ G 81 #[v1] h1 fun v2 h2=>o_ G (Op.unary .not v2) h2 fun v3 h3=>g_ v3 false (o_ G (Instr.fieldAt 26 v0 4) h3) h3 fun v4 h4=>g_ v3 false (o_ G (Instr.loadAt 22 v4) h4) h4 fun v5 h5=>g_ v3 false (o_ G (Builtin.len_ #[22] 3 #[v5]) h5) h5 fun v6 h6=>g_ v3 false (o_ G (binOp .gtr 3 v6 (.int .i64 8)) h6) h6 fun v7 h7=>
 opH P_ G (bj v3 (.bool true) v7) h7 fun v8 h8=>g_ v8 false (o_ G (Instr.fieldAt 26 v0 5) h8) h8 fun v9 h9=>g_ v8 false (o_ G (Instr.loadAt 23 v9) h9) h9 fun v10 h10=>g_ v8 false (o_ G (Builtin.len_ #[23] 3 #[v10]) h10) h10 fun v11 h11=>g_ v8 false (o_ G (binOp .gtr 3 v11 (.int .i64 8)) h11) h11 fun v12 h12=>
 opH P_ G (bj v8 (.bool true) v12) h12 fun v13 h13=>g_ v13 false (o_ G (Instr.fieldAt 26 v0 3) h13) h13 fun v14 h14=>g_ v13 false (o_ G (Instr.loadAt 22 v14) h14) h14 fun v15 h15=>g_ v13 false (o_ G (Builtin.len_ #[22] 3 #[v15]) h15) h15 fun v16 h16=>g_ v13 false (o_ G (binOp .gtr 3 v16 (.int .i64 256)) h16) h16 fun v17 h17=>
 opH P_ G (bj v13 (.bool true) v17) h17 fun v18 h18=>
 (fun q=>cond v18
 (K .ret (upd q 2 (.bool false)) h18)
 (aA5 G K q h18))
 (u3 (u10 (u10 r 1 v0 2 (.bool false) 8 v1 9 v2 10 v3 11 v3 12 v4 13 v5 14 v6 15 v7) 16 v8 17 v8 18 v9 19 v10 20 v11 21 v12 22 v13 23 v13 24 v14 25 v15) 26 v16 27 v17 28 v18)
theorem enter38:Ent 149 38 [.tmp 2] S38:=ent_ (m:=md38) (c:=(Tryz.f38.body.getD .skip)) (fun _ _ _ _=>by kernel_rfl) Tryz.func38 rfl rfl rfl
def md40:Nat->Hint
 |_=>mh false [] [] [] false
def az8:Prop:=
 o_ G (Instr.fieldAt 30 (r 1) 0) h fun v3 h3=>o_ G (Instr.loadAt 28 v3) h3 fun v4 h4=>o_ G (Instr.fieldAt 30 (r 1) 0) h4 fun v5 h5=>o_ G (Instr.fieldAt 28 v5 0) h5 fun v6 h6=>o_ G (Instr.loadAt 3 v6) h6 fun v7 h7=>o_ G (binOp .add 3 v7 (.int .i64 1)) h7 fun v8 h8=>o_ G (Instr.fieldAt 30 (r 1) 0) h8 fun v9 h9=>o_ G (Instr.fieldAt 28 v9 1) h9 fun v10 h10=>o_ G (Instr.loadAt 3 v10) h10 fun v11 h11=>o_ G (Instr.build 28 #[(0,v8),(1,v11)]) h11 fun v12 h12=>o_ G (Instr.buildSlice 22 2 #[(0,v4),(1,v12)]) h12 fun v13 h13=>
 K .ret (u2 (u10 r 16 v3 17 v4 18 v5 19 v6 20 v7 21 v8 22 v9 23 v10 24 v11 25 v12) 26 v13 2 v13) h13
def S40:Prop:=
 o_ G (Instr.box 30 (r 0)) h fun v0 h0=>o_ G (Instr.fieldAt 30 v0 1) h0 fun v1 h1=>o_ G (Instr.loadAt 4 v1) h1 fun v2 h2=>
 cond v2
 (o_ G (Instr.fieldAt 30 v0 0) h2 fun v14 h14=>o_ G (Instr.loadAt 28 v14) h14 fun v15 h15=>o_ G (Instr.fieldAt 30 v0 0) h15 fun v16 h16=>o_ G (Instr.fieldAt 28 v16 0) h16 fun v17 h17=>o_ G (Instr.loadAt 3 v17) h17 fun v18 h18=>o_ G (Instr.fieldAt 30 v0 0) h18 fun v19 h19=>o_ G (Instr.fieldAt 28 v19 1) h19 fun v20 h20=>o_ G (Instr.loadAt 3 v20) h20 fun v21 h21=>o_ G (binOp .add 3 v21 (.int .i64 1)) h21 fun v22 h22=>o_ G (Instr.build 28 #[(0,v18),(1,v22)]) h22 fun v23 h23=>o_ G (Instr.buildSlice 22 2 #[(0,v15),(1,v23)]) h23 fun v24 h24=>
 K .ret (u6 (u10 r 1 v0 2 (.slice none 0 0) 3 v1 4 v2 5 v14 6 v15 7 v16 8 v17 9 v18 10 v19) 11 v20 12 v21 13 v22 14 v23 15 v24 2 v24) h24)
 (az8 G K (u4 r 1 v0 2 (.slice none 0 0) 3 v1 4 v2) h2)
theorem enter40:Ent 27 40 [.tmp 2] S40:=ent_ (m:=md40) (c:=(Tryz.f40.body.getD .skip)) (fun _ _ _ _=>by kernel_rfl) Tryz.func40 rfl rfl rfl
def md22:Nat->Hint
 |2=>⟨false,[0,0,2,6,15,31,63,63,191,447,1023,2047,4095],[.pureM,.pureN,.pureN,.pureM,.eff,.pureN,.pureM,.pureN,.pureN,.pureM,.eff,.pureN,.pureN],[.pureM,.pureN,.pureN,.pureM,.eff,.pureN,.late,.pureN,.pureN,.late,.eff,.pureN,.pureN],[false,false,false,false,false,false,false,false,false,false,false,false,false],false⟩
 |_=>mh false [] [] [] false
def S22:Prop:=
 o_ G (Instr.box 26 (r 0)) h fun v0 h0=>o_ G (Instr.box 30 (r 1)) h0 fun v1 h1=>o_ G (Instr.loadAt 30 v1) h1 fun v2 h2=>
 c_ G 40 #[v2] h2 fun v3 h3=>
 w_ G h3 (Instr.loadAt 26 v0) h3 fun v4 h4=>
 p_ (Instr.indexAt 22 v3 (.int .i64 0)) h4 fun v5 h5=>
 w_ G h3 (Instr.loadAt 28 v5) h5 fun v6 h6=>
 c_ G 60 #[v4,v6] h6 fun v7 h7=>g_ v7 true (w_ G h7 (Instr.loadAt 26 v0) h7) h7 fun v8 h8=>g_ v7 true (fun K1=>K1 v3 h8) h8 fun v9 h9=>g_ v7 true (p_ (Instr.indexAt 22 v9 (.int .i64 1)) h9) h9 fun v10 h10=>g_ v7 true (w_ G h10 (Instr.loadAt 28 v10) h10) h10 fun v11 h11=>g_ v7 true (c_ G 60 #[v8,v11] h11) h11 fun v12 h12=>
 bm P_ noHp noHp (bj v7 v12 (.bool false)) h12 fun v13 h13=>
 K .ret (u9 (u10 r 2 v0 3 v1 4 (.bool false) 6 v2 7 v3 5 v3 8 v4 9 v3 10 v5 11 v6) 12 v7 13 v7 14 v8 15 v9 16 v10 17 v11 18 v12 19 v13 4 v13) h13
theorem enter22:Ent 20 22 [.tmp 4] S22:=ent_ (m:=md22) (c:=(Tryz.f22.body.getD .skip)) (fun _ _ _ _=>by kernel_rfl) Tryz.func22 rfl rfl rfl
def md60:Nat->Hint
 |_=>mh false [] [] [] false
def S60:Prop:=
 o_ G (Instr.box 26 (r 0)) h fun v0 h0=>o_ G (Instr.box 28 (r 1)) h0 fun v1 h1=>o_ G (Instr.loadAt 26 v0) h1 fun v2 h2=>o_ G (Instr.loadAt 28 v1) h2 fun v3 h3=>
 c_ G 82 #[v2,v3] h3 fun v4 h4=>g_ v4 true (o_ G (Instr.fieldAt 26 v0 3) h4) h4 fun v5 h5=>g_ v4 true (o_ G (Instr.loadAt 22 v5) h5) h5 fun v6 h6=>g_ v4 true (o_ G (Instr.loadAt 28 v1) h6) h6 fun v7 h7=>g_ v4 true (c_ G 83 #[v6,v7] h7) h7 fun v8 h8=>g_ v4 true (opH P_ G (xEq .eql 3 (.tmp 0) (.const .nilFunc) v8 (.int .i64 0)) h8) h8 fun v9 h9=>
 opH P_ G (bj v4 v9 (.bool false)) h9 fun v10 h10=>
 K .ret (u4 (u10 r 2 v0 3 v1 4 (.bool false) 5 v2 6 v3 7 v4 8 v4 9 v5 10 v6 11 v7) 12 v8 13 v9 14 v10 4 v10) h10
theorem enter60:Ent 15 60 [.tmp 4] S60:=ent_ (m:=md60) (c:=(Tryz.f60.body.getD .skip)) (fun _ _ _ _=>by kernel_rfl) Tryz.func60 rfl rfl rfl
def md159:Nat->Hint
 |4=>mh false [0,1,0,7,15,0,63] [n_,m_,n_,n_,m_,m_,m_] (fs 7) false
 |_=>mh false [] [] [] false
def Qt (G:Hp) (K:EK) (r:Rg) (h:Hp):Prop:=
 K .ret (upd r 4 (.int .i64 (-1))) h
def J0:Prop:=
 o_ G (binOp .add 3 (r 5) (.int .i64 1)) h fun v6 h6=>
 K .normal (u3 r 11 (r 5) 12 v6 5 v6) h6
def J1:Prop:=
 p_ (Instr.fieldAt 26 (r 2) 4) h fun v7 h7=>
 w_ G h (Instr.loadAt 22 v7) h7 fun v8 h8=>
 p_ (Instr.indexAt 22 v8 (r 5)) h8 fun v9 h9=>
 w_ G h (Instr.loadAt 28 v9) h9 fun v10 h10=>
 w_ G h (Instr.loadAt 28 (r 3)) h10 fun v11 h11=>
 bm P_ G h (xEq .eql 28 (.tmp 0) (.tmp 0) v10 v11) h11 fun v12 h12=>
 (fun q=>cond v12
 (K .ret (u2 q 20 (r 5) 4 (r 5)) h12)
 (J0 G K q h12))
 (u7 r 13 v7 14 v8 15 (r 5) 16 v9 17 v10 18 v11 19 v12)
def Yj (r:Rg) (h:Hp) (K:EK):Prop:=
 o_ G (Instr.fieldAt 26 (r 2) 4) h fun v2 h2=>o_ G (Instr.loadAt 22 v2) h2 fun v3 h3=>o_ G (Builtin.len_ #[22] 3 #[v3]) h3 fun v4 h4=>o_ G (binOp .lss 3 (r 5) v4) h4 fun v5 h5=>
 cond v5
 (J1 G K (u5 r 6 (r 5) 7 v2 8 v3 9 v4 10 v5) h5)
 (K (.exit 0) (u5 r 6 (r 5) 7 v2 8 v3 9 v4 10 v5) h5)
def S159:Prop:=
 o_ G (Instr.box 26 (r 0)) h fun v0 h0=>o_ G (Instr.box 28 (r 1)) h0 fun v1 h1=>
 dl (Yj G) (u4 r 2 v0 3 v1 4 (.int .i64 0) 5 (.int .i64 0)) h1 (bo 0 (ci (Qt G K) K))
theorem ap5:Ent 21 159 [.tmp 4] S159:=ent_ (m:=md159) (c:=(Tryz.f159.body.getD .skip)) (fun _ _ _ _=>by kernel_rfl) Tryz.func159 rfl rfl rfl
def md133:Nat->Hint
 |_=>mh false [] [] [] false
def S133:Prop:=
 o_ G (Instr.box 26 (r 0)) h fun v0 h0=>o_ G (Instr.box 28 (r 1)) h0 fun v1 h1=>o_ G (Instr.loadAt 26 v0) h1 fun v2 h2=>o_ G (Instr.loadAt 28 v1) h2 fun v3 h3=>
 c_ G 60 #[v2,v3] h3 fun v4 h4=>g_ v4 true (o_ G (Instr.loadAt 26 v0) h4) h4 fun v5 h5=>g_ v4 true (o_ G (Instr.loadAt 28 v1) h5) h5 fun v6 h6=>g_ v4 true (c_ G 159 #[v5,v6] h6) h6 fun v7 h7=>g_ v4 true (o_ G (binOp .lss 3 v7 (.int .i64 0)) h7) h7 fun v8 h8=>
 opH P_ G (bj v4 v8 (.bool false)) h8 fun v9 h9=>g_ v9 true (o_ G (Instr.loadAt 26 v0) h9) h9 fun v10 h10=>g_ v9 true (o_ G (Instr.loadAt 28 v1) h10) h10 fun v11 h11=>g_ v9 true (c_ G 84 #[v10,v11] h11) h11 fun v12 h12=>g_ v9 true (o_ G (Op.unary .not v12) h12) h12 fun v13 h13=>
 opH P_ G (bj v9 v13 (.bool false)) h13 fun v14 h14=>g_ v14 true (o_ G (Instr.loadAt 26 v0) h14) h14 fun v15 h15=>g_ v14 true (o_ G (Instr.loadAt 28 v1) h15) h15 fun v16 h16=>g_ v14 true (c_ G 85 #[v15,v16] h16) h16 fun v17 h17=>
 opH P_ G (bj v14 v17 (.bool false)) h17 fun v18 h18=>
 K .ret (u4 (u10 (u10 r 2 v0 3 v1 4 (.bool false) 5 v2 6 v3 7 v4 8 v4 9 v5 10 v6 11 v7) 12 v8 13 v9 14 v9 15 v10 16 v11 17 v12 18 v13 19 v14 20 v14 21 v15) 22 v16 23 v17 24 v18 4 v18) h18
theorem ar4:Ent 25 133 [.tmp 4] S133:=ent_ (m:=md133) (c:=(Tryz.f133.body.getD .skip)) (fun _ _ _ _=>by kernel_rfl) Tryz.func133 rfl rfl rfl
def md41:Nat->Hint
 |_=>mh false [] [] [] false
def az7:Prop:=
 o_ G (Instr.fieldAt 28 (r 3) 1) h fun v6 h6=>o_ G (Instr.loadAt 3 v6) h6 fun v7 h7=>o_ G (Instr.fieldAt 26 (r 2) 0) h7 fun v8 h8=>o_ G (Instr.loadAt 3 v8) h8 fun v9 h9=>o_ G (binOp .mul 3 v7 v9) h9 fun v10 h10=>o_ G (Instr.fieldAt 28 (r 3) 0) h10 fun v11 h11=>o_ G (Instr.loadAt 3 v11) h11 fun v12 h12=>o_ G (binOp .add 3 v10 v12) h12 fun v13 h13=>
 K .ret (u9 r 9 v6 10 v7 11 v8 12 v9 13 v10 14 v11 15 v12 16 v13 4 v13) h13
def S41:Prop:=
 o_ G (Instr.box 26 (r 0)) h fun v0 h0=>o_ G (Instr.box 28 (r 1)) h0 fun v1 h1=>o_ G (Instr.loadAt 26 v0) h1 fun v2 h2=>o_ G (Instr.loadAt 28 v1) h2 fun v3 h3=>
 c_ G 82 #[v2,v3] h3 fun v4 h4=>o_ G (Op.unary .not v4) h4 fun v5 h5=>
 (fun q=>cond v5
 (K .ret (upd q 4 (.int .i64 (-1))) h5)
 (az7 G K q h5))
 (u7 r 2 v0 3 v1 4 (.int .i64 0) 5 v2 6 v3 7 v4 8 v5)
theorem enter41:Ent 17 41 [.tmp 4] S41:=ent_ (m:=md41) (c:=(Tryz.f41.body.getD .skip)) (fun _ _ _ _=>by kernel_rfl) Tryz.func41 rfl rfl rfl
def md81:Nat->Hint
 |_=>mh false [] [] [] false
def S81:Prop:=
 o_ G (Instr.box 26 (r 0)) h fun v0 h0=>o_ G (Instr.fieldAt 26 v0 0) h0 fun v1 h1=>o_ G (Instr.loadAt 3 v1) h1 fun v2 h2=>
 c_ G 98 #[v2,(.int .i64 1),(.int .i64 16)] h2 fun v3 h3=>g_ v3 true (o_ G (Instr.fieldAt 26 v0 1) h3) h3 fun v4 h4=>g_ v3 true (o_ G (Instr.loadAt 3 v4) h4) h4 fun v5 h5=>g_ v3 true (c_ G 98 #[v5,(.int .i64 1),(.int .i64 16)] h5) h5 fun v6 h6=>
 opH P_ G (bj v3 v6 (.bool false)) h6 fun v7 h7=>g_ v7 true (o_ G (Instr.fieldAt 26 v0 2) h7) h7 fun v8 h8=>g_ v7 true (o_ G (Instr.loadAt 3 v8) h8) h8 fun v9 h9=>g_ v7 true (c_ G 98 #[v9,(.int .i64 1),(.int .i64 8)] h9) h9 fun v10 h10=>
 opH P_ G (bj v7 v10 (.bool false)) h10 fun v11 h11=>g_ v11 true (o_ G (Instr.fieldAt 26 v0 7) h11) h11 fun v12 h12=>g_ v11 true (o_ G (Instr.loadAt 3 v12) h12) h12 fun v13 h13=>g_ v11 true (c_ G 98 #[v13,(.int .i64 1),(.int .i64 1000)] h13) h13 fun v14 h14=>
 opH P_ G (bj v11 v14 (.bool false)) h14 fun v15 h15=>g_ v15 true (o_ G (Instr.fieldAt 26 v0 8) h15) h15 fun v16 h16=>g_ v15 true (o_ G (Instr.loadAt 3 v16) h16) h16 fun v17 h17=>g_ v15 true (c_ G 98 #[v17,(.int .i64 1),(.int .i64 1000)] h17) h17 fun v18 h18=>
 opH P_ G (bj v15 v18 (.bool false)) h18 fun v19 h19=>g_ v19 true (o_ G (Instr.fieldAt 26 v0 9) h19) h19 fun v20 h20=>g_ v19 true (o_ G (Instr.loadAt 3 v20) h20) h20 fun v21 h21=>g_ v19 true (c_ G 98 #[v21,(.int .i64 1),(.int .i64 1000)] h21) h21 fun v22 h22=>
 opH P_ G (bj v19 v22 (.bool false)) h22 fun v23 h23=>g_ v23 true (o_ G (Instr.fieldAt 26 v0 10) h23) h23 fun v24 h24=>g_ v23 true (o_ G (Instr.loadAt 3 v24) h24) h24 fun v25 h25=>g_ v23 true (c_ G 98 #[v25,(.int .i64 1),(.int .i64 1000)] h25) h25 fun v26 h26=>
 opH P_ G (bj v23 v26 (.bool false)) h26 fun v27 h27=>g_ v27 true (o_ G (Instr.fieldAt 26 v0 11) h27) h27 fun v28 h28=>g_ v27 true (o_ G (Instr.loadAt 3 v28) h28) h28 fun v29 h29=>g_ v27 true (c_ G 98 #[v29,(.int .i64 1),(.int .i64 1000)] h29) h29 fun v30 h30=>
 opH P_ G (bj v27 v30 (.bool false)) h30 fun v31 h31=>g_ v31 true (o_ G (Instr.fieldAt 26 v0 13) h31) h31 fun v32 h32=>g_ v31 true (o_ G (Instr.loadAt 3 v32) h32) h32 fun v33 h33=>g_ v31 true (c_ G 98 #[v33,(.int .i64 1),(.int .i64 1000)] h33) h33 fun v34 h34=>
 opH P_ G (bj v31 v34 (.bool false)) h34 fun v35 h35=>g_ v35 true (o_ G (Instr.fieldAt 26 v0 12) h35) h35 fun v36 h36=>g_ v35 true (o_ G (Instr.loadAt 3 v36) h36) h36 fun v37 h37=>g_ v35 true (c_ G 98 #[v37,(.int .i64 1),(.int .i64 16)] h37) h37 fun v38 h38=>
 opH P_ G (bj v35 v38 (.bool false)) h38 fun v39 h39=>g_ v39 true (o_ G (Instr.fieldAt 26 v0 14) h39) h39 fun v40 h40=>g_ v39 true (o_ G (Instr.loadAt 3 v40) h40) h40 fun v41 h41=>g_ v39 true (c_ G 98 #[v41,(.int .i64 1),(.int .i64 1048576)] h41) h41 fun v42 h42=>
 opH P_ G (bj v39 v42 (.bool false)) h42 fun v43 h43=>
 K .ret (u6 (u10 (u10 (u10 (u10 (u10 r 1 v0 2 (.bool false) 3 v1 4 v2 5 v3 6 v3 7 v4 8 v5 9 v6 10 v7) 11 v7 12 v8 13 v9 14 v10 15 v11 16 v11 17 v12 18 v13 19 v14 20 v15) 21 v15 22 v16 23 v17 24 v18 25 v19 26 v19 27 v20 28 v21 29 v22 30 v23) 31 v23 32 v24 33 v25 34 v26 35 v27 36 v27 37 v28 38 v29 39 v30 40 v31) 41 v31 42 v32 43 v33 44 v34 45 v35 46 v35 47 v36 48 v37 49 v38 50 v39) 51 v39 52 v40 53 v41 54 v42 55 v43 2 v43) h43
theorem enter81:Ent 56 81 [.tmp 2] S81:=ent_ (m:=md81) (c:=(Tryz.f81.body.getD .skip)) (fun _ _ _ _=>by kernel_rfl) Tryz.func81 rfl rfl rfl
def md82:Nat->Hint
 |_=>mh false [] [] [] false
def S82:Prop:=
 o_ G (Instr.box 26 (r 0)) h fun v0 h0=>o_ G (Instr.box 28 (r 1)) h0 fun v1 h1=>o_ G (Instr.fieldAt 28 v1 0) h1 fun v2 h2=>o_ G (Instr.loadAt 3 v2) h2 fun v3 h3=>o_ G (binOp .geq 3 v3 (.int .i64 0)) h3 fun v4 h4=>g_ v4 true (o_ G (Instr.fieldAt 28 v1 1) h4) h4 fun v5 h5=>g_ v4 true (o_ G (Instr.loadAt 3 v5) h5) h5 fun v6 h6=>g_ v4 true (o_ G (binOp .geq 3 v6 (.int .i64 0)) h6) h6 fun v7 h7=>
 opH P_ G (bj v4 v7 (.bool false)) h7 fun v8 h8=>g_ v8 true (o_ G (Instr.fieldAt 28 v1 0) h8) h8 fun v9 h9=>g_ v8 true (o_ G (Instr.loadAt 3 v9) h9) h9 fun v10 h10=>g_ v8 true (o_ G (Instr.fieldAt 26 v0 0) h10) h10 fun v11 h11=>g_ v8 true (o_ G (Instr.loadAt 3 v11) h11) h11 fun v12 h12=>g_ v8 true (o_ G (binOp .lss 3 v10 v12) h12) h12 fun v13 h13=>
 opH P_ G (bj v8 v13 (.bool false)) h13 fun v14 h14=>g_ v14 true (o_ G (Instr.fieldAt 28 v1 1) h14) h14 fun v15 h15=>g_ v14 true (o_ G (Instr.loadAt 3 v15) h15) h15 fun v16 h16=>g_ v14 true (o_ G (Instr.fieldAt 26 v0 1) h16) h16 fun v17 h17=>g_ v14 true (o_ G (Instr.loadAt 3 v17) h17) h17 fun v18 h18=>g_ v14 true (o_ G (binOp .lss 3 v16 v18) h18) h18 fun v19 h19=>
 opH P_ G (bj v14 v19 (.bool false)) h19 fun v20 h20=>
 K .ret (u6 (u10 (u10 r 2 v0 3 v1 4 (.bool false) 5 v2 6 v3 7 v4 8 v4 9 v5 10 v6 11 v7) 12 v8 13 v8 14 v9 15 v10 16 v11 17 v12 18 v13 19 v14 20 v14 21 v15) 22 v16 23 v17 24 v18 25 v19 26 v20 4 v20) h20
theorem enter82:Ent 27 82 [.tmp 4] S82:=ent_ (m:=md82) (c:=(Tryz.f82.body.getD .skip)) (fun _ _ _ _=>by kernel_rfl) Tryz.func82 rfl rfl rfl
def md83:Nat->Hint
 |5=>mh false [0,0,3,7,0,31] [n_,n_,n_,m_,m_,m_] (fs 6) false
 |_=>mh false [] [] [] false
def V8 (G:Hp) (K:EK) (r:Rg) (h:Hp):Prop:=
 K .ret (u2 r 21 (r 5) 4 (r 5)) h
def Aw:Prop:=
 o_ G (binOp .add 3 (r 6) (.int .i64 1)) h fun v3 h3=>
 K .normal (u3 r 11 (r 6) 12 v3 6 v3) h3
def Nm:Prop:=
 p_ (Instr.indexAt 22 (r 0) (r 6)) h fun v4 h4=>
 w_ G h (Instr.loadAt 28 v4) h4 fun v5 h5=>
 w_ G h (Instr.loadAt 28 (r 3)) h5 fun v6 h6=>
 bm P_ G h (xEq .eql 28 (.tmp 0) (.tmp 0) v5 v6) h6 fun v7 h7=>
 cond v7
 (o_ G (binOp .add 3 (r 5) (.int .i64 1)) h7 fun v8 h8=>
 Aw G K (u9 r 13 (r 0) 14 (r 6) 15 v4 16 v5 17 v6 18 v7 19 (r 5) 20 v8 5 v8) h8)
 (Aw G K (u6 r 13 (r 0) 14 (r 6) 15 v4 16 v5 17 v6 18 v7) h7)
def ax0 (r:Rg) (h:Hp) (K:EK):Prop:=
 o_ G (Builtin.len_ #[22] 3 #[(r 0)]) h fun v1 h1=>o_ G (binOp .lss 3 (r 6) v1) h1 fun v2 h2=>
 cond v2
 (Nm G K (u4 r 7 (r 6) 8 (r 0) 9 v1 10 v2) h2)
 (K (.exit 0) (u4 r 7 (r 6) 8 (r 0) 9 v1 10 v2) h2)
def S83:Prop:=
 o_ G (Instr.box 28 (r 1)) h fun v0 h0=>
 dl (ax0 G) (u4 r 3 v0 4 (.int .i64 0) 5 (.int .i64 0) 6 (.int .i64 0)) h0 (bo 0 (ci (V8 G K) K))
theorem enter83:Ent 22 83 [.tmp 4] S83:=ent_ (m:=md83) (c:=(Tryz.f83.body.getD .skip)) (fun _ _ _ _=>by kernel_rfl) Tryz.func83 rfl rfl rfl
def md84:Nat->Hint
 |4=>mh false [0,1,0,7,15,31,0,127,255] [n_,m_,n_,n_,m_,e_,m_,e_,n_] [false,false,false,false,false,true,false,false,false] true
 |_=>mh false [] [] [] false
def V7 (G:Hp) (K:EK) (r:Rg) (h:Hp):Prop:=
 K .ret (upd r 4 (.bool false)) h
def Nk:Prop:=
 o_ G (binOp .add 3 (r 5) (.int .i64 1)) h fun v6 h6=>
 K .normal (u3 r 11 (r 5) 12 v6 5 v6) h6
def Nl:Prop:=
 ∃q7:Hp,q7.le h/\
 p_ (Instr.fieldAt 26 (r 2) 5) h fun v8 h8=>
 w_ G q7 (Instr.loadAt 23 v8) h8 fun v9 h9=>
 p_ (Instr.indexAt 23 v9 (r 5)) h9 fun v10 h10=>
 w_ G q7 (Instr.loadAt 30 v10) h10 fun v11 h11=>
 c_ G 40 #[v11] h11 fun v12 h12=>q7.le h12/\
 w_ G q7 (Instr.loadAt 28 (r 3)) h12 fun v13 h13=>
 c_ G 83 #[v12,v13] h13 fun v14 h14=>
 p_ (binOp .gtr 3 v14 (.int .i64 0)) h14 fun v15 h15=>
 (fun q=>cond v15
 (K .ret (upd q 4 (.bool true)) h15)
 (Nk G K q h15))
 (u9 r 13 v8 14 v9 15 (r 5) 16 v10 17 v11 18 v12 19 v13 20 v14 21 v15)
def aw9 (r:Rg) (h:Hp) (K:EK):Prop:=
 o_ G (Instr.fieldAt 26 (r 2) 5) h fun v2 h2=>o_ G (Instr.loadAt 23 v2) h2 fun v3 h3=>o_ G (Builtin.len_ #[23] 3 #[v3]) h3 fun v4 h4=>o_ G (binOp .lss 3 (r 5) v4) h4 fun v5 h5=>
 cond v5
 (Nl G K (u5 r 6 (r 5) 7 v2 8 v3 9 v4 10 v5) h5)
 (K (.exit 0) (u5 r 6 (r 5) 7 v2 8 v3 9 v4 10 v5) h5)
def S84:Prop:=
 o_ G (Instr.box 26 (r 0)) h fun v0 h0=>o_ G (Instr.box 28 (r 1)) h0 fun v1 h1=>
 dl (aw9 G) (u4 r 2 v0 3 v1 4 (.bool false) 5 (.int .i64 0)) h1 (bo 0 (ci (V7 G K) K))
theorem enter84:Ent 22 84 [.tmp 4] S84:=ent_ (m:=md84) (c:=(Tryz.f84.body.getD .skip)) (fun _ _ _ _=>by kernel_rfl) Tryz.func84 rfl rfl rfl
def md85:Nat->Hint
 |_=>mh false [] [] [] false
def S85:Prop:=
 o_ G (Instr.box 26 (r 0)) h fun v0 h0=>o_ G (Instr.box 28 (r 1)) h0 fun v1 h1=>o_ G (Instr.loadAt 26 v0) h1 fun v2 h2=>o_ G (Instr.fieldAt 28 v1 0) h2 fun v3 h3=>o_ G (Instr.loadAt 3 v3) h3 fun v4 h4=>o_ G (binOp .add 3 v4 (.int .i64 1)) h4 fun v5 h5=>o_ G (Instr.fieldAt 28 v1 1) h5 fun v6 h6=>o_ G (Instr.loadAt 3 v6) h6 fun v7 h7=>o_ G (Instr.build 28 #[(0,v5),(1,v7)]) h7 fun v8 h8=>
 c_ G 60 #[v2,v8] h8 fun v9 h9=>g_ v9 false (o_ G (Instr.loadAt 26 v0) h9) h9 fun v10 h10=>g_ v9 false (o_ G (Instr.fieldAt 28 v1 0) h10) h10 fun v11 h11=>g_ v9 false (o_ G (Instr.loadAt 3 v11) h11) h11 fun v12 h12=>g_ v9 false (o_ G (Instr.fieldAt 28 v1 1) h12) h12 fun v13 h13=>g_ v9 false (o_ G (Instr.loadAt 3 v13) h13) h13 fun v14 h14=>g_ v9 false (o_ G (binOp .add 3 v14 (.int .i64 1)) h14) h14 fun v15 h15=>g_ v9 false (o_ G (Instr.build 28 #[(0,v12),(1,v15)]) h15) h15 fun v16 h16=>g_ v9 false (c_ G 60 #[v10,v16] h16) h16 fun v17 h17=>
 opH P_ G (bj v9 (.bool true) v17) h17 fun v18 h18=>
 K .ret (u2 (u10 (u10 r 2 v0 3 v1 4 (.bool false) 5 v2 6 v3 7 v4 8 v5 9 v6 10 v7 11 v8) 12 v9 13 v9 14 v10 15 v11 16 v12 17 v13 18 v14 19 v15 20 v16 21 v17) 22 v18 4 v18) h18
theorem enter85:Ent 23 85 [.tmp 4] S85:=ent_ (m:=md85) (c:=(Tryz.f85.body.getD .skip)) (fun _ _ _ _=>by kernel_rfl) Tryz.func85 rfl rfl rfl
def md86:Nat->Hint
 |5=>⟨false,[0,1,3,7,7,23,7,119,247,503,1023,2047,4095,8191,16383,32767,16383,131071,262143,524287,1048575,16383,2113535,8388607,16777215],[.pureN,.pureN,.pureN,.pureM,.pureN,.pureM,.pureN,.pureN,.pureN,.pureM,.eff,.pureN,.pureN,.pureN,.pureN,.pureM,.pureN,.pureN,.pureN,.pureM,.pureM,.pureN,.pureM,.pureN,.pureN],[.pureN,.pureN,.pureN,.pureM,.pureN,.pureM,.pureN,.pureN,.pureN,.pureM,.eff,.pureN,.pureN,.pureN,.pureN,.late,.pureN,.pureN,.pureN,.late,.late,.pureN,.late,.pureN,.pureN],[false,false,false,false,false,false,false,false,false,false,false,false,false,false,false,false,false,false,false,false,false,false,false,false,false],false⟩
 |10=>mh false [0,1,0,7,15,31,0,64,0,448,960,1984,4095] [n_,m_,n_,n_,n_,m_,n_,m_,n_,n_,n_,m_,m_] (fs 13) false
 |23=>mh false [0,0,3,7,0,0,48,112,255] [n_,n_,n_,m_,n_,n_,n_,m_,m_] (fs 9) false
 |_=>mh false [] [] [] false
def aw7 (G:Hp) (K:EK) (r:Rg) (h:Hp):Prop:=
 K .ret (upd r 2 (.bool true)) h
def Ni:Prop:=
 o_ G (binOp .add 3 (r 6) (.int .i64 1)) h fun v5 h5=>
 K .normal (u3 r 73 (r 6) 74 v5 6 v5) h5
def Bi:Prop:=
 o_ G (binOp .add 3 (r 7) (.int .i64 1)) h fun v11 h11=>
 K .normal (u3 r 84 (r 7) 85 v11 7 v11) h11
def Dx:Prop:=
 p_ (Instr.indexAt 168 (r 3) (r 7)) h fun v12 h12=>
 w_ G h (Instr.loadAt 3 v12) h12 fun v13 h13=>
 p_ (Instr.indexAt 168 (r 3) (r 6)) h13 fun v14 h14=>
 w_ G h (Instr.loadAt 3 v14) h14 fun v15 h15=>
 bm P_ G h (xEq .eql 3 (.tmp 0) (.tmp 0) v13 v15) h15 fun v16 h16=>
 (fun q=>cond v16
 (K .ret (upd q 2 (.bool false)) h16)
 (Bi G K q h16))
 (u9 r 86 (r 3) 87 (r 7) 88 v12 89 v13 90 (r 3) 91 (r 6) 92 v14 93 v15 94 v16)
def E4 (r:Rg) (h:Hp) (K:EK):Prop:=
 o_ G (binOp .lss 3 (r 7) (r 6)) h fun v10 h10=>
 cond v10
 (Dx G K (u3 r 81 (r 7) 82 (r 6) 83 v10) h10)
 (K (.exit 6) (u3 r 81 (r 7) 82 (r 6) 83 v10) h10)
def Nh:Prop:=
 dl (E4 G) (upd r 7 (.int .i64 0)) h (bo 6 (bo 5 (ci (Ni G K) K)))
def Nj:Prop:=
 o_ G (Instr.indexAt 168 (r 3) (r 6)) h fun v6 h6=>o_ G (Instr.loadAt 3 v6) h6 fun v7 h7=>
 c_ G 98 #[v7,(.int .i64 1),(.int .i64 1000000000)] h7 fun v8 h8=>o_ G (Op.unary .not v8) h8 fun v9 h9=>
 (fun q=>cond v9
 (K .ret (upd q 2 (.bool false)) h9)
 (Nh G K q h9))
 (u6 r 75 (r 3) 76 (r 6) 77 v6 78 v7 79 v8 80 v9)
def aw6 (r:Rg) (h:Hp) (K:EK):Prop:=
 o_ G (Builtin.len_ #[168] 3 #[(r 3)]) h fun v3 h3=>o_ G (binOp .lss 3 (r 6) v3) h3 fun v4 h4=>
 cond v4
 (Nj G K (u4 r 69 (r 6) 70 (r 3) 71 v3 72 v4) h4)
 (K (.exit 4) (u4 r 69 (r 6) 70 (r 3) 71 v3 72 v4) h4)
def aw8:Prop:=
 dl (aw6 G) (upd r 6 (.int .i64 0)) h (bo 4 (ci (aw7 G K) K))
def V6:Prop:=
 o_ G (Builtin.len_ #[168] 3 #[(r 3)]) h fun v1 h1=>o_ G (binOp .gtr 3 v1 (.int .i64 512)) h1 fun v2 h2=>
 cond v2
 (K .ret (u4 r 66 (r 3) 67 v1 68 v2 2 (.bool false)) h2)
 (aw8 G K (u3 r 66 (r 3) 67 v1 68 v2) h2)
def Aa:Prop:=
 o_ G (binOp .add 3 (r 4) (.int .i64 1)) h fun v21 h21=>
 K .normal (u3 r 13 (r 4) 14 v21 4 v21) h21
def Ga:Prop:=
 o_ G (Instr.fieldAt 26 (r 1) 6) h fun v44 h44=>o_ G (Instr.loadAt 24 v44) h44 fun v45 h45=>o_ G (Instr.indexAt 24 v45 (r 4)) h45 fun v46 h46=>o_ G (Instr.fieldAt 234 v46 1) h46 fun v47 h47=>o_ G (Instr.loadAt 168 v47) h47 fun v48 h48=>o_ G (Builtin.append_ #[168,168] 168 #[(r 3),v48]) h48 fun v49 h49=>
 Aa G K (u9 r 58 (r 3) 59 v44 60 v45 61 (r 4) 62 v46 63 v47 64 v48 65 v49 3 v49) h49
def ye:Prop:=
 o_ G (binOp .add 3 (r 5) (.int .i64 1)) h fun v51 h51=>
 K .normal (u3 r 43 (r 5) 44 v51 5 v51) h51
def yf:Prop:=
 p_ (Instr.fieldAt 26 (r 1) 6) h fun v52 h52=>
 w_ G h (Instr.loadAt 24 v52) h52 fun v53 h53=>
 p_ (Instr.indexAt 24 v53 (r 5)) h53 fun v54 h54=>
 p_ (Instr.fieldAt 234 v54 0) h54 fun v55 h55=>
 w_ G h (Instr.loadAt 28 v55) h55 fun v56 h56=>
 p_ (Instr.fieldAt 26 (r 1) 6) h56 fun v57 h57=>
 w_ G h (Instr.loadAt 24 v57) h57 fun v58 h58=>
 p_ (Instr.indexAt 24 v58 (r 4)) h58 fun v59 h59=>
 p_ (Instr.fieldAt 234 v59 0) h59 fun v60 h60=>
 w_ G h (Instr.loadAt 28 v60) h60 fun v61 h61=>
 bm P_ G h (xEq .eql 28 (.tmp 0) (.tmp 0) v56 v61) h61 fun v62 h62=>
 (fun q=>cond v62
 (K .ret (upd q 2 (.bool false)) h62)
 (ye G K q h62))
 (u3 (u10 r 45 v52 46 v53 47 (r 5) 48 v54 49 v55 50 v56 51 v57 52 v58 53 (r 4) 54 v59) 55 v60 56 v61 57 v62)
def zz (r:Rg) (h:Hp) (K:EK):Prop:=
 o_ G (binOp .lss 3 (r 5) (r 4)) h fun v50 h50=>
 cond v50
 (yf G K (u3 r 40 (r 5) 41 (r 4) 42 v50) h50)
 (K (.exit 2) (u3 r 40 (r 5) 41 (r 4) 42 v50) h50)
def Gb:Prop:=
 dl (zz G) (upd r 5 (.int .i64 0)) h (bo 2 (ci (Ga G K) (bo 1 (ci (Aa G K) K))))
def Gc:Prop:=
 p_ (binOp .gtr 3 (r 4) (.int .i64 256)) h fun v22 h22=>g_ v22 false (w_ G h (Instr.loadAt 26 (r 1)) h22) h22 fun v23 h23=>g_ v22 false (p_ (Instr.fieldAt 26 (r 1) 6) h23) h23 fun v24 h24=>g_ v22 false (w_ G h (Instr.loadAt 24 v24) h24) h24 fun v25 h25=>g_ v22 false (fun K1=>K1 (r 4) h25) h25 fun v26 h26=>g_ v22 false (p_ (Instr.indexAt 24 v25 v26) h26) h26 fun v27 h27=>g_ v22 false (p_ (Instr.fieldAt 234 v27 0) h27) h27 fun v28 h28=>g_ v22 false (w_ G h (Instr.loadAt 28 v28) h28) h28 fun v29 h29=>g_ v22 false (c_ G 133 #[v23,v29] h29) h29 fun v30 h30=>g_ v22 false (p_ (Op.unary .not v30) h30) h30 fun v31 h31=>
 bm P_ noHp noHp (bj v22 (.bool true) v31) h31 fun v32 h32=>g_ v32 false (p_ (Instr.fieldAt 26 (r 1) 6) h32) h32 fun v33 h33=>g_ v32 false (w_ G h33 (Instr.loadAt 24 v33) h33) h33 fun v34 h34=>g_ v32 false (fun K1=>K1 (r 4) h34) h34 fun v35 h35=>g_ v32 false (p_ (Instr.indexAt 24 v34 v35) h35) h35 fun v36 h36=>g_ v32 false (p_ (Instr.fieldAt 234 v36 1) h36) h36 fun v37 h37=>g_ v32 false (w_ G h37 (Instr.loadAt 168 v37) h37) h37 fun v38 h38=>g_ v32 false (w_ G h38 (Builtin.len_ #[168] 3 #[v38]) h38) h38 fun v39 h39=>g_ v32 false (p_ (Instr.fieldAt 26 (r 1) 2) h39) h39 fun v40 h40=>g_ v32 false (w_ G h40 (Instr.loadAt 3 v40) h40) h40 fun v41 h41=>g_ v32 false (p_ (binOp .gtr 3 v39 v41) h41) h41 fun v42 h42=>
 bm P_ noHp noHp (bj v32 (.bool true) v42) h42 fun v43 h43=>
 (fun q=>cond v43
 (K .ret (upd q 2 (.bool false)) h43)
 (Gb G K q h43))
 (u5 (u10 (u10 r 15 (r 4) 16 v22 17 v22 18 v23 19 v24 20 v25 21 v26 22 v27 23 v28 24 v29) 25 v30 26 v31 27 v32 28 v32 29 v33 30 v34 31 v35 32 v36 33 v37 34 v38) 35 v39 36 v40 37 v41 38 v42 39 v43)
def X9 (r:Rg) (h:Hp) (K:EK):Prop:=
 o_ G (Instr.fieldAt 26 (r 1) 6) h fun v17 h17=>o_ G (Instr.loadAt 24 v17) h17 fun v18 h18=>o_ G (Builtin.len_ #[24] 3 #[v18]) h18 fun v19 h19=>o_ G (binOp .lss 3 (r 4) v19) h19 fun v20 h20=>
 (fun q=>cond v20
 (Gc G K q h20)
 (K (.exit 0) q h20))
 (u5 r 8 (r 4) 9 v17 10 v18 11 v19 12 v20)
def S86:Prop:=
 o_ G (Instr.box 26 (r 0)) h fun v0 h0=>
 dl (X9 G) (u4 r 1 v0 2 (.bool false) 3 (.slice none 0 0) 4 (.int .i64 0)) h0 (bo 0 (ci (V6 G K) K))
theorem enter86:Ent 95 86 [.tmp 2] S86:=ent_ (m:=md86) (c:=(Tryz.f86.body.getD .skip)) (fun _ _ _ _=>by kernel_rfl) Tryz.func86 rfl rfl rfl
def md98:Nat->Hint
 |_=>mh false [] [] [] false
def S98:Prop:=
 o_ G (binOp .geq 3 (r 0) (r 1)) h fun v0 h0=>g_ v0 true (fun K1=>K1 (r 0) h0) h0 fun v1 h1=>g_ v0 true (fun K1=>K1 (r 2) h1) h1 fun v2 h2=>g_ v0 true (o_ G (binOp .leq 3 v1 v2) h2) h2 fun v3 h3=>
 opH P_ G (bj v0 v3 (.bool false)) h3 fun v4 h4=>
 K .ret (u10 r 6 (.bool false) 7 (r 0) 8 (r 1) 9 v0 10 v0 11 v1 12 v2 13 v3 14 v4 6 v4) h4
theorem enter98:Ent 15 98 [.tmp 6] S98:=ent_ (m:=md98) (c:=(Tryz.f98.body.getD .skip)) (fun _ _ _ _=>by kernel_rfl) Tryz.func98 rfl rfl rfl
end
def bRpA:=jq bC (jq (jq (jq @Bool.and_true (jq @Bool.true_and @rq)) (jq @ue (jq @X0 @Bz))) (jq (jq @E0 (jq @zr @Bv)) (jq (jq @t6 @ld3) (jq @ln22 @true_and))))
abbrev Cell:=Int × Int
structure Pose where
 x:Int
 y:Int
 d:Bool
 deriving DecidableEq
structure Raw where
 x:Int
 y:Int
 a:Option Addr
 n:Nat
 c:Nat
structure Conf where
 w:Int
 h:Int
 ht:Int
 bl:List Cell
 po:List Cell
 ro:List Pose
 st:List (Cell × List Int)
 un:Int
 ac:Int
 sp:Int
 tu:Int
 ho:Int
 qu:Int
 re:Int
 bu:Int
 back:Bool
def dr:Cod Cell:=⟨2,fun x=>[.int .i64 x.1,.int .i64 x.2],fun _=>rfl,fun _ v hv=>by simp at hv;rcases hv with rfl|rfl<;>rfl⟩
def xu:Cod Pose:=⟨3,fun p=>[.int .i64 p.x,.int .i64 p.y,.bool p.d],fun _=>rfl,fun _ v hv=>by simp at hv;rcases hv with rfl|rfl|rfl<;>rfl⟩
def icC:Cod Int:=⟨1,fun x=>[.int .i64 x],fun _=>rfl,fun _ v hv=>by simp at hv;rcases hv with rfl;rfl⟩
def bcC:Cod Bool:=⟨1,fun x=>[.bool x],fun _=>rfl,fun _ v hv=>by simp at hv;rcases hv with rfl;rfl⟩
def rawC:Cod Raw:=⟨3,fun s=>[.int .i64 s.x,.int .i64 s.y,.slice s.a s.n s.c],fun _=>rfl,fun _ v hv=>by simp at hv;rcases hv with rfl|rfl|rfl<;>rfl⟩
abbrev uc (c:Cell):Value := .agg #[c.1,c.2]
abbrev ja (p:Pose):Value := .agg #[p.x,p.y,.bool p.d]
structure CA (G h:Hp) (C:Conf) (ab:Option Addr) (cb:Nat) (ap:Option Addr) (cp:Nat) (ar:Option Addr) (cr:Nat) (az:Option Addr) (cs:Nat):Prop where
 bl:Sees dr G h (.slice ab C.bl.length cb) C.bl
 po:Sees dr G h (.slice ap C.po.length cp) C.po
 ro:Sees xu G h (.slice ar C.ro.length cr) C.ro
 st:∃raw:List Raw,Sees rawC G h (.slice az C.st.length cs) raw/\∀(i:Nat) (r:Raw) (s:Cell × List Int),raw[i]?=some r->C.st[i]?=some s->(r.x,r.y)=s.1/\r.n=s.2.length/\Sees icC G h (.slice r.a s.2.length r.c) s.2
abbrev Tz (C:Conf) (ab:Option Addr) (cb:Nat) (ap:Option Addr) (cp:Nat) (ar:Option Addr) (cr:Nat) (az:Option Addr) (cs:Nat):Value:=
 .agg #[C.w,C.h,C.ht,.slice ab C.bl.length cb,.slice ap C.po.length cp,.slice ar C.ro.length cr,.slice az C.st.length cs,C.un,C.ac,C.sp,C.tu,C.ho,C.qu,C.re,C.bu,.bool C.back]
def CV (G h:Hp) (v:Value) (C:Conf):Prop:=∃ab cb ap cp ar cr az cs,v=Tz C ab cb ap cp ar cr az cs/\CA G h C ab cb ap cp ar cr az cs
theorem CA.up {G h h':Hp} {C:Conf} {ab:Option Addr} {cb:Nat} {ap:Option Addr} {cp:Nat} {ar:Option Addr} {cr:Nat} {az:Option Addr} {cs:Nat} (c:CA G h C ab cb ap cp ar cr az cs) (l:h.le h') (d:Dis G h'):CA G h' C ab cb ap cp ar cr az cs:=by
 obtain ⟨c1,c2,c3,raw,c4,c5⟩:=c
 exact ⟨c1.up l d,c2.up l d,c3.up l d,raw,c4.up l d,fun i r s h1 h2=>let ⟨a,b,c⟩:=c5 i r s h1 h2;⟨a,b,c.up l d⟩⟩
theorem CV.up {G h h':Hp} {v:Value} {C:Conf} (c:CV G h v C) (l:h.le h') (d:Dis G h'):CV G h' v C:=by
 obtain ⟨ab,cb,ap,cp,ar,cr,az,cs,e,c⟩:=c
 exact ⟨ab,cb,ap,cp,ar,cr,az,cs,e,c.up l d⟩
theorem CA.cv {G h:Hp} {C:Conf} {ab:Option Addr} {cb:Nat} {ap:Option Addr} {cp:Nat} {ar:Option Addr} {cr:Nat} {az:Option Addr} {cs:Nat} (c:CA G h C ab cb ap cp ar cr az cs):CV G h (Tz C ab cb ap cp ar cr az cs) C:=⟨ab,cb,ap,cp,ar,cr,az,cs,rfl,c⟩
def ax (n a b:Int):Bool:=decide (n>=a)&&decide (n<=b)
def inB (C:Conf) (c:Cell):Bool:=decide (c.1>=0)&&(decide (c.2>=0)&&(decide (c.1<C.w)&&decide (c.2<C.h)))
def nc (C:Conf) (c:Cell):Bool:=inB C c&&(C.bl.count c==0)
def wr (x:Int):Int:=IntKind.i64.wrap x
def east (p:Pose):Cell:=if p.d then (p.x,wr (p.y+1))else (wr (p.x+1),p.y)
def bz (p:Pose):List Cell:=[(p.x,p.y),east p]
def fi (C:Conf) (p:Pose):Bool:=nc C (p.x,p.y)&&nc C (east p)
def lj (C:Conf) (c:Cell):Bool:=nc C (wr (c.1+1),c.2)||nc C (c.1,wr (c.2+1))
def rh (C:Conf) (c:Cell):Bool:=C.ro.any fun p=>decide (((bz p).count c:Int)>0)
def H7 (C:Conf) (c:Cell):Int:=if c∈C.po then (C.po.idxOf c:Int)else -1
def si (C:Conf) (c:Cell):Bool:=nc C c&&(decide (H7 C c<0)&&(!rh C c&&lj C c))
theorem gm {G h:Hp} {n a b:Int}:al P_ G 98 #[n,a,b] h (fun u h'=>u = .bool (ax n a b)/\h'=h):=by
 refine quietly (enter98 (by simp) ?_)
 unfold S98
 simp only [bRpA]
 unfold ax
 cases hc:decide (n>=a)with
 |false=>simp only [bRpA,hc];exact ⟨rfl,Hp.le.refl h⟩
 |true=>simp only [bRpA,hc];exact Hp.le.refl h
theorem Gu {G h:Hp} {v:Value} {C:Conf} {c:Cell} (hv:CV G h v C):al P_ G 82 #[v,uc c] h (fun u h'=>u = .bool (inB C c)/\h'=h):=by
 obtain ⟨ab,cb,ap,cp,ar,cr,az,cs,rfl,ca⟩:=hv
 refine quietly (enter82 (by simp) ?_)
 unfold S82
 simp only [bRpA]
 intro x hx gx y hy gy
 have l:=(b8 (o := .cells #[C.w,C.h,C.ht,.slice ab C.bl.length cb,.slice ap C.po.length cp,.slice ar C.ro.length cr,.slice az C.st.length cs,C.un,C.ac,C.sp,C.tu,C.ho,C.qu,C.re,C.bu,.bool C.back] 26 (0,0)) hx).trans (b8 (o := .cells #[c.1,c.2] 28 (0,0)) hy)
 have exy:=je hy
 unfold inB
 cases hc:decide (c.1>=0)with
 |false=>simp only [bRpA,hc];exact ⟨rfl,l⟩
 |true=>
 simp only [bRpA,hc]
 cases hc2:decide (c.2>=0)with
 |false=>simp only [bRpA,hc2];exact ⟨rfl,l⟩
 |true=>
 simp only [bRpA,hc2,am exy]
 cases hc3:decide (c.1<C.w)with
 |false=>simp only [bRpA,hc3];exact ⟨rfl,l⟩
 |true=>
 simp only [bRpA,hc3,am exy]
 exact l
theorem cget {G h:Hp} {b o i:Nat} {x:Cell} (e:∀j,j<dr.n->af G h ⟨b,o+i*dr.n+j,none⟩=(dr.enc x)[j]?):
   af G h ⟨b,o+i*2,none⟩=some (.int .i64 x.1)/\af G h ⟨b,o+i*2+1,none⟩=some (.int .i64 x.2):=⟨e 0 (by decide),e 1 (by decide)⟩
theorem pget {G h:Hp} {b o i:Nat} {x:Pose} (e:∀j,j<xu.n->af G h ⟨b,o+i*xu.n+j,none⟩=(xu.enc x)[j]?):
   af G h ⟨b,o+i*3,none⟩=some (.int .i64 x.x)/\af G h ⟨b,o+i*3+1,none⟩=some (.int .i64 x.y)/\af G h ⟨b,o+i*3+2,none⟩=some (.bool x.d):=⟨e 0 (by decide),e 1 (by decide),e 2 (by decide)⟩
theorem zw (x y:Cell):(x.1==y.1&&x.2==y.2)=(x==y):=rfl
theorem Sees.cell {G h:Hp} {sa:Option Addr} {cap:Nat} {L:List Cell} (s:Sees dr G h (.slice sa L.length cap) L) {i:Nat} {x:Cell} (hx:L[i]?=some x):
   ∃b o,sa=some ⟨b,o,none⟩/\af G h ⟨b,o+i*2,none⟩=some (.int .i64 x.1)/\af G h ⟨b,o+i*2+1,none⟩=some (.int .i64 x.2):=by
 obtain ⟨b,o,c,e1,e2⟩:=s.get hx
 simp only [Value.slice.injEq]at e1
 exact ⟨b,o,e1.1,cget e2⟩
theorem Sees.pose {G h:Hp} {sa:Option Addr} {cap:Nat} {L:List Pose} (s:Sees xu G h (.slice sa L.length cap) L) {i:Nat} {x:Pose} (hx:L[i]?=some x):
   ∃b o,sa=some ⟨b,o,none⟩/\af G h ⟨b,o+i*3,none⟩=some (.int .i64 x.x)/\af G h ⟨b,o+i*3+1,none⟩=some (.int .i64 x.y)/\af G h ⟨b,o+i*3+2,none⟩=some (.bool x.d):=by
 obtain ⟨b,o,c,e1,e2⟩:=s.get hx
 simp only [Value.slice.injEq]at e1
 exact ⟨b,o,e1.1,pget e2⟩
theorem qm {G h:Hp} {v:Value} {L:List Cell} {c:Cell} (hv:Sees dr G h v L) (hL:L.length<=100000000000000):al P_ G 83 #[v,uc c] h (fun u h'=>u = .int .i64 (L.count c)/\h'=h):=by
 obtain ⟨sa,cap,rfl⟩:=hv.len
 refine al.assume fun d=>quietly (enter83 (by simp) ?_)
 unfold S83
 simp only [bRpA]
 intro x hx gx
 have l:=b8 (o := .cells #[c.1,c.2] 28 (0,0)) hx
 have hs:=hv.up l (d.set gx)
 have hxx:(h.set x (.cells #[c.1,c.2] 28 (0,0))) x=some (.cells #[c.1,c.2] 28 (0,0)):=ag
 generalize h.set x (.cells #[c.1,c.2] 28 (0,0))=h2 at*
 have cx:∀k,af G h2 ⟨x,k,none⟩=_:=fun k=>aj (ai hxx)
 refine di (fun m r h3=>∃i:Nat,m=L.length-i/\i<=L.length/\r 0 = .slice sa L.length cap/\r 3 = .pointer (some ⟨x,0,none⟩)/\r 5 = .int .i64 ((L.take i).count c)/\r 6 = .int .i64 i/\h3=h2) ?_
   (m:=L.length) ⟨0,rfl,Nat.zero_le _,by simp (disch:=decide) only [bRpA],by simp (disch:=decide) only [bRpA],by simp (disch:=decide) only [bRpA]<;>rfl,by simp only [bRpA]<;>rfl,rfl⟩
 rintro m r h3 ⟨i,rfl,hi,g0,g3,g5,g6,rfl⟩ X HX
 unfold ax0
 simp only [bRpA,g0,g6]
 refine bv (fun hlt=>?_) (fun hge=>?_)
 . have hlt':i<L.length:=by omega
   obtain ⟨y,hy⟩:∃x,L[i]?=some x:=⟨_,List.getElem?_eq_getElem hlt'⟩
   obtain ⟨b,o,rfl,y0,y1⟩:=Sees.cell hs hy
   have htk:L.take (i+1)=L.take i++[y]:=by rw [List.take_add_one,hy];rfl
   have hcnt:((L.take i).count c:Int)<=i:=by have:=List.count_le_length (a:=c) (l:=L.take i);rw [List.length_take]at this;omega
   unfold Nm
   simp (disch:=decide) only [bRpA,g0,g6,g3,qe (Int.natCast_nonneg i) hlt,y0,y1,cx,zw]
   cases hb:(y==c)with
   |true=>
     simp (disch:=first|decide|omega) only [bRpA,g5]
     unfold Aw
     simp (disch:=first|decide|omega) only [bRpA,g6]
     refine HX (L.length-(i+1)) _ _ (by omega) ⟨i+1,rfl,hlt',by simp (disch:=decide) only [bRpA,g0],by simp (disch:=decide) only [bRpA,g3],?_,by simp only [bRpA]<;>rfl,rfl⟩
     simp (disch:=decide) only [bRpA]
     rw [htk,List.count_append,List.count_singleton,hb]
     rfl
   |false=>
     simp only [bRpA]
     unfold Aw
     simp (disch:=first|decide|omega) only [bRpA,g6]
     refine HX (L.length-(i+1)) _ _ (by omega) ⟨i+1,rfl,hlt',by simp (disch:=decide) only [bRpA,g0],by simp (disch:=decide) only [bRpA,g3],?_,by simp only [bRpA]<;>rfl,rfl⟩
     simp (disch:=decide) only [bRpA,g5]
     rw [htk,List.count_append,List.count_singleton,hb]
     rfl
 . obtain rfl:i=L.length:=by omega
   rw [List.take_of_length_le (Nat.le_refl _)]at g5
   show V8 _ _ _ _
   unfold V8
   simp (disch:=decide) only [bRpA,g5]
   exact l
end Go.Proofs.YtfflipnhffknnaaGreatDoor
end

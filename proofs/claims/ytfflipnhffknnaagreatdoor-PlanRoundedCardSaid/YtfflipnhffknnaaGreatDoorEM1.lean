/- Texts of the proof, one behind the other. -/
import Derived.Test.YtfflipnhffknnaaGreatDoorEH2
import Derived.Test.YtfflipnhffknnaaGreatDoorProg
import Derived.Test.YtfflipnhffknnaaGreatDoorEH3
import Derived.Tactics
import Derived.Tactics2
import Derived.Defers
import Derived.Laws.Pointers
import Derived.Laws.LoneSync
import Derived.RegionTactic
import Derived.RegionCalls
import Derived.ChangeAlike
set_option linter.unusedVariables false
set_option maxRecDepth 100000
set_option linter.unusedSimpArgs false
set_option maxHeartbeats 1600000
set_option linter.unusedSectionVars false
set_option linter.defProp false
section
namespace Go.Proofs.YtfflipnhffknnaaGreatDoor
open Go Go.HL
noncomputable abbrev P_:Program:=Tryz.prog
theorem mixed:Tryz.prog.follows .mixedOrders=true:=by kernel_rfl
abbrev FA (t i o:Nat):Prop:=∀{G h:Hp} {a:Addr} {K:VK},wpH Tryz.prog G (Instr.fieldAt t (.pointer (some a)) i) h K=K (.pointer (some (a.add o))) h
abbrev FB (t i o:Nat):Prop:=∀{G h:Hp} {a:Addr} {K:Value->Prop},pw Tryz.prog G h (Instr.fieldAt t (.pointer (some a)) i) K=K (.pointer (some (a.add o)))
abbrev LA (t:Nat):Prop:=∀{G h:Hp} {a:Addr} {K:VK},wpH Tryz.prog G (Instr.loadAt t (.pointer (some a))) h K=(∃x,af G h a=some x/\K x h)
abbrev LB (t:Nat):Prop:=∀{G h:Hp} {a:Addr} {K:Value->Prop},pw Tryz.prog G h (Instr.loadAt t (.pointer (some a))) K=(∃x,af G h a=some x/\K x)
abbrev CF (f:Nat):Prop:=∀{G h:Hp} {args:Array Value} {K:VK},opH Tryz.prog G (callFunc f args) h K=al Tryz.prog G f args h K
abbrev EK:=Exit->Rg->Hp->Prop
abbrev Ent (n f:Nat) (l:List ResultVar) (S:Hp->EK->Rg->Hp->Prop):Prop:=∀{G:Hp} {h:Hp} {args:Array Value} {R:VK},args.size<=n->S G (retK Tryz.prog G l R) (regs args) h->al Tryz.prog G f args h R
abbrev Weq (n:Nat) (m:Nat->Hint) (c:Code) (S:Hp->EK->Rg->Hp->Prop):Prop:=∀(G:Hp) (K:EK) (r:Rg) (h:Hp),wpC Tryz.prog G n m true c r h K=S G K r h
theorem ent_ {n f:Nat} {l:List ResultVar} {m:Nat->Hint} {S:Hp->EK->Rg->Hp->Prop} {fn:Func} {c:Code} (e:Weq n m c S) (hf:Tryz.prog.funcs[f]?=some fn) (hb:fn.body=some c) (hn:fn.ntmps=n) (hl:fn.results.toList=l):Ent n f l S:=fun hq H=>al.enter (md:=m) mixed hf hb (by rw [hn];exact hq) (by rw [hn,hl,e];exact H)
abbrev o_ (G:Hp) (x:Sem Value) (h:Hp) (K:Value->Hp->Prop):Prop:=opH Tryz.prog G (sv x) h K
def mh (a:Bool) (B:List Nat) (k:List Kind) (n:List Bool) (p:Bool):Hint:=⟨a,B,k,k,n,p⟩
def n_:Kind := .pureN
def m_:Kind := .pureM
def e_:Kind := .eff
def fs (n:Nat):List Bool:=List.replicate n false
abbrev u2 (r:Rg) (a0:Nat) (v0:Value) (a1:Nat) (v1:Value):Rg:=upd (upd r a0 v0) a1 v1
abbrev u3 (r:Rg) (a0:Nat) (v0:Value) (a1:Nat) (v1:Value) (a2:Nat) (v2:Value):Rg:=upd (u2 r a0 v0 a1 v1) a2 v2
abbrev u4 (r:Rg) (a0:Nat) (v0:Value) (a1:Nat) (v1:Value) (a2:Nat) (v2:Value) (a3:Nat) (v3:Value):Rg:=upd (u3 r a0 v0 a1 v1 a2 v2) a3 v3
abbrev u5 (r:Rg) (a0:Nat) (v0:Value) (a1:Nat) (v1:Value) (a2:Nat) (v2:Value) (a3:Nat) (v3:Value) (a4:Nat) (v4:Value):Rg:=upd (u4 r a0 v0 a1 v1 a2 v2 a3 v3) a4 v4
abbrev u6 (r:Rg) (a0:Nat) (v0:Value) (a1:Nat) (v1:Value) (a2:Nat) (v2:Value) (a3:Nat) (v3:Value) (a4:Nat) (v4:Value) (a5:Nat) (v5:Value):Rg:=upd (u5 r a0 v0 a1 v1 a2 v2 a3 v3 a4 v4) a5 v5
abbrev u7 (r:Rg) (a0:Nat) (v0:Value) (a1:Nat) (v1:Value) (a2:Nat) (v2:Value) (a3:Nat) (v3:Value) (a4:Nat) (v4:Value) (a5:Nat) (v5:Value) (a6:Nat) (v6:Value):Rg:=upd (u6 r a0 v0 a1 v1 a2 v2 a3 v3 a4 v4 a5 v5) a6 v6
abbrev u8 (r:Rg) (a0:Nat) (v0:Value) (a1:Nat) (v1:Value) (a2:Nat) (v2:Value) (a3:Nat) (v3:Value) (a4:Nat) (v4:Value) (a5:Nat) (v5:Value) (a6:Nat) (v6:Value) (a7:Nat) (v7:Value):Rg:=upd (u7 r a0 v0 a1 v1 a2 v2 a3 v3 a4 v4 a5 v5 a6 v6) a7 v7
abbrev u9 (r:Rg) (a0:Nat) (v0:Value) (a1:Nat) (v1:Value) (a2:Nat) (v2:Value) (a3:Nat) (v3:Value) (a4:Nat) (v4:Value) (a5:Nat) (v5:Value) (a6:Nat) (v6:Value) (a7:Nat) (v7:Value) (a8:Nat) (v8:Value):Rg:=upd (u8 r a0 v0 a1 v1 a2 v2 a3 v3 a4 v4 a5 v5 a6 v6 a7 v7) a8 v8
abbrev u10 (r:Rg) (a0:Nat) (v0:Value) (a1:Nat) (v1:Value) (a2:Nat) (v2:Value) (a3:Nat) (v3:Value) (a4:Nat) (v4:Value) (a5:Nat) (v5:Value) (a6:Nat) (v6:Value) (a7:Nat) (v7:Value) (a8:Nat) (v8:Value) (a9:Nat) (v9:Value):Rg:=upd (u9 r a0 v0 a1 v1 a2 v2 a3 v3 a4 v4 a5 v5 a6 v6 a7 v7 a8 v8) a9 v9
abbrev c_ (G:Hp) (f:FuncId) (a:Array Value) (h:Hp) (K:Value->Hp->Prop):Prop:=opH Tryz.prog G (callFunc f a) h K
abbrev g_ (v:Value) (b:Bool) (X:(Value->Hp->Prop)->Prop) (h:Hp) (K:Value->Hp->Prop):Prop:=gd (Gf v b) X h K
abbrev w_ (G q:Hp) (x:Sem Value) (h:Hp) (K:Value->Hp->Prop):Prop:=bk Tryz.prog G q (sv x) h K
abbrev p_ (x:Sem Value) (h:Hp) (K:Value->Hp->Prop):Prop:=bk Tryz.prog noHp noHp (sv x) h K
theorem fa119_0:FA 119 0 0:=fun {_ _ _ _}=>by kernel_rfl
theorem S3:FB 119 0 0:=fun {_ _ _ _}=>by kernel_rfl
theorem fa119_1:FA 119 1 2:=fun {_ _ _ _}=>by kernel_rfl
theorem Ic:FB 119 1 2:=fun {_ _ _ _}=>by kernel_rfl
theorem O8:FA 124 0 0:=fun {_ _ _ _}=>by kernel_rfl
theorem Ib:FB 124 0 0:=fun {_ _ _ _}=>by kernel_rfl
theorem ap7:FB 134 0 0:=fun {_ _ _ _}=>by kernel_rfl
theorem Da:FB 134 1 16:=fun {_ _ _ _}=>by kernel_rfl
theorem ap6:FB 134 2 17:=fun {_ _ _ _}=>by kernel_rfl
theorem S2:FB 134 3 18:=fun {_ _ _ _}=>by kernel_rfl
theorem S0:FB 134 4 19:=fun {_ _ _ _}=>by kernel_rfl
theorem fa134_5:FA 134 5 20:=fun {_ _ _ _}=>by kernel_rfl
theorem fa134_6:FA 134 6 21:=fun {_ _ _ _}=>by kernel_rfl
theorem ap5:FB 134 6 21:=fun {_ _ _ _}=>by kernel_rfl
theorem Ia:FB 134 7 22:=fun {_ _ _ _}=>by kernel_rfl
theorem H9:FB 134 8 23:=fun {_ _ _ _}=>by kernel_rfl
theorem Xk:FA 134 9 24:=fun {_ _ _ _}=>by kernel_rfl
theorem ap4:FB 134 9 24:=fun {_ _ _ _}=>by kernel_rfl
theorem fa137_0:FA 137 0 0:=fun {_ _ _ _}=>by kernel_rfl
theorem Sz:FB 137 0 0:=fun {_ _ _ _}=>by kernel_rfl
theorem fa137_1:FA 137 1 1:=fun {_ _ _ _}=>by kernel_rfl
theorem Sy:FB 137 1 1:=fun {_ _ _ _}=>by kernel_rfl
theorem Xj:FA 139 0 0:=fun {_ _ _ _}=>by kernel_rfl
theorem ap3:FB 139 0 0:=fun {_ _ _ _}=>by kernel_rfl
theorem Xi:FA 139 1 1:=fun {_ _ _ _}=>by kernel_rfl
theorem ap2:FB 139 1 1:=fun {_ _ _ _}=>by kernel_rfl
theorem ap1:FB 146 0 0:=fun {_ _ _ _}=>by kernel_rfl
theorem fa146_1:FA 146 1 2:=fun {_ _ _ _}=>by kernel_rfl
theorem fa146_2:FA 146 2 13:=fun {_ _ _ _}=>by kernel_rfl
theorem ap0:FB 146 2 13:=fun {_ _ _ _}=>by kernel_rfl
theorem Xh:FA 146 3 14:=fun {_ _ _ _}=>by kernel_rfl
theorem ao9:FB 146 3 14:=fun {_ _ _ _}=>by kernel_rfl
theorem O7:FA 151 0 0:=fun {_ _ _ _}=>by kernel_rfl
theorem ao8:FB 151 0 0:=fun {_ _ _ _}=>by kernel_rfl
theorem O6:FA 151 1 1:=fun {_ _ _ _}=>by kernel_rfl
theorem Sx:FB 151 1 1:=fun {_ _ _ _}=>by kernel_rfl
theorem fa170_0:FA 170 0 0:=fun {_ _ _ _}=>by kernel_rfl
theorem fa170_1:FA 170 1 3:=fun {_ _ _ _}=>by kernel_rfl
theorem ao7:FB 170 1 3:=fun {_ _ _ _}=>by kernel_rfl
theorem fa173_0:FA 173 0 0:=fun {_ _ _ _}=>by kernel_rfl
theorem ao6:FB 173 0 0:=fun {_ _ _ _}=>by kernel_rfl
theorem fa173_1:FA 173 1 1:=fun {_ _ _ _}=>by kernel_rfl
theorem ao5:FB 173 1 1:=fun {_ _ _ _}=>by kernel_rfl
theorem fa173_2:FA 173 2 2:=fun {_ _ _ _}=>by kernel_rfl
theorem ao4:FB 173 2 2:=fun {_ _ _ _}=>by kernel_rfl
theorem ao3:FB 173 3 3:=fun {_ _ _ _}=>by kernel_rfl
theorem fa186_0:FA 186 0 0:=fun {_ _ _ _}=>by kernel_rfl
theorem Sw:FB 186 0 0:=fun {_ _ _ _}=>by kernel_rfl
theorem Su:FB 186 1 1:=fun {_ _ _ _}=>by kernel_rfl
theorem Ss:FB 186 2 2:=fun {_ _ _ _}=>by kernel_rfl
theorem Xg:FA 188 0 0:=fun {_ _ _ _}=>by kernel_rfl
theorem Am:FA 203 0 0:=fun {_ _ _ _}=>by kernel_rfl
theorem Sr:FB 203 0 0:=fun {_ _ _ _}=>by kernel_rfl
theorem Al:FA 203 1 1:=fun {_ _ _ _}=>by kernel_rfl
theorem ao2:FB 203 1 1:=fun {_ _ _ _}=>by kernel_rfl
theorem Ak:FA 203 2 2:=fun {_ _ _ _}=>by kernel_rfl
theorem Sq:FB 215 0 0:=fun {_ _ _ _}=>by kernel_rfl
theorem ao1:FB 215 1 1:=fun {_ _ _ _}=>by kernel_rfl
theorem C9:FA 215 2 2:=fun {_ _ _ _}=>by kernel_rfl
theorem ao0:FB 215 2 2:=fun {_ _ _ _}=>by kernel_rfl
theorem fa218_0:FA 218 0 0:=fun {_ _ _ _}=>by kernel_rfl
theorem an9:FB 218 0 0:=fun {_ _ _ _}=>by kernel_rfl
theorem fa218_1:FA 218 1 1:=fun {_ _ _ _}=>by kernel_rfl
theorem an8:FB 218 1 1:=fun {_ _ _ _}=>by kernel_rfl
theorem fa218_2:FA 218 2 2:=fun {_ _ _ _}=>by kernel_rfl
theorem an7:FB 218 2 2:=fun {_ _ _ _}=>by kernel_rfl
theorem fa227_0:FA 227 0 0:=fun {_ _ _ _}=>by kernel_rfl
theorem an6:FB 227 0 0:=fun {_ _ _ _}=>by kernel_rfl
theorem fa227_1:FA 227 1 3:=fun {_ _ _ _}=>by kernel_rfl
theorem fa232_0:FA 232 0 0:=fun {_ _ _ _}=>by kernel_rfl
theorem fa232_1:FA 232 1 11:=fun {_ _ _ _}=>by kernel_rfl
theorem fa232_2:FA 232 2 12:=fun {_ _ _ _}=>by kernel_rfl
theorem fa234_0:FA 234 0 0:=fun {_ _ _ _}=>by kernel_rfl
theorem H8:FB 234 0 0:=fun {_ _ _ _}=>by kernel_rfl
theorem Xf:FA 234 1 2:=fun {_ _ _ _}=>by kernel_rfl
theorem So:FB 234 1 2:=fun {_ _ _ _}=>by kernel_rfl
theorem Bu:FA 26 0 0:=fun {_ _ _ _}=>by kernel_rfl
theorem Xe:FB 26 0 0:=fun {_ _ _ _}=>by kernel_rfl
theorem Ei:FA 26 1 1:=fun {_ _ _ _}=>by kernel_rfl
theorem Xb:FB 26 1 1:=fun {_ _ _ _}=>by kernel_rfl
theorem F7:FA 26 10 10:=fun {_ _ _ _}=>by kernel_rfl
theorem F6:FA 26 11 11:=fun {_ _ _ _}=>by kernel_rfl
theorem Sn:FB 26 11 11:=fun {_ _ _ _}=>by kernel_rfl
theorem Xd:FA 26 12 12:=fun {_ _ _ _}=>by kernel_rfl
theorem Xc:FA 26 13 13:=fun {_ _ _ _}=>by kernel_rfl
theorem F5:FA 26 14 14:=fun {_ _ _ _}=>by kernel_rfl
theorem an5:FA 26 2 2:=fun {_ _ _ _}=>by kernel_rfl
theorem fa26_2p:FB 26 2 2:=fun {_ _ _ _}=>by kernel_rfl
theorem H7:FA 26 3 3:=fun {_ _ _ _}=>by kernel_rfl
theorem O5:FB 26 3 3:=fun {_ _ _ _}=>by kernel_rfl
theorem O4:FA 26 4 4:=fun {_ _ _ _}=>by kernel_rfl
theorem O3:FB 26 4 4:=fun {_ _ _ _}=>by kernel_rfl
theorem H6:FA 26 5 5:=fun {_ _ _ _}=>by kernel_rfl
theorem Xa:FB 26 5 5:=fun {_ _ _ _}=>by kernel_rfl
theorem U6:FA 26 6 6:=fun {_ _ _ _}=>by kernel_rfl
theorem W9:FB 26 6 6:=fun {_ _ _ _}=>by kernel_rfl
theorem H5:FA 26 7 7:=fun {_ _ _ _}=>by kernel_rfl
theorem O2:FA 26 8 8:=fun {_ _ _ _}=>by kernel_rfl
theorem O1:FA 26 9 9:=fun {_ _ _ _}=>by kernel_rfl
theorem Eh:FA 28 0 0:=fun {_ _ _ _}=>by kernel_rfl
theorem W8:FB 28 0 0:=fun {_ _ _ _}=>by kernel_rfl
theorem Eg:FA 28 1 1:=fun {_ _ _ _}=>by kernel_rfl
theorem W7:FB 28 1 1:=fun {_ _ _ _}=>by kernel_rfl
theorem wd:FA 30 0 0:=fun {_ _ _ _}=>by kernel_rfl
theorem F4:FB 30 0 0:=fun {_ _ _ _}=>by kernel_rfl
theorem H4:FA 30 1 2:=fun {_ _ _ _}=>by kernel_rfl
theorem fa30_1p:FB 30 1 2:=fun {_ _ _ _}=>by kernel_rfl
theorem an4:FA 45 0 0:=fun {_ _ _ _}=>by kernel_rfl
theorem an3:FA 45 1 3:=fun {_ _ _ _}=>by kernel_rfl
theorem Ef:FA 48 0 0:=fun {_ _ _ _}=>by kernel_rfl
theorem fa48_0p:FB 48 0 0:=fun {_ _ _ _}=>by kernel_rfl
theorem fa48_1:FA 48 1 1:=fun {_ _ _ _}=>by kernel_rfl
theorem an2:FA 48 2 2:=fun {_ _ _ _}=>by kernel_rfl
theorem fa48_2p:FB 48 2 2:=fun {_ _ _ _}=>by kernel_rfl
theorem fa48_3:FA 48 3 3:=fun {_ _ _ _}=>by kernel_rfl
theorem O0:FB 48 3 3:=fun {_ _ _ _}=>by kernel_rfl
theorem U5:FA 48 4 6:=fun {_ _ _ _}=>by kernel_rfl
theorem Oz:FB 48 4 6:=fun {_ _ _ _}=>by kernel_rfl
theorem U4:FA 48 5 9:=fun {_ _ _ _}=>by kernel_rfl
theorem W6:FB 48 5 9:=fun {_ _ _ _}=>by kernel_rfl
theorem Oy:FA 48 6 10:=fun {_ _ _ _}=>by kernel_rfl
theorem Ox:FB 48 6 10:=fun {_ _ _ _}=>by kernel_rfl
theorem fa75_0:FA 75 0 0:=fun {_ _ _ _}=>by kernel_rfl
theorem fa75_1:FA 75 1 1:=fun {_ _ _ _}=>by kernel_rfl
theorem fa75_2:FA 75 2 2:=fun {_ _ _ _}=>by kernel_rfl
theorem ld3:LA 3:=fun {_ _ _ _}=>by kernel_rfl
theorem ld3p:LB 3:=fun {_ _ _ _}=>by kernel_rfl
theorem ld4:LA 4:=fun {_ _ _ _}=>by kernel_rfl
theorem ld4p:LB 4:=fun {_ _ _ _}=>by kernel_rfl
theorem ld22:LA 22:=fun {_ _ _ _}=>by kernel_rfl
theorem W0:LB 22:=fun {_ _ _ _}=>by kernel_rfl
theorem ld23:LA 23:=fun {_ _ _ _}=>by kernel_rfl
theorem ld23p:LB 23:=fun {_ _ _ _}=>by kernel_rfl
theorem ld24:LA 24:=fun {_ _ _ _}=>by kernel_rfl
theorem ld24p:LB 24:=fun {_ _ _ _}=>by kernel_rfl
theorem ld26 {G h:Hp} {a:Addr} {K:VK}:wpH Tryz.prog G (Instr.loadAt 26 (.pointer (some a))) h K=(∃x0,af G h (a.add 0)=some x0/\∃x1,af G h (a.add 1)=some x1/\∃x2,af G h (a.add 2)=some x2/\∃x3,af G h (a.add 3)=some x3/\∃x4,af G h (a.add 4)=some x4/\∃x5,af G h (a.add 5)=some x5/\∃x6,af G h (a.add 6)=some x6/\∃x7,af G h (a.add 7)=some x7/\∃x8,af G h (a.add 8)=some x8/\∃x9,af G h (a.add 9)=some x9/\∃x10,af G h (a.add 10)=some x10/\∃x11,af G h (a.add 11)=some x11/\∃x12,af G h (a.add 12)=some x12/\∃x13,af G h (a.add 13)=some x13/\∃x14,af G h (a.add 14)=some x14/\∃x15,af G h (a.add 15)=some x15/\K (.agg #[x0,x1,x2,x3,x4,x5,x6,x7,x8,x9,x10,x11,x12,x13,x14,x15]) h):=by kernel_rfl
theorem Hj {G h:Hp} {a:Addr} {K:Value->Prop}:pw Tryz.prog G h (Instr.loadAt 26 (.pointer (some a))) K=(∃x0,af G h (a.add 0)=some x0/\∃x1,af G h (a.add 1)=some x1/\∃x2,af G h (a.add 2)=some x2/\∃x3,af G h (a.add 3)=some x3/\∃x4,af G h (a.add 4)=some x4/\∃x5,af G h (a.add 5)=some x5/\∃x6,af G h (a.add 6)=some x6/\∃x7,af G h (a.add 7)=some x7/\∃x8,af G h (a.add 8)=some x8/\∃x9,af G h (a.add 9)=some x9/\∃x10,af G h (a.add 10)=some x10/\∃x11,af G h (a.add 11)=some x11/\∃x12,af G h (a.add 12)=some x12/\∃x13,af G h (a.add 13)=some x13/\∃x14,af G h (a.add 14)=some x14/\∃x15,af G h (a.add 15)=some x15/\K (.agg #[x0,x1,x2,x3,x4,x5,x6,x7,x8,x9,x10,x11,x12,x13,x14,x15])):=by kernel_rfl
theorem ld28 {G h:Hp} {a:Addr} {K:VK}:wpH Tryz.prog G (Instr.loadAt 28 (.pointer (some a))) h K=(∃x0,af G h (a.add 0)=some x0/\∃x1,af G h (a.add 1)=some x1/\K (.agg #[x0,x1]) h):=by kernel_rfl
theorem xj {G h:Hp} {a:Addr} {K:Value->Prop}:pw Tryz.prog G h (Instr.loadAt 28 (.pointer (some a))) K=(∃x0,af G h (a.add 0)=some x0/\∃x1,af G h (a.add 1)=some x1/\K (.agg #[x0,x1])):=by kernel_rfl
theorem ld30 {G h:Hp} {a:Addr} {K:VK}:wpH Tryz.prog G (Instr.loadAt 30 (.pointer (some a))) h K=(∃x0,af G h (a.add 0)=some x0/\∃x1,af G h (a.add 1)=some x1/\∃x2,af G h (a.add 2)=some x2/\K (.agg #[x0,x1,x2]) h):=by kernel_rfl
theorem tw {G h:Hp} {a:Addr} {K:Value->Prop}:pw Tryz.prog G h (Instr.loadAt 30 (.pointer (some a))) K=(∃x0,af G h (a.add 0)=some x0/\∃x1,af G h (a.add 1)=some x1/\∃x2,af G h (a.add 2)=some x2/\K (.agg #[x0,x1,x2])):=by kernel_rfl
theorem ld34:LA 34:=fun {_ _ _ _}=>by kernel_rfl
theorem Wz:LB 34:=fun {_ _ _ _}=>by kernel_rfl
theorem ld35:LA 35:=fun {_ _ _ _}=>by kernel_rfl
theorem ld35p:LB 35:=fun {_ _ _ _}=>by kernel_rfl
theorem ld40:LA 40:=fun {_ _ _ _}=>by kernel_rfl
theorem ld45 {G h:Hp} {a:Addr} {K:VK}:wpH Tryz.prog G (Instr.loadAt 45 (.pointer (some a))) h K=(∃x0,af G h (a.add 0)=some x0/\∃x1,af G h (a.add 1)=some x1/\∃x2,af G h (a.add 2)=some x2/\∃x3,af G h (a.add 3)=some x3/\K (.agg #[x0,x1,x2,x3]) h):=by kernel_rfl
theorem ld48 {G h:Hp} {a:Addr} {K:VK}:wpH Tryz.prog G (Instr.loadAt 48 (.pointer (some a))) h K=(∃x0,af G h (a.add 0)=some x0/\∃x1,af G h (a.add 1)=some x1/\∃x2,af G h (a.add 2)=some x2/\∃x3,af G h (a.add 3)=some x3/\∃x4,af G h (a.add 4)=some x4/\∃x5,af G h (a.add 5)=some x5/\∃x6,af G h (a.add 6)=some x6/\∃x7,af G h (a.add 7)=some x7/\∃x8,af G h (a.add 8)=some x8/\∃x9,af G h (a.add 9)=some x9/\∃x10,af G h (a.add 10)=some x10/\K (.agg #[x0,x1,x2,x3,x4,x5,x6,x7,x8,x9,x10]) h):=by kernel_rfl
theorem Wy {G h:Hp} {a:Addr} {K:Value->Prop}:pw Tryz.prog G h (Instr.loadAt 48 (.pointer (some a))) K=(∃x0,af G h (a.add 0)=some x0/\∃x1,af G h (a.add 1)=some x1/\∃x2,af G h (a.add 2)=some x2/\∃x3,af G h (a.add 3)=some x3/\∃x4,af G h (a.add 4)=some x4/\∃x5,af G h (a.add 5)=some x5/\∃x6,af G h (a.add 6)=some x6/\∃x7,af G h (a.add 7)=some x7/\∃x8,af G h (a.add 8)=some x8/\∃x9,af G h (a.add 9)=some x9/\∃x10,af G h (a.add 10)=some x10/\K (.agg #[x0,x1,x2,x3,x4,x5,x6,x7,x8,x9,x10])):=by kernel_rfl
theorem ld50:LA 50:=fun {_ _ _ _}=>by kernel_rfl
theorem ld50p:LB 50:=fun {_ _ _ _}=>by kernel_rfl
theorem ld68:LA 68:=fun {_ _ _ _}=>by kernel_rfl
theorem Rr:LB 68:=fun {_ _ _ _}=>by kernel_rfl
theorem ld75 {G h:Hp} {a:Addr} {K:VK}:wpH Tryz.prog G (Instr.loadAt 75 (.pointer (some a))) h K=(∃x0,af G h (a.add 0)=some x0/\∃x1,af G h (a.add 1)=some x1/\∃x2,af G h (a.add 2)=some x2/\K (.agg #[x0,x1,x2]) h):=by kernel_rfl
theorem ld98:LA 98:=fun {_ _ _ _}=>by kernel_rfl
theorem ld98p:LB 98:=fun {_ _ _ _}=>by kernel_rfl
theorem ld99:LA 99:=fun {_ _ _ _}=>by kernel_rfl
theorem ld99p:LB 99:=fun {_ _ _ _}=>by kernel_rfl
theorem ld103:LA 103:=fun {_ _ _ _}=>by kernel_rfl
theorem ld119 {G h:Hp} {a:Addr} {K:VK}:wpH Tryz.prog G (Instr.loadAt 119 (.pointer (some a))) h K=(∃x0,af G h (a.add 0)=some x0/\∃x1,af G h (a.add 1)=some x1/\∃x2,af G h (a.add 2)=some x2/\K (.agg #[x0,x1,x2]) h):=by kernel_rfl
theorem ld127:LA 127:=fun {_ _ _ _}=>by kernel_rfl
theorem al4:LB 127:=fun {_ _ _ _}=>by kernel_rfl
theorem ld128:LA 128:=fun {_ _ _ _}=>by kernel_rfl
theorem ld129:LA 129:=fun {_ _ _ _}=>by kernel_rfl
theorem ld129p:LB 129:=fun {_ _ _ _}=>by kernel_rfl
theorem Ut:LB 130:=fun {_ _ _ _}=>by kernel_rfl
theorem Us:LB 131:=fun {_ _ _ _}=>by kernel_rfl
theorem ld132:LA 132:=fun {_ _ _ _}=>by kernel_rfl
theorem ld132p:LB 132:=fun {_ _ _ _}=>by kernel_rfl
theorem ld137 {G h:Hp} {a:Addr} {K:VK}:wpH Tryz.prog G (Instr.loadAt 137 (.pointer (some a))) h K=(∃x0,af G h (a.add 0)=some x0/\∃x1,af G h (a.add 1)=some x1/\K (.agg #[x0,x1]) h):=by kernel_rfl
theorem Ur {G h:Hp} {a:Addr} {K:Value->Prop}:pw Tryz.prog G h (Instr.loadAt 137 (.pointer (some a))) K=(∃x0,af G h (a.add 0)=some x0/\∃x1,af G h (a.add 1)=some x1/\K (.agg #[x0,x1])):=by kernel_rfl
theorem ld139 {G h:Hp} {a:Addr} {K:VK}:wpH Tryz.prog G (Instr.loadAt 139 (.pointer (some a))) h K=(∃x0,af G h (a.add 0)=some x0/\∃x1,af G h (a.add 1)=some x1/\∃x2,af G h (a.add 2)=some x2/\K (.agg #[x0,x1,x2]) h):=by kernel_rfl
theorem ld139p {G h:Hp} {a:Addr} {K:Value->Prop}:pw Tryz.prog G h (Instr.loadAt 139 (.pointer (some a))) K=(∃x0,af G h (a.add 0)=some x0/\∃x1,af G h (a.add 1)=some x1/\∃x2,af G h (a.add 2)=some x2/\K (.agg #[x0,x1,x2])):=by kernel_rfl
theorem ld140:LA 140:=fun {_ _ _ _}=>by kernel_rfl
theorem ld140p:LB 140:=fun {_ _ _ _}=>by kernel_rfl
theorem ld142:LA 142:=fun {_ _ _ _}=>by kernel_rfl
theorem ld151 {G h:Hp} {a:Addr} {K:VK}:wpH Tryz.prog G (Instr.loadAt 151 (.pointer (some a))) h K=(∃x0,af G h (a.add 0)=some x0/\∃x1,af G h (a.add 1)=some x1/\K (.agg #[x0,x1]) h):=by kernel_rfl
theorem ld151p {G h:Hp} {a:Addr} {K:Value->Prop}:pw Tryz.prog G h (Instr.loadAt 151 (.pointer (some a))) K=(∃x0,af G h (a.add 0)=some x0/\∃x1,af G h (a.add 1)=some x1/\K (.agg #[x0,x1])):=by kernel_rfl
theorem Hk:LA 168:=fun {_ _ _ _}=>by kernel_rfl
theorem Ok:LB 168:=fun {_ _ _ _}=>by kernel_rfl
theorem ld178:LA 178:=fun {_ _ _ _}=>by kernel_rfl
theorem ld186 {G h:Hp} {a:Addr} {K:VK}:wpH Tryz.prog G (Instr.loadAt 186 (.pointer (some a))) h K=(∃x0,af G h (a.add 0)=some x0/\∃x1,af G h (a.add 1)=some x1/\∃x2,af G h (a.add 2)=some x2/\K (.agg #[x0,x1,x2]) h):=by kernel_rfl
theorem ld186p {G h:Hp} {a:Addr} {K:Value->Prop}:pw Tryz.prog G h (Instr.loadAt 186 (.pointer (some a))) K=(∃x0,af G h (a.add 0)=some x0/\∃x1,af G h (a.add 1)=some x1/\∃x2,af G h (a.add 2)=some x2/\K (.agg #[x0,x1,x2])):=by kernel_rfl
theorem Rs {G h:Hp} {a:Addr} {K:VK}:wpH Tryz.prog G (Instr.loadAt 203 (.pointer (some a))) h K=(∃x0,af G h (a.add 0)=some x0/\∃x1,af G h (a.add 1)=some x1/\∃x2,af G h (a.add 2)=some x2/\K (.agg #[x0,x1,x2]) h):=by kernel_rfl
theorem ld203p {G h:Hp} {a:Addr} {K:Value->Prop}:pw Tryz.prog G h (Instr.loadAt 203 (.pointer (some a))) K=(∃x0,af G h (a.add 0)=some x0/\∃x1,af G h (a.add 1)=some x1/\∃x2,af G h (a.add 2)=some x2/\K (.agg #[x0,x1,x2])):=by kernel_rfl
theorem ld216:LA 216:=fun {_ _ _ _}=>by kernel_rfl
theorem ld216p:LB 216:=fun {_ _ _ _}=>by kernel_rfl
theorem ld227p {G h:Hp} {a:Addr} {K:Value->Prop}:pw Tryz.prog G h (Instr.loadAt 227 (.pointer (some a))) K=(∃x0,af G h (a.add 0)=some x0/\∃x1,af G h (a.add 1)=some x1/\∃x2,af G h (a.add 2)=some x2/\∃x3,af G h (a.add 3)=some x3/\K (.agg #[x0,x1,x2,x3])):=by kernel_rfl
theorem ld229:LA 229:=fun {_ _ _ _}=>by kernel_rfl
theorem al3:LB 229:=fun {_ _ _ _}=>by kernel_rfl
theorem ld232 {G h:Hp} {a:Addr} {K:VK}:wpH Tryz.prog G (Instr.loadAt 232 (.pointer (some a))) h K=(∃x0,af G h (a.add 0)=some x0/\∃x1,af G h (a.add 1)=some x1/\∃x2,af G h (a.add 2)=some x2/\∃x3,af G h (a.add 3)=some x3/\∃x4,af G h (a.add 4)=some x4/\∃x5,af G h (a.add 5)=some x5/\∃x6,af G h (a.add 6)=some x6/\∃x7,af G h (a.add 7)=some x7/\∃x8,af G h (a.add 8)=some x8/\∃x9,af G h (a.add 9)=some x9/\∃x10,af G h (a.add 10)=some x10/\∃x11,af G h (a.add 11)=some x11/\∃x12,af G h (a.add 12)=some x12/\K (.agg #[x0,x1,x2,x3,x4,x5,x6,x7,x8,x9,x10,x11,x12]) h):=by kernel_rfl
theorem ld234 {G h:Hp} {a:Addr} {K:VK}:wpH Tryz.prog G (Instr.loadAt 234 (.pointer (some a))) h K=(∃x0,af G h (a.add 0)=some x0/\∃x1,af G h (a.add 1)=some x1/\∃x2,af G h (a.add 2)=some x2/\K (.agg #[x0,x1,x2]) h):=by kernel_rfl
theorem ld261:LA 261:=fun {_ _ _ _}=>by kernel_rfl
theorem ld261p:LB 261:=fun {_ _ _ _}=>by kernel_rfl
theorem sz3:(Tryz.prog.info? 3).map (·.size)=some 1:=by kernel_rfl
theorem sz4:(Tryz.prog.info? 4).map (·.size)=some 1:=by kernel_rfl
theorem sz22:(Tryz.prog.info? 22).map (·.size)=some 1:=by kernel_rfl
theorem sz23:(Tryz.prog.info? 23).map (·.size)=some 1:=by kernel_rfl
theorem sz24:(Tryz.prog.info? 24).map (·.size)=some 1:=by kernel_rfl
theorem sz26:(Tryz.prog.info? 26).map (·.size)=some 16:=by kernel_rfl
theorem sz28:(Tryz.prog.info? 28).map (·.size)=some 2:=by kernel_rfl
theorem sz30:(Tryz.prog.info? 30).map (·.size)=some 3:=by kernel_rfl
theorem sz35:(Tryz.prog.info? 35).map (·.size)=some 1:=by kernel_rfl
theorem sz40:(Tryz.prog.info? 40).map (·.size)=some 1:=by kernel_rfl
theorem sz48:(Tryz.prog.info? 48).map (·.size)=some 11:=by kernel_rfl
theorem sz75:(Tryz.prog.info? 75).map (·.size)=some 3:=by kernel_rfl
theorem sz99:(Tryz.prog.info? 99).map (·.size)=some 1:=by kernel_rfl
theorem sz103:(Tryz.prog.info? 103).map (·.size)=some 1:=by kernel_rfl
theorem sz110:(Tryz.prog.info? 110).map (·.size)=some 2:=by kernel_rfl
theorem sz119:(Tryz.prog.info? 119).map (·.size)=some 3:=by kernel_rfl
theorem sz132:(Tryz.prog.info? 132).map (·.size)=some 1:=by kernel_rfl
theorem sz137:(Tryz.prog.info? 137).map (·.size)=some 2:=by kernel_rfl
theorem sz139:(Tryz.prog.info? 139).map (·.size)=some 3:=by kernel_rfl
theorem sz142:(Tryz.prog.info? 142).map (·.size)=some 1:=by kernel_rfl
theorem sz151:(Tryz.prog.info? 151).map (·.size)=some 2:=by kernel_rfl
theorem sz168:(Tryz.prog.info? 168).map (·.size)=some 1:=by kernel_rfl
theorem sz186:(Tryz.prog.info? 186).map (·.size)=some 3:=by kernel_rfl
theorem qh:(Tryz.prog.info? 203).map (·.size)=some 3:=by kernel_rfl
theorem sz216:(Tryz.prog.info? 216).map (·.size)=some 1:=by kernel_rfl
theorem Gj:(Tryz.prog.info? 227).map (·.size)=some 4:=by kernel_rfl
theorem sz229:(Tryz.prog.info? 229).map (·.size)=some 1:=by kernel_rfl
theorem sz232:(Tryz.prog.info? 232).map (·.size)=some 13:=by kernel_rfl
theorem sz234:(Tryz.prog.info? 234).map (·.size)=some 3:=by kernel_rfl
theorem sz261:(Tryz.prog.info? 261).map (·.size)=some 1:=by kernel_rfl
theorem st3s {G h:Hp} {b i:Nat} {e:TypeId} {l:List Value} {v:Value} {K:Unit->Hp->Prop} (h1:jv v=true) (hl:i<l.length):wpH Tryz.prog G (Instr.storeAt 3 (.pointer (some ⟨b,i,none⟩)) v) (h.set b (.cells l.toArray e (0,0))) K=K () (h.set b (.cells (l.set i v).toArray e (0,0))):=Ev sz3 h1 hl
theorem st26w {G h:Hp} {b:Nat} {e:TypeId} {z0 z1 z2 z3 z4 z5 z6 z7 z8 z9 z10 z11 z12 z13 z14 z15:Value} {k0:IntKind} {y0:Int} {k1:IntKind} {y1:Int} {k2:IntKind} {y2:Int} {y3:Option Addr} {n3 c3:Nat} {y4:Option Addr} {n4 c4:Nat} {y5:Option Addr} {n5 c5:Nat} {y6:Option Addr} {n6 c6:Nat} {k7:IntKind} {y7:Int} {k8:IntKind} {y8:Int} {k9:IntKind} {y9:Int} {k10:IntKind} {y10:Int} {k11:IntKind} {y11:Int} {k12:IntKind} {y12:Int} {k13:IntKind} {y13:Int} {k14:IntKind} {y14:Int} {y15:Bool} {K:Unit->Hp->Prop}:wpH Tryz.prog G (Instr.storeAt 26 (.pointer (some ⟨b,0,none⟩)) (.agg #[(.int k0 y0),(.int k1 y1),(.int k2 y2),(.slice y3 n3 c3),(.slice y4 n4 c4),(.slice y5 n5 c5),(.slice y6 n6 c6),(.int k7 y7),(.int k8 y8),(.int k9 y9),(.int k10 y10),(.int k11 y11),(.int k12 y12),(.int k13 y13),(.int k14 y14),(.bool y15)])) (h.set b (.cells #[z0,z1,z2,z3,z4,z5,z6,z7,z8,z9,z10,z11,z12,z13,z14,z15] e (0,0))) K=K () (h.set b (.cells #[(.int k0 y0),(.int k1 y1),(.int k2 y2),(.slice y3 n3 c3),(.slice y4 n4 c4),(.slice y5 n5 c5),(.slice y6 n6 c6),(.int k7 y7),(.int k8 y8),(.int k9 y9),(.int k10 y10),(.int k11 y11),(.int k12 y12),(.int k13 y13),(.int k14 y14),(.bool y15)] e (0,0))):=gn sz26 rfl rfl (fun x hx=>by simp only [List.mem_cons,List.not_mem_nil,or_false]at hx;rcases hx with rfl|rfl|rfl|rfl|rfl|rfl|rfl|rfl|rfl|rfl|rfl|rfl|rfl|rfl|rfl|rfl<;>first|rfl|assumption)
theorem Qm {G h:Hp} {b:Nat} {e:TypeId} {z0 z1:Value} {k0:IntKind} {y0:Int} {k1:IntKind} {y1:Int} {K:Unit->Hp->Prop}:wpH Tryz.prog G (Instr.storeAt 28 (.pointer (some ⟨b,0,none⟩)) (.agg #[(.int k0 y0),(.int k1 y1)])) (h.set b (.cells #[z0,z1] e (0,0))) K=K () (h.set b (.cells #[(.int k0 y0),(.int k1 y1)] e (0,0))):=gn sz28 rfl rfl (fun x hx=>by simp only [List.mem_cons,List.not_mem_nil,or_false]at hx;rcases hx with rfl|rfl<;>first|rfl|assumption)
theorem yd {G h:Hp} {b:Nat} {e:TypeId} {z0 z1 z2:Value} {k0:IntKind} {y0:Int} {k1:IntKind} {y1:Int} {y2:Bool} {K:Unit->Hp->Prop}:wpH Tryz.prog G (Instr.storeAt 30 (.pointer (some ⟨b,0,none⟩)) (.agg #[(.int k0 y0),(.int k1 y1),(.bool y2)])) (h.set b (.cells #[z0,z1,z2] e (0,0))) K=K () (h.set b (.cells #[(.int k0 y0),(.int k1 y1),(.bool y2)] e (0,0))):=gn sz30 rfl rfl (fun x hx=>by simp only [List.mem_cons,List.not_mem_nil,or_false]at hx;rcases hx with rfl|rfl|rfl<;>first|rfl|assumption)
theorem st35s {G h:Hp} {b i:Nat} {e:TypeId} {l:List Value} {v:Value} {K:Unit->Hp->Prop} (h1:jv v=true) (hl:i<l.length):wpH Tryz.prog G (Instr.storeAt 35 (.pointer (some ⟨b,i,none⟩)) v) (h.set b (.cells l.toArray e (0,0))) K=K () (h.set b (.cells (l.set i v).toArray e (0,0))):=Ev sz35 h1 hl
theorem Kv {G h:Hp} {b:Nat} {e:TypeId} {z0 z1 z2 z3 z4 z5 z6 z7 z8 z9 z10:Value} {k0:IntKind} {y0:Int} {k1:IntKind} {y1:Int} {k2:IntKind} {y2:Int} {k3:IntKind} {y3:Int} {k4:IntKind} {y4:Int} {y5:Bool} {k6:IntKind} {y6:Int} {k7:IntKind} {y7:Int} {y8:Bool} {k9:IntKind} {y9:Int} {k10:IntKind} {y10:Int} {K:Unit->Hp->Prop}:wpH Tryz.prog G (Instr.storeAt 48 (.pointer (some ⟨b,0,none⟩)) (.agg #[(.int k0 y0),(.int k1 y1),(.int k2 y2),(.int k3 y3),(.int k4 y4),(.bool y5),(.int k6 y6),(.int k7 y7),(.bool y8),(.int k9 y9),(.int k10 y10)])) (h.set b (.cells #[z0,z1,z2,z3,z4,z5,z6,z7,z8,z9,z10] e (0,0))) K=K () (h.set b (.cells #[(.int k0 y0),(.int k1 y1),(.int k2 y2),(.int k3 y3),(.int k4 y4),(.bool y5),(.int k6 y6),(.int k7 y7),(.bool y8),(.int k9 y9),(.int k10 y10)] e (0,0))):=gn sz48 rfl rfl (fun x hx=>by simp only [List.mem_cons,List.not_mem_nil,or_false]at hx;rcases hx with rfl|rfl|rfl|rfl|rfl|rfl|rfl|rfl|rfl|rfl|rfl<;>first|rfl|assumption)
theorem st75w {G h:Hp} {b:Nat} {e:TypeId} {z0 z1 z2:Value} {k0:IntKind} {y0:Int} {k1:IntKind} {y1:Int} {k2:IntKind} {y2:Int} {K:Unit->Hp->Prop}:wpH Tryz.prog G (Instr.storeAt 75 (.pointer (some ⟨b,0,none⟩)) (.agg #[(.int k0 y0),(.int k1 y1),(.int k2 y2)])) (h.set b (.cells #[z0,z1,z2] e (0,0))) K=K () (h.set b (.cells #[(.int k0 y0),(.int k1 y1),(.int k2 y2)] e (0,0))):=gn sz75 rfl rfl (fun x hx=>by simp only [List.mem_cons,List.not_mem_nil,or_false]at hx;rcases hx with rfl|rfl|rfl<;>first|rfl|assumption)
theorem st110w {G h:Hp} {b:Nat} {e:TypeId} {z0 z1:Value} {k0:IntKind} {y0:Int} {k1:IntKind} {y1:Int} {K:Unit->Hp->Prop}:wpH Tryz.prog G (Instr.storeAt 110 (.pointer (some ⟨b,0,none⟩)) (.agg #[(.int k0 y0),(.int k1 y1)])) (h.set b (.cells #[z0,z1] e (0,0))) K=K () (h.set b (.cells #[(.int k0 y0),(.int k1 y1)] e (0,0))):=gn sz110 rfl rfl (fun x hx=>by simp only [List.mem_cons,List.not_mem_nil,or_false]at hx;rcases hx with rfl|rfl<;>first|rfl|assumption)
theorem ag7 {G h:Hp} {b:Nat} {e:TypeId} {z0 z1 z2:Value} {k0:IntKind} {y0:Int} {k1:IntKind} {y1:Int} {k2:IntKind} {y2:Int} {K:Unit->Hp->Prop}:wpH Tryz.prog G (Instr.storeAt 119 (.pointer (some ⟨b,0,none⟩)) (.agg #[(.int k0 y0),(.int k1 y1),(.int k2 y2)])) (h.set b (.cells #[z0,z1,z2] e (0,0))) K=K () (h.set b (.cells #[(.int k0 y0),(.int k1 y1),(.int k2 y2)] e (0,0))):=gn sz119 rfl rfl (fun x hx=>by simp only [List.mem_cons,List.not_mem_nil,or_false]at hx;rcases hx with rfl|rfl|rfl<;>first|rfl|assumption)
theorem st137w {G h:Hp} {b:Nat} {e:TypeId} {z0 z1:Value} {k0:IntKind} {y0:Int} {k1:IntKind} {y1:Int} {K:Unit->Hp->Prop}:wpH Tryz.prog G (Instr.storeAt 137 (.pointer (some ⟨b,0,none⟩)) (.agg #[(.int k0 y0),(.int k1 y1)])) (h.set b (.cells #[z0,z1] e (0,0))) K=K () (h.set b (.cells #[(.int k0 y0),(.int k1 y1)] e (0,0))):=gn sz137 rfl rfl (fun x hx=>by simp only [List.mem_cons,List.not_mem_nil,or_false]at hx;rcases hx with rfl|rfl<;>first|rfl|assumption)
theorem ag6 {G h:Hp} {b:Nat} {e:TypeId} {z0 z1 z2:Value} {k0:IntKind} {y0:Int} {k1:IntKind} {y1:Int} {k2:IntKind} {y2:Int} {K:Unit->Hp->Prop}:wpH Tryz.prog G (Instr.storeAt 139 (.pointer (some ⟨b,0,none⟩)) (.agg #[(.int k0 y0),(.int k1 y1),(.int k2 y2)])) (h.set b (.cells #[z0,z1,z2] e (0,0))) K=K () (h.set b (.cells #[(.int k0 y0),(.int k1 y1),(.int k2 y2)] e (0,0))):=gn sz139 rfl rfl (fun x hx=>by simp only [List.mem_cons,List.not_mem_nil,or_false]at hx;rcases hx with rfl|rfl|rfl<;>first|rfl|assumption)
theorem Ua {G h:Hp} {b:Nat} {e:TypeId} {z0 z1:Value} {k0:IntKind} {y0:Int} {k1:IntKind} {y1:Int} {K:Unit->Hp->Prop}:wpH Tryz.prog G (Instr.storeAt 151 (.pointer (some ⟨b,0,none⟩)) (.agg #[(.int k0 y0),(.int k1 y1)])) (h.set b (.cells #[z0,z1] e (0,0))) K=K () (h.set b (.cells #[(.int k0 y0),(.int k1 y1)] e (0,0))):=gn sz151 rfl rfl (fun x hx=>by simp only [List.mem_cons,List.not_mem_nil,or_false]at hx;rcases hx with rfl|rfl<;>first|rfl|assumption)
theorem st186w {G h:Hp} {b:Nat} {e:TypeId} {z0 z1 z2:Value} {k0:IntKind} {y0:Int} {k1:IntKind} {y1:Int} {k2:IntKind} {y2:Int} {K:Unit->Hp->Prop}:wpH Tryz.prog G (Instr.storeAt 186 (.pointer (some ⟨b,0,none⟩)) (.agg #[(.int k0 y0),(.int k1 y1),(.int k2 y2)])) (h.set b (.cells #[z0,z1,z2] e (0,0))) K=K () (h.set b (.cells #[(.int k0 y0),(.int k1 y1),(.int k2 y2)] e (0,0))):=gn sz186 rfl rfl (fun x hx=>by simp only [List.mem_cons,List.not_mem_nil,or_false]at hx;rcases hx with rfl|rfl|rfl<;>first|rfl|assumption)
theorem Gr {G h:Hp} {b:Nat} {e:TypeId} {z0 z1 z2:Value} {k0:IntKind} {y0:Int} {k1:IntKind} {y1:Int} {k2:IntKind} {y2:Int} {K:Unit->Hp->Prop}:wpH Tryz.prog G (Instr.storeAt 203 (.pointer (some ⟨b,0,none⟩)) (.agg #[(.int k0 y0),(.int k1 y1),(.int k2 y2)])) (h.set b (.cells #[z0,z1,z2] e (0,0))) K=K () (h.set b (.cells #[(.int k0 y0),(.int k1 y1),(.int k2 y2)] e (0,0))):=gn qh rfl rfl (fun x hx=>by simp only [List.mem_cons,List.not_mem_nil,or_false]at hx;rcases hx with rfl|rfl|rfl<;>first|rfl|assumption)
theorem st227w {G h:Hp} {b:Nat} {e:TypeId} {z0 z1 z2 z3:Value} {k0:IntKind} {y0:Int} {k1:IntKind} {y1:Int} {k2:IntKind} {y2:Int} {k3:IntKind} {y3:Int} {K:Unit->Hp->Prop}:wpH Tryz.prog G (Instr.storeAt 227 (.pointer (some ⟨b,0,none⟩)) (.agg #[(.int k0 y0),(.int k1 y1),(.int k2 y2),(.int k3 y3)])) (h.set b (.cells #[z0,z1,z2,z3] e (0,0))) K=K () (h.set b (.cells #[(.int k0 y0),(.int k1 y1),(.int k2 y2),(.int k3 y3)] e (0,0))):=gn Gj rfl rfl (fun x hx=>by simp only [List.mem_cons,List.not_mem_nil,or_false]at hx;rcases hx with rfl|rfl|rfl|rfl<;>first|rfl|assumption)
theorem st232w {G h:Hp} {b:Nat} {e:TypeId} {z0 z1 z2 z3 z4 z5 z6 z7 z8 z9 z10 z11 z12:Value} {k0:IntKind} {y0:Int} {k1:IntKind} {y1:Int} {k2:IntKind} {y2:Int} {k3:IntKind} {y3:Int} {k4:IntKind} {y4:Int} {y5:Bool} {k6:IntKind} {y6:Int} {k7:IntKind} {y7:Int} {y8:Bool} {k9:IntKind} {y9:Int} {k10:IntKind} {y10:Int} {k11:IntKind} {y11:Int} {y12:Option Addr} {n12 c12:Nat} {K:Unit->Hp->Prop}:wpH Tryz.prog G (Instr.storeAt 232 (.pointer (some ⟨b,0,none⟩)) (.agg #[(.int k0 y0),(.int k1 y1),(.int k2 y2),(.int k3 y3),(.int k4 y4),(.bool y5),(.int k6 y6),(.int k7 y7),(.bool y8),(.int k9 y9),(.int k10 y10),(.int k11 y11),(.slice y12 n12 c12)])) (h.set b (.cells #[z0,z1,z2,z3,z4,z5,z6,z7,z8,z9,z10,z11,z12] e (0,0))) K=K () (h.set b (.cells #[(.int k0 y0),(.int k1 y1),(.int k2 y2),(.int k3 y3),(.int k4 y4),(.bool y5),(.int k6 y6),(.int k7 y7),(.bool y8),(.int k9 y9),(.int k10 y10),(.int k11 y11),(.slice y12 n12 c12)] e (0,0))):=gn sz232 rfl rfl (fun x hx=>by simp only [List.mem_cons,List.not_mem_nil,or_false]at hx;rcases hx with rfl|rfl|rfl|rfl|rfl|rfl|rfl|rfl|rfl|rfl|rfl|rfl|rfl<;>first|rfl|assumption)
theorem ag5 {G h:Hp} {b:Nat} {e:TypeId} {z0 z1 z2:Value} {k0:IntKind} {y0:Int} {k1:IntKind} {y1:Int} {y2:Option Addr} {n2 c2:Nat} {K:Unit->Hp->Prop}:wpH Tryz.prog G (Instr.storeAt 234 (.pointer (some ⟨b,0,none⟩)) (.agg #[(.int k0 y0),(.int k1 y1),(.slice y2 n2 c2)])) (h.set b (.cells #[z0,z1,z2] e (0,0))) K=K () (h.set b (.cells #[(.int k0 y0),(.int k1 y1),(.slice y2 n2 c2)] e (0,0))):=gn sz234 rfl rfl (fun x hx=>by simp only [List.mem_cons,List.not_mem_nil,or_false]at hx;rcases hx with rfl|rfl|rfl<;>first|rfl|assumption)
theorem un22:Tryz.prog.underlying 22=some (.slice 28):=by kernel_rfl
theorem ix22 {G h:Hp} {ad:Addr} {len cap:Nat} {k:IntKind} {i:Int} {K:VK} (h1:0<=i) (h2:i<len):wpH Tryz.prog G (Instr.indexAt 22 (.slice (some ad) len cap) (.int k i)) h K=K (.pointer (some (ad.add (i.toNat*2)))) h:=ij un22 sz28 h1 h2
theorem sn {G h:Hp} {ad:Addr} {len cap:Nat} {k:IntKind} {i:Int} {K:Value->Prop} (h1:0<=i) (h2:i<len):pw Tryz.prog G h (Instr.indexAt 22 (.slice (some ad) len cap) (.int k i)) K=K (.pointer (some (ad.add (i.toNat*2)))):=i6 un22 sz28 h1 h2
theorem un23:Tryz.prog.underlying 23=some (.slice 30):=by kernel_rfl
theorem ix23 {G h:Hp} {ad:Addr} {len cap:Nat} {k:IntKind} {i:Int} {K:VK} (h1:0<=i) (h2:i<len):wpH Tryz.prog G (Instr.indexAt 23 (.slice (some ad) len cap) (.int k i)) h K=K (.pointer (some (ad.add (i.toNat*3)))) h:=ij un23 sz30 h1 h2
theorem ix23p {G h:Hp} {ad:Addr} {len cap:Nat} {k:IntKind} {i:Int} {K:Value->Prop} (h1:0<=i) (h2:i<len):pw Tryz.prog G h (Instr.indexAt 23 (.slice (some ad) len cap) (.int k i)) K=K (.pointer (some (ad.add (i.toNat*3)))):=i6 un23 sz30 h1 h2
theorem un24:Tryz.prog.underlying 24=some (.slice 234):=by kernel_rfl
theorem ix24 {G h:Hp} {ad:Addr} {len cap:Nat} {k:IntKind} {i:Int} {K:VK} (h1:0<=i) (h2:i<len):wpH Tryz.prog G (Instr.indexAt 24 (.slice (some ad) len cap) (.int k i)) h K=K (.pointer (some (ad.add (i.toNat*3)))) h:=ij un24 sz234 h1 h2
theorem R0 {G h:Hp} {ad:Addr} {len cap:Nat} {k:IntKind} {i:Int} {K:Value->Prop} (h1:0<=i) (h2:i<len):pw Tryz.prog G h (Instr.indexAt 24 (.slice (some ad) len cap) (.int k i)) K=K (.pointer (some (ad.add (i.toNat*3)))):=i6 un24 sz234 h1 h2
theorem un40:Tryz.prog.underlying 40=some (.slice 48):=by kernel_rfl
theorem ix40 {G h:Hp} {ad:Addr} {len cap:Nat} {k:IntKind} {i:Int} {K:VK} (h1:0<=i) (h2:i<len):wpH Tryz.prog G (Instr.indexAt 40 (.slice (some ad) len cap) (.int k i)) h K=K (.pointer (some (ad.add (i.toNat*11)))) h:=ij un40 sz48 h1 h2
theorem Rz {G h:Hp} {ad:Addr} {len cap:Nat} {k:IntKind} {i:Int} {K:Value->Prop} (h1:0<=i) (h2:i<len):pw Tryz.prog G h (Instr.indexAt 40 (.slice (some ad) len cap) (.int k i)) K=K (.pointer (some (ad.add (i.toNat*11)))):=i6 un40 sz48 h1 h2
theorem un59:Tryz.prog.underlying 59=some (.slice 119):=by kernel_rfl
theorem ix59 {G h:Hp} {ad:Addr} {len cap:Nat} {k:IntKind} {i:Int} {K:VK} (h1:0<=i) (h2:i<len):wpH Tryz.prog G (Instr.indexAt 59 (.slice (some ad) len cap) (.int k i)) h K=K (.pointer (some (ad.add (i.toNat*3)))) h:=ij un59 sz119 h1 h2
theorem W3 {G h:Hp} {ad:Addr} {len cap:Nat} {k:IntKind} {i:Int} {K:Value->Prop} (h1:0<=i) (h2:i<len):pw Tryz.prog G h (Instr.indexAt 59 (.slice (some ad) len cap) (.int k i)) K=K (.pointer (some (ad.add (i.toNat*3)))):=i6 un59 sz119 h1 h2
theorem un60:Tryz.prog.underlying 60=some (.slice 175):=by kernel_rfl
theorem un71:Tryz.prog.underlying 71=some (.slice 75):=by kernel_rfl
theorem ix71 {G h:Hp} {ad:Addr} {len cap:Nat} {k:IntKind} {i:Int} {K:VK} (h1:0<=i) (h2:i<len):wpH Tryz.prog G (Instr.indexAt 71 (.slice (some ad) len cap) (.int k i)) h K=K (.pointer (some (ad.add (i.toNat*3)))) h:=ij un71 sz75 h1 h2
theorem un90:Tryz.prog.underlying 90=some (.slice 4):=by kernel_rfl
theorem ix90 {G h:Hp} {ad:Addr} {len cap:Nat} {k:IntKind} {i:Int} {K:VK} (h1:0<=i) (h2:i<len):wpH Tryz.prog G (Instr.indexAt 90 (.slice (some ad) len cap) (.int k i)) h K=K (.pointer (some (ad.add (i.toNat*1)))) h:=ij un90 sz4 h1 h2
theorem un98:Tryz.prog.underlying 98=some (.slice 99):=by kernel_rfl
theorem ix98 {G h:Hp} {ad:Addr} {len cap:Nat} {k:IntKind} {i:Int} {K:VK} (h1:0<=i) (h2:i<len):wpH Tryz.prog G (Instr.indexAt 98 (.slice (some ad) len cap) (.int k i)) h K=K (.pointer (some (ad.add (i.toNat*1)))) h:=ij un98 sz99 h1 h2
theorem ix98p {G h:Hp} {ad:Addr} {len cap:Nat} {k:IntKind} {i:Int} {K:Value->Prop} (h1:0<=i) (h2:i<len):pw Tryz.prog G h (Instr.indexAt 98 (.slice (some ad) len cap) (.int k i)) K=K (.pointer (some (ad.add (i.toNat*1)))):=i6 un98 sz99 h1 h2
theorem un99:Tryz.prog.underlying 99=some (.slice 203):=by kernel_rfl
theorem ix99 {G h:Hp} {ad:Addr} {len cap:Nat} {k:IntKind} {i:Int} {K:VK} (h1:0<=i) (h2:i<len):wpH Tryz.prog G (Instr.indexAt 99 (.slice (some ad) len cap) (.int k i)) h K=K (.pointer (some (ad.add (i.toNat*3)))) h:=ij un99 qh h1 h2
theorem ix99p {G h:Hp} {ad:Addr} {len cap:Nat} {k:IntKind} {i:Int} {K:Value->Prop} (h1:0<=i) (h2:i<len):pw Tryz.prog G h (Instr.indexAt 99 (.slice (some ad) len cap) (.int k i)) K=K (.pointer (some (ad.add (i.toNat*3)))):=i6 un99 qh h1 h2
theorem un103:Tryz.prog.underlying 103=some (.slice 110):=by kernel_rfl
theorem Wa:Tryz.prog.underlying 114=some (.slice 186):=by kernel_rfl
theorem Hm {G h:Hp} {ad:Addr} {len cap:Nat} {k:IntKind} {i:Int} {K:VK} (h1:0<=i) (h2:i<len):wpH Tryz.prog G (Instr.indexAt 114 (.slice (some ad) len cap) (.int k i)) h K=K (.pointer (some (ad.add (i.toNat*3)))) h:=ij Wa sz186 h1 h2
theorem ix114p {G h:Hp} {ad:Addr} {len cap:Nat} {k:IntKind} {i:Int} {K:Value->Prop} (h1:0<=i) (h2:i<len):pw Tryz.prog G h (Instr.indexAt 114 (.slice (some ad) len cap) (.int k i)) K=K (.pointer (some (ad.add (i.toNat*3)))):=i6 Wa sz186 h1 h2
theorem V9:Tryz.prog.underlying 142=some (.slice 151):=by kernel_rfl
theorem R2 {G h:Hp} {ad:Addr} {len cap:Nat} {k:IntKind} {i:Int} {K:VK} (h1:0<=i) (h2:i<len):wpH Tryz.prog G (Instr.indexAt 142 (.slice (some ad) len cap) (.int k i)) h K=K (.pointer (some (ad.add (i.toNat*2)))) h:=ij V9 sz151 h1 h2
theorem D8 {G h:Hp} {ad:Addr} {len cap:Nat} {k:IntKind} {i:Int} {K:Value->Prop} (h1:0<=i) (h2:i<len):pw Tryz.prog G h (Instr.indexAt 142 (.slice (some ad) len cap) (.int k i)) K=K (.pointer (some (ad.add (i.toNat*2)))):=i6 V9 sz151 h1 h2
theorem Gg:Tryz.prog.underlying 168=some (.slice 3):=by kernel_rfl
theorem R1 {G h:Hp} {ad:Addr} {len cap:Nat} {k:IntKind} {i:Int} {K:VK} (h1:0<=i) (h2:i<len):wpH Tryz.prog G (Instr.indexAt 168 (.slice (some ad) len cap) (.int k i)) h K=K (.pointer (some (ad.add (i.toNat*1)))) h:=ij Gg sz3 h1 h2
theorem Uu {G h:Hp} {ad:Addr} {len cap:Nat} {k:IntKind} {i:Int} {K:Value->Prop} (h1:0<=i) (h2:i<len):pw Tryz.prog G h (Instr.indexAt 168 (.slice (some ad) len cap) (.int k i)) K=K (.pointer (some (ad.add (i.toNat*1)))):=i6 Gg sz3 h1 h2
theorem V8:Tryz.prog.underlying 216=some (.slice 227):=by kernel_rfl
theorem ix216 {G h:Hp} {ad:Addr} {len cap:Nat} {k:IntKind} {i:Int} {K:VK} (h1:0<=i) (h2:i<len):wpH Tryz.prog G (Instr.indexAt 216 (.slice (some ad) len cap) (.int k i)) h K=K (.pointer (some (ad.add (i.toNat*4)))) h:=ij V8 Gj h1 h2
theorem ix216p {G h:Hp} {ad:Addr} {len cap:Nat} {k:IntKind} {i:Int} {K:Value->Prop} (h1:0<=i) (h2:i<len):pw Tryz.prog G h (Instr.indexAt 216 (.slice (some ad) len cap) (.int k i)) K=K (.pointer (some (ad.add (i.toNat*4)))):=i6 V8 Gj h1 h2
theorem un229:Tryz.prog.underlying 229=some (.slice 232):=by kernel_rfl
theorem ix229 {G h:Hp} {ad:Addr} {len cap:Nat} {k:IntKind} {i:Int} {K:VK} (h1:0<=i) (h2:i<len):wpH Tryz.prog G (Instr.indexAt 229 (.slice (some ad) len cap) (.int k i)) h K=K (.pointer (some (ad.add (i.toNat*13)))) h:=ij un229 sz232 h1 h2
theorem ln22 {G h:Hp} {a:Option Addr} {n c:Nat} {K:VK}:wpH Tryz.prog G (Builtin.len_ #[22] 3 #[.slice a n c]) h K=K n h:=by kernel_rfl
theorem ln22p {G h:Hp} {a:Option Addr} {n c:Nat} {K:Value->Prop}:pw Tryz.prog G h (Builtin.len_ #[22] 3 #[.slice a n c]) K=K n:=by kernel_rfl
theorem ln23 {G h:Hp} {a:Option Addr} {n c:Nat} {K:VK}:wpH Tryz.prog G (Builtin.len_ #[23] 3 #[.slice a n c]) h K=K n h:=by kernel_rfl
theorem ln24 {G h:Hp} {a:Option Addr} {n c:Nat} {K:VK}:wpH Tryz.prog G (Builtin.len_ #[24] 3 #[.slice a n c]) h K=K n h:=by kernel_rfl
theorem ln40 {G h:Hp} {a:Option Addr} {n c:Nat} {K:VK}:wpH Tryz.prog G (Builtin.len_ #[40] 3 #[.slice a n c]) h K=K n h:=by kernel_rfl
theorem ln40p {G h:Hp} {a:Option Addr} {n c:Nat} {K:Value->Prop}:pw Tryz.prog G h (Builtin.len_ #[40] 3 #[.slice a n c]) K=K n:=by kernel_rfl
theorem ln59 {G h:Hp} {a:Option Addr} {n c:Nat} {K:VK}:wpH Tryz.prog G (Builtin.len_ #[59] 3 #[.slice a n c]) h K=K n h:=by kernel_rfl
theorem ln59p {G h:Hp} {a:Option Addr} {n c:Nat} {K:Value->Prop}:pw Tryz.prog G h (Builtin.len_ #[59] 3 #[.slice a n c]) K=K n:=by kernel_rfl
theorem ln71 {G h:Hp} {a:Option Addr} {n c:Nat} {K:VK}:wpH Tryz.prog G (Builtin.len_ #[71] 3 #[.slice a n c]) h K=K n h:=by kernel_rfl
theorem ln98 {G h:Hp} {a:Option Addr} {n c:Nat} {K:VK}:wpH Tryz.prog G (Builtin.len_ #[98] 3 #[.slice a n c]) h K=K n h:=by kernel_rfl
theorem ln99 {G h:Hp} {a:Option Addr} {n c:Nat} {K:VK}:wpH Tryz.prog G (Builtin.len_ #[99] 3 #[.slice a n c]) h K=K n h:=by kernel_rfl
theorem ln99p {G h:Hp} {a:Option Addr} {n c:Nat} {K:Value->Prop}:pw Tryz.prog G h (Builtin.len_ #[99] 3 #[.slice a n c]) K=K n:=by kernel_rfl
theorem ln103 {G h:Hp} {a:Option Addr} {n c:Nat} {K:VK}:wpH Tryz.prog G (Builtin.len_ #[103] 3 #[.slice a n c]) h K=K n h:=by kernel_rfl
theorem ln114 {G h:Hp} {a:Option Addr} {n c:Nat} {K:VK}:wpH Tryz.prog G (Builtin.len_ #[114] 3 #[.slice a n c]) h K=K n h:=by kernel_rfl
theorem ln142 {G h:Hp} {a:Option Addr} {n c:Nat} {K:VK}:wpH Tryz.prog G (Builtin.len_ #[142] 3 #[.slice a n c]) h K=K n h:=by kernel_rfl
theorem Rq {G h:Hp} {a:Option Addr} {n c:Nat} {K:VK}:wpH Tryz.prog G (Builtin.len_ #[168] 3 #[.slice a n c]) h K=K n h:=by kernel_rfl
theorem ln168p {G h:Hp} {a:Option Addr} {n c:Nat} {K:Value->Prop}:pw Tryz.prog G h (Builtin.len_ #[168] 3 #[.slice a n c]) K=K n:=by kernel_rfl
theorem ln216 {G h:Hp} {a:Option Addr} {n c:Nat} {K:VK}:wpH Tryz.prog G (Builtin.len_ #[216] 3 #[.slice a n c]) h K=K n h:=by kernel_rfl
theorem ln229 {G h:Hp} {a:Option Addr} {n c:Nat} {K:VK}:wpH Tryz.prog G (Builtin.len_ #[229] 3 #[.slice a n c]) h K=K n h:=by kernel_rfl
theorem al26 {G h:Hp} {v:Value} {K:VK}:wpH Tryz.prog G (Instr.alloc 26 true v) h K=∀x,h x=none->G x=none->K (.pointer (some ⟨x,0,none⟩)) (h.set x (.cells #[(.int .i64 0),(.int .i64 0),(.int .i64 0),(.slice none 0 0),(.slice none 0 0),(.slice none 0 0),(.slice none 0 0),(.int .i64 0),(.int .i64 0),(.int .i64 0),(.int .i64 0),(.int .i64 0),(.int .i64 0),(.int .i64 0),(.int .i64 0),(.bool false)] 26 (0,0))):=by kernel_rfl
theorem al28 {G h:Hp} {v:Value} {K:VK}:wpH Tryz.prog G (Instr.alloc 28 true v) h K=∀x,h x=none->G x=none->K (.pointer (some ⟨x,0,none⟩)) (h.set x (.cells #[(.int .i64 0),(.int .i64 0)] 28 (0,0))):=by kernel_rfl
theorem al30 {G h:Hp} {v:Value} {K:VK}:wpH Tryz.prog G (Instr.alloc 30 true v) h K=∀x,h x=none->G x=none->K (.pointer (some ⟨x,0,none⟩)) (h.set x (.cells #[(.int .i64 0),(.int .i64 0),(.bool false)] 30 (0,0))):=by kernel_rfl
theorem al35 {G h:Hp} {v:Value} {K:VK}:wpH Tryz.prog G (Instr.alloc 35 true v) h K=∀x,h x=none->G x=none->K (.pointer (some ⟨x,0,none⟩)) (h.set x (.cells #[(.int .i64 0)] 35 (0,0))):=by kernel_rfl
theorem al40 {G h:Hp} {v:Value} {K:VK}:wpH Tryz.prog G (Instr.alloc 40 true v) h K=∀x,h x=none->G x=none->K (.pointer (some ⟨x,0,none⟩)) (h.set x (.cells #[(.slice none 0 0)] 40 (0,0))):=by kernel_rfl
theorem al48 {G h:Hp} {v:Value} {K:VK}:wpH Tryz.prog G (Instr.alloc 48 true v) h K=∀x,h x=none->G x=none->K (.pointer (some ⟨x,0,none⟩)) (h.set x (.cells #[(.int .i64 0),(.int .i64 0),(.int .i64 0),(.int .i64 0),(.int .i64 0),(.bool false),(.int .i64 0),(.int .i64 0),(.bool false),(.int .i64 0),(.int .i64 0)] 48 (0,0))):=by kernel_rfl
theorem al75 {G h:Hp} {v:Value} {K:VK}:wpH Tryz.prog G (Instr.alloc 75 true v) h K=∀x,h x=none->G x=none->K (.pointer (some ⟨x,0,none⟩)) (h.set x (.cells #[(.int .i64 0),(.int .i64 0),(.int .i64 0)] 75 (0,0))):=by kernel_rfl
theorem al103 {G h:Hp} {v:Value} {K:VK}:wpH Tryz.prog G (Instr.alloc 103 true v) h K=∀x,h x=none->G x=none->K (.pointer (some ⟨x,0,none⟩)) (h.set x (.cells #[(.slice none 0 0)] 103 (0,0))):=by kernel_rfl
theorem al110 {G h:Hp} {v:Value} {K:VK}:wpH Tryz.prog G (Instr.alloc 110 true v) h K=∀x,h x=none->G x=none->K (.pointer (some ⟨x,0,none⟩)) (h.set x (.cells #[(.int .i64 0),(.int .i64 0)] 110 (0,0))):=by kernel_rfl
theorem al119 {G h:Hp} {v:Value} {K:VK}:wpH Tryz.prog G (Instr.alloc 119 true v) h K=∀x,h x=none->G x=none->K (.pointer (some ⟨x,0,none⟩)) (h.set x (.cells #[(.int .i64 0),(.int .i64 0),(.int .i64 0)] 119 (0,0))):=by kernel_rfl
theorem al137 {G h:Hp} {v:Value} {K:VK}:wpH Tryz.prog G (Instr.alloc 137 true v) h K=∀x,h x=none->G x=none->K (.pointer (some ⟨x,0,none⟩)) (h.set x (.cells #[(.int .i64 0),(.int .i64 0)] 137 (0,0))):=by kernel_rfl
theorem al139 {G h:Hp} {v:Value} {K:VK}:wpH Tryz.prog G (Instr.alloc 139 true v) h K=∀x,h x=none->G x=none->K (.pointer (some ⟨x,0,none⟩)) (h.set x (.cells #[(.int .i64 0),(.int .i64 0),(.int .i64 0)] 139 (0,0))):=by kernel_rfl
theorem al142 {G h:Hp} {v:Value} {K:VK}:wpH Tryz.prog G (Instr.alloc 142 true v) h K=∀x,h x=none->G x=none->K (.pointer (some ⟨x,0,none⟩)) (h.set x (.cells #[(.slice none 0 0)] 142 (0,0))):=by kernel_rfl
theorem al151 {G h:Hp} {v:Value} {K:VK}:wpH Tryz.prog G (Instr.alloc 151 true v) h K=∀x,h x=none->G x=none->K (.pointer (some ⟨x,0,none⟩)) (h.set x (.cells #[(.int .i64 0),(.int .i64 0)] 151 (0,0))):=by kernel_rfl
theorem al186 {G h:Hp} {v:Value} {K:VK}:wpH Tryz.prog G (Instr.alloc 186 true v) h K=∀x,h x=none->G x=none->K (.pointer (some ⟨x,0,none⟩)) (h.set x (.cells #[(.int .i64 0),(.int .i64 0),(.int .i64 0)] 186 (0,0))):=by kernel_rfl
theorem Ty {G h:Hp} {v:Value} {K:VK}:wpH Tryz.prog G (Instr.alloc 203 true v) h K=∀x,h x=none->G x=none->K (.pointer (some ⟨x,0,none⟩)) (h.set x (.cells #[(.int .i64 0),(.int .i64 0),(.int .i64 0)] 203 (0,0))):=by kernel_rfl
theorem al227 {G h:Hp} {v:Value} {K:VK}:wpH Tryz.prog G (Instr.alloc 227 true v) h K=∀x,h x=none->G x=none->K (.pointer (some ⟨x,0,none⟩)) (h.set x (.cells #[(.int .i64 0),(.int .i64 0),(.int .i64 0),(.int .i64 0)] 227 (0,0))):=by kernel_rfl
theorem al229 {G h:Hp} {v:Value} {K:VK}:wpH Tryz.prog G (Instr.alloc 229 true v) h K=∀x,h x=none->G x=none->K (.pointer (some ⟨x,0,none⟩)) (h.set x (.cells #[(.slice none 0 0)] 229 (0,0))):=by kernel_rfl
theorem al232 {G h:Hp} {v:Value} {K:VK}:wpH Tryz.prog G (Instr.alloc 232 true v) h K=∀x,h x=none->G x=none->K (.pointer (some ⟨x,0,none⟩)) (h.set x (.cells #[(.int .i64 0),(.int .i64 0),(.int .i64 0),(.int .i64 0),(.int .i64 0),(.bool false),(.int .i64 0),(.int .i64 0),(.bool false),(.int .i64 0),(.int .i64 0),(.int .i64 0),(.slice none 0 0)] 232 (0,0))):=by kernel_rfl
theorem al234 {G h:Hp} {v:Value} {K:VK}:wpH Tryz.prog G (Instr.alloc 234 true v) h K=∀x,h x=none->G x=none->K (.pointer (some ⟨x,0,none⟩)) (h.set x (.cells #[(.int .i64 0),(.int .i64 0),(.slice none 0 0)] 234 (0,0))):=by kernel_rfl
theorem al261 {G h:Hp} {v:Value} {K:VK}:wpH Tryz.prog G (Instr.alloc 261 true v) h K=∀x,h x=none->G x=none->K (.pointer (some ⟨x,0,none⟩)) (h.set x (.cells #[(.pointer none)] 261 (0,0))):=by kernel_rfl
theorem cf21:CF 21:=fun {_ _ _ _}=>by kernel_rfl
theorem cf22:CF 22:=fun {_ _ _ _}=>by kernel_rfl
theorem cf24:CF 24:=fun {_ _ _ _}=>by kernel_rfl
theorem cf25:CF 25:=fun {_ _ _ _}=>by kernel_rfl
theorem cf26:CF 26:=fun {_ _ _ _}=>by kernel_rfl
theorem cf27:CF 27:=fun {_ _ _ _}=>by kernel_rfl
theorem cf28:CF 28:=fun {_ _ _ _}=>by kernel_rfl
theorem cf29:CF 29:=fun {_ _ _ _}=>by kernel_rfl
theorem cf30:CF 30:=fun {_ _ _ _}=>by kernel_rfl
theorem cf32:CF 32:=fun {_ _ _ _}=>by kernel_rfl
theorem cf33:CF 33:=fun {_ _ _ _}=>by kernel_rfl
theorem cf34:CF 34:=fun {_ _ _ _}=>by kernel_rfl
theorem cf35:CF 35:=fun {_ _ _ _}=>by kernel_rfl
theorem cf37:CF 37:=fun {_ _ _ _}=>by kernel_rfl
theorem cf38:CF 38:=fun {_ _ _ _}=>by kernel_rfl
theorem cf40:CF 40:=fun {_ _ _ _}=>by kernel_rfl
theorem cf45:CF 45:=fun {_ _ _ _}=>by kernel_rfl
theorem cf46:CF 46:=fun {_ _ _ _}=>by kernel_rfl
theorem cf50:CF 50:=fun {_ _ _ _}=>by kernel_rfl
theorem cf56:CF 56:=fun {_ _ _ _}=>by kernel_rfl
theorem cf60:CF 60:=fun {_ _ _ _}=>by kernel_rfl
theorem cf61:CF 61:=fun {_ _ _ _}=>by kernel_rfl
theorem cf62:CF 62:=fun {_ _ _ _}=>by kernel_rfl
theorem cf63:CF 63:=fun {_ _ _ _}=>by kernel_rfl
theorem cf64:CF 64:=fun {_ _ _ _}=>by kernel_rfl
theorem cf65:CF 65:=fun {_ _ _ _}=>by kernel_rfl
theorem cf66:CF 66:=fun {_ _ _ _}=>by kernel_rfl
theorem cf67:CF 67:=fun {_ _ _ _}=>by kernel_rfl
theorem cf68:CF 68:=fun {_ _ _ _}=>by kernel_rfl
theorem cf69:CF 69:=fun {_ _ _ _}=>by kernel_rfl
theorem cf70:CF 70:=fun {_ _ _ _}=>by kernel_rfl
theorem cf71:CF 71:=fun {_ _ _ _}=>by kernel_rfl
theorem cf72:CF 72:=fun {_ _ _ _}=>by kernel_rfl
theorem cf74:CF 74:=fun {_ _ _ _}=>by kernel_rfl
theorem cf75:CF 75:=fun {_ _ _ _}=>by kernel_rfl
theorem cf76:CF 76:=fun {_ _ _ _}=>by kernel_rfl
theorem cf77:CF 77:=fun {_ _ _ _}=>by kernel_rfl
theorem cf78:CF 78:=fun {_ _ _ _}=>by kernel_rfl
theorem cf79:CF 79:=fun {_ _ _ _}=>by kernel_rfl
theorem cf80:CF 80:=fun {_ _ _ _}=>by kernel_rfl
theorem cf81:CF 81:=fun {_ _ _ _}=>by kernel_rfl
theorem cf82:CF 82:=fun {_ _ _ _}=>by kernel_rfl
theorem cf83:CF 83:=fun {_ _ _ _}=>by kernel_rfl
theorem cf84:CF 84:=fun {_ _ _ _}=>by kernel_rfl
theorem cf85:CF 85:=fun {_ _ _ _}=>by kernel_rfl
theorem cf86:CF 86:=fun {_ _ _ _}=>by kernel_rfl
theorem cf88:CF 88:=fun {_ _ _ _}=>by kernel_rfl
theorem cf89:CF 89:=fun {_ _ _ _}=>by kernel_rfl
theorem cf90:CF 90:=fun {_ _ _ _}=>by kernel_rfl
theorem cf91:CF 91:=fun {_ _ _ _}=>by kernel_rfl
theorem cf92:CF 92:=fun {_ _ _ _}=>by kernel_rfl
theorem cf98:CF 98:=fun {_ _ _ _}=>by kernel_rfl
theorem Xy:CF 103:=fun {_ _ _ _}=>by kernel_rfl
theorem cf104:CF 104:=fun {_ _ _ _}=>by kernel_rfl
theorem cf105:CF 105:=fun {_ _ _ _}=>by kernel_rfl
theorem cf106:CF 106:=fun {_ _ _ _}=>by kernel_rfl
theorem cf107:CF 107:=fun {_ _ _ _}=>by kernel_rfl
theorem cf108:CF 108:=fun {_ _ _ _}=>by kernel_rfl
theorem cf113:CF 113:=fun {_ _ _ _}=>by kernel_rfl
theorem cf114:CF 114:=fun {_ _ _ _}=>by kernel_rfl
theorem cf115:CF 115:=fun {_ _ _ _}=>by kernel_rfl
theorem cf116:CF 116:=fun {_ _ _ _}=>by kernel_rfl
theorem cf117:CF 117:=fun {_ _ _ _}=>by kernel_rfl
theorem cf118:CF 118:=fun {_ _ _ _}=>by kernel_rfl
theorem cf119:CF 119:=fun {_ _ _ _}=>by kernel_rfl
theorem cf120:CF 120:=fun {_ _ _ _}=>by kernel_rfl
theorem cf121:CF 121:=fun {_ _ _ _}=>by kernel_rfl
theorem cf122:CF 122:=fun {_ _ _ _}=>by kernel_rfl
theorem cf123:CF 123:=fun {_ _ _ _}=>by kernel_rfl
theorem cf126:CF 126:=fun {_ _ _ _}=>by kernel_rfl
theorem cf127:CF 127:=fun {_ _ _ _}=>by kernel_rfl
theorem cf128:CF 128:=fun {_ _ _ _}=>by kernel_rfl
theorem Th:CF 129:=fun {_ _ _ _}=>by kernel_rfl
theorem cf130:CF 130:=fun {_ _ _ _}=>by kernel_rfl
theorem cf131:CF 131:=fun {_ _ _ _}=>by kernel_rfl
theorem cf132:CF 132:=fun {_ _ _ _}=>by kernel_rfl
theorem cf133:CF 133:=fun {_ _ _ _}=>by kernel_rfl
theorem cf134:CF 134:=fun {_ _ _ _}=>by kernel_rfl
theorem cf136:CF 136:=fun {_ _ _ _}=>by kernel_rfl
theorem cf137:CF 137:=fun {_ _ _ _}=>by kernel_rfl
theorem cf138:CF 138:=fun {_ _ _ _}=>by kernel_rfl
theorem cf139:CF 139:=fun {_ _ _ _}=>by kernel_rfl
theorem cf142:CF 142:=fun {_ _ _ _}=>by kernel_rfl
theorem cf143:CF 143:=fun {_ _ _ _}=>by kernel_rfl
theorem cf144:CF 144:=fun {_ _ _ _}=>by kernel_rfl
theorem cf145:CF 145:=fun {_ _ _ _}=>by kernel_rfl
theorem cf146:CF 146:=fun {_ _ _ _}=>by kernel_rfl
theorem cf147:CF 147:=fun {_ _ _ _}=>by kernel_rfl
theorem cf148:CF 148:=fun {_ _ _ _}=>by kernel_rfl
theorem cf149:CF 149:=fun {_ _ _ _}=>by kernel_rfl
theorem cf150:CF 150:=fun {_ _ _ _}=>by kernel_rfl
theorem cf152:CF 152:=fun {_ _ _ _}=>by kernel_rfl
theorem cf154:CF 154:=fun {_ _ _ _}=>by kernel_rfl
theorem cf155:CF 155:=fun {_ _ _ _}=>by kernel_rfl
theorem cf156:CF 156:=fun {_ _ _ _}=>by kernel_rfl
theorem cf157:CF 157:=fun {_ _ _ _}=>by kernel_rfl
theorem cf158:CF 158:=fun {_ _ _ _}=>by kernel_rfl
theorem cf159:CF 159:=fun {_ _ _ _}=>by kernel_rfl
theorem cf164:CF 164:=fun {_ _ _ _}=>by kernel_rfl
theorem cf166:CF 166:=fun {_ _ _ _}=>by kernel_rfl
theorem cf170:CF 170:=fun {_ _ _ _}=>by kernel_rfl
theorem cf187:CF 187:=fun {_ _ _ _}=>by kernel_rfl
theorem Ek {G h:Hp} {k0:IntKind} {y0:Int} {k1:IntKind} {y1:Int} {K:VK}:wpH Tryz.prog G (Instr.build 110 #[(0,(.int k0 y0)),(1,(.int k1 y1))]) h K=K (.agg #[(.int k0 y0),(.int k1 y1)]) h:=by kernel_rfl
theorem bd119_1 {G h:Hp} {k1:IntKind} {y1:Int} {K:VK}:wpH Tryz.prog G (Instr.build 119 #[(1,(.int k1 y1))]) h K=K (.agg #[(.int .i64 0),(.int .i64 0),(.int k1 y1)]) h:=by kernel_rfl
theorem bd124_0 {G h:Hp} {y0:Option Addr} {n0 c0:Nat} {K:VK}:wpH Tryz.prog G (Instr.build 124 #[(0,(.slice y0 n0 c0))]) h K=K (.agg #[(.slice y0 n0 c0)]) h:=by kernel_rfl
theorem tl {G h:Hp} {y0_0 y0_1 y0_2 y0_3 y0_4 y0_5 y0_6 y0_7 y0_8 y0_9 y0_10 y0_11 y0_12 y0_13 y0_14 y0_15:Value} {y1:Option Addr} {y2:Option Addr} {y3:Option Addr} {k4:IntKind} {y4:Int} {y5:Option Nat} {y6:Option Nat} {y7:Option Nat} {y8:Option Nat} {y9:Option Addr} {K:VK}:wpH Tryz.prog G (Instr.build 134 #[(0,(.agg #[y0_0,y0_1,y0_2,y0_3,y0_4,y0_5,y0_6,y0_7,y0_8,y0_9,y0_10,y0_11,y0_12,y0_13,y0_14,y0_15])),(1,(.pointer y1)),(2,(.pointer y2)),(3,(.pointer y3)),(4,(.int k4 y4)),(5,(.map y5)),(6,(.map y6)),(7,(.map y7)),(8,(.map y8)),(9,(.pointer y9))]) h K=K (.agg #[y0_0,y0_1,y0_2,y0_3,y0_4,y0_5,y0_6,y0_7,y0_8,y0_9,y0_10,y0_11,y0_12,y0_13,y0_14,y0_15,(.pointer y1),(.pointer y2),(.pointer y3),(.int k4 y4),(.map y5),(.map y6),(.map y7),(.map y8),(.pointer y9)]) h:=by kernel_rfl
theorem af5 {G h:Hp} {k0:IntKind} {y0:Int} {k1:IntKind} {y1:Int} {K:VK}:wpH Tryz.prog G (Instr.build 137 #[(0,(.int k0 y0)),(1,(.int k1 y1))]) h K=K (.agg #[(.int k0 y0),(.int k1 y1)]) h:=by kernel_rfl
theorem Vm {G h:Hp} {k0:IntKind} {y0:Int} {y1_0 y1_1:Value} {K:Value->Prop}:pw Tryz.prog G h (Instr.build 139 #[(0,(.int k0 y0)),(1,(.agg #[y1_0,y1_1]))]) K=K (.agg #[(.int k0 y0),y1_0,y1_1]):=by kernel_rfl
theorem bd146_ {G h:Hp}  {K:VK}:wpH Tryz.prog G (Instr.build 146 #[]) h K=K (.agg #[(.int .i64 0),(.int .i64 0),(.int .i64 0),(.int .i64 0),(.int .i64 0),(.int .i64 0),(.int .i64 0),(.bool false),(.int .i64 0),(.int .i64 0),(.bool false),(.int .i64 0),(.int .i64 0),(.int .i64 0),(.bool false)]) h:=by kernel_rfl
theorem af4 {G h:Hp} {y0_0 y0_1:Value} {y1_0 y1_1 y1_2 y1_3 y1_4 y1_5 y1_6 y1_7 y1_8 y1_9 y1_10:Value} {K:VK}:wpH Tryz.prog G (Instr.build 146 #[(0,(.agg #[y0_0,y0_1])),(1,(.agg #[y1_0,y1_1,y1_2,y1_3,y1_4,y1_5,y1_6,y1_7,y1_8,y1_9,y1_10]))]) h K=K (.agg #[y0_0,y0_1,y1_0,y1_1,y1_2,y1_3,y1_4,y1_5,y1_6,y1_7,y1_8,y1_9,y1_10,(.int .i64 0),(.bool false)]) h:=by kernel_rfl
theorem af3 {G h:Hp} {k0:IntKind} {y0:Int} {k1:IntKind} {y1:Int} {K:VK}:wpH Tryz.prog G (Instr.build 151 #[(0,(.int k0 y0)),(1,(.int k1 y1))]) h K=K (.agg #[(.int k0 y0),(.int k1 y1)]) h:=by kernel_rfl
theorem Vl {G h:Hp} {k0:IntKind} {y0:Int} {k1:IntKind} {y1:Int} {K:Value->Prop}:pw Tryz.prog G h (Instr.build 151 #[(0,(.int k0 y0)),(1,(.int k1 y1))]) K=K (.agg #[(.int k0 y0),(.int k1 y1)]):=by kernel_rfl
theorem Tu {G h:Hp} {k0:IntKind} {y0:Int} {k1:IntKind} {y1:Int} {k2:IntKind} {y2:Int} {K:VK}:wpH Tryz.prog G (Instr.build 155 #[(0,(.int k0 y0)),(1,(.int k1 y1)),(2,(.int k2 y2))]) h K=K (.agg #[(.int k0 y0),(.int k1 y1),(.int k2 y2)]) h:=by kernel_rfl
theorem Vk {G h:Hp} {y0_0 y0_1:Value} {k1:IntKind} {y1:Int} {K:Value->Prop}:pw Tryz.prog G h (Instr.build 175 #[(0,(.agg #[y0_0,y0_1])),(1,(.int k1 y1))]) K=K (.agg #[y0_0,y0_1,(.int k1 y1)]):=by kernel_rfl
theorem bd188_0 {G h:Hp} {y0:Option Addr} {n0 c0:Nat} {K:VK}:wpH Tryz.prog G (Instr.build 188 #[(0,(.slice y0 n0 c0))]) h K=K (.agg #[(.slice y0 n0 c0)]) h:=by kernel_rfl
theorem Tt {G h:Hp} {k0:IntKind} {y0:Int} {k1:IntKind} {y1:Int} {k2:IntKind} {y2:Int} {K:VK}:wpH Tryz.prog G (Instr.build 203 #[(0,(.int k0 y0)),(1,(.int k1 y1)),(2,(.int k2 y2))]) h K=K (.agg #[(.int k0 y0),(.int k1 y1),(.int k2 y2)]) h:=by kernel_rfl
theorem Pe {G h:Hp} {k0:IntKind} {y0:Int} {k1:IntKind} {y1:Int} {k2:IntKind} {y2:Int} {K:Value->Prop}:pw Tryz.prog G h (Instr.build 203 #[(0,(.int k0 y0)),(1,(.int k1 y1)),(2,(.int k2 y2))]) K=K (.agg #[(.int k0 y0),(.int k1 y1),(.int k2 y2)]):=by kernel_rfl
theorem Pd {G h:Hp} {k0:IntKind} {y0:Int} {k1:IntKind} {y1:Int} {y2:Option Addr} {n2 c2:Nat} {K:Value->Prop}:pw Tryz.prog G h (Instr.build 215 #[(0,(.int k0 y0)),(1,(.int k1 y1)),(2,(.slice y2 n2 c2))]) K=K (.agg #[(.int k0 y0),(.int k1 y1),(.slice y2 n2 c2)]):=by kernel_rfl
theorem bd218_0 {G h:Hp} {y0:Fn} {p0 q0:Array Value} {K:VK}:wpH Tryz.prog G (Instr.build 218 #[(0,(.func y0 p0 q0))]) h K=K (.agg #[(.func y0 p0 q0),(.slice none 0 0),(.int .i64 0)]) h:=by kernel_rfl
theorem bd227_ {G h:Hp}  {K:VK}:wpH Tryz.prog G (Instr.build 227 #[]) h K=K (.agg #[(.int .i64 0),(.int .i64 0),(.int .i64 0),(.int .i64 0)]) h:=by kernel_rfl
theorem Vj {G h:Hp} {y0_0 y0_1 y0_2:Value} {k1:IntKind} {y1:Int} {K:Value->Prop}:pw Tryz.prog G h (Instr.build 227 #[(0,(.agg #[y0_0,y0_1,y0_2])),(1,(.int k1 y1))]) K=K (.agg #[y0_0,y0_1,y0_2,(.int k1 y1)]):=by kernel_rfl
theorem Pc {G h:Hp} {y0_0 y0_1 y0_2 y0_3 y0_4 y0_5 y0_6 y0_7 y0_8 y0_9 y0_10:Value} {k1:IntKind} {y1:Int} {y2:Option Addr} {n2 c2:Nat} {K:Value->Prop}:pw Tryz.prog G h (Instr.build 232 #[(0,(.agg #[y0_0,y0_1,y0_2,y0_3,y0_4,y0_5,y0_6,y0_7,y0_8,y0_9,y0_10])),(1,(.int k1 y1)),(2,(.slice y2 n2 c2))]) K=K (.agg #[y0_0,y0_1,y0_2,y0_3,y0_4,y0_5,y0_6,y0_7,y0_8,y0_9,y0_10,(.int k1 y1),(.slice y2 n2 c2)]):=by kernel_rfl
theorem Vi {G h:Hp} {y0_0 y0_1:Value} {y1:Option Addr} {n1 c1:Nat} {K:Value->Prop}:pw Tryz.prog G h (Instr.build 234 #[(0,(.agg #[y0_0,y0_1])),(1,(.slice y1 n1 c1))]) K=K (.agg #[y0_0,y0_1,(.slice y1 n1 c1)]):=by kernel_rfl
theorem qg {G h:Hp} {k0:IntKind} {y0:Int} {k1:IntKind} {y1:Int} {k2:IntKind} {y2:Int} {k7:IntKind} {y7:Int} {k8:IntKind} {y8:Int} {k9:IntKind} {y9:Int} {k10:IntKind} {y10:Int} {k11:IntKind} {y11:Int} {k12:IntKind} {y12:Int} {k13:IntKind} {y13:Int} {k14:IntKind} {y14:Int} {K:VK}:wpH Tryz.prog G (Instr.build 26 #[(0,(.int k0 y0)),(1,(.int k1 y1)),(2,(.int k2 y2)),(7,(.int k7 y7)),(8,(.int k8 y8)),(9,(.int k9 y9)),(10,(.int k10 y10)),(11,(.int k11 y11)),(12,(.int k12 y12)),(13,(.int k13 y13)),(14,(.int k14 y14))]) h K=K (.agg #[(.int k0 y0),(.int k1 y1),(.int k2 y2),(.slice none 0 0),(.slice none 0 0),(.slice none 0 0),(.slice none 0 0),(.int k7 y7),(.int k8 y8),(.int k9 y9),(.int k10 y10),(.int k11 y11),(.int k12 y12),(.int k13 y13),(.int k14 y14),(.bool false)]) h:=by kernel_rfl
theorem bd28_0 {G h:Hp} {k0:IntKind} {y0:Int} {K:VK}:wpH Tryz.prog G (Instr.build 28 #[(0,(.int k0 y0))]) h K=K (.agg #[(.int k0 y0),(.int .i64 0)]) h:=by kernel_rfl
theorem Ip {G h:Hp} {k0:IntKind} {y0:Int} {k1:IntKind} {y1:Int} {K:VK}:wpH Tryz.prog G (Instr.build 28 #[(0,(.int k0 y0)),(1,(.int k1 y1))]) h K=K (.agg #[(.int k0 y0),(.int k1 y1)]) h:=by kernel_rfl
theorem af2 {G h:Hp} {k0:IntKind} {y0:Int} {k1:IntKind} {y1:Int} {K:Value->Prop}:pw Tryz.prog G h (Instr.build 28 #[(0,(.int k0 y0)),(1,(.int k1 y1))]) K=K (.agg #[(.int k0 y0),(.int k1 y1)]):=by kernel_rfl
theorem bd30_ {G h:Hp}  {K:VK}:wpH Tryz.prog G (Instr.build 30 #[]) h K=K (.agg #[(.int .i64 0),(.int .i64 0),(.bool false)]) h:=by kernel_rfl
theorem Io {G h:Hp} {y0_0 y0_1:Value} {y1:Bool} {K:VK}:wpH Tryz.prog G (Instr.build 30 #[(0,(.agg #[y0_0,y0_1])),(1,(.bool y1))]) h K=K (.agg #[y0_0,y0_1,(.bool y1)]) h:=by kernel_rfl
theorem af1 {G h:Hp} {y0_0 y0_1:Value} {y1:Bool} {K:Value->Prop}:pw Tryz.prog G h (Instr.build 30 #[(0,(.agg #[y0_0,y0_1])),(1,(.bool y1))]) K=K (.agg #[y0_0,y0_1,(.bool y1)]):=by kernel_rfl
theorem ax8 {G h:Hp} {y0_0 y0_1:Value} {K:VK}:wpH Tryz.prog G (Instr.build 30 #[(0,(.agg #[y0_0,y0_1]))]) h K=K (.agg #[y0_0,y0_1,(.bool false)]) h:=by kernel_rfl
theorem bd30_0p {G h:Hp} {y0_0 y0_1:Value} {K:Value->Prop}:pw Tryz.prog G h (Instr.build 30 #[(0,(.agg #[y0_0,y0_1]))]) K=K (.agg #[y0_0,y0_1,(.bool false)]):=by kernel_rfl
theorem bd45_0 {G h:Hp} {y0_0 y0_1 y0_2:Value} {K:VK}:wpH Tryz.prog G (Instr.build 45 #[(0,(.agg #[y0_0,y0_1,y0_2]))]) h K=K (.agg #[y0_0,y0_1,y0_2,(.bool false)]) h:=by kernel_rfl
theorem ax7 {G h:Hp} {y0_0 y0_1 y0_2:Value} {y1:Bool} {K:VK}:wpH Tryz.prog G (Instr.build 45 #[(0,(.agg #[y0_0,y0_1,y0_2])),(1,(.bool y1))]) h K=K (.agg #[y0_0,y0_1,y0_2,(.bool y1)]) h:=by kernel_rfl
theorem Im {G h:Hp} {k0:IntKind} {y0:Int} {k1:IntKind} {y1:Int} {k2:IntKind} {y2:Int} {y3_0 y3_1 y3_2:Value} {y4_0 y4_1 y4_2:Value} {K:VK}:wpH Tryz.prog G (Instr.build 48 #[(0,(.int k0 y0)),(1,(.int k1 y1)),(2,(.int k2 y2)),(3,(.agg #[y3_0,y3_1,y3_2])),(4,(.agg #[y4_0,y4_1,y4_2]))]) h K=K (.agg #[(.int k0 y0),(.int k1 y1),(.int k2 y2),y3_0,y3_1,y3_2,y4_0,y4_1,y4_2,(.int .i64 0),(.int .i64 0)]) h:=by kernel_rfl
theorem Il {G h:Hp} {k0:IntKind} {y0:Int} {y3_0 y3_1 y3_2:Value} {y4_0 y4_1 y4_2:Value} {K:VK}:wpH Tryz.prog G (Instr.build 48 #[(0,(.int k0 y0)),(3,(.agg #[y3_0,y3_1,y3_2])),(4,(.agg #[y4_0,y4_1,y4_2]))]) h K=K (.agg #[(.int k0 y0),(.int .i64 0),(.int .i64 0),y3_0,y3_1,y3_2,y4_0,y4_1,y4_2,(.int .i64 0),(.int .i64 0)]) h:=by kernel_rfl
theorem Fy {G h:Hp} {k0:IntKind} {y0:Int} {y3_0 y3_1 y3_2:Value} {y4_0 y4_1 y4_2:Value} {k5:IntKind} {y5:Int} {k6:IntKind} {y6:Int} {K:Value->Prop}:pw Tryz.prog G h (Instr.build 48 #[(0,(.int k0 y0)),(3,(.agg #[y3_0,y3_1,y3_2])),(4,(.agg #[y4_0,y4_1,y4_2])),(5,(.int k5 y5)),(6,(.int k6 y6))]) K=K (.agg #[(.int k0 y0),(.int .i64 0),(.int .i64 0),y3_0,y3_1,y3_2,y4_0,y4_1,y4_2,(.int k5 y5),(.int k6 y6)]):=by kernel_rfl
theorem Ts {G h:Hp} {k0:IntKind} {y0:Int} {k1:IntKind} {y1:Int} {k2:IntKind} {y2:Int} {K:Value->Prop}:pw Tryz.prog G h (Instr.build 75 #[(0,(.int k0 y0)),(1,(.int k1 y1)),(2,(.int k2 y2))]) K=K (.agg #[(.int k0 y0),(.int k1 y1),(.int k2 y2)]):=by kernel_rfl
theorem Tm {G h:Hp} {y0_0 y0_1 y0_2:Value} {K:VK}:wpH Tryz.prog G (Instr.buildSlice 99 1 #[(0,(.agg #[y0_0,y0_1,y0_2]))]) h K=∀x,h x=none->G x=none->K (.slice (some ⟨x,0,none⟩) 1 1) (h.set x (.cells #[y0_0,y0_1,y0_2] 203 (0,0))):=by kernel_rfl
theorem ae6 {G h:Hp} {y0_0 y0_1:Value} {K:VK}:wpH Tryz.prog G (Instr.buildSlice 103 1 #[(0,(.agg #[y0_0,y0_1]))]) h K=∀x,h x=none->G x=none->K (.slice (some ⟨x,0,none⟩) 1 1) (h.set x (.cells #[y0_0,y0_1] 110 (0,0))):=by kernel_rfl
theorem Ik {G h:Hp} {y0_0 y0_1:Value} {y1_0 y1_1:Value} {K:VK}:wpH Tryz.prog G (Instr.buildSlice 22 2 #[(0,(.agg #[y0_0,y0_1])),(1,(.agg #[y1_0,y1_1]))]) h K=∀x,h x=none->G x=none->K (.slice (some ⟨x,0,none⟩) 2 2) (h.set x (.cells #[y0_0,y0_1,y1_0,y1_1] 28 (0,0))):=by kernel_rfl
theorem Au {G h:Hp} {k0:IntKind} {y0:Int} {k1:IntKind} {y1:Int} {k2:IntKind} {y2:Int} {k3:IntKind} {y3:Int} {k4:IntKind} {y4:Int} {k5:IntKind} {y5:Int} {K:VK}:wpH Tryz.prog G (Instr.buildSlice 168 6 #[(0,(.int k0 y0)),(1,(.int k1 y1)),(2,(.int k2 y2)),(3,(.int k3 y3)),(4,(.int k4 y4)),(5,(.int k5 y5))]) h K=∀x,h x=none->G x=none->K (.slice (some ⟨x,0,none⟩) 6 6) (h.set x (.cells #[(.int k0 y0),(.int k1 y1),(.int k2 y2),(.int k3 y3),(.int k4 y4),(.int k5 y5)] 3 (0,0))):=by kernel_rfl
theorem Ij {G h:Hp} {y0_0 y0_1:Value} {y1_0 y1_1:Value} {y2_0 y2_1:Value} {y3_0 y3_1:Value} {K:VK}:wpH Tryz.prog G (Instr.buildSlice 22 4 #[(0,(.agg #[y0_0,y0_1])),(1,(.agg #[y1_0,y1_1])),(2,(.agg #[y2_0,y2_1])),(3,(.agg #[y3_0,y3_1]))]) h K=∀x,h x=none->G x=none->K (.slice (some ⟨x,0,none⟩) 4 4) (h.set x (.cells #[y0_0,y0_1,y1_0,y1_1,y2_0,y2_1,y3_0,y3_1] 28 (0,0))):=by kernel_rfl
theorem aw8 {G h:Hp} {y0_0 y0_1 y0_2:Value} {K:VK}:wpH Tryz.prog G (Instr.buildSlice 24 1 #[(0,(.agg #[y0_0,y0_1,y0_2]))]) h K=∀x,h x=none->G x=none->K (.slice (some ⟨x,0,none⟩) 1 1) (h.set x (.cells #[y0_0,y0_1,y0_2] 234 (0,0))):=by kernel_rfl
theorem Tp {G h:Hp} {y0_0 y0_1 y0_2 y0_3 y0_4 y0_5 y0_6 y0_7 y0_8 y0_9 y0_10:Value} {K:VK}:wpH Tryz.prog G (Instr.buildSlice 40 1 #[(0,(.agg #[y0_0,y0_1,y0_2,y0_3,y0_4,y0_5,y0_6,y0_7,y0_8,y0_9,y0_10]))]) h K=∀x,h x=none->G x=none->K (.slice (some ⟨x,0,none⟩) 1 1) (h.set x (.cells #[y0_0,y0_1,y0_2,y0_3,y0_4,y0_5,y0_6,y0_7,y0_8,y0_9,y0_10] 48 (0,0))):=by kernel_rfl
theorem ae0 {G h:Hp} {y0_0 y0_1 y0_2 y0_3:Value} {K:VK}:wpH Tryz.prog G (Instr.buildSlice 216 1 #[(0,(.agg #[y0_0,y0_1,y0_2,y0_3]))]) h K=∀x,h x=none->G x=none->K (.slice (some ⟨x,0,none⟩) 1 1) (h.set x (.cells #[y0_0,y0_1,y0_2,y0_3] 227 (0,0))):=by kernel_rfl
theorem ae2 {G h:Hp} {k0:IntKind} {y0:Int} {K:VK}:wpH Tryz.prog G (Instr.buildSlice 168 1 #[(0,(.int k0 y0))]) h K=∀x,h x=none->G x=none->K (.slice (some ⟨x,0,none⟩) 1 1) (h.set x (.cells #[(.int k0 y0)] 3 (0,0))):=by kernel_rfl
theorem Mf {G h:Hp} {y0_0 y0_1:Value} {K:VK}:wpH Tryz.prog G (Instr.buildSlice 142 1 #[(0,(.agg #[y0_0,y0_1]))]) h K=∀x,h x=none->G x=none->K (.slice (some ⟨x,0,none⟩) 1 1) (h.set x (.cells #[y0_0,y0_1] 151 (0,0))):=by kernel_rfl
theorem ad9 {G h:Hp} {y0_0 y0_1 y0_2 y0_3 y0_4 y0_5 y0_6 y0_7 y0_8 y0_9 y0_10 y0_11 y0_12:Value} {K:VK}:wpH Tryz.prog G (Instr.buildSlice 229 1 #[(0,(.agg #[y0_0,y0_1,y0_2,y0_3,y0_4,y0_5,y0_6,y0_7,y0_8,y0_9,y0_10,y0_11,y0_12]))]) h K=∀x,h x=none->G x=none->K (.slice (some ⟨x,0,none⟩) 1 1) (h.set x (.cells #[y0_0,y0_1,y0_2,y0_3,y0_4,y0_5,y0_6,y0_7,y0_8,y0_9,y0_10,y0_11,y0_12] 232 (0,0))):=by kernel_rfl
theorem aw6 {G h:Hp} {y0_0 y0_1 y0_2:Value} {K:VK}:wpH Tryz.prog G (Instr.buildSlice 71 1 #[(0,(.agg #[y0_0,y0_1,y0_2]))]) h K=∀x,h x=none->G x=none->K (.slice (some ⟨x,0,none⟩) 1 1) (h.set x (.cells #[y0_0,y0_1,y0_2] 75 (0,0))):=by kernel_rfl
theorem ae5 {G h:Hp} {y0_0 y0_1 y0_2:Value} {K:VK}:wpH Tryz.prog G (Instr.buildSlice 114 1 #[(0,(.agg #[y0_0,y0_1,y0_2]))]) h K=∀x,h x=none->G x=none->K (.slice (some ⟨x,0,none⟩) 1 1) (h.set x (.cells #[y0_0,y0_1,y0_2] 186 (0,0))):=by kernel_rfl
theorem Tn {G h:Hp} {y0_0 y0_1 y0_2:Value} {K:VK}:wpH Tryz.prog G (Instr.buildSlice 59 1 #[(0,(.agg #[y0_0,y0_1,y0_2]))]) h K=∀x,h x=none->G x=none->K (.slice (some ⟨x,0,none⟩) 1 1) (h.set x (.cells #[y0_0,y0_1,y0_2] 119 (0,0))):=by kernel_rfl
theorem aw7 {G h:Hp} {y0_0 y0_1 y0_2:Value} {K:VK}:wpH Tryz.prog G (Instr.buildSlice 60 1 #[(0,(.agg #[y0_0,y0_1,y0_2]))]) h K=∀x,h x=none->G x=none->K (.slice (some ⟨x,0,none⟩) 1 1) (h.set x (.cells #[y0_0,y0_1,y0_2] 175 (0,0))):=by kernel_rfl
theorem eo48:fg Tryz.prog 48 11 88:=⟨by kernel_rfl,by kernel_rfl,by kernel_rfl⟩
theorem eo119:fg Tryz.prog 119 3 24:=⟨by kernel_rfl,by kernel_rfl,by kernel_rfl⟩
theorem eo175:fg Tryz.prog 175 3 24:=⟨by kernel_rfl,by kernel_rfl,by kernel_rfl⟩
theorem eo203:fg Tryz.prog 203 3 24:=⟨by kernel_rfl,by kernel_rfl,by kernel_rfl⟩
theorem eo110:fg Tryz.prog 110 2 16:=⟨by kernel_rfl,by kernel_rfl,by kernel_rfl⟩
theorem eo151:fg Tryz.prog 151 2 16:=⟨by kernel_rfl,by kernel_rfl,by kernel_rfl⟩
theorem eo3:fg Tryz.prog 3 1 8:=⟨by kernel_rfl,by kernel_rfl,by kernel_rfl⟩
theorem eo227:fg Tryz.prog 227 4 32:=⟨by kernel_rfl,by kernel_rfl,by kernel_rfl⟩
theorem eo232:fg Tryz.prog 232 13 120:=⟨by kernel_rfl,by kernel_rfl,by kernel_rfl⟩
theorem Xv (d:Nat) {x0 y0:Int} {x1 y1:Int}:Det Tryz.prog (Op.equalIn (d+1+1) 28 (.agg #[x0,x1]) (.agg #[y0,y1])) ((x0==y0)&&((x1==y1)&&true)):=by
 refine te Tryz.underlying28 (by kernel_rfl) ?_
 refine jx (by decide) (dv Tryz.underlying3 rfl rfl) (dv Tryz.underlying3 rfl rfl) (o0 (d:=d+0) Tryz.underlying3) ?_
 refine jx (by decide) (dv Tryz.underlying3 rfl rfl) (dv Tryz.underlying3 rfl rfl) (o0 (d:=d+0) Tryz.underlying3) ?_
 exact Db
theorem eq28 {G h:Hp} {cx cy:Operand} {x0 y0:Int} {x1 y1:Int} {K:VK}:opH Tryz.prog G (xEq .eql 28 cx cy (.agg #[x0,x1]) (.agg #[y0,y1])) h K=K (.bool (((x0==y0)&&((x1==y1)&&true)))) h:=aq2 (by kernel_rfl) (Xv 9998)
theorem Xq {G h h1:Hp} {cx cy:Operand} {x0 y0:Int} {x1 y1:Int} {K:VK}:bk Tryz.prog G h1 (xEq .eql 28 cx cy (.agg #[x0,x1]) (.agg #[y0,y1])) h K=K (.bool (((x0==y0)&&((x1==y1)&&true)))) h:=Xo (by kernel_rfl) (Xv 9998)
theorem Ta (d:Nat) {x0 y0:Int} {x1 y1:Int} {x2 y2:Bool}:Det Tryz.prog (Op.equalIn (d+2+1) 30 (.agg #[x0,x1,.bool x2]) (.agg #[y0,y1,.bool y2])) (((x0==y0)&&((x1==y1)&&true))&&((x2==y2)&&true)):=by
 refine te Tryz.underlying30 (by kernel_rfl) ?_
 refine jx (by decide) (uq Tryz.underlying28 (n:=2) (by kernel_rfl)) (uq Tryz.underlying28 (n:=2) (by kernel_rfl)) (Xv (d+0)) ?_
 refine jx (by decide) (dv Tryz.underlying4 rfl rfl) (dv Tryz.underlying4 rfl rfl) (aq3 (d:=d+1) Tryz.underlying4) ?_
 exact Db
theorem eq30 {G h:Hp} {cx cy:Operand} {x0 y0:Int} {x1 y1:Int} {x2 y2:Bool} {K:VK}:opH Tryz.prog G (xEq .eql 30 cx cy (.agg #[x0,x1,.bool x2]) (.agg #[y0,y1,.bool y2])) h K=K (.bool ((((x0==y0)&&((x1==y1)&&true))&&((x2==y2)&&true)))) h:=aq2 (by kernel_rfl) (Ta 9997)
theorem eq30p {G h h1:Hp} {cx cy:Operand} {x0 y0:Int} {x1 y1:Int} {x2 y2:Bool} {K:VK}:bk Tryz.prog G h1 (xEq .eql 30 cx cy (.agg #[x0,x1,.bool x2]) (.agg #[y0,y1,.bool y2])) h K=K (.bool ((((x0==y0)&&((x1==y1)&&true))&&((x2==y2)&&true)))) h:=Xo (by kernel_rfl) (Ta 9997)
theorem eq34np {G h h1:Hp} {cx cy:Operand}  {K:VK}:bk Tryz.prog G h1 (xEq .eql 34 cx cy (.pointer none) (.pointer none)) h K=K (.bool true) h:=by kernel_rfl
theorem S5 {G h:Hp} {cx cy:Operand} {a:Addr} {K:VK}:opH Tryz.prog G (xEq .eql 34 cx cy (.pointer (some a)) (.pointer none)) h K=K (.bool false) h:=by kernel_rfl
theorem eq34sp {G h h1:Hp} {cx cy:Operand} {a:Addr} {K:VK}:bk Tryz.prog G h1 (xEq .eql 34 cx cy (.pointer (some a)) (.pointer none)) h K=K (.bool false) h:=by kernel_rfl
theorem Xp {G h:Hp} {cx cy:Operand} {a:Addr} {K:VK}:opH Tryz.prog G (xEq .eql 50 cx cy (.pointer (some a)) (.pointer none)) h K=K (.bool false) h:=by kernel_rfl
theorem eq68n {G h:Hp} {cx cy:Operand}  {K:VK}:opH Tryz.prog G (xEq .eql 68 cx cy (.pointer none) (.pointer none)) h K=K (.bool true) h:=by kernel_rfl
theorem eq68s {G h:Hp} {cx cy:Operand} {a:Addr} {K:VK}:opH Tryz.prog G (xEq .eql 68 cx cy (.pointer (some a)) (.pointer none)) h K=K (.bool false) h:=by kernel_rfl
theorem eq68sp {G h h1:Hp} {cx cy:Operand} {a:Addr} {K:VK}:bk Tryz.prog G h1 (xEq .eql 68 cx cy (.pointer (some a)) (.pointer none)) h K=K (.bool false) h:=by kernel_rfl
theorem eq106s {G h:Hp} {cx cy:Operand} {f:Fn} {p q:Array Value} {K:VK}:opH Tryz.prog G (xEq .eql 106 cx cy (.func f p q) .nilFunc) h K=K (.bool false) h:=by kernel_rfl
theorem eq132s {G h:Hp} {cx cy:Operand} {a:Addr} {K:VK}:opH Tryz.prog G (xEq .eql 132 cx cy (.pointer (some a)) (.pointer none)) h K=K (.bool false) h:=by kernel_rfl
theorem eq140s {G h:Hp} {cx cy:Operand} {f:Fn} {p q:Array Value} {K:VK}:opH Tryz.prog G (xEq .eql 140 cx cy (.func f p q) .nilFunc) h K=K (.bool false) h:=by kernel_rfl
theorem ne28p {G h h1:Hp} {cx cy:Operand} {x0 y0:Int} {x1 y1:Int} {K:VK}:bk Tryz.prog G h1 (xEq .neq 28 cx cy (.agg #[x0,x1]) (.agg #[y0,y1])) h K=K (.bool (!((x0==y0)&&((x1==y1)&&true)))) h:=F2 (by kernel_rfl) (Xv 9998)
theorem ne30p {G h h1:Hp} {cx cy:Operand} {x0 y0:Int} {x1 y1:Int} {x2 y2:Bool} {K:VK}:bk Tryz.prog G h1 (xEq .neq 30 cx cy (.agg #[x0,x1,.bool x2]) (.agg #[y0,y1,.bool y2])) h K=K (.bool (!(((x0==y0)&&((x1==y1)&&true))&&((x2==y2)&&true)))) h:=F2 (by kernel_rfl) (Ta 9997)
theorem ne34s {G h:Hp} {cx cy:Operand} {a:Addr} {K:VK}:opH Tryz.prog G (xEq .neq 34 cx cy (.pointer (some a)) (.pointer none)) h K=K (.bool true) h:=by kernel_rfl
theorem deq48 (d:Nat) {x0 y0:Int} {x1 y1:Int} {x2 y2:Int} {x3 y3:Int} {x4 y4:Int} {x5 y5:Bool} {x6 y6:Int} {x7 y7:Int} {x8 y8:Bool} {x9 y9:Int} {x10 y10:Int}:Det Tryz.prog (Op.equalIn (d+3+1) 48 (.agg #[x0,x1,x2,x3,x4,.bool x5,x6,x7,.bool x8,x9,x10]) (.agg #[y0,y1,y2,y3,y4,.bool y5,y6,y7,.bool y8,y9,y10])) ((x0==y0)&&((x1==y1)&&((x2==y2)&&((((x3==y3)&&((x4==y4)&&true))&&((x5==y5)&&true))&&((((x6==y6)&&((x7==y7)&&true))&&((x8==y8)&&true))&&((x9==y9)&&((x10==y10)&&true))))))):=by
 refine te Tryz.underlying48 (by kernel_rfl) ?_
 refine jx (by decide) (dv Tryz.underlying3 rfl rfl) (dv Tryz.underlying3 rfl rfl) (o0 (d:=d+2) Tryz.underlying3) ?_
 refine jx (by decide) (dv Tryz.underlying3 rfl rfl) (dv Tryz.underlying3 rfl rfl) (o0 (d:=d+2) Tryz.underlying3) ?_
 refine jx (by decide) (dv Tryz.underlying3 rfl rfl) (dv Tryz.underlying3 rfl rfl) (o0 (d:=d+2) Tryz.underlying3) ?_
 refine jx (by decide) (uq Tryz.underlying30 (n:=3) (by kernel_rfl)) (uq Tryz.underlying30 (n:=3) (by kernel_rfl)) (Ta (d+0)) ?_
 refine jx (by decide) (uq Tryz.underlying30 (n:=3) (by kernel_rfl)) (uq Tryz.underlying30 (n:=3) (by kernel_rfl)) (Ta (d+0)) ?_
 refine jx (by decide) (dv Tryz.underlying3 rfl rfl) (dv Tryz.underlying3 rfl rfl) (o0 (d:=d+2) Tryz.underlying3) ?_
 refine jx (by decide) (dv Tryz.underlying3 rfl rfl) (dv Tryz.underlying3 rfl rfl) (o0 (d:=d+2) Tryz.underlying3) ?_
 exact Db
theorem ne48p {G h h1:Hp} {cx cy:Operand} {x0 y0:Int} {x1 y1:Int} {x2 y2:Int} {x3 y3:Int} {x4 y4:Int} {x5 y5:Bool} {x6 y6:Int} {x7 y7:Int} {x8 y8:Bool} {x9 y9:Int} {x10 y10:Int} {K:VK}:bk Tryz.prog G h1 (xEq .neq 48 cx cy (.agg #[x0,x1,x2,x3,x4,.bool x5,x6,x7,.bool x8,x9,x10]) (.agg #[y0,y1,y2,y3,y4,.bool y5,y6,y7,.bool y8,y9,y10])) h K=K (.bool (!((x0==y0)&&((x1==y1)&&((x2==y2)&&((((x3==y3)&&((x4==y4)&&true))&&((x5==y5)&&true))&&((((x6==y6)&&((x7==y7)&&true))&&((x8==y8)&&true))&&((x9==y9)&&((x10==y10)&&true))))))))) h:=F2 (by kernel_rfl) (deq48 9996)
theorem ne68n {G h:Hp} {cx cy:Operand}  {K:VK}:opH Tryz.prog G (xEq .neq 68 cx cy (.pointer none) (.pointer none)) h K=K (.bool false) h:=by kernel_rfl
theorem ne68s {G h:Hp} {cx cy:Operand} {a:Addr} {K:VK}:opH Tryz.prog G (xEq .neq 68 cx cy (.pointer (some a)) (.pointer none)) h K=K (.bool true) h:=by kernel_rfl
theorem deq203 (d:Nat) {x0 y0:Int} {x1 y1:Int} {x2 y2:Int}:Det Tryz.prog (Op.equalIn (d+1+1) 203 (.agg #[x0,x1,x2]) (.agg #[y0,y1,y2])) ((x0==y0)&&((x1==y1)&&((x2==y2)&&true))):=by
 refine te Tryz.underlying203 (by kernel_rfl) ?_
 refine jx (by decide) (dv Tryz.underlying3 rfl rfl) (dv Tryz.underlying3 rfl rfl) (o0 (d:=d+0) Tryz.underlying3) ?_
 refine jx (by decide) (dv Tryz.underlying3 rfl rfl) (dv Tryz.underlying3 rfl rfl) (o0 (d:=d+0) Tryz.underlying3) ?_
 refine jx (by decide) (dv Tryz.underlying3 rfl rfl) (dv Tryz.underlying3 rfl rfl) (o0 (d:=d+0) Tryz.underlying3) ?_
 exact Db
theorem ne203p {G h h1:Hp} {cx cy:Operand} {x0 y0:Int} {x1 y1:Int} {x2 y2:Int} {K:VK}:bk Tryz.prog G h1 (xEq .neq 203 cx cy (.agg #[x0,x1,x2]) (.agg #[y0,y1,y2])) h K=K (.bool (!((x0==y0)&&((x1==y1)&&((x2==y2)&&true))))) h:=F2 (by kernel_rfl) (deq203 9998)
theorem jq {a b:Prop} (x:a) (y:b):a/\b:=⟨x,y⟩
set_option linter.defProp false in
def bC:=jq (jq (jq (jq (jq (jq @aj4 @opH_su) (jq @G8 @pick_t)) (jq (jq @pick_f @pick_tp) (jq @pick_fp @gd_tt))) (jq (jq (jq @gd_ft @gd_tf) (jq @gd_ff @box_new)) (jq (jq @regs0 @regs1) (jq @regs2 (jq @regs3 @regs4))))) (jq (jq (jq (jq @regs5 @regs6) (jq @me @ad8)) (jq (jq @Vd @ai2) (jq @ai3 @Z7))) (jq (jq (jq @ex0 @ex1) (jq @ex0p @ex1p)) (jq (jq @HL.ad5 @HL.U9) (jq @iy (jq @Zp @T2)))))) (jq (jq (jq (jq (jq @Vh @jo) (jq @bin_add @bin_sub)) (jq (jq @bin_mul @bin_lss) (jq @ax6 @ax2))) (jq (jq (jq @ax4 @ky) (jq @un_not @un_notp)) (jq (jq @eq_int @ne_int) (jq @eq_intp (jq @ne_intp @mz))))) (jq (jq (jq (jq @af9 @au) (jq @A5 @Nat.zero_add)) (jq (jq @Nat.add_zero @Option.some.injEq.{0}) (jq @exists_eq_left'.{1} @List.getElem?_cons_succ.{0}))) (jq (jq (jq @List.getElem?_cons_zero.{0} @Bool.not_true) (jq @Bool.not_false @if_true.{1})) (jq (jq @if_true.{0} @if_false.{1}) (jq @Int.toNat_natCast (jq @List.set_cons_zero.{0} @List.set_cons_succ.{0}))))))
section
variable (G:Hp) (K:EK) (r:Rg) (h:Hp)
def md29:Nat->Hint
 |_=>mh false [] [] [] false
def aD3:Prop:=
 o_ G (Instr.build 173 #[(0,(r 0)),(1,(r 1)),(2,(r 2))]) h fun v1 h1=>o_ G (Instr.box 173 v1) h1 fun v2 h2=>
 K .ret (u7 r 24 (r 0) 25 (r 1) 26 (r 2) 27 v1 28 v2 6 v2 7 (.int .i64 0)) h2
def Ni:Prop:=
 o_ G (binOp .add 3 (r 14) (.int .i64 1)) h fun v4 h4=>
 K .normal (u2 r 23 v4 14 v4) h4
def Nj:Prop:=
 o_ G (Instr.index 155 (r 13) (r 14)) h fun v5 h5=>o_ G (binOp .lss 3 v5 (.int .i64 1)) h5 fun v6 h6=>g_ v6 false (fun K1=>K1 v5 h6) h6 fun v7 h7=>g_ v6 false (o_ G (binOp .gtr 3 v7 (.int .i64 1000)) h7) h7 fun v8 h8=>
 opH P_ G (bj v6 (.bool true) v8) h8 fun v9 h9=>
 (fun q=>cond v9
 (K .ret (u2 q 6 (.pointer none) 7 (.int .i64 1)) h9)
 (Ni G K q h9))
 (u8 r 16 v5 9 v5 17 v5 18 v6 19 v6 20 v7 21 v8 22 v9)
def aD2 (r:Rg) (h:Hp) (K:EK):Prop:=
 o_ G (binOp .lss 3 (r 14) (.int .i64 3)) h fun v3 h3=>
 cond v3
 (Nj G K (upd r 15 v3) h3)
 (K (.exit 0) (upd r 15 v3) h3)
def S29:Prop:=
 o_ G (Instr.build 155 #[(0,(r 0)),(1,(r 1)),(2,(r 2))]) h fun v0 h0=>
 ci (aD2 G) (u7 r 6 (.pointer none) 7 (.int .i64 0) 10 (r 0) 11 (r 1) 12 (r 2) 13 v0 14 (.int .i64 0)) h0 (bn 0 (bv (aD3 G K) K))
theorem enter29:Ent 29 29 [.tmp 6,.tmp 7] S29:=ent_ (m:=md29) (c:=(Tryz.f29.body.getD .skip)) (fun _ _ _ _=>by kernel_rfl) Tryz.func29 rfl rfl rfl
def md72:Nat->Hint
 |_=>mh false [] [] [] false
def S72:Prop:=
 c_ G 123 #[(r 0),(r 1)] h fun v0 h0=>o_ G (Builtin.len_ #[168] 3 #[v0]) h0 fun v1 h1=>
 K .ret (u6 r 4 (.int .i64 0) 5 (r 0) 6 (r 1) 7 v0 8 v1 4 v1) h1
theorem enter72:Ent 9 72 [.tmp 4] S72:=ent_ (m:=md72) (c:=(Tryz.f72.body.getD .skip)) (fun _ _ _ _=>by kernel_rfl) Tryz.func72 rfl rfl rfl
def md123:Nat->Hint
 |3=>mh false [0,0,1,5,15,0,63] [m_,m_,n_,n_,n_,.alloc,.store] (fs 7) false
 |_=>mh false [] [] [] false
def Y5:Prop:=
 w_ G h (Instr.loadAt 50 (r 2)) h fun v16 h16=>
 w_ G h (Instr.loadAt 3 (r 3)) h16 fun v17 h17=>
 bk P_ noHp noHp (xNil v16) h17 fun v18 h18=>
 p_ (Instr.fieldAt 173 v18 3) h18 fun v19 h19=>
 p_ (Instr.indexAt 171 v19 v17) h19 fun v20 h20=>o_ G (Instr.alloc 261 true (.tuple #[])) h20 fun v21 h21=>
 opH P_ G (su (Instr.storeAt 261 v21 v20)) h21 fun v22 h22=>o_ G (Instr.loadAt 261 v21) h22 fun v23 h23=>
 opH P_ G (xNil v23) h23 fun v24 h24=>o_ G (Instr.fieldAt 170 v24 0) h24 fun v25 h25=>
 opH P_ G (callFunc 150 #[v25,(.func (.func 151) #[] #[(r 2),(r 3),v21])]) h25 fun v26 h26=>o_ G (Instr.loadAt 261 v21) h26 fun v27 h27=>
 opH P_ G (xNil v27) h27 fun v28 h28=>o_ G (Instr.fieldAt 170 v28 1) h28 fun v29 h29=>o_ G (Instr.loadAt 168 v29) h29 fun v30 h30=>
 K .ret (u6 (u10 r 23 v16 24 v17 25 v18 26 v19 27 v20 5 v21 28 v23 29 v24 30 v25 31 (.func (.func 151) #[] #[(r 2),(r 3),v21])) 32 v26 33 v27 34 v28 35 v29 36 v30 4 v30) h30
def S123:Prop:=
 o_ G (Instr.box 50 (r 0)) h fun v0 h0=>o_ G (Instr.box 3 (r 1)) h0 fun v1 h1=>o_ G (Instr.loadAt 50 v0) h1 fun v2 h2=>
 opH P_ G (xEq .eql 50 (.tmp 0) (.const .nilFunc) v2 (.pointer none)) h2 fun v3 h3=>g_ v3 false (o_ G (Instr.loadAt 50 v0) h3) h3 fun v4 h4=>g_ v3 false (opH P_ G (xNil v4) h4) h4 fun v5 h5=>g_ v3 false (o_ G (Instr.fieldAt 173 v5 0) h5) h5 fun v6 h6=>g_ v3 false (o_ G (Instr.loadAt 3 v6) h6) h6 fun v7 h7=>g_ v3 false (o_ G (binOp .lss 3 v7 (.int .i64 1)) h7) h7 fun v8 h8=>
 opH P_ G (bj v3 (.bool true) v8) h8 fun v9 h9=>g_ v9 false (o_ G (Instr.loadAt 3 v1) h9) h9 fun v10 h10=>g_ v9 false (o_ G (binOp .lss 3 v10 (.int .i64 1)) h10) h10 fun v11 h11=>
 opH P_ G (bj v9 (.bool true) v11) h11 fun v12 h12=>g_ v12 false (o_ G (Instr.loadAt 3 v1) h12) h12 fun v13 h13=>g_ v12 false (o_ G (binOp .gtr 3 v13 (.int .i64 16)) h13) h13 fun v14 h14=>
 opH P_ G (bj v12 (.bool true) v14) h14 fun v15 h15=>
 (fun q=>cond v15
 (K .ret (upd q 4 (.slice none 0 0)) h15)
 (Y5 G K q h15))
 (u10 (u10 r 2 v0 3 v1 4 (.slice none 0 0) 6 v2 7 v3 8 v3 9 v4 10 v5 11 v6 12 v7) 13 v8 14 v9 15 v9 16 v10 17 v11 18 v12 19 v12 20 v13 21 v14 22 v15)
theorem au1:Ent 37 123 [.tmp 4] S123:=ent_ (m:=md123) (c:=(Tryz.f123.body.getD .skip)) (fun _ _ _ _=>by kernel_rfl) Tryz.func123 rfl rfl rfl
def md151:Nat->Hint
 |0=>mh false [0,0,0,4,12,28,62,127] [m_,m_,m_,n_,n_,m_,n_,e_] (fs 8) false
 |2=>mh false [0,0,2,6,14,0,32,126,255,511,1023] [m_,m_,n_,n_,m_,n_,.alloc,e_,n_,n_,.store] [false,false,false,false,false,false,false,true,false,false,false] true
 |_=>mh false [] [] [] false
def P0 (G:Hp) (r:Rg) (h:Hp) (K:EK):Prop:=
 K .normal (upd r 3 (r 12)) h
def Pz (r:Rg) (h:Hp) (K:EK):Prop:=
 ∃q8:Hp,q8.le h/\
 w_ G q8 (Instr.loadAt 261 (r 2)) h fun v9 h9=>
 w_ G q8 (Instr.loadAt 261 (r 2)) h9 fun v10 h10=>
 bk P_ noHp noHp (xNil v10) h10 fun v11 h11=>
 p_ (Instr.fieldAt 170 v11 1) h11 fun v12 h12=>
 w_ G q8 (Instr.loadAt 168 v12) h12 fun v13 h13=>o_ G (Instr.buildSlice 168 1 #[(0,(r 3))]) h13 fun v14 h14=>o_ G (Builtin.append_ #[168,168] 168 #[v13,v14]) h14 fun v15 h15=>q8.le h15/\
 bk P_ noHp noHp (xNil v9) h15 fun v16 h16=>
 p_ (Instr.fieldAt 170 v16 1) h16 fun v17 h17=>
 opH P_ G (su (Instr.storeAt 168 v17 v15)) h17 fun v18 h18=>
 K .normal (u10 r 13 v9 14 v10 15 v11 16 v12 17 v13 18 (r 3) 19 v14 20 v15 21 v16 22 v17) h18
def S151:Prop:=
 w_ G h (Instr.loadAt 50 (r 0)) h fun v0 h0=>
 w_ G h (Instr.loadAt 3 (r 1)) h0 fun v1 h1=>
 w_ G h (Instr.loadAt 50 (r 0)) h1 fun v2 h2=>
 bk P_ noHp noHp (xNil v2) h2 fun v3 h3=>
 p_ (Instr.fieldAt 173 v3 0) h3 fun v4 h4=>
 w_ G h (Instr.loadAt 3 v4) h4 fun v5 h5=>
 p_ (binOp .mul 3 v1 v5) h5 fun v6 h6=>
 c_ G 152 #[v0,(.int .i64 0),(.int .i64 0),v6,(.bool false)] h6 fun v7 h7=>
 J9 P_ G 1 (P0 G) (Pz G) (setR 23 #[12]) v7 (u8 r 4 v0 5 v1 6 v2 7 v3 8 v4 9 v5 10 v6 11 v7) h7 (bn 0 K)
theorem as0:Ent 23 151 [] S151:=ent_ (m:=md151) (c:=(Tryz.f151.body.getD .skip)) (fun _ _ _ _=>by kernel_rfl) Tryz.func151 rfl rfl rfl
def md152:Nat->Hint
 |_=>mh false [] [] [] false
def S152:Prop:=
 o_ G (Instr.box 50 (r 0)) h fun v0 h0=>o_ G (Instr.box 3 (r 1)) h0 fun v1 h1=>o_ G (Instr.box 3 (r 2)) h1 fun v2 h2=>o_ G (Instr.box 3 (r 3)) h2 fun v3 h3=>o_ G (Instr.box 4 (r 4)) h3 fun v4 h4=>
 K .ret (u8 r 5 v0 6 v1 7 v2 8 v3 9 v4 10 .nilFunc 11 (.func (.func 169) #[] #[v0,v4,v2,v1,v3]) 10 (.func (.func 169) #[] #[v0,v4,v2,v1,v3])) h4
theorem ar9:Ent 12 152 [.tmp 10] S152:=ent_ (m:=md152) (c:=(Tryz.f152.body.getD .skip)) (fun _ _ _ _=>by kernel_rfl) Tryz.func152 rfl rfl rfl
def md169:Nat->Hint
 |_=>mh false [] [] [] false
def B4:Prop:=
 o_ G (Instr.loadAt 3 (r 4)) h fun v16 h16=>o_ G (Instr.loadAt 3 (r 3)) h16 fun v17 h17=>o_ G (binOp .add 3 v16 v17) h17 fun v18 h18=>
 opH P_ G (su (Instr.storeAt 3 (r 4) v18)) h18 fun v19 h19=>o_ G (Instr.loadAt 3 (r 4)) h19 fun v20 h20=>
 opH P_ G (ig (r 0) #[v20]) h20 fun v21 h21=>o_ G (Op.unary .not v21) h21 fun v22 h22=>
 (fun q=>cond v22
 (K .ret q h22)
 (K .normal q h22))
 (u7 r 26 v16 27 v17 28 v18 29 (r 0) 30 v20 31 v21 32 v22)
def I8:Prop:=
 o_ G (Instr.loadAt 50 (r 1)) h fun v8 h8=>o_ G (Instr.loadAt 3 (r 5)) h8 fun v9 h9=>o_ G (Instr.loadAt 3 (r 4)) h9 fun v10 h10=>o_ G (binOp .sub 3 v9 v10) h10 fun v11 h11=>o_ G (Instr.loadAt 3 (r 3)) h11 fun v12 h12=>
 c_ G 170 #[v8,v11,v12,(r 7)] h12 fun v13 h13=>
 opH P_ G (su (Instr.storeAt 3 (r 3) v13)) h13 fun v14 h14=>o_ G (Instr.loadAt 4 (r 2)) h14 fun v15 h15=>
 cond v15
 (o_ G (Instr.loadAt 3 (r 3)) h15 fun v23 h23=>
 B4 G K (u10 r 17 v8 18 v9 19 v10 20 v11 21 v12 22 (r 7) 23 v13 24 v15 25 v23 7 v23) h23)
 (B4 G K (u8 r 17 v8 18 v9 19 v10 20 v11 21 v12 22 (r 7) 23 v13 24 v15) h15)
def Ya (r:Rg) (h:Hp) (K:EK):Prop:=
 o_ G (Instr.loadAt 3 (r 4)) h fun v5 h5=>o_ G (Instr.loadAt 3 (r 5)) h5 fun v6 h6=>o_ G (binOp .lss 3 v5 v6) h6 fun v7 h7=>
 cond v7
 (I8 G K (u3 r 14 v5 15 v6 16 v7) h7)
 (K (.exit 0) (u3 r 14 v5 15 v6 16 v7) h7)
def Pr:Prop:=
 ci (Ya G) r h (bn 0 K)
def S169:Prop:=
 o_ G (Instr.loadAt 50 (r 1)) h fun v0 h0=>
 opH P_ G (xNil v0) h0 fun v1 h1=>o_ G (Instr.fieldAt 173 v1 2) h1 fun v2 h2=>o_ G (Instr.loadAt 3 v2) h2 fun v3 h3=>o_ G (Instr.loadAt 4 (r 2)) h3 fun v4 h4=>
 cond v4
 (o_ G (Instr.loadAt 3 (r 3)) h4 fun v24 h24=>
 Pr G K (u8 r 8 v0 9 v1 10 v2 11 v3 7 v3 12 v4 13 v24 7 v24) h24)
 (Pr G K (u6 r 8 v0 9 v1 10 v2 11 v3 7 v3 12 v4) h4)
theorem aq8:Ent 33 169 [] S169:=ent_ (m:=md169) (c:=(Tryz.f169.body.getD .skip)) (fun _ _ _ _=>by kernel_rfl) Tryz.func169 rfl rfl rfl
def md170:Nat->Hint
 |_=>mh false [] [] [] false
def Pq (G:Hp) (K:EK) (r:Rg) (h:Hp):Prop:=
 K .ret (u2 r 32 (r 9) 8 (r 9)) h
def I7:Prop:=
 o_ G (binOp .sub 3 (r 9) (.int .i64 1)) h fun v14 h14=>
 K .normal (u3 r 30 (r 9) 31 v14 9 v14) h14
def X9 (r:Rg) (h:Hp) (K:EK):Prop:=
 o_ G (binOp .gtr 3 (r 9) (.int .i64 1)) h fun v5 h5=>g_ v5 true (fun K1=>K1 (r 0) h5) h5 fun v6 h6=>g_ v5 true (fun K1=>K1 (r 9) h6) h6 fun v7 h7=>g_ v5 true (c_ G 187 #[v6,v7] h7) h7 fun v8 h8=>g_ v5 true (fun K1=>K1 (r 1) h8) h8 fun v9 h9=>g_ v5 true (fun K1=>K1 (r 9) h9) h9 fun v10 h10=>g_ v5 true (o_ G (binOp .sub 3 v9 v10) h10) h10 fun v11 h11=>g_ v5 true (o_ G (binOp .gtr 3 v8 v11) h11) h11 fun v12 h12=>
 opH P_ G (bj v5 v12 (.bool false)) h12 fun v13 h13=>
 (fun q=>cond v13
 (I7 G K q h13)
 (K (.exit 0) q h13))
 (upd (u10 r 19 (r 9) 20 v5 21 v5 22 v6 23 v7 24 v8 25 v9 26 v10 27 v11 28 v12) 29 v13)
def S170:Prop:=
 opH P_ G (xNil (r 0)) h fun v0 h0=>o_ G (Instr.fieldAt 173 v0 1) h0 fun v1 h1=>o_ G (Instr.loadAt 3 v1) h1 fun v2 h2=>o_ G (binOp .add 3 (r 2) v2) h2 fun v3 h3=>o_ G (Builtin.min_ #[3,3,3] 3 #[v3,(r 3),(r 1)]) h3 fun v4 h4=>
 ci (X9 G) (upd (u10 r 8 (.int .i64 0) 10 (r 2) 11 (r 0) 12 v0 13 v1 14 v2 15 v3 16 (r 3) 17 (r 1) 18 v4) 9 v4) h4 (bn 0 (bv (Pq G K) K))
theorem aq7:Ent 33 170 [.tmp 8] S170:=ent_ (m:=md170) (c:=(Tryz.f170.body.getD .skip)) (fun _ _ _ _=>by kernel_rfl) Tryz.func170 rfl rfl rfl
def md187:Nat->Hint
 |4=>mh false [0,0,2,6,14,31,63,0,128,384,896,2047,4095] [n_,n_,n_,n_,m_,n_,n_,n_,n_,n_,m_,n_,n_] (fs 13) false
 |_=>mh false [] [] [] false
def X6 (G:Hp) (K:EK) (r:Rg) (h:Hp):Prop:=
 K .ret (u2 r 39 (r 5) 4 (r 5)) h
def I3:Prop:=
 opH P_ G (xNil (r 0)) h fun v17 h17=>o_ G (Instr.fieldAt 173 v17 1) h17 fun v18 h18=>o_ G (Instr.loadAt 3 v18) h18 fun v19 h19=>o_ G (binOp .sub 3 (r 6) v19) h19 fun v20 h20=>
 K .normal (u7 r 30 (r 6) 31 (r 0) 32 v17 33 v18 34 v19 35 v20 6 v20) h20
def I4:Prop:=
 o_ G (binOp .add 3 (r 5) (r 6)) h fun v21 h21=>
 I3 G K (u4 r 36 (r 5) 37 (r 6) 38 v21 5 v21) h21
def X5 (r:Rg) (h:Hp) (K:EK):Prop:=
 o_ G (binOp .gtr 3 (r 6) (.int .i64 0)) h fun v16 h16=>
 cond v16
 (I4 G K (u2 r 28 (r 6) 29 v16) h16)
 (K (.exit 0) (u2 r 28 (r 6) 29 v16) h16)
def X7:Prop:=
 bk P_ noHp noHp (xNil (r 0)) h fun v7 h7=>
 p_ (Instr.fieldAt 173 v7 2) h7 fun v8 h8=>
 w_ G h (Instr.loadAt 3 v8) h8 fun v9 h9=>
 p_ (Builtin.min_ #[3,3] 3 #[(r 1),v9]) h9 fun v10 h10=>
 p_ (Builtin.max_ #[3,3] 3 #[(.int .i64 0),v10]) h10 fun v11 h11=>
 bk P_ noHp noHp (xNil (r 0)) h11 fun v12 h12=>
 p_ (Instr.fieldAt 173 v12 1) h12 fun v13 h13=>
 w_ G h (Instr.loadAt 3 v13) h13 fun v14 h14=>
 p_ (binOp .sub 3 v11 v14) h14 fun v15 h15=>
 ci (X5 G) (u4 (u10 r 5 (.int .i64 0) 16 (r 1) 17 (r 0) 18 v7 19 v8 20 v9 21 v10 22 v11 23 (r 0) 24 v12) 25 v13 26 v14 27 v15 6 v15) h15 (bn 0 (bv (X6 G K) K))
def S187:Prop:=
 opH P_ G (xEq .eql 50 (.tmp 0) (.const .nilFunc) (r 0) (.pointer none)) h fun v0 h0=>g_ v0 false (fun K1=>K1 (r 0) h0) h0 fun v1 h1=>g_ v0 false (opH P_ G (xNil v1) h1) h1 fun v2 h2=>g_ v0 false (o_ G (Instr.fieldAt 173 v2 1) h2) h2 fun v3 h3=>g_ v0 false (o_ G (Instr.loadAt 3 v3) h3) h3 fun v4 h4=>g_ v0 false (o_ G (binOp .lss 3 v4 (.int .i64 1)) h4) h4 fun v5 h5=>
 opH P_ G (bj v0 (.bool true) v5) h5 fun v6 h6=>
 (fun q=>cond v6
 (K .ret (upd q 4 (.int .i64 0)) h6)
 (X7 G K q h6))
 (u10 r 4 (.int .i64 0) 7 (r 0) 8 v0 9 v0 10 v1 11 v2 12 v3 13 v4 14 v5 15 v6)
theorem aq5:Ent 40 187 [.tmp 4] S187:=ent_ (m:=md187) (c:=(Tryz.f187.body.getD .skip)) (fun _ _ _ _=>by kernel_rfl) Tryz.func187 rfl rfl rfl
def md30:Nat->Hint
 |_=>mh false [] [] [] false
def aD1 (G:Hp) (K:EK) (r:Rg) (h:Hp):Prop:=
 K .ret (upd r 6 (.int .i64 0)) h
def Po:Prop:=
 cond (r 19)
 (o_ G (Instr.fieldAt 26 (r 3) 11) h fun v12 h12=>o_ G (Instr.loadAt 3 v12) h12 fun v13 h13=>
 K .ret (u3 r 22 v12 23 v13 6 v13) h13)
 (aD1 G K r h)
def S30:Prop:=
 o_ G (Instr.box 26 (r 0)) h fun v0 h0=>o_ G (Instr.box 48 (r 2)) h0 fun v1 h1=>o_ G (Instr.fieldAt 48 v1 0) h1 fun v2 h2=>o_ G (Instr.loadAt 3 v2) h2 fun v3 h3=>
 opH P_ G (xEq .eql 3 (.tmp 0) (.const .nilFunc) v3 (.int .i64 1)) h3 fun v4 h4=>
 cond v4
 (o_ G (Instr.fieldAt 48 v1 2) h4 fun v5 h5=>o_ G (Instr.loadAt 3 v5) h5 fun v6 h6=>
 c_ G 72 #[(r 1),v6] h6 fun v7 h7=>
 K .ret (u2 (u10 r 3 v0 5 v1 6 (.int .i64 0) 7 v2 8 v3 10 v4 9 v4 11 (r 1) 12 v5 13 v6) 14 v7 6 v7) h7)
 (opH P_ G (xEq .eql 3 (.tmp 0) (.const .nilFunc) v3 (.int .i64 2)) h4 fun v8 h8=>
 cond v8
 (o_ G (Instr.fieldAt 26 v0 10) h8 fun v9 h9=>o_ G (Instr.loadAt 3 v9) h9 fun v10 h10=>
 K .ret (u2 (u10 r 3 v0 5 v1 6 (.int .i64 0) 7 v2 8 v3 10 v4 9 v4 16 v8 15 v8 17 v9) 18 v10 6 v10) h10)
 (opH P_ G (xEq .eql 3 (.tmp 0) (.const .nilFunc) v3 (.int .i64 3)) h8 fun v11 h11=>
 cond v11
 (Po G K (upd (u10 r 3 v0 5 v1 6 (.int .i64 0) 7 v2 8 v3 10 v4 9 v4 16 v8 15 v8 20 v11) 19 v11) h11)
 (opH P_ G (xEq .eql 3 (.tmp 0) (.const .nilFunc) v3 (.int .i64 4)) h11 fun v14 h14=>
 Po G K (u3 (u10 r 3 v0 5 v1 6 (.int .i64 0) 7 v2 8 v3 10 v4 9 v4 16 v8 15 v8 20 v11) 19 v11 21 v14 19 v14) h14)))
theorem enter30:Ent 24 30 [.tmp 6] S30:=ent_ (m:=md30) (c:=(Tryz.f30.body.getD .skip)) (fun _ _ _ _=>by kernel_rfl) Tryz.func30 rfl rfl rfl
end
end Go.Proofs.YtfflipnhffknnaaGreatDoor
end
section
namespace Go.Proofs.YtfflipnhffknnaaGreatDoor.On
open Go Go.HL
theorem disable (w:World):(callFunc 199 #[]).run Tryz.prog w = .ok (.value (.tuple #[])) w:=run_call_mark0 Tryz.func199 (by kernel_rfl) (by kernel_rfl) (by kernel_rfl) .disable (by kernel_rfl) w
theorem enable (w:World):(callFunc 201 #[]).run Tryz.prog w = .ok (.value (.tuple #[])) w:=run_call_mark0 Tryz.func201 (by kernel_rfl) (by kernel_rfl) (by kernel_rfl) .enable (by kernel_rfl) w
theorem acquire (a:Addr) (w:World):(callFunc 202 #[.pointer (some a)]).run Tryz.prog w = .ok (.value (.tuple #[])) w:=run_call_marked Tryz.func202 (by kernel_rfl) (by kernel_rfl) (by kernel_rfl) .acquire (by kernel_rfl) a w
theorem releaseMerge (a:Addr) (w:World):(callFunc 204 #[.pointer (some a)]).run Tryz.prog w = .ok (.value (.tuple #[])) w:=run_call_marked Tryz.func204 (by kernel_rfl) (by kernel_rfl) (by kernel_rfl) .releaseMerge (by kernel_rfl) a w
theorem Gm (a:Addr) (x:Value) (u:FrameMode) (w:World) (hc:w.cell? a=some x) (hz:w.frozen? a=false):
 CallsD Tryz.prog 186 #[.pointer (some a),.bool true] u w fun e u' w'=>u'=u/\(e = .returned (.tuple #[])/\w'=w.drew.setCell a (.int .u32 1)):=by
 have hc':w.drew.cell? a=some x:=by go_simp
 have hz':w.drew.frozen? a=false:=by go_simp
 have hst:=run_call_store (P:=Tryz.prog) Tryz.func196 (by kernel_rfl) (by kernel_rfl) (by kernel_rfl) (by kernel_rfl) (k := .u32) (y:=1) hc' hz'
 go_enter_d Tryz.func186,Tryz.ntmps186
 go_wp2
 go_region_calls
 all_goals (go_end0;exact ⟨rfl,rfl⟩)
theorem Fu (a:Addr) (u:FrameMode) (w:World) (hc:w.cell? a=some (.int .i32 1)) (hz:w.frozen? a=false):
 CallsD Tryz.prog 185 #[.pointer (some a)] u w fun e u' w'=>u'=u/\(e = .returned (.tuple #[])/\w'=w.setCell a (.int .i32 0)):=by
 have hd:=disable
 have he:=enable
 have hr:=releaseMerge
 have hadd:=run_call_add (P:=Tryz.prog) Tryz.func205 (by kernel_rfl) (by kernel_rfl) (by kernel_rfl) .i32 (by kernel_rfl) (y := -1) (s:=0) hc hz (by simp [go_sem];rfl)
 have hcv:=run_convert_to_unsafe (P:=Tryz.prog) (src:=302) (dst:=306) Tryz.underlying302 Tryz.underlying306 (by kernel_rfl) hc
 go_enter_d Tryz.func185,Tryz.ntmps185
 go_wp2
 go_end0
 go_wp2
 go_end0
 exact ⟨rfl,rfl⟩
theorem ab3 (a:Addr) (w:World) (hc:w.cell? a=some (.int .i32 0)) (hz:w.frozen? a=false):
 Calls Tryz.prog 184 #[.pointer (some a)] w fun e w'=>e = .returned (.tuple #[])/\w'=w.setCell a (.int .i32 1):=by
 have hd:=disable
 have he:=enable
 have ha:=acquire
 have hcas:=run_call_cas_hit (P:=Tryz.prog) Tryz.func200 (by kernel_rfl) (by kernel_rfl) (by kernel_rfl) .i32 (by kernel_rfl) (y:=1) hc hz
 have hc':(w.setCell a (.int .i32 1)).cell? a=some (.int .i32 1):=World.cell?_setCell_same w a _ hc
 have hcv:=run_convert_to_unsafe (P:=Tryz.prog) (src:=302) (dst:=306) Tryz.underlying302 Tryz.underlying306 (by kernel_rfl) hc'
 go_enter Tryz.func184,Tryz.ntmps184
 go_wp2
 first|go_end0|(simp only [Exit.inBlock,Exit.then];refine bodyPost_ret (results_none rfl _ _ _) rfl ?_)|refine bodyPost_ret (results_none rfl _ _ _) rfl ?_
 go_wp2
 go_end0
 exact ⟨rfl,rfl⟩
theorem slow_w (b off id:Nat) (caps:Array Value) (w:World) (R:World->Prop)
 (h0:w.cell? ⟨b,off,none⟩=some (.int .u32 0)) (h1:w.cell? ⟨b,off+1,none⟩=some (.int .i32 0))
 (f0:w.frozen? ⟨b,off,none⟩=false) (f1:w.frozen? ⟨b,off+1,none⟩=false)
 (hid:∀args w,(callFunc id args).run Tryz.prog w = .ok (.enter id args) w)
 (hf:Calls Tryz.prog id caps (w.setCell ⟨b,off+1,none⟩ (.int .i32 1)) fun e w'=>e = .returned (.tuple #[])/\w'.cell? ⟨b,off,none⟩=some (.int .u32 0)/\w'.cell? ⟨b,off+1,none⟩=some (.int .i32 1)/\w'.frozen? ⟨b,off,none⟩=false/\w'.frozen? ⟨b,off+1,none⟩=false/\R w'):
 Calls Tryz.prog 168 #[.pointer (some ⟨b,off,none⟩),.func (.func id) #[] caps] w fun e w'=>e = .returned (.tuple #[])/\∃w1,R w1/\w'=(w1.drew.setCell ⟨b,off,none⟩ (.int .u32 1)).setCell ⟨b,off+1,none⟩ (.int .i32 0):=by
 have hl:=run_call_load (P:=Tryz.prog) Tryz.func183 (by kernel_rfl) (by kernel_rfl) (by kernel_rfl) .u32 (by kernel_rfl) (w:=w.setCell ⟨b,off+1,none⟩ (.int .i32 1)) (a:=⟨b,off,none⟩) (x:=0) ((World.cell?_setCell_other _ ⟨b,off+1,none⟩ ⟨b,off,none⟩ _ (by simp)).trans h0)
 have hnot:∀(x:Bool) (w:World),(Op.unary .not (.bool x)).run Tryz.prog w = .ok (.bool (!x)) w:=fun _ _=>rfl
 go_enter_defers Tryz.func168,Tryz.ntmps168
 go_wp2_with (go_at_call 184;refine (ab3 ⟨b,off+1,none⟩ _ (by go_simp) (by go_simp)).mono ?_;rintro e w' ⟨rfl,rfl⟩)
 go_wp2
 refine hf.mono ?_
 rintro e w' ⟨rfl,c0,c1,z0,z1,hR⟩
 go_wp2
 refine leaves_cons (f:=186) (args:=#[.pointer (some ⟨b,off,none⟩),.bool true]) (by simp) (by simp [go_sem]) ?_
 refine (Gm ⟨b,off,none⟩ (.int .u32 0) .returning _ c0 z0).mono ?_
 rintro e u' w'' ⟨rfl,rfl,rfl⟩
 refine leaves_cons (f:=185) (args:=#[.pointer (some ⟨b,off+1,none⟩)]) (by simp [settle]) (by simp [go_sem]) ?_
 refine (Fu ⟨b,off+1,none⟩ _ _ ?_ (by simp [z1])).mono ?_
 . refine (World.cell?_setCell_other _ ⟨b,off,none⟩ ⟨b,off+1,none⟩ _ (by simp)).trans ?_
   rw [World.cell?_drew]
   exact c1
 rintro e u' w'' ⟨rfl,rfl,rfl⟩
 simp [Leaves,settle,results,Tryz.results168]
 exact ⟨w',hR,rfl⟩
theorem av9 (b off id:Nat) (caps:Array Value) (w:World) (R:World->Prop)
 (h0:w.cell? ⟨b,off,none⟩=some (.int .u32 0)) (h1:w.cell? ⟨b,off+1,none⟩=some (.int .i32 0))
 (f0:w.frozen? ⟨b,off,none⟩=false) (f1:w.frozen? ⟨b,off+1,none⟩=false)
 (hid:∀args w,(callFunc id args).run Tryz.prog w = .ok (.enter id args) w)
 (hf:Calls Tryz.prog id caps (w.setCell ⟨b,off+1,none⟩ (.int .i32 1)) fun e w'=>e = .returned (.tuple #[])/\w'.cell? ⟨b,off,none⟩=some (.int .u32 0)/\w'.cell? ⟨b,off+1,none⟩=some (.int .i32 1)/\w'.frozen? ⟨b,off,none⟩=false/\w'.frozen? ⟨b,off+1,none⟩=false/\R w'):
 Calls Tryz.prog 150 #[.pointer (some ⟨b,off,none⟩),.func (.func id) #[] caps] w fun e w'=>e = .returned (.tuple #[])/\∃w1,R w1/\w'=(w1.drew.setCell ⟨b,off,none⟩ (.int .u32 1)).setCell ⟨b,off+1,none⟩ (.int .i32 0):=by
 have hl:=run_call_load (P:=Tryz.prog) Tryz.func183 (by kernel_rfl) (by kernel_rfl) (by kernel_rfl) .u32 (by kernel_rfl) h0
 have hnot:∀(x:Bool) (w:World),(Op.unary .not (.bool x)).run Tryz.prog w = .ok (.bool (!x)) w:=fun _ _=>rfl
 go_enter Tryz.func150,Tryz.ntmps150
 go_wp2_with (first|(go_at_call 168;refine (slow_w b off id caps _ R h0 h1 f0 f1 hid hf).mono ?_;rintro e w' ⟨rfl,w1,hR,rfl⟩)|(go_at_call 167;go_in))
 go_end0
 exact ⟨rfl,w1,hR,rfl⟩
theorem do_done (a:Addr) (fv:Value) (w:World) (h0:w.cell? a=some (.int .u32 1)):
 Calls Tryz.prog 150 #[.pointer (some a),fv] w fun e w'=>e = .returned (.tuple #[])/\w'=w:=by
 have hl:=run_call_load (P:=Tryz.prog) Tryz.func183 (by kernel_rfl) (by kernel_rfl) (by kernel_rfl) .u32 (by kernel_rfl) h0
 have hnot:∀(x:Bool) (w:World),(Op.unary .not (.bool x)).run Tryz.prog w = .ok (.bool (!x)) w:=fun _ _=>rfl
 have hd':((1:Int) != 0)=true:=by decide
 go_enter Tryz.func150,Tryz.ntmps150
 go_wp2
 go_end0
 exact ⟨rfl,rfl⟩
theorem Bo {G h:Hp} {w:World} (i:In G h w) {b:Nat} {l:List Value} {e:TypeId} (hb:h b=some (.cells l.toArray e (0,0))) {o:Nat} {v:Value}:Mv h w (h.set b (.cells (l.set o v).toArray e (0,0))) (w.setCell ⟨b,o,none⟩ v):=by
 have hw:=i.sub _ _ hb
 refine Mv.put i hb (by simp [World.setCell]) ?_ (fun c hc=>by simp only [World.setCell,Array.getElem?_modify];rw [if_neg (Ne.symm hc)]) rfl rfl rfl (Nat.le_refl _)
 simp only [World.setCell,Array.getElem?_modify,if_pos,hw,Option.map_some]
 simp
theorem drew_mv {G h:Hp} {w:World} (i:In G h w):Mv h w h w.drew:=
 ⟨Nat.le_refl _,i.sub,fun _ _ h1 h2=>⟨h1,h2⟩,rfl,rfl,rfl,Nat.le_succ _⟩
theorem C4 {G h:Hp} {w:World} (i:In G h w) {b:Nat} {l:List Value} {e:TypeId} (hb:h b=some (.cells l.toArray e (0,0))) {o:Nat} {v:Value} (hv:l[o]?=some v):w.cell? ⟨b,o,none⟩=some v/\w.frozen? ⟨b,o,none⟩=false:=by
 have hw:=i.sub _ _ hb
 have ho:o<l.length:=(List.getElem?_eq_some_iff.1 hv).1
 refine ⟨?_,?_⟩
 . unfold World.cell?;rw [hw];simpa using hv
 . unfold World.frozen?;rw [hw];simp
theorem aa5 {G h:Hp} {b o:Nat} {l:List Value} {e:TypeId} {fv:Value} (hb:h b=some (.cells l.toArray e (0,0))) (hd:l[o]?=some (.int .u32 1)):
 al Tryz.prog G 150 #[.pointer (some ⟨b,o,none⟩),fv] h (fun v h'=>v = .tuple #[]/\h'=h):=by
 intro w i
 refine (do_done _ fv w (C4 i hb hd).1).mono ?_
 rintro e w' ⟨rfl,rfl⟩
 exact ⟨_,h,rfl,.refl i,rfl,rfl⟩
theorem Um {G h:Hp} {b o id:Nat} {l:List Value} {e:TypeId} {caps:Array Value} {Q:List Value->Hp->Prop} (hb:h b=some (.cells l.toArray e (0,0))) (h0:l[o]?=some (.int .u32 0)) (h1:l[o+1]?=some (.int .i32 0))
 (hid:∀args w,(callFunc id args).run Tryz.prog w = .ok (.enter id args) w)
 (hf:al Tryz.prog G id caps (h.set b (.cells (l.set (o+1) (.int .i32 1)).toArray e (0,0))) (fun v h'=>v = .tuple #[]/\∃l',h' b=some (.cells l'.toArray e (0,0))/\l'[o]?=some (.int .u32 0)/\l'[o+1]?=some (.int .i32 1)/\Q l' h')):
 al Tryz.prog G 150 #[.pointer (some ⟨b,o,none⟩),.func (.func id) #[] caps] h (fun v h'=>v = .tuple #[]/\∃l' h1,Q l' h1/\h1 b=some (.cells l'.toArray e (0,0))/\h'=h1.set b (.cells ((l'.set o (.int .u32 1)).set (o+1) (.int .i32 0)).toArray e (0,0))):=by
 intro w i
 have m0:=Bo (o:=o+1) (v := .int .i32 1) i hb
 obtain ⟨a0,z0⟩:=C4 i hb h0
 obtain ⟨a1,z1⟩:=C4 i hb h1
 refine (av9 b o id caps w (fun w'=>∃l' h',Mv (h.set b (.cells (l.set (o+1) (.int .i32 1)).toArray e (0,0))) (w.setCell ⟨b,o+1,none⟩ (.int .i32 1)) h' w'/\h' b=some (.cells l'.toArray e (0,0))/\Q l' h') a0 a1 z0 z1 hid ((hf _ (m0.keeps i)).mono ?_)).mono ?_
 . rintro e' w' ⟨v,h',rfl,m,rfl,l',b1,b2,b3,hQ⟩
   have i':=m.keeps (m0.keeps i)
   obtain ⟨c0,y0⟩:=C4 i' b1 b2
   obtain ⟨c1,y1⟩:=C4 i' b1 b3
   exact ⟨rfl,c0,c1,y0,y1,l',h',m,b1,hQ⟩
 . rintro e' w' ⟨rfl,w1,⟨l',h1,m,b1,hQ⟩,rfl⟩
   have i1:=m.keeps (m0.keeps i)
   have m2:=drew_mv i1
   have i2:=m2.keeps i1
   have m3:=Bo (o:=o) (v := .int .u32 1) i2 b1
   have i3:=m3.keeps i2
   have m4:=Bo (o:=o+1) (v := .int .i32 0) i3 ag
   rw [set_set]at m4
   exact ⟨_,_,rfl,(((m0.trans m).trans m2).trans m3).trans m4,rfl,l',h1,hQ,b1,rfl⟩
end Go.Proofs.YtfflipnhffknnaaGreatDoor.On
end
section
namespace Go.Proofs.Resv
structure Slot where
 f:Int
 t:Int
 r:Int
 deriving DecidableEq
abbrev FV:Int:=4611686018427387904
def mn (L:List Slot) (r f t:Int):Bool:=L.all fun s=>s.r==r || !(decide (s.f<t)&&decide (f<s.t))
def jc (r f t:Int) (s:Slot):Bool:=s.r==r&&(decide (s.f<=t)&&decide (f<=s.t))
def lm (r:Int):List Slot->Int->Int->List Slot->Int × Int × List Slot
 |[],f,t,out=>(f,t,out)
 |s::L,f,t,out=>if jc r f t s=true then lm r L (min f s.f) (max t s.t) out else lm r L f t (out++[s])
def za (out:List Slot) (x:Slot):List Slot:=out.takeWhile (fun s=>decide (s.f<x.f))++x::out.dropWhile (fun s=>decide (s.f<x.f))
def putL (L:List Slot) (r f t:Int):List Slot:=za (lm r L f t []).2.2 ⟨(lm r L f t []).1,(lm r L f t []).2.1,r⟩
def sepS (a b:Slot):Prop:=a.t<=b.f/\(a.t=b.f->a.r≠b.r)
def okS (s:Slot):Prop:=0<=s.f/\s.f<s.t/\s.t<=FV/\0<=s.r
structure Good (L:List Slot):Prop where
 ok:∀s∈L,okS s
 apart:L.Pairwise sepS
def has (L:List Slot) (r x:Int):Prop:=∃s∈L,s.r=r/\s.f<=x/\x<s.t
theorem Good.nil:Good []:=⟨(fun _ h=>by cases h),List.Pairwise.nil⟩
theorem Good.tail {s:Slot} {L:List Slot} (g:Good (s::L)):Good L:=⟨fun x hx=>g.ok x (.tail _ hx),(List.pairwise_cons.1 g.apart).2⟩
theorem Good.head {s:Slot} {L:List Slot} (g:Good (s::L)):∀x∈L,sepS s x:=(List.pairwise_cons.1 g.apart).1
theorem N2 {L:List Slot} (h:L.Pairwise sepS):∀{a b:Slot},a∈L->b∈L->a=b\/sepS a b\/sepS b a:=by
 induction L with
 |nil=>intro a b ha;cases ha
 |cons s L ih=>
  intro a b ha hb
  obtain ⟨h1,h2⟩:=List.pairwise_cons.1 h
  rcases List.mem_cons.1 ha with rfl|ha'<;>rcases List.mem_cons.1 hb with rfl|hb'
  . exact .inl rfl
  . exact .inr (.inl (h1 _ hb'))
  . exact .inr (.inr (h1 _ ha'))
  . exact ih h2 ha' hb'
theorem lw {r f t:Int} {s:Slot}:jc r f t s=true↔s.r=r/\s.f<=t/\f<=s.t:=by
 unfold jc
 simp
theorem C8 {L:List Slot} {r f t:Int}:mn L r f t=true↔∀s∈L,s.r≠r->t<=s.f\/s.t<=f:=by
 unfold mn
 rw [List.all_eq_true]
 constructor
 . intro h s hs hr
   have h1:=h s hs
   simp at h1
   exact h1.resolve_left hr
 . intro h s hs
   by_cases hr:s.r=r
   . simp [hr]
   . have:=h s hs hr
     simp [hr]
     omega
theorem Bq {r:Int}:∀{L:List Slot} {f t:Int} {out:List Slot},L.Pairwise sepS->(∀s∈L,s.f<s.t)->f<t->
 ∃f' t',lm r L f t out=(f',t',out++L.filter fun s => !jc r f t s)/\f'<=f/\t<=t'/\(f'=f\/∃s∈L,jc r f t s=true/\s.f=f')/\(t'=t\/∃s∈L,jc r f t s=true/\s.t=t')/\
  ∀s∈L,jc r f t s=true->f'<=s.f/\s.t<=t':=by
 intro L
 induction L with
 |nil=>intro f t out _ _ _;exact ⟨f,t,by simp [lm],by omega,by omega,.inl rfl,.inl rfl,fun _ h=>by cases h⟩
 |cons s L ih=>
  intro f t out hp hl hft
  obtain ⟨h1,h2⟩:=List.pairwise_cons.1 hp
  have hl2:∀s∈L,s.f<s.t:=fun x hx=>hl x (.tail _ hx)
  unfold lm
  by_cases ht:jc r f t s=true
  . rw [if_pos ht]
    obtain ⟨t1,t2,t3⟩:=lw.1 ht
    have hsl:=hl s (.head _)
    have same:∀x∈L,jc r (min f s.f) (max t s.t) x=jc r f t x:=fun x hx=>by
     have:=h1 x hx
     have hxl:=hl2 x hx
     rw [Bool.eq_iff_iff,lw,lw]
     constructor
     . rintro ⟨a,b,c⟩
       have:s.t≠x.f:=fun e=>this.2 e (by rw [t1,a])
       have h3:=(h1 x hx).1
       omega
     . rintro ⟨a,b,c⟩
       omega
    obtain ⟨f',t',e,a1,a2,a3,a4,a5⟩:=ih (f:=min f s.f) (t:=max t s.t) (out:=out) h2 hl2 (by omega)
    have ef:(L.filter fun s_1 => !jc r (min f s.f) (max t s.t) s_1)=L.filter fun x => !jc r f t x:=List.filter_congr fun x hx=>by rw [same x hx]
    refine ⟨f',t',?_,Int.le_trans a1 (Int.min_le_left _ _),Int.le_trans (Int.le_max_left _ _) a2,?_,?_,?_⟩
    . rw [e,ef,List.filter_cons_of_neg (by simp [ht])]
    . rcases a3 with a3|⟨x,hx,b1,b2⟩
      . clear a4
        by_cases hh:f<=s.f
        . exact .inl (by omega)
        . exact .inr ⟨s,.head _,ht,by omega⟩
      . exact .inr ⟨x,.tail _ hx,by rw [<- same x hx];exact b1,b2⟩
    . rcases a4 with a4|⟨x,hx,b1,b2⟩
      . clear a3
        by_cases hh:s.t<=t
        . exact .inl (by omega)
        . exact .inr ⟨s,.head _,ht,by omega⟩
      . exact .inr ⟨x,.tail _ hx,by rw [<- same x hx];exact b1,b2⟩
    . intro x hx hxt
      clear a3 a4
      rcases List.mem_cons.1 hx with rfl|hx'
      . omega
      . exact a5 x hx' (by rw [same x hx'];exact hxt)
  . rw [if_neg ht]
    obtain ⟨f',t',e,a1,a2,a3,a4,a5⟩:=ih (f:=f) (t:=t) (out:=out++[s]) h2 hl2 hft
    refine ⟨f',t',?_,a1,a2,?_,?_,?_⟩
    . rw [e,List.filter_cons_of_pos (by simp [ht])]
      simp
    . exact a3.imp id fun ⟨x,hx,b⟩=>⟨x,.tail _ hx,b⟩
    . exact a4.imp id fun ⟨x,hx,b⟩=>⟨x,.tail _ hx,b⟩
    . intro x hx hxt
      rcases List.mem_cons.1 hx with rfl|hx'
      . exact absurd hxt ht
      . exact a5 x hx' hxt
theorem Xu {v:Int}:∀{L:List Slot},L.Pairwise (fun a b=>a.f<=b.f)->∀s∈L.dropWhile (fun s=>decide (s.f<v)),v<=s.f:=by
 intro L
 induction L with
 |nil=>intro _ s hs;cases hs
 |cons x L ih=>
  intro hp s hs
  obtain ⟨h1,h2⟩:=List.pairwise_cons.1 hp
  rw [List.dropWhile_cons]at hs
  by_cases hx:x.f<v
  . rw [if_pos (by simpa using hx)]at hs
    exact ih h2 s hs
  . rw [if_neg (by simpa using hx)]at hs
    rcases List.mem_cons.1 hs with rfl|hs'
    . omega
    . have:=h1 s hs';omega
theorem Wc {v:Int}:∀{L:List Slot},∀s∈L.takeWhile (fun s=>decide (s.f<v)),s.f<v:=by
 intro L
 induction L with
 |nil=>intro s hs;cases hs
 |cons x L ih=>
  intro s hs
  rw [List.takeWhile_cons]at hs
  split at hs
  . rename_i h
    rcases List.mem_cons.1 hs with rfl|hs'
    . simpa using h
    . exact ih s hs'
  . cases hs
theorem Ac {out:List Slot} {x s:Slot}:s∈za out x↔s=x\/s∈out:=by
 unfold za
 conv=>rhs;rw [<- List.takeWhile_append_dropWhile (p:=fun s=>decide (s.f<x.f)) (l:=out)]
 simp only [List.mem_append,List.mem_cons]
 constructor
 . rintro (h|h|h)
   . exact .inr (.inl h)
   . exact .inl h
   . exact .inr (.inr h)
 . rintro (h|h|h)
   . exact .inr (.inl h)
   . exact .inl h
   . exact .inr (.inr h)
theorem Kx {L:List Slot} (g:L.Pairwise sepS) (hl:∀s∈L,s.f<s.t):L.Pairwise (fun a b=>a.f<=b.f):=by
 induction L with
 |nil=>exact .nil
 |cons s L ih=>
  obtain ⟨h1,h2⟩:=List.pairwise_cons.1 g
  refine List.pairwise_cons.2 ⟨fun x hx=>?_,ih h2 fun x hx=>hl x (.tail _ hx)⟩
  have:=(h1 x hx).1
  have:=hl s (.head _)
  omega
theorem ab7 {out:List Slot} {x:Slot} (hp:out.Pairwise sepS) (hl:∀s∈out,s.f<s.t) (hx:x.f<x.t) (h:∀o∈out,sepS o x\/sepS x o):(za out x).Pairwise sepS:=by
 unfold za
 have hs:=Kx hp hl
 have e:=List.takeWhile_append_dropWhile (p:=fun s=>decide (s.f<x.f)) (l:=out)
 have hA:∀a∈out.takeWhile (fun s=>decide (s.f<x.f)),a∈out:=fun a ha=>by rw [<- e];exact List.mem_append_left _ ha
 have hB:∀a∈out.dropWhile (fun s=>decide (s.f<x.f)),a∈out:=fun a ha=>by rw [<- e];exact List.mem_append_right _ ha
 rw [<- e]at hp
 obtain ⟨p1,p2,p3⟩:=List.pairwise_append.1 hp
 refine List.pairwise_append.2 ⟨p1,List.pairwise_cons.2 ⟨fun b hb=>?_,p2⟩,fun a ha b hb=>?_⟩
 . rcases h b (hB b hb)with h1|h1
   . have:=Xu hs b hb
     have:=hl b (hB b hb)
     have:=h1.1
     omega
   . exact h1
 . rcases List.mem_cons.1 hb with rfl|hb'
   . rcases h a (hA a ha)with h1|h1
     . exact h1
     . have:=Wc a ha
       have:=h1.1
       omega
   . exact p3 a ha b hb'
theorem Q5 {L:List Slot} {r f t:Int} (g:Good L) (h0:0<=f) (h1:f<t) (h2:t<=FV) (hr:0<=r) (hf:mn L r f t=true):
 Good (putL L r f t)/\(∀r' x,has (putL L r f t) r' x↔has L r' x\/(r'=r/\f<=x/\x<t))/\∃s∈putL L r f t,s.r=r/\s.f<=f/\t<=s.t:=by
 have hl:∀s∈L,s.f<s.t:=fun s hs=>(g.ok s hs).2.1
 have hfree:=C8.1 hf
 obtain ⟨f',t',e,a1,a2,a3,a4,a5⟩:=Bq (r:=r) (f:=f) (t:=t) (out:=[]) g.apart hl h1
 rw [List.nil_append]at e
 unfold putL
 rw [e]
 simp only
 have hm:∀s,s∈(L.filter fun s => !jc r f t s)↔s∈L/\¬jc r f t s=true:=fun s=>by rw [List.mem_filter];simp
 have hsep:∀o∈(L.filter fun s => !jc r f t s),sepS o ⟨f',t',r⟩\/sepS ⟨f',t',r⟩ o:=by
  intro o ho
  obtain ⟨o1,o2⟩:=(hm o).1 ho
  rw [lw]at o2
  have ol:=hl o o1
  by_cases hor:o.r=r
  . by_cases hot:o.f<=t
    . have hof:o.t<f:=by
       by_cases hh:f<=o.t
       . exact absurd ⟨hor,hot,hh⟩ o2
       . omega
      left
      rcases a3 with a3|⟨s,hs,b1,b2⟩
      . exact ⟨by show o.t<=f';omega,fun hh=>by have:o.t=f':=hh;omega⟩
      . obtain ⟨c1,c2,c3⟩:=lw.1 b1
        rcases N2 g.apart o1 hs with rfl|d|d
        . omega
        . have:o.t≠s.f:=fun hh=>d.2 hh (by rw [hor,c1])
          exact ⟨by have:=d.1;show o.t<=f';omega,fun hh=>by have:o.t=f':=hh;omega⟩
        . have:=d.1;omega
    . right
      rcases a4 with a4|⟨s,hs,b1,b2⟩
      . exact ⟨by show t'<=o.f;omega,fun hh=>by have:t'=o.f:=hh;omega⟩
      . obtain ⟨c1,c2,c3⟩:=lw.1 b1
        have sl:=hl s hs
        rcases N2 g.apart o1 hs with rfl|d|d
        . omega
        . have:=d.1;omega
        . have:s.t≠o.f:=fun hh=>d.2 hh (by rw [hor,c1])
          exact ⟨by have:=d.1;show t'<=o.f;omega,fun hh=>by have:t'=o.f:=hh;omega⟩
  . rcases hfree o o1 hor with hh|hh
    . right
      refine ⟨?_,fun _=>Ne.symm hor⟩
      show t'<=o.f
      rcases a4 with a4|⟨s,hs,b1,b2⟩
      . omega
      . obtain ⟨c1,c2,c3⟩:=lw.1 b1
        have sl:=hl s hs
        rcases N2 g.apart o1 hs with rfl|d|d
        . exact absurd c1 hor
        . have:=d.1;omega
        . have:=d.1;omega
    . left
      refine ⟨?_,fun _=>hor⟩
      show o.t<=f'
      rcases a3 with a3|⟨s,hs,b1,b2⟩
      . omega
      . obtain ⟨c1,c2,c3⟩:=lw.1 b1
        rcases N2 g.apart o1 hs with rfl|d|d
        . exact absurd c1 hor
        . have:=d.1;omega
        . have:=d.1;omega
 have hf0:0<=f':=by
  rcases a3 with a3|⟨s,hs,_,b2⟩
  . omega
  . have:=(g.ok s hs).1;omega
 have ht0:t'<=FV:=by
  rcases a4 with a4|⟨s,hs,_,b2⟩
  . omega
  . have:=(g.ok s hs).2.2.1;omega
 refine ⟨⟨fun s hs=>?_,ab7 (g.apart.filter _) (fun s hs=>hl s ((hm s).1 hs).1) (by show f'<t';omega) hsep⟩,fun r' x=>⟨?_,?_⟩,⟨f',t',r⟩,Ac.2 (.inl rfl),rfl,a1,a2⟩
 . rcases Ac.1 hs with rfl|hs'
   . exact ⟨hf0,by show f'<t';omega,ht0,hr⟩
   . exact g.ok s ((hm s).1 hs').1
 . rintro ⟨s,hs,rfl,e1,e2⟩
   rcases Ac.1 hs with rfl|hs'
   . simp only at e1 e2 ⊢
     by_cases q1:x<f
     . rcases a3 with a3|⟨s,hs,b1,b2⟩
       . omega
       . obtain ⟨c1,c2,c3⟩:=lw.1 b1
         exact .inl ⟨s,hs,c1,by omega,by omega⟩
     . by_cases q2:x<t
       . exact .inr ⟨by simp,by omega,q2⟩
       . rcases a4 with a4|⟨s,hs,b1,b2⟩
         . omega
         . obtain ⟨c1,c2,c3⟩:=lw.1 b1
           exact .inl ⟨s,hs,c1,by omega,by omega⟩
   . exact .inl ⟨s,((hm s).1 hs').1,rfl,e1,e2⟩
 . rintro (⟨s,hs,rfl,e1,e2⟩|⟨rfl,e1,e2⟩)
   . by_cases q:jc r f t s=true
     . have:=a5 s hs q
       exact ⟨⟨f',t',r⟩,Ac.2 (.inl rfl),(lw.1 q).1.symm,by show f'<=x;omega,by show x<t';omega⟩
     . exact ⟨s,Ac.2 (.inr ((hm s).2 ⟨hs,q⟩)),rfl,e1,e2⟩
   . exact ⟨⟨f',t',r'⟩,Ac.2 (.inl rfl),rfl,by show f'<=x;omega,by show x<t';omega⟩
theorem Bt {s:Slot} {L:List Slot} (g:Good (s::L)) {r x:Int} (h:has L r x):s.t<=x/\∃u∈L,u.r=r/\u.f<=x/\x<u.t/\sepS s u:=by
 obtain ⟨u,hu,e1,e2,e3⟩:=h
 have:=g.head u hu
 exact ⟨by have:=this.1;omega,u,hu,e1,e2,e3,this⟩
theorem qe {s:Slot} {L:List Slot} {r x:Int}:has (s::L) r x↔(s.r=r/\s.f<=x/\x<s.t)\/has L r x:=by
 unfold has
 simp
theorem am0:∀{L M:List Slot},Good L->Good M->(∀r x,has L r x↔has M r x)->L=M:=by
 intro L
 induction L with
 |nil=>
  intro M _ gM h
  cases M with
  |nil=>rfl
  |cons s M=>
   have ok:=gM.ok s (.head _)
   obtain ⟨u,hu,_⟩:=(h s.r s.f).2 ⟨s,.head _,rfl,by omega,ok.2.1⟩
   cases hu
 |cons s L ih=>
  intro M gL gM h
  have okL:=gL.ok s (.head _)
  cases M with
  |nil=>
   obtain ⟨u,hu,_⟩:=(h s.r s.f).1 ⟨s,.head _,rfl,by omega,okL.2.1⟩
   cases hu
  |cons u M=>
   have okM:=gM.ok u (.head _)
   have hs:has (u::M) s.r s.f:=(h s.r s.f).1 ⟨s,.head _,rfl,by omega,okL.2.1⟩
   have hu:has (s::L) u.r u.f:=(h u.r u.f).2 ⟨u,.head _,rfl,by omega,okM.2.1⟩
   have ef:s.f=u.f:=by
    have a:u.f<=s.f:=by
     rcases qe.1 hs with ⟨_,h1,_⟩|h1
     . exact h1
     . have:=(Bt gM h1).1;have:=okM.2.1;omega
    have b:s.f<=u.f:=by
     rcases qe.1 hu with ⟨_,h1,_⟩|h1
     . exact h1
     . have:=(Bt gL h1).1;have:=okL.2.1;omega
    omega
   have er:s.r=u.r:=by
    rcases qe.1 hs with ⟨h1,_,_⟩|h1
    . exact h1.symm
    . have:=(Bt gM h1).1;have:=okM.2.1;omega
   have et:s.t=u.t:=by
    by_cases q1:s.t<u.t
    . exfalso
      have h2:has (s::L) u.r s.t:=(h u.r s.t).2 ⟨u,.head _,rfl,by have:=okL.2.1;omega,q1⟩
      rcases qe.1 h2 with ⟨_,_,h3⟩|h3
      . omega
      . obtain ⟨h4,v,_,e1,e2,e3,e4⟩:=Bt gL h3
        exact e4.2 (by have:=e4.1;omega) (by rw [er,e1])
    . by_cases q2:u.t<s.t
      . exfalso
        have h2:has (u::M) s.r u.t:=(h s.r u.t).1 ⟨s,.head _,rfl,by have:=okM.2.1;omega,q2⟩
        rcases qe.1 h2 with ⟨_,_,h3⟩|h3
        . omega
        . obtain ⟨h4,v,_,e1,e2,e3,e4⟩:=Bt gM h3
          exact e4.2 (by have:=e4.1;omega) (by rw [<- er,e1])
      . omega
   have esu:s=u:=by
    obtain ⟨a,b,c⟩:=s
    obtain ⟨a',b',c'⟩:=u
    simp only at ef er et
    rw [ef,er,et]
   subst esu
   rw [ih gL.tail gM.tail fun r x=>?_]
   constructor
   . intro h1
     rcases qe.1 ((h r x).1 (qe.2 (.inr h1)))with h2|h2
     . have:=(Bt gL h1).1;omega
     . exact h2
   . intro h1
     rcases qe.1 ((h r x).2 (qe.2 (.inr h1)))with h2|h2
     . have:=(Bt gM h1).1;omega
     . exact h2
def fm (r:Int):List Slot->Int->List (Int × Int)
 |[],a=>if a<FV then [(a,FV)]else []
 |s::L,a=>if s.r=r then fm r L a else if s.f>a then (a,s.f)::fm r L s.t else fm r L s.t
def Fa (L:List Slot) (r:Int):List (Int × Int):=fm r L 0
def others (L:List Slot) (r:Int):List Slot:=L.filter fun s => !(s.r==r)
theorem E9 {L:List Slot} (g:Good L) (p:Slot->Bool):Good (L.filter p):=⟨fun s hs=>g.ok s (List.mem_filter.1 hs).1,g.apart.filter _⟩
theorem Ht {L:List Slot} {r r' x:Int}:has (others L r) r' x↔has L r' x/\r'≠r:=by
 unfold has others
 constructor
 . rintro ⟨s,hs,rfl,e⟩
   obtain ⟨h1,h2⟩:=List.mem_filter.1 hs
   exact ⟨⟨s,h1,rfl,e⟩,by simpa using h2⟩
 . rintro ⟨⟨s,hs,rfl,e⟩,hne⟩
   exact ⟨s,List.mem_filter.2 ⟨hs,by simpa using hne⟩,rfl,e⟩
theorem Uk {L:List Slot} {r f t:Int} (g:Good L) (h0:0<=f) (h1:f<t) (h2:t<=FV) (hr:0<=r) (hf:mn L r f t=true):others (putL L r f t) r=others L r:=by
 obtain ⟨g1,h,_⟩:=Q5 g h0 h1 h2 hr hf
 refine am0 (E9 g1 _) (E9 g _) fun r' x=>?_
 rw [Ht,Ht,h]
 constructor
 . rintro ⟨h1|h1,h2⟩
   . exact ⟨h1,h2⟩
   . exact absurd h1.1 h2
 . rintro ⟨h1,h2⟩
   exact ⟨.inl h1,h2⟩
theorem Fb {L:List Slot} {r f t:Int}:mn (others L r) r f t=mn L r f t:=by
 rw [Bool.eq_iff_iff,C8,C8]
 unfold others
 constructor
 . intro h s hs hr
   exact h s (List.mem_filter.2 ⟨hs,by simpa using hr⟩) hr
 . intro h s hs hr
   exact h s (List.mem_filter.1 hs).1 hr
theorem am5 {L:List Slot} {r f t f2 t2:Int} (g:Good L) (h0:0<=f) (h1:f<t) (h2:t<=FV) (hr:0<=r) (hf:mn L r f t=true):mn (putL L r f t) r f2 t2=mn L r f2 t2:=by
 rw [<- Fb,Uk g h0 h1 h2 hr hf,Fb]
theorem Lv {r:Int}:∀{L:List Slot} {a:Int},Good L->0<=a->a<=FV->(∀s∈L,a<=s.f\/s.r=r)->
 (fm r L a).Pairwise (fun x y=>x.2<y.1)/\∀g∈fm r L a,a<=g.1/\g.1<g.2/\g.2<=FV/\(g.1=a\/∃s∈L,s.r≠r/\s.t=g.1)/\(g.2=FV\/∃s∈L,s.r≠r/\s.f=g.2)/\(∀s∈L,s.r≠r->g.2<=s.f\/s.t<=g.1):=by
 intro L
 induction L with
 |nil=>
  intro a _ h0 h1 _
  unfold fm
  split
  . rename_i h
    refine ⟨by simp,fun g hg=>?_⟩
    rw [List.mem_singleton]at hg
    subst hg
    exact ⟨by simp,h,by simp,.inl rfl,.inl rfl,fun _ h=>by cases h⟩
  . exact ⟨.nil,fun _ h=>by cases h⟩
 |cons s L ih=>
  intro a gd h0 h1 hs
  have ok:=gd.ok s (.head _)
  unfold fm
  by_cases hr:s.r=r
  . rw [if_pos hr]
    obtain ⟨p1,p2⟩:=ih gd.tail h0 h1 fun x hx=>hs x (.tail _ hx)
    refine ⟨p1,fun g hg=>?_⟩
    obtain ⟨q1,q2,q3,q4,q5,q6⟩:=p2 g hg
    refine ⟨q1,q2,q3,q4.imp id fun ⟨x,hx,b⟩=>⟨x,.tail _ hx,b⟩,q5.imp id fun ⟨x,hx,b⟩=>⟨x,.tail _ hx,b⟩,fun x hx hxr=>?_⟩
    rcases List.mem_cons.1 hx with rfl|hx'
    . exact absurd hr hxr
    . exact q6 x hx' hxr
  . rw [if_neg hr]
    obtain ⟨p1,p2⟩:=ih (a:=s.t) gd.tail (by have:=ok.1;have:=ok.2.1;omega) ok.2.2.1 fun x hx => .inl (gd.head x hx).1
    have hsa:a<=s.f:=(hs s (.head _)).resolve_right hr
    have lift:∀g∈fm r L s.t,a<=g.1/\g.1<g.2/\g.2<=FV/\(g.1=a\/∃u∈s::L,u.r≠r/\u.t=g.1)/\(g.2=FV\/∃u∈s::L,u.r≠r/\u.f=g.2)/\(∀u∈s::L,u.r≠r->g.2<=u.f\/u.t<=g.1):=fun g hg=>by
     obtain ⟨q1,q2,q3,q4,q5,q6⟩:=p2 g hg
     have:=ok.2.1
     refine ⟨by omega,q2,q3,.inr ?_,q5.imp id fun ⟨x,hx,b⟩=>⟨x,.tail _ hx,b⟩,fun x hx hxr=>?_⟩
     . rcases q4 with q4|⟨x,hx,b⟩
       . exact ⟨s,.head _,hr,q4.symm⟩
       . exact ⟨x,.tail _ hx,b⟩
     . rcases List.mem_cons.1 hx with rfl|hx'
       . exact .inr q1
       . exact q6 x hx' hxr
    by_cases hgt:s.f>a
    . rw [if_pos hgt]
      refine ⟨List.pairwise_cons.2 ⟨fun g hg=>?_,p1⟩,fun g hg=>?_⟩
      . have:=(p2 g hg).1
        have:=ok.2.1
        show s.f<g.1
        omega
      . rcases List.mem_cons.1 hg with rfl|hg'
        . refine ⟨by simp,hgt,by have:=ok.2.1;have:=ok.2.2.1;show s.f<=FV;omega,.inl rfl,.inr ⟨s,.head _,hr,rfl⟩,fun x hx hxr=>?_⟩
          rcases List.mem_cons.1 hx with rfl|hx'
          . exact .inl (by simp)
          . have:=(gd.head x hx').1
            have:=ok.2.1
            exact .inl (by show s.f<=x.f;omega)
        . exact lift g hg'
    . rw [if_neg hgt]
      exact ⟨p1,lift⟩
theorem aa8 {r:Int}:∀{L:List Slot} {f t:Int} {out:List Slot},(lm r L f t out).2.2.length<=out.length+L.length:=by
 intro L
 induction L with
 |nil=>intro f t out;simp [lm]
 |cons s L ih=>
  intro f t out
  unfold lm
  split
  . have:=ih (f:=min f s.f) (t:=max t s.t) (out:=out);simp;omega
  . have:=ih (f:=f) (t:=t) (out:=out++[s]);simp at this ⊢;omega
theorem ins_len {out:List Slot} {x:Slot}:(za out x).length=out.length+1:=by
 have e:=congrArg List.length (List.takeWhile_append_dropWhile (p:=fun s=>decide (s.f<x.f)) (l:=out))
 rw [List.length_append]at e
 unfold za
 rw [List.length_append,List.length_cons]
 omega
theorem put_len {L:List Slot} {r f t:Int}:(putL L r f t).length<=L.length+1:=by
 unfold putL
 rw [ins_len]
 have:=aa8 (r:=r) (L:=L) (f:=f) (t:=t) (out:=[])
 simp at this
 omega
theorem am1 {r:Int}:∀{L:List Slot} {a:Int},(fm r L a).length<=L.length+1:=by
 intro L
 induction L with
 |nil=>intro a;unfold fm;split<;>simp
 |cons s L ih=>
  intro a
  unfold fm
  split
  . have:=ih (a:=a);simp;omega
  . split
    . have:=ih (a:=s.t);simp;omega
    . have:=ih (a:=s.t);simp;omega
abbrev Tb:=List (List Slot)
structure Want where
 c:Int
 f:Int
 t:Int
def rowT (T:Tb) (c:Int):List Slot:=if 0<=c then T.getD c.toNat []else []
def inT (n:Nat) (c:Int):Bool:=decide (0<=c)&&decide (c<n)
def mo (n:Nat) (w:Want):Bool:=inT n w.c&&(decide (0<=w.f)&&(decide (w.f<w.t)&&decide (w.t<=FV)))
def rg (T:Tb) (r:Int) (w:Want):Bool:=mn (rowT T w.c) r w.f w.t
def putW (r:Int) (T:Tb) (w:Want):Tb:=T.set w.c.toNat (putL (rowT T w.c) r w.f w.t)
def tr (r:Int) (T:Tb) (l:List Want):Tb:=l.foldl (putW r) T
def jn (T:Tb) (r:Int) (l:List Want):Int × Tb:=
 if r<0 then (1,T)else if l.all (mo T.length)=true then (if l.all (rg T r)=true then (0,tr r T l)else (18,T))else (1,T)
def iu (T:Tb):Prop:=∀L∈T,Good L
def Few (T:Tb) (b:Nat):Prop:=∀L∈T,L.length<=b
theorem Ae {n:Nat} {c:Int}:inT n c=true↔0<=c/\c<n:=by unfold inT;simp
theorem qm {n:Nat} {w:Want}:mo n w=true↔(0<=w.c/\w.c<n)/\0<=w.f/\w.f<w.t/\w.t<=FV:=by
 unfold mo
 rw [Bool.and_eq_true,Ae]
 simp
theorem od {T:Tb} {c:Int} (h0:0<=c) (h1:c<T.length):T[c.toNat]?=some (rowT T c):=by
 unfold rowT
 rw [if_pos h0,List.getD_eq_getElem?_getD,List.getElem?_eq_getElem (by omega)]
 rfl
theorem Cn {T:Tb} {c:Int} (h:¬(0<=c/\c<T.length)):rowT T c=[]:=by
 unfold rowT
 split
 . rename_i h0
   rw [List.getD_eq_getElem?_getD,List.getElem?_eq_none (by omega)]
   rfl
 . rfl
theorem rq {T:Tb} (g:iu T) (c:Int):Good (rowT T c):=by
 by_cases h:0<=c/\c<T.length
 . exact g _ (List.mem_of_getElem? (od h.1 h.2))
 . rw [Cn h];exact Good.nil
theorem um {T:Tb} {b:Nat} (g:Few T b) (c:Int):(rowT T c).length<=b:=by
 by_cases h:0<=c/\c<T.length
 . exact g _ (List.mem_of_getElem? (od h.1 h.2))
 . rw [Cn h];exact Nat.zero_le _
theorem ah6 {T:Tb} {c d:Int} {L:List Slot} (h0:0<=c) (h1:c<T.length):rowT (T.set c.toNat L) d=if d=c then L else rowT T d:=by
 by_cases h:0<=d/\d<T.length
 . have e:=od (T:=T.set c.toNat L) (c:=d) h.1 (by rw [List.length_set];exact h.2)
   by_cases hdc:d=c
   . subst hdc
     rw [if_pos rfl]
     rw [List.getElem?_set_self (by omega)]at e
     exact (Option.some.inj e).symm
   . rw [if_neg hdc]
     rw [List.getElem?_set_ne (by omega),od h.1 h.2]at e
     exact (Option.some.inj e).symm
 . rw [Cn (by rw [List.length_set];exact h),if_neg (by omega),Cn h]
theorem Wv {T:Tb} {k:Nat} {L M:List Slot} (h:M∈T.set k L):M=L\/M∈T:=by
 rcases List.mem_or_eq_of_mem_set h with h|h
 . exact .inr h
 . exact .inl h
theorem Q8 {r:Int} {T:Tb} {w:Want}:(putW r T w).length=T.length:=by unfold putW;rw [List.length_set]
theorem ai6 {r:Int} {T:Tb} {w:Want} {b:Nat} (hr:0<=r) (g:iu T) (fw:Few T b) (hv:mo T.length w=true) (hf:rg T r w=true):iu (putW r T w)/\Few (putW r T w) (b+1)/\∀u,rg (putW r T w) r u=rg T r u:=by
 obtain ⟨⟨c0,c1⟩,f0,f1,f2⟩:=qm.1 hv
 refine ⟨fun M hM=>?_,fun M hM=>?_,fun u=>?_⟩
 . rcases Wv hM with rfl|h
   . exact (Q5 (rq g _) f0 f1 f2 hr hf).1
   . exact g M h
 . rcases Wv hM with rfl|h
   . exact Nat.le_trans put_len (Nat.succ_le_succ (um fw _))
   . exact Nat.le_succ_of_le (fw M h)
 . unfold rg putW
   rw [ah6 c0 c1]
   split
   . rename_i e
     rw [am5 (rq g _) f0 f1 f2 hr hf,e]
   . rfl
theorem G7 {r:Int} (hr:0<=r):∀{l:List Want} {T:Tb} {b:Nat},iu T->Few T b->l.all (mo T.length)=true->l.all (rg T r)=true->
 iu (tr r T l)/\Few (tr r T l) (b+l.length)/\(tr r T l).length=T.length/\∀u,rg (tr r T l) r u=rg T r u:=by
 intro l
 induction l with
 |nil=>intro T b g f _ _;exact ⟨g,f,rfl,fun _=>rfl⟩
 |cons w l ih=>
  intro T b g f hv hf
  rw [List.all_cons,Bool.and_eq_true]at hv hf
  obtain ⟨g1,f1,k1⟩:=ai6 hr g f hv.1 hf.1
  have e1:(l.all (rg (putW r T w) r))=l.all (rg T r):=by
   congr 1
   funext u
   exact k1 u
  obtain ⟨g2,f2,l2,k2⟩:=ih (T:=putW r T w) g1 f1 (by rw [Q8];exact hv.2) (by rw [e1];exact hf.2)
  refine ⟨g2,fun M hM=>?_,l2.trans Q8,fun u=>(k2 u).trans (k1 u)⟩
  have:=f2 M hM
  rw [List.length_cons]
  omega
theorem ad7 {T:Tb} {r:Int} {l:List Want} {b:Nat} (g:iu T) (f:Few T b):iu (jn T r l).2/\Few (jn T r l).2 (b+l.length)/\(jn T r l).2.length=T.length:=by
 unfold jn
 have few:Few T (b+l.length):=fun M hM=>Nat.le_trans (f M hM) (Nat.le_add_right _ _)
 split
 . exact ⟨g,few,rfl⟩
 . rename_i hr
   split
   . rename_i hv
     split
     . rename_i hf
       obtain ⟨g1,f1,l1,_⟩:=G7 (by omega) g f hv hf
       exact ⟨g1,f1,l1⟩
     . exact ⟨g,few,rfl⟩
   . exact ⟨g,few,rfl⟩
def cutI (a:Int):Int:=max 0 (min a FV)
def sumI (a b:Int):Int:=if cutI a>FV-cutI b then FV else cutI a+cutI b
end Go.Proofs.Resv
end
section
namespace Go.Proofs.Srch
open Go.Proofs.Resv
section
abbrev Sp:=Int × Int
structure Env (P M:Type) where
 num:P->Int
 ok:P->Prop
 spans:P->List Sp
 ways:P->List (M × P × Int × List Sp)
 stamp:M->Int->Int->M
structure St (P M:Type) where
 p:P
 i:Nat
 s:Sp
 a:Int
 mv:M
 b:Int
 dn:Bool
variable {P M:Type} [DecidableEq P]
def insB (t:Int) (x:Sp):Bool:=decide (x.1<=t)&&decide (t<x.2)
def inside (l:List Sp) (t:Int):Option Nat:=l.findIdx? (insB t)
def R3 (p:P) (i:Nat) (x:St P M):Bool:=decide (x.p=p)&&(x.i==i)
def key (S:List (St P M)) (p:P) (i:Nat):Option Nat:=S.findIdx? (R3 p i)
def wz (S:List (St P M)) (p:P) (i:Nat) (s:Sp) (t:Int) (m:M) (b:Int):List (St P M):=match key S p i with
 |some k=>(match S[k]? with
  |some x=>if t<x.a then S.set k { x with a:=t,mv:=m,b:=b }else S
  |none=>S)
 |none=>S++[⟨p,i,s,t,m,b,false⟩]
variable (E:Env P M)
def note (S:List (St P M)) (p:P) (t:Int) (m:M) (b:Int):List (St P M):=match inside (E.spans p) t with
 |some i=>wz S p i ((E.spans p).getD i (0,0)) t m b
 |none=>S
def ltK (x y:St P M):Bool:=decide (x.a<y.a\/(x.a=y.a/\(E.num x.p<E.num y.p\/(E.num x.p=E.num y.p/\x.i<y.i))))
def yz:List (St P M)->Nat->Option (Nat × St P M)->Option (Nat × St P M)
 |[],_,b=>b
 |x::L,k,b=>if x.dn=true then yz L (k+1) b else (match b with
  |none=>yz L (k+1) (some (k,x))
  |some (j,y)=>if ltK E x y=true then yz L (k+1) (some (k,x))else yz L (k+1) (some (j,y)))
def least (S:List (St P M)):Option (Nat × St P M):=yz E S 0 none
def ii (x:St P M) (k:Int) (w:M × P × Int × List Sp) (S:List (St P M)) (s:Sp):List (St P M):=
 if s.1<x.s.1\/s.2>x.s.2 then S
 else if sumI (max x.a s.1) w.2.2.1>s.2\/sumI (max x.a s.1) w.2.2.1>=FV then S
 else note E S w.2.1 (sumI (max x.a s.1) w.2.2.1) (E.stamp w.1 (max x.a s.1) (sumI (max x.a s.1) w.2.2.1)) k
def tc (x:St P M) (k:Int) (S:List (St P M)) (w:M × P × Int × List Sp):List (St P M):=w.2.2.2.foldl (ii E x k w) S
def zc (x:St P M) (k:Int) (S:List (St P M)):List (St P M):=(E.ways x.p).foldl (tc E x k) S
def path (S:List (St P M)):Nat->Nat->List M->List M
 |0,_,acc=>acc
 |f+1,k,acc=>match S[k]? with
  |none=>acc
  |some x=>if x.b<0 then acc else path S f x.b.toNat (x.mv::acc)
inductive Res (M:Type) where
 |ok (l:List M)
 |no (e:Int)
def take (S:List (St P M)) (k:Nat) (x:St P M):List (St P M):=S.set k { x with dn:=true }
def run (goal:P->Sp->Bool):Nat->List (St P M)->Res M
 |0,_ => .no 7
 |n+1,S=>match least E S with
  |none => .no 6
  |some (k,x)=>if goal x.p x.s=true then .ok (path (take S k x) S.length k [])else run goal n (zc E { x with dn:=true } k (take S k x))
def find (goal:P->Sp->Bool) (p:P) (t:Int) (z:M) (n:Nat):Res M:=match inside (E.spans p) t with
 |none => .no 18
 |some _=>run E goal n (note E [] p t z (-1))
def Lk (y x:St P M):Prop:=∃w∈E.ways y.p,∃s∈w.2.2.2,y.s.1<=s.1/\s.2<=y.s.2/\x.p=w.2.1/\x.a=sumI (max y.a s.1) w.2.2.1/\x.a<=s.2/\x.a<FV/\x.mv=E.stamp w.1 (max y.a s.1) x.a
structure qf:Prop where
 lasts:∀p,∀w∈E.ways p,1<=w.2.2.1/\w.2.2.1<=FV
 pos:∀p,∀s∈E.spans p,0<=s.1/\s.1<s.2/\s.2<=FV
 to:∀p,E.ok p->∀w∈E.ways p,E.ok w.2.1
 inj:∀p q,E.ok p->E.ok q->E.num p=E.num q->p=q
structure Inv (p0:P) (t0:Int) (z:M) (lo:Int) (S:List (St P M)):Prop where
 keys:S.Pairwise fun x y=>¬(x.p=y.p/\x.i=y.i)
 at_:∀x∈S,(E.spans x.p)[x.i]?=some x.s/\x.s.1<=x.a/\x.a<x.s.2
 dn:∀x∈S,x.dn=true->x.a<=lo
 op:∀x∈S,x.dn=false->lo<=x.a
 ok:∀x∈S,E.ok x.p
 by_:∀x∈S,(x.b = -1/\x.p=p0/\x.a=t0/\x.mv=z)\/∃y,0<=x.b/\S[x.b.toNat]?=some y/\y.dn=true/\y.a<x.a/\Lk E y x
section
variable {E}
theorem E7 {l:List Sp} {t:Int} {i:Nat} (h:inside l t=some i):∃s,l[i]?=some s/\s.1<=t/\t<s.2/\i<l.length:=by
 unfold inside at h
 rw [List.findIdx?_eq_some_iff_getElem]at h
 obtain ⟨hi,h1,h2⟩:=h
 refine ⟨l[i],List.getElem?_eq_getElem hi,?_⟩
 simp [insB]at h1
 exact ⟨h1.1,h1.2,hi⟩
theorem sk {S:List (St P M)} {p:P} {i k:Nat} (h:key S p i=some k):∃x,S[k]?=some x/\x.p=p/\x.i=i:=by
 unfold key at h
 rw [List.findIdx?_eq_some_iff_getElem]at h
 obtain ⟨hi,h1,h2⟩:=h
 refine ⟨S[k],List.getElem?_eq_getElem hi,?_⟩
 simpa [R3]using h1
theorem Rw {S:List (St P M)} {p:P} {i:Nat} (h:key S p i=none):∀x∈S,¬(x.p=p/\x.i=i):=by
 unfold key at h
 rw [List.findIdx?_eq_none_iff]at h
 intro x hx
 have:=h x hx
 simpa [R3]using this
theorem Inv.uniq {p0:P} {t0 lo:Int} {z:M} {S:List (St P M)} (v:Inv E p0 t0 z lo S) {j k:Nat} {x y:St P M} (hj:S[j]?=some x) (hk:S[k]?=some y) (e1:x.p=y.p) (e2:x.i=y.i):j=k:=by
 obtain ⟨hj',rfl⟩:=List.getElem?_eq_some_iff.1 hj
 obtain ⟨hk',rfl⟩:=List.getElem?_eq_some_iff.1 hk
 have:=List.pairwise_iff_getElem.1 v.keys
 rcases Nat.lt_trichotomy j k with h|h|h
 . exact absurd ⟨e1,e2⟩ (this j k hj' hk' h)
 . exact h
 . exact absurd ⟨e1.symm,e2.symm⟩ (this k j hk' hj' h)
theorem al8 {p0:P} {t0 lo:Int} {z:M} {S:List (St P M)} (v:Inv E p0 t0 z lo S) {k:Nat} {x:St P M} (hk:S[k]?=some x):key S x.p x.i=some k:=by
 cases h:key S x.p x.i with
 |none=>exact absurd ⟨rfl,rfl⟩ (Rw h x (List.mem_of_getElem? hk))
 |some j=>
  obtain ⟨y,hy,e1,e2⟩:=sk h
  rw [v.uniq hy hk e1 e2]
theorem He {p0:P} {t0 lo:Int} {z:M} {S:List (St P M)} (v:Inv E p0 t0 z lo S) {p:P} {t:Int} {m:M} {b:Int} (hlo:lo<=t) (hok:E.ok p)
 (hb:(b = -1/\p=p0/\t=t0/\m=z)\/∃y,0<=b/\S[b.toNat]?=some y/\y.dn=true/\y.a<t/\∀i s,Lk E y ⟨p,i,s,t,m,b,false⟩):Inv E p0 t0 z lo (note E S p t m b):=by
 unfold note
 cases hi:inside (E.spans p) t with
 |none=>exact v
 |some i=>
  obtain ⟨s,hs,h1,h2,h3⟩:=E7 hi
  simp only
  unfold wz
  cases hk:key S p i with
  |none=>
   simp only
   have hn:=Rw hk
   have hget:(E.spans p).getD i (0,0)=s:=by rw [List.getD_eq_getElem?_getD,hs];rfl
   rw [hget]
   have up:∀{j:Nat} {y:St P M},S[j]?=some y->(S++[(⟨p,i,s,t,m,b,false⟩:St P M)])[j]?=some y:=fun {j y} h=>by
    rw [List.getElem?_append_left (List.getElem?_eq_some_iff.1 h).1];exact h
   refine ⟨?_,?_,?_,?_,?_,?_⟩
   . rw [List.pairwise_append]
     refine ⟨v.keys,List.pairwise_singleton _ _,?_⟩
     intro x hx y hy
     rw [List.mem_singleton]at hy
     subst hy
     exact hn x hx
   . intro x hx
     rcases List.mem_append.1 hx with hx|hx
     . exact v.at_ x hx
     . rw [List.mem_singleton]at hx;subst hx;exact ⟨hs,h1,h2⟩
   . intro x hx hd
     rcases List.mem_append.1 hx with hx|hx
     . exact v.dn x hx hd
     . rw [List.mem_singleton]at hx;subst hx;cases hd
   . intro x hx hd
     rcases List.mem_append.1 hx with hx|hx
     . exact v.op x hx hd
     . rw [List.mem_singleton]at hx;subst hx;exact hlo
   . intro x hx
     rcases List.mem_append.1 hx with hx|hx
     . exact v.ok x hx
     . rw [List.mem_singleton]at hx;subst hx;exact hok
   . intro x hx
     rcases List.mem_append.1 hx with hx|hx
     . rcases v.by_ x hx with h|⟨y,e1,e2,e3⟩
       . exact .inl h
       . exact .inr ⟨y,e1,up e2,e3⟩
     . rw [List.mem_singleton]at hx;subst hx
       rcases hb with h|⟨y,e1,e2,e3,e4,e5⟩
       . exact .inl h
       . exact .inr ⟨y,e1,up e2,e3,e4,e5 i s⟩
  |some k=>
   obtain ⟨x,hx,e1,e2⟩:=sk hk
   simp only [hx]
   split
   . rename_i hlt
     have hkl:k<S.length:=(List.getElem?_eq_some_iff.1 hx).1
     have hxm:=List.mem_of_getElem? hx
     have hnd:x.dn=false:=by
      cases hd:x.dn with
      |false=>rfl
      |true=>have:=v.dn x hxm hd;omega
     have hxs:x.s=s:=by
      have:=(v.at_ x hxm).1
      rw [e1,e2,hs]at this
      exact (Option.some.inj this).symm
     have memset:∀y,y∈S.set k { x with a:=t,mv:=m,b:=b }->y={ x with a:=t,mv:=m,b:=b }\/y∈S:=fun y hy=>by
      rcases List.mem_or_eq_of_mem_set hy with h|h
      . exact .inr h
      . exact .inl h
     have up:∀{j:Nat} {y:St P M},S[j]?=some y->y.dn=true->(S.set k { x with a:=t,mv:=m,b:=b })[j]?=some y:=fun {j y} h hd=>by
      have hne:j≠k:=fun e=>by subst e;rw [hx]at h;cases h;rw [hnd]at hd;cases hd
      rw [List.getElem?_set_ne (Ne.symm hne)];exact h
     refine ⟨?_,?_,?_,?_,?_,?_⟩
     . rw [List.pairwise_iff_getElem]
       intro j l hj hl hjl
       simp only [List.length_set]at hj hl
       have hp:=List.pairwise_iff_getElem.1 v.keys j l hj hl hjl
       have hxe:S[k]=x:=by have:=List.getElem?_eq_some_iff.1 hx;obtain ⟨_,e⟩:=this;exact e
       rw [List.getElem_set,List.getElem_set]
       split
       . rename_i h;subst h
         rw [if_neg (by omega)]
         rw [hxe]at hp;exact hp
       . split
         . rename_i h;subst h
           rw [hxe]at hp;exact hp
         . exact hp
     . intro y hy
       rcases memset y hy with rfl|hy
       . refine ⟨(v.at_ x hxm).1,?_⟩
         simp only [hxs]
         exact ⟨h1,h2⟩
       . exact v.at_ y hy
     . intro y hy hd
       rcases memset y hy with rfl|hy
       . rw [hnd]at hd;cases hd
       . exact v.dn y hy hd
     . intro y hy hd
       rcases memset y hy with rfl|hy
       . exact hlo
       . exact v.op y hy hd
     . intro y hy
       rcases memset y hy with rfl|hy
       . exact v.ok x hxm
       . exact v.ok y hy
     . intro y hy
       rcases memset y hy with rfl|hy
       . rcases hb with ⟨h,h',h'',h3⟩|⟨u,f1,f2,f3,f4,f5⟩
         . exact .inl ⟨h,by simp only [e1,h'],h'',h3⟩
         . refine .inr ⟨u,f1,up f2 f3,f3,f4,?_⟩
           have:=f5 i s
           unfold Lk at this ⊢
           simp only [e1]at this ⊢
           exact this
       . rcases v.by_ y hy with h|⟨u,f1,f2,f3,f4,f5⟩
         . exact .inl h
         . exact .inr ⟨u,f1,up f2 f3,f3,f4,f5⟩
   . exact v
theorem aa6 {p0:P} {t0 lo:Int} {z:M} {S:List (St P M)} (v:Inv E p0 t0 z lo S) {p:P} {t:Int} {m:M} {b:Int} (hlo:lo<=t) {j:Nat} {y:St P M} (h:S[j]?=some y) (hd:y.dn=true):(note E S p t m b)[j]?=some y:=by
 unfold note
 split
 . unfold wz
   split
   . rename_i k hk
     split
     . rename_i x hx
       split
       . rename_i hlt
         have hne:j≠k:=fun e=>by
          subst e;rw [hx]at h;cases h
          have:=v.dn _ (List.mem_of_getElem? hx) hd
          omega
         rw [List.getElem?_set_ne (Ne.symm hne)];exact h
       . exact h
     . exact h
   . rw [List.getElem?_append_left (List.getElem?_eq_some_iff.1 h).1];exact h
 . exact h
theorem Gl {a d:Int} (h0:0<=a) (hd:1<=d) (h:sumI a d<FV):a<sumI a d:=by
 unfold sumI cutI FV at*
 split at h
 . omega
 . rename_i h2;rw [if_neg h2];omega
theorem Gn (ok:qf E) {p0:P} {t0:Int} {z:M} {S:List (St P M)} {x:St P M} {k:Nat} (v:Inv E p0 t0 z x.a S) (hx:S[k]?=some x) (hd:x.dn=true) (ha:0<=x.a) (hox:E.ok x.p) {w:M × P × Int × List Sp} (hw:w∈E.ways x.p) {s:Sp} (hs:s∈w.2.2.2):
 Inv E p0 t0 z x.a (ii E x k w S s)/\(ii E x k w S s)[k]?=some x:=by
 unfold ii
 split
 . exact ⟨v,hx⟩
 . split
   . exact ⟨v,hx⟩
   . rename_i h1 h2
     have h3:sumI (max x.a s.1) w.2.2.1<FV:=by omega
     have h4:=Gl (show 0<=max x.a s.1 by omega) (ok.lasts _ w hw).1 h3
     refine ⟨He v (by omega) (ok.to _ hox w hw) (.inr ⟨x,by omega,by simpa using hx,hd,by omega,fun i s'=>⟨w,hw,s,hs,by omega,by omega,rfl,rfl,by simp only;omega,h3,rfl⟩⟩),aa6 v (by omega) hx hd⟩
theorem Ns (ok:qf E) {p0:P} {t0:Int} {z:M} {x:St P M} {k:Nat} (hd:x.dn=true) (ha:0<=x.a) (hox:E.ok x.p) {w:M × P × Int × List Sp} (hw:w∈E.ways x.p):∀(l:List Sp) {S:List (St P M)},(∀s∈l,s∈w.2.2.2)->Inv E p0 t0 z x.a S->S[k]?=some x->
 Inv E p0 t0 z x.a (l.foldl (ii E x k w) S)/\(l.foldl (ii E x k w) S)[k]?=some x
 |[],S,_,v,hx=>⟨v,hx⟩
 |s::l,S,hl,v,hx=>by
  obtain ⟨v1,h1⟩:=Gn ok v hx hd ha hox hw (hl s (.head _))
  exact Ns ok hd ha hox hw l (fun s hs=>hl s (.tail _ hs)) v1 h1
theorem Gd (ok:qf E) {p0:P} {t0:Int} {z:M} {x:St P M} {k:Nat} (hd:x.dn=true) (ha:0<=x.a) (hox:E.ok x.p):∀(l:List (M × P × Int × List Sp)) {S:List (St P M)},(∀w∈l,w∈E.ways x.p)->Inv E p0 t0 z x.a S->S[k]?=some x->
 Inv E p0 t0 z x.a (l.foldl (tc E x k) S)/\(l.foldl (tc E x k) S)[k]?=some x
 |[],S,_,v,hx=>⟨v,hx⟩
 |w::l,S,hl,v,hx=>by
  obtain ⟨v1,h1⟩:=Ns ok hd ha hox (hl w (.head _)) w.2.2.2 (fun _ h=>h) v hx
  exact Gd ok hd ha hox l (fun w hw=>hl w (.tail _ hw)) v1 h1
theorem ab1 {x y u:St P M} (h1:ltK E x y=true) (h2:ltK E y u=true):ltK E x u=true:=by
 unfold ltK at*
 simp only [decide_eq_true_eq]at*
 omega
theorem Wx {x:St P M}:ltK E x x=false:=by
 unfold ltK
 simp
theorem ltK_tot {x y:St P M} (h1:ltK E x y=false) (h2:ltK E y x=false):x.a=y.a/\E.num x.p=E.num y.p/\x.i=y.i:=by
 unfold ltK at*
 simp only [decide_eq_false_iff_not]at*
 omega
def o8 (S:List (St P M)) (n:Nat) (b:Option (Nat × St P M)):Prop:=match b with
 |none=>∀x∈S.take n,x.dn=true
 |some (j,y)=>j<n/\S[j]?=some y/\y.dn=false/\∀x∈S.take n,x.dn=false->ltK E x y=false
theorem pu:∀(L S:List (St P M)) (k:Nat) (b:Option (Nat × St P M)),S.drop k=L->o8 (E:=E) S k b->o8 (E:=E) S S.length (yz E L k b)
 |[],S,k,b,hL,h=>by
  have hk:S.length<=k:=by
   have:=congrArg List.length hL
   simp at this;omega
  unfold yz
  unfold o8 at*
  cases b with
  |none=>simp only at *;rw [List.take_of_length_le hk]at h;rw [List.take_length];exact h
  |some p=>
   obtain ⟨j,y⟩:=p
   simp only at*
   rw [List.take_of_length_le hk]at h
   rw [List.take_length]
   exact ⟨(List.getElem?_eq_some_iff.1 h.2.1).1,h.2⟩
 |x::L,S,k,b,hL,h=>by
  have hx:S[k]?=some x:=by
   have:(S.drop k)[0]?=some x:=by rw [hL];rfl
   simpa using this
  have hL':S.drop (k+1)=L:=by
   rw [<- List.drop_drop,hL];rfl
  have ht:S.take (k+1)=S.take k++[x]:=by rw [List.take_add_one,hx];rfl
  unfold yz
  split
  . rename_i hd
    refine pu L S (k+1) b hL' ?_
    unfold o8 at*
    cases b with
    |none=>
     simp only at*
     intro y hy
     rw [ht]at hy
     rcases List.mem_append.1 hy with hy|hy
     . exact h y hy
     . rw [List.mem_singleton]at hy;subst hy;exact hd
    |some p=>
     obtain ⟨j,y⟩:=p
     simp only at*
     refine ⟨by omega,h.2.1,h.2.2.1,fun u hu hun=>?_⟩
     rw [ht]at hu
     rcases List.mem_append.1 hu with hu|hu
     . exact h.2.2.2 u hu hun
     . rw [List.mem_singleton]at hu;subst hu;rw [hd]at hun;cases hun
  . rename_i hd
    have hd:x.dn=false:=by simpa using hd
    cases b with
    |none=>
     refine pu L S (k+1) _ hL' ?_
     unfold o8 at*
     simp only at*
     refine ⟨by omega,hx,hd,fun u hu hun=>?_⟩
     rw [ht]at hu
     rcases List.mem_append.1 hu with hu|hu
     . have:=h u hu;rw [hun]at this;cases this
     . rw [List.mem_singleton]at hu;subst hu;exact Wx
    |some p=>
     obtain ⟨j,y⟩:=p
     unfold o8 at h
     simp only at h ⊢
     split
     . rename_i hlt
       refine pu L S (k+1) _ hL' ?_
       unfold o8
       simp only
       refine ⟨by omega,hx,hd,fun u hu hun=>?_⟩
       rw [ht]at hu
       rcases List.mem_append.1 hu with hu|hu
       . have h1:=h.2.2.2 u hu hun
         cases h2:ltK E u x with
         |false=>rfl
         |true=>rw [ab1 h2 hlt]at h1;cases h1
       . rw [List.mem_singleton]at hu;subst hu;exact Wx
     . rename_i hge
       refine pu L S (k+1) _ hL' ?_
       unfold o8
       simp only
       refine ⟨by omega,h.2.1,h.2.2.1,fun u hu hun=>?_⟩
       rw [ht]at hu
       rcases List.mem_append.1 hu with hu|hu
       . exact h.2.2.2 u hu hun
       . rw [List.mem_singleton]at hu;subst hu;simpa using hge
theorem Hi {S:List (St P M)} (h:least E S=none):∀x∈S,x.dn=true:=by
 have:=pu (E:=E) S S 0 none rfl (by unfold o8;simp)
 unfold least at h
 rw [h]at this
 unfold o8 at this
 simpa using this
theorem sj {S:List (St P M)} {k:Nat} {y:St P M} (h:least E S=some (k,y)):S[k]?=some y/\y.dn=false/\∀x∈S,x.dn=false->ltK E x y=false:=by
 have:=pu (E:=E) S S 0 none rfl (by unfold o8;simp)
 unfold least at h
 rw [h]at this
 unfold o8 at this
 simp only [List.take_length]at this
 exact this.2
theorem Gi {p0:P} {t0 lo:Int} {z:M} {S:List (St P M)} (v:Inv E p0 t0 z lo S) {k:Nat} {x:St P M} (h:least E S=some (k,x)):
 Inv E p0 t0 z x.a (take S k x)/\(take S k x)[k]?=some { x with dn:=true }:=by
 obtain ⟨hx,hnd,hmin⟩:=sj h
 have hkl:k<S.length:=(List.getElem?_eq_some_iff.1 hx).1
 have hxe:S[k]=x:=(List.getElem?_eq_some_iff.1 hx).2
 have hxm:=List.mem_of_getElem? hx
 unfold take
 have memset:∀y,y∈S.set k { x with dn:=true }->y={ x with dn:=true }\/y∈S:=fun y hy=>by
  rcases List.mem_or_eq_of_mem_set hy with h|h
  . exact .inr h
  . exact .inl h
 have up:∀{j:Nat} {y:St P M},S[j]?=some y->y.dn=true->(S.set k { x with dn:=true })[j]?=some y:=fun {j y} hj hd=>by
  have hne:j≠k:=fun e=>by subst e;rw [hx]at hj;cases hj;rw [hnd]at hd;cases hd
  rw [List.getElem?_set_ne (Ne.symm hne)];exact hj
 refine ⟨⟨?_,?_,?_,?_,?_,?_⟩,by rw [List.getElem?_set_self hkl]⟩
 . rw [List.pairwise_iff_getElem]
   intro j l hj hl hjl
   simp only [List.length_set]at hj hl
   have hp:=List.pairwise_iff_getElem.1 v.keys j l hj hl hjl
   rw [List.getElem_set,List.getElem_set]
   split
   . rename_i h;subst h
     rw [if_neg (by omega)]
     rw [hxe]at hp;exact hp
   . split
     . rename_i h;subst h
       rw [hxe]at hp;exact hp
     . exact hp
 . intro y hy
   rcases memset y hy with rfl|hy
   . exact v.at_ x hxm
   . exact v.at_ y hy
 . intro y hy hd
   rcases memset y hy with rfl|hy
   . exact Int.le_refl _
   . have h1:=v.dn y hy hd
     have h2:=v.op x hxm hnd
     omega
 . intro y hy hd
   rcases memset y hy with rfl|hy
   . cases hd
   . have:=hmin y hy hd
     unfold ltK at this
     simp only [decide_eq_false_iff_not]at this
     omega
 . intro y hy
   rcases memset y hy with rfl|hy
   . exact v.ok x hxm
   . exact v.ok y hy
 . intro y hy
   rcases memset y hy with rfl|hy
   . rcases v.by_ x hxm with h|⟨u,f1,f2,f3,f4,f5⟩
     . exact .inl h
     . exact .inr ⟨u,f1,up f2 f3,f3,f4,f5⟩
   . rcases v.by_ y hy with h|⟨u,f1,f2,f3,f4,f5⟩
     . exact .inl h
     . exact .inr ⟨u,f1,up f2 f3,f3,f4,f5⟩
theorem Inv.start (p0:P) (t0:Int) (z:M) (lo:Int):Inv E p0 t0 z lo []:=
 ⟨List.Pairwise.nil,fun _ h=>(by cases h),fun _ h=>(by cases h),fun _ h=>(by cases h),fun _ h=>(by cases h),fun _ h=>(by cases h)⟩
end
end
def capB (x y:Sp):List Sp:=if max x.1 y.1<min x.2 y.2 then [(max x.1 y.1,min x.2 y.2)]else []
def py:List Sp->List Sp->List Sp
 |[],_=>[]
 |_::_,[]=>[]
 |x::a,y::b=>capB x y++(if x.2<y.2 then py a (y::b)else py (x::a) b)
 termination_by a b=>a.length+b.length
def qw (a b:List Sp):List Sp:=a.flatMap fun x=>b.flatMap fun y=>capB x y
structure Ris (l:List Sp):Prop where
 pw:l.Pairwise fun x y=>x.2<y.1
 bd:∀x∈l,0<=x.1/\x.1<x.2/\x.2<=FV
theorem Ris.tail {x:Sp} {l:List Sp} (h:Ris (x::l)):Ris l:=⟨h.pw.of_cons,fun y hy=>h.bd y (.tail _ hy)⟩
theorem Ris.hd {x:Sp} {l:List Sp} (h:Ris (x::l)):∀y∈l,x.2<y.1:=(List.pairwise_cons.1 h.pw).1
theorem Tj {x y:Sp} (h:x.2<=y.1\/y.2<=x.1):capB x y=[]:=by
 unfold capB
 rw [if_neg (by omega)]
theorem Ed {α β:Type} {l:List α} {f:α->List β} (h:∀x∈l,f x=[]):l.flatMap f=[]:=by
 rw [List.flatMap_eq_nil_iff];exact h
theorem Ap:∀(n:Nat) (a b:List Sp),a.length+b.length<=n->Ris a->Ris b->py a b=qw a b
 |_,[],b,_,_,_=>by rw [py];rfl
 |_,x::a,[],_,_,_=>by
  rw [py]
  unfold qw
  rw [Ed]
  intro y _;rfl
 |0,x::a,y::b,h,_,_=>by simp at h
 |n+1,x::a,y::b,h,ha,hb=>by
  simp only [List.length_cons]at h
  rw [py]
  split
  . rename_i hlt
    rw [Ap n a (y::b) (by simp only [List.length_cons];omega) ha.tail hb]
    unfold qw
    rw [List.flatMap_cons]
    congr 1
    rw [List.flatMap_cons,Ed (l:=b),List.append_nil]
    intro u hu
    have:=hb.hd u hu
    exact Tj (.inl (by omega))
  . rename_i hge
    rw [Ap n (x::a) b (by simp only [List.length_cons];omega) ha hb.tail]
    unfold qw
    rw [List.flatMap_cons,List.flatMap_cons,List.flatMap_cons,List.append_assoc]
    congr 2
    have:∀u∈a,(y::b).flatMap (fun z=>capB u z)=b.flatMap (fun z=>capB u z):=fun u hu=>by
     rw [List.flatMap_cons,Tj,List.nil_append]
     have:=ha.hd u hu
     exact .inr (by omega)
    rw [List.flatMap_def,List.flatMap_def,List.map_congr_left this]
theorem C0 {a b:List Sp} {s:Sp}:s∈qw a b↔∃x∈a,∃y∈b,s=(max x.1 y.1,min x.2 y.2)/\max x.1 y.1<min x.2 y.2:=by
 unfold qw
 simp only [List.mem_flatMap]
 constructor
 . rintro ⟨x,hx,y,hy,h⟩
   unfold capB at h
   split at h
   . rename_i hlt
     rw [List.mem_singleton]at h
     exact ⟨x,hx,y,hy,h,hlt⟩
   . cases h
 . rintro ⟨x,hx,y,hy,h,hlt⟩
   exact ⟨x,hx,y,hy,by unfold capB;rw [if_pos hlt,h];exact .head _⟩
theorem ris_cap {b:List Sp} (hb:Ris b) (x:Sp):(b.flatMap fun y=>capB x y).Pairwise fun u v=>u.2<v.1:=by
 induction b with
 |nil=>exact .nil
 |cons y b ih=>
  rw [List.flatMap_cons,List.pairwise_append]
  refine ⟨?_,ih hb.tail,?_⟩
  . unfold capB;split
    . exact List.pairwise_singleton _ _
    . exact .nil
  . intro u hu v hv
    unfold capB at hu
    split at hu
    . rw [List.mem_singleton]at hu;subst hu
      obtain ⟨z,hz,hv⟩:=List.mem_flatMap.1 hv
      unfold capB at hv
      split at hv
      . rw [List.mem_singleton]at hv;subst hv
        have:=hb.hd z hz
        simp only;omega
      . cases hv
    . cases hu
theorem Q2 {a b:List Sp} (ha:Ris a) (hb:Ris b):Ris (qw a b):=by
 refine ⟨?_,fun s hs=>?_⟩
 . induction a with
   |nil=>exact .nil
   |cons x a ih=>
    unfold qw
    rw [List.flatMap_cons,List.pairwise_append]
    refine ⟨ris_cap hb x,ih ha.tail,?_⟩
    intro u hu v hv
    obtain ⟨y,hy,hu⟩:=List.mem_flatMap.1 hu
    obtain ⟨z,hz,w,hw,rfl,hlt⟩:=C0.1 hv
    unfold capB at hu
    split at hu
    . rw [List.mem_singleton]at hu;subst hu
      have:=ha.hd z hz
      simp only;omega
    . cases hu
 . obtain ⟨x,hx,y,hy,rfl,hlt⟩:=C0.1 hs
   have:=ha.bd x hx
   have:=hb.bd y hy
   simp only;omega
def n9 (T:Tb) (r:Int) (n:Int):List Sp:=if inT T.length n=true then Fa (rowT T n) r else []
def lr (T:Tb) (r:Int) (N:List Int):List Sp:=N.foldl (fun l n=>qw l (n9 T r n)) [(0,FV)]
theorem Wl:Ris [((0:Int),FV)]:=⟨List.pairwise_singleton _ _,fun x hx=>by rw [List.mem_singleton]at hx;subst hx;exact ⟨Int.le_refl _,by decide,Int.le_refl _⟩⟩
theorem Cq {T:Tb} (g:iu T) (r n:Int):Ris (n9 T r n):=by
 unfold n9
 split
 . have gr:=rq g n
   obtain ⟨h1,h2⟩:=Lv (r:=r) gr (Int.le_refl 0) (by decide) (fun s hs => .inl (gr.ok s hs).1)
   exact ⟨h1,fun x hx=>let ⟨e1,e2,e3,_⟩:=h2 x hx;⟨e1,e2,e3⟩⟩
 . exact ⟨.nil,fun _ h=>by cases h⟩
theorem Sf {T:Tb} (g:iu T) {r:Int}:∀(N:List Int) {l:List Sp},Ris l->Ris (N.foldl (fun l n=>qw l (n9 T r n)) l)
 |[],l,h=>h
 |n::N,l,h=>Sf g N (Q2 h (Cq g r n))
theorem yh {T:Tb} (g:iu T) (r:Int) (N:List Int):Ris (lr T r N):=Sf g N Wl
theorem ak6 {b:List Sp}:qw [] b=[]:=rfl
theorem aa9 {a:List Sp}:qw a []=[]:=Ed fun _ _=>rfl
theorem Sg {T:Tb} {r:Int}:∀(N:List Int),N.foldl (fun l n=>qw l (n9 T r n)) []=[]
 |[]=>rfl
 |n::N=>by rw [List.foldl_cons,ak6,Sg N]
theorem am6 {T:Tb} {r:Int} {N:List Int} {n:Int} (hn:n∈N) (h:inT T.length n=false):lr T r N=[]:=by
 unfold lr
 generalize [((0:Int),FV)]=l
 induction N generalizing l with
 |nil=>cases hn
 |cons m N ih=>
  rw [List.foldl_cons]
  rcases List.mem_cons.1 hn with rfl|hn
  . rw [show n9 T r n=[]by unfold n9;rw [if_neg (by rw [h];simp)],aa9,Sg]
  . exact ih hn _
theorem Dd:∀(n:Nat) (a b:List Sp),a.length+b.length<=n->(py a b).length<=a.length+b.length
 |_,[],b,_=>by rw [py];simp
 |_,x::a,[],_=>by rw [py];simp
 |0,x::a,y::b,h=>by simp at h
 |n+1,x::a,y::b,h=>by
  simp only [List.length_cons]at h
  rw [py,List.length_append]
  have hc:(capB x y).length<=1:=by unfold capB;split<;>simp
  split
  . have:=Dd n a (y::b) (by simp only [List.length_cons];omega)
    simp only [List.length_cons]at *;omega
  . have:=Dd n (x::a) b (by simp only [List.length_cons];omega)
    simp only [List.length_cons]at *;omega
theorem Ec {T:Tb} {b:Nat} (f:Few T b) (r n:Int):(n9 T r n).length<=b+1:=by
 unfold n9
 split
 . have h1:=am1 (r:=r) (L:=rowT T n) (a:=0)
   have h2:=um f n
   unfold Fa;omega
 . simp
theorem C7 {T:Tb} {b:Nat} (g:iu T) (f:Few T b) (r:Int) (N:List Int):(lr T r N).length<=1+N.length*(b+1):=by
 have key:∀(N:List Int) (l:List Sp),Ris l->(N.foldl (fun l n=>qw l (n9 T r n)) l).length<=l.length+N.length*(b+1):=by
  intro N
  induction N with
  |nil=>intro l _;simp
  |cons n N ih=>
   intro l hl
   rw [List.foldl_cons]
   have h1:=ih _ (Q2 hl (Cq g r n))
   rw [<- Ap _ _ _ (Nat.le_refl _) hl (Cq g r n)]at h1 ⊢
   have h2:=Dd _ l (n9 T r n) (Nat.le_refl _)
   have h3:=Ec f r n
   rw [List.length_cons,Nat.add_mul,Nat.one_mul]
   omega
 have:=key N [(0,FV)] Wl
 unfold lr
 simpa using this
def brk (a:Int):Nat->Int->Int
 |0,_=>0
 |n+1,v=>if v>0 then v+brk a n (v-a)else 0
def Bv (a s:Int):Int:=brk a s.toNat (s-a)
def dq (a r:Int):Nat->Int->Int
 |0,q=>q
 |n+1,q=>if q>1/\Bv a q>r-q then dq a r n (q-1)else q
def xi (a r s v:Int):Int:=dq a r (min (min (s+a) v) r).toNat (min (min (s+a) v) r)
def prof (a v e:Int):Nat->Int->Int->List Int
 |0,_,_=>[]
 |n+1,p,s=>if p<e then (p+xi a (e-p) s v)::prof a v e n (p+xi a (e-p) s v) (xi a (e-p) s v)else []
def ls (U A V n:Int):List Int:=if 1<=n/\n<=16 then prof A V (n*U) (n*U).toNat 0 0 else []
def Gh (U A V n:Int):Int:=(ls U A V n).length
theorem dq_bd {a r:Int}:∀(n:Nat) (q:Int),1<=q->1<=dq a r n q/\dq a r n q<=q
 |0,q,h=>by simp [dq,h]
 |n+1,q,h=>by
  unfold dq
  split
  . have:=dq_bd (a:=a) (r:=r) n (q-1) (by omega);omega
  . omega
theorem next_bd {a r s v:Int} (ha:1<=a) (hr:1<=r) (hs:0<=s) (hv:1<=v):1<=xi a r s v/\xi a r s v<=r/\xi a r s v<=v:=by
 unfold xi
 have:=dq_bd (a:=a) (r:=r) (min (min (s+a) v) r).toNat (min (min (s+a) v) r) (by omega)
 omega
theorem G9 {a v e:Int}:∀(n:Nat) (p s:Int),(prof a v e n p s).length<=n
 |0,p,s=>by simp [prof]
 |n+1,p,s=>by
  unfold prof
  split
  . have:=G9 (a:=a) (v:=v) (e:=e) n (p+xi a (e-p) s v) (xi a (e-p) s v)
    simpa using this
  . simp
theorem time_bd {U A V n:Int} (hU:1<=U) (hU2:U<=1000):0<=Gh U A V n/\Gh U A V n<=16000/\(1<=n->n<=16->1<=Gh U A V n):=by
 unfold Gh ls
 refine ⟨by omega,?_,fun h1 h2=>?_⟩
 . split
   . rename_i h
     have:=G9 (a:=A) (v:=V) (e:=n*U) (n*U).toNat 0 0
     have:n*U<=16*1000:=Int.mul_le_mul h.2 hU2 (by omega) (by omega)
     omega
   . simp
 . rw [if_pos ⟨h1,h2⟩]
   have h3:1*1<=n*U:=Int.mul_le_mul h1 hU (by omega) (by omega)
   obtain ⟨m,hm⟩:∃m,(n*U).toNat=m+1:=⟨(n*U).toNat-1,by omega⟩
   rw [hm]
   unfold prof
   rw [if_pos (by omega)]
   simp
   omega
end Go.Proofs.Srch
end

/- Texts of the proof, one behind the other. -/
import Derived.Test.YtfflipnhffknnaaGreatDoorM1
import Derived.Test.YtfflipnhffknnaaGreatDoorM5
import Derived.Test.YtfflipnhffknnaaGreatDoorM3
import Derived.Test.YtfflipnhffknnaaGreatDoorM4
import Derived.Test.YtfflipnhffknnaaGreatDoorH3
import Derived.Test.YtfflipnhffknnaaGreatDoorM2
import Derived.Test.YtfflipnhffknnaaGreatDoorH2
import Derived.Test.YtfflipnhffknnaaGreatDoorRows
import Derived.Test.YtfflipnhffknnaaGreatDoorTie
import Derived.JoinedOf
import Derived.Handed
import Derived.LaidMore
import Derived.LaidHandle
import Derived.LaidLaws
import Derived.MakeChecks
set_option linter.unusedVariables false
set_option maxRecDepth 100000
set_option linter.unusedSimpArgs false
set_option linter.unusedSectionVars false
set_option linter.defProp false
section
namespace Go.Proofs.YtfflipnhffknnaaGreatDoor
open Go Go.HL
def md4 : Nat → Hint
 | 8 => mh false [0,1,0,0,0,0,0,96,255,511,1023,1023,2047,8191] [m_,e_,n_,m_,n_,m_,n_,n_,e_,n_,n_,n_,n_,n_] [false, true, false, false, false, false, false, false, false, false, false, false, false, false] false
 | 9 => mh false [0,1,0,0,0,0,48,0,0,384,1023,2047,4095,4095,8191,32767] [m_,e_,n_,m_,n_,n_,n_,m_,n_,n_,e_,n_,n_,n_,n_,n_] [false, true, false, false, false, false, false, false, false, false, false, false, false, false, false, false] false
 | 18 => mh false [0,0,0,6,14,31] [m_,n_,n_,n_,m_,m_] (fs 6) false
 | _ => mh false [] [] [] false
def S4_k4 (G : Hp) (K : EK) (r : Rg) (h : Hp) : Prop :=
 opH P_ G (callFunc 23 #[]) h fun v44 h44 =>
 K .ret (upd (upd r 106 v44) 12 v44) h44
def M6 (G : Hp) (K : EK) (r : Rg) (h : Hp) : Prop :=
 o_ G (binOp .add 3 (r 19) (.int .i64 1)) h fun v47 h47 =>
 K .normal (upd (upd (upd r 84 (r 19)) 85 v47) 19 v47) h47
def M7 (G : Hp) (K : EK) (r : Rg) (h : Hp) : Prop :=
 o_ G (Instr.indexAt 40 (r 15) (r 19)) h fun v48 h48 =>
 o_ G (Instr.loadAt 48 v48) h48 fun v49 h49 =>
 o_ G (Instr.alloc 48 true (.tuple #[])) h49 fun v50 h50 =>
 opH P_ G (su (Instr.storeAt 48 v50 v49)) h50 fun v51 h51 =>
 o_ G (Instr.fieldAt 48 v50 5) h51 fun v52 h52 =>
 o_ G (Instr.loadAt 3 v52) h52 fun v53 h53 =>
 o_ G (binOp .add 3 v53 (r 3)) h53 fun v54 h54 =>
 o_ G (Instr.fieldAt 48 v50 5) h54 fun v55 h55 =>
 opH P_ G (su (Instr.storeAt 3 v55 v54)) h55 fun v56 h56 =>
 o_ G (Instr.fieldAt 48 v50 6) h56 fun v57 h57 =>
 o_ G (Instr.loadAt 3 v57) h57 fun v58 h58 =>
 o_ G (binOp .add 3 v58 (r 3)) h58 fun v59 h59 =>
 o_ G (Instr.fieldAt 48 v50 6) h59 fun v60 h60 =>
 opH P_ G (su (Instr.storeAt 3 v60 v59)) h60 fun v61 h61 =>
 al P_ G h61 (sv (Instr.loadAt 48 v50)) h61 fun v62 h62 =>
 p_ (Instr.indexAt 40 (r 17) (r 19)) h62 fun v63 h63 =>
 al P_ G h61 (sv (Instr.loadAt 48 v63)) h63 fun v64 h64 =>
 al P_ G h61 (xEq .neq 48 (.tmp 0) (.tmp 0) v62 v64) h64 fun v65 h65 =>
 (fun q => cond v65
 (K .ret (upd q 12 (.bool false)) h65)
 (M6 G K q h65))
 (upd (upd (upd (upd (upd (upd (upd (upd (upd (upd (upd (upd (upd (upd (upd (upd (upd (upd (upd (upd (upd r 86 (r 15)) 87 (r 19)) 88 v48) 89 v49) 20 v50) 90 v52) 91 v53) 92 (r 3)) 93 v54) 94 v55) 95 v57) 96 v58) 97 (r 3)) 98 v59) 99 v60) 100 v62) 101 (r 17)) 102 (r 19)) 103 v63) 104 v64) 105 v65)
def S4_l5 (G : Hp) (r : Rg) (h : Hp) (K : EK) : Prop :=
 o_ G (Builtin.len_ #[40] 3 #[(r 15)]) h fun v45 h45 =>
 o_ G (binOp .lss 3 (r 19) v45) h45 fun v46 h46 =>
 cond v46
 (M7 G K (upd (upd (upd (upd r 80 (r 19)) 81 (r 15)) 82 v45) 83 v46) h46)
 (K (.exit 0) (upd (upd (upd (upd r 80 (r 19)) 81 (r 15)) 82 v45) 83 v46) h46)
def S4_k3 (G : Hp) (K : EK) (r : Rg) (h : Hp) : Prop :=
 dg (S4_l5 G) (upd r 19 (.int .i64 0)) h (bk 0 (br (S4_k4 G K) K))
def S4_k2 (G : Hp) (K : EK) (r : Rg) (h : Hp) : Prop :=
 al P_ G h (sv (Instr.loadAt 26 (r 6))) h fun v20 h20 =>
 opH P_ G (callFunc 28 #[v20]) h20 fun v21 h21 => h.le h21 ∧
 al P_ G h (sv (Instr.loadAt 30 (r 7))) h21 fun v22 h22 =>
 al P_ G h (sv (Instr.loadAt 30 (r 10))) h22 fun v23 h23 =>
 p_ (Instr.build 45 #[(0, v23), (1, (r 5))]) h23 fun v24 h24 =>
 opH P_ G (callFunc 27 #[v21, (r 13), (.int .i64 1), v22, (r 2), v24]) h24 fun v25 h25 =>
 p_ (Instr.extract v25 0) h25 fun v26 h26 =>
 p_ (Instr.extract v25 1) h26 fun v27 h27 =>
 al P_ G h27 (sv (Instr.loadAt 26 (r 6))) h27 fun v28 h28 =>
 opH P_ G (callFunc 28 #[v28]) h28 fun v29 h29 => h27.le h29 ∧
 al P_ G h27 (sv (Instr.loadAt 30 (r 7))) h29 fun v30 h30 =>
 p_ (binOp .add 3 (r 2) (r 3)) h30 fun v31 h31 =>
 al P_ G h27 (sv (Instr.loadAt 30 (r 10))) h31 fun v32 h32 =>
 p_ (Instr.build 45 #[(0, v32), (1, (r 5))]) h32 fun v33 h33 =>
 opH P_ G (callFunc 27 #[v29, (r 13), (.int .i64 1), v30, v31, v33]) h33 fun v34 h34 =>
 p_ (Instr.extract v34 0) h34 fun v35 h35 =>
 p_ (Instr.extract v34 1) h35 fun v36 h36 =>
 opH P_ G (xEq .neq 35 (.tmp 0) (.tmp 0) v27 v36) h36 fun v37 h37 =>
 gd (af v37 false) (fun K1 => K1 v26 h37) h37 fun v38 h38 =>
 gd (af v37 false) (o_ G (Builtin.len_ #[40] 3 #[v38]) h38) h38 fun v39 h39 =>
 gd (af v37 false) (fun K1 => K1 v35 h39) h39 fun v40 h40 =>
 gd (af v37 false) (o_ G (Builtin.len_ #[40] 3 #[v40]) h40) h40 fun v41 h41 =>
 gd (af v37 false) (opH P_ G (xEq .neq 3 (.tmp 0) (.tmp 0) v39 v41) h41) h41 fun v42 h42 =>
 opH P_ G (bh v37 (.bool true) v42) h42 fun v43 h43 =>
 (fun q => cond v43
 (K .ret (upd q 12 (.bool false)) h43)
 (S4_k3 G K q h43))
 (upd (upd (upd (upd (upd (upd (upd (upd (upd (upd (upd (upd (upd (upd (upd (upd (upd (upd (upd (upd (upd (upd (upd (upd (upd (upd (upd (upd (upd (upd (upd (upd (upd (upd (upd (upd (upd (upd (upd (upd r 45 v20) 46 v21) 47 (r 13)) 48 v22) 49 (r 2)) 50 v23) 51 (r 5)) 52 v24) 53 v25) 44 v25) 54 v26) 55 v27) 15 v26) 16 v27) 57 v28) 58 v29) 59 (r 13)) 60 v30) 61 (r 2)) 62 (r 3)) 63 v31) 64 v32) 65 (r 5)) 66 v33) 67 v34) 56 v34) 68 v35) 69 v36) 17 v35) 18 v36) 70 v27) 71 v36) 72 v37) 73 v37) 74 v38) 75 v39) 76 v40) 77 v41) 78 v42) 79 v43)
def S4_k1 (G : Hp) (K : EK) (r : Rg) (h : Hp) : Prop :=
 opH P_ G (callFunc 25 #[(r 2), (.int .i64 1073741824)]) h fun v6 h6 =>
 opH P_ G (callFunc 25 #[(r 3), (.int .i64 1073741824)]) h6 fun v7 h7 =>
 o_ G (Instr.fieldAt 26 (r 6) 0) h7 fun v8 h8 =>
 o_ G (Instr.loadAt 3 v8) h8 fun v9 h9 =>
 o_ G (Instr.fieldAt 26 (r 6) 1) h9 fun v10 h10 =>
 o_ G (Instr.loadAt 3 v10) h10 fun v11 h11 =>
 o_ G (binOp .mul 3 v9 v11) h11 fun v12 h12 =>
 opH P_ G (callFunc 24 #[v12]) h12 fun v13 h13 =>
 o_ G (Instr.extract v13 0) h13 fun v14 h14 =>
 o_ G (Instr.extract v13 1) h14 fun v15 h15 =>
 opH P_ G (xEq .neq 35 (.tmp 0) (.const .nilFunc) v15 (.int .i64 0)) h15 fun v16 h16 =>
 gd (af v16 false) (fun K1 => K1 v14 h16) h16 fun v17 h17 =>
 gd (af v16 false) (opH P_ G (xEq .eql 34 (.tmp 0) (.const .nilFunc) v17 (.pointer none)) h17) h17 fun v18 h18 =>
 opH P_ G (bh v16 (.bool true) v18) h18 fun v19 h19 =>
 (fun q => cond v19
 (K .ret (upd q 12 (.bool false)) h19)
 (S4_k2 G K q h19))
 (upd (upd (upd (upd (upd (upd (upd (upd (upd (upd (upd (upd (upd (upd (upd (upd (upd (upd (upd (upd (upd (upd (upd r 25 (r 2)) 26 v6) 2 v6) 27 (r 3)) 28 v7) 3 v7) 30 v8) 31 v9) 32 v10) 33 v11) 34 v12) 35 v13) 29 v13) 36 v14) 37 v15) 13 v14) 14 v15) 38 v15) 39 v16) 40 v16) 41 v17) 42 v18) 43 v19)
def S4 (G : Hp) (K : EK) (r : Rg) (h : Hp) : Prop :=
 o_ G (Instr.box 26 (r 0)) h fun v0 h0 =>
 o_ G (Instr.box 30 (r 1)) h0 fun v1 h1 =>
 o_ G (Instr.box 30 (r 4)) h1 fun v2 h2 =>
 o_ G (Instr.loadAt 26 v0) h2 fun v3 h3 =>
 opH P_ G (callFunc 21 #[v3]) h3 fun v4 h4 =>
 o_ G (Op.unary .not v4) h4 fun v5 h5 =>
 cond v5
 (opH P_ G (callFunc 23 #[]) h5 fun v66 h66 =>
 K .ret (upd (upd (upd (upd (upd (upd (upd (upd (upd r 6 v0) 7 v1) 10 v2) 12 (.bool false)) 21 v3) 22 v4) 23 v5) 24 v66) 12 v66) h66)
 (S4_k1 G K (upd (upd (upd (upd (upd (upd (upd r 6 v0) 7 v1) 10 v2) 12 (.bool false)) 21 v3) 22 v4) 23 v5) h5)
theorem S4_eq : Weq 107 md4 (Tryz.f4.body.getD .skip) S4 := fun _ _ _ _ => by kernel_rfl
theorem enter4 : Ent 107 4 [.tmp 12] S4 := ent_ S4_eq Tryz.func4 rfl rfl rfl

def md23 : Nat → Hint
 | _ => mh false [] [] [] false
def Zh (G : Hp) (K : EK) (r : Rg) (h : Hp) : Prop :=
 o_ G (Instr.loadAt 26 (r 1)) h fun v10 h10 =>
 o_ G (Instr.build 30 #[]) h10 fun v11 h11 =>
 o_ G (Instr.build 28 #[(0, (.int .i64 1))]) h11 fun v12 h12 =>
 o_ G (Instr.build 30 #[(0, v12)]) h12 fun v13 h13 =>
 o_ G (Instr.build 45 #[(0, v13)]) h13 fun v14 h14 =>
 opH P_ G (callFunc 27 #[v10, (r 2), (.int .i64 0), v11, (.int .i64 5), v14]) h14 fun v15 h15 =>
 o_ G (Instr.extract v15 0) h15 fun v16 h16 =>
 o_ G (Instr.extract v15 1) h16 fun v17 h17 =>
 opH P_ G (xEq .eql 35 (.tmp 0) (.const .nilFunc) v17 (.int .i64 0)) h17 fun v18 h18 =>
 gd (af v18 true) (fun K1 => K1 v16 h18) h18 fun v19 h19 =>
 gd (af v18 true) (o_ G (Builtin.len_ #[40] 3 #[v19]) h19) h19 fun v20 h20 =>
 gd (af v18 true) (opH P_ G (xEq .eql 3 (.tmp 0) (.const .nilFunc) v20 (.int .i64 1)) h20) h20 fun v21 h21 =>
 opH P_ G (bh v18 v21 (.bool false)) h21 fun v22 h22 =>
 gd (af v22 true) (fun K1 => K1 v16 h22) h22 fun v23 h23 =>
 gd (af v22 true) (o_ G (Instr.indexAt 40 v23 (.int .i64 0)) h23) h23 fun v24 h24 =>
 gd (af v22 true) (o_ G (Instr.fieldAt 48 v24 0) h24) h24 fun v25 h25 =>
 gd (af v22 true) (o_ G (Instr.loadAt 3 v25) h25) h25 fun v26 h26 =>
 gd (af v22 true) (opH P_ G (xEq .eql 3 (.tmp 0) (.const .nilFunc) v26 (.int .i64 1)) h26) h26 fun v27 h27 =>
 opH P_ G (bh v22 v27 (.bool false)) h27 fun v28 h28 =>
 gd (af v28 true) (fun K1 => K1 v16 h28) h28 fun v29 h29 =>
 gd (af v28 true) (o_ G (Instr.indexAt 40 v29 (.int .i64 0)) h29) h29 fun v30 h30 =>
 gd (af v28 true) (o_ G (Instr.fieldAt 48 v30 1) h30) h30 fun v31 h31 =>
 gd (af v28 true) (o_ G (Instr.loadAt 3 v31) h31) h31 fun v32 h32 =>
 gd (af v28 true) (opH P_ G (xEq .eql 3 (.tmp 0) (.const .nilFunc) v32 (.int .i64 1)) h32) h32 fun v33 h33 =>
 opH P_ G (bh v28 v33 (.bool false)) h33 fun v34 h34 =>
 gd (af v34 true) (fun K1 => K1 v16 h34) h34 fun v35 h35 =>
 gd (af v34 true) (o_ G (Instr.indexAt 40 v35 (.int .i64 0)) h35) h35 fun v36 h36 =>
 gd (af v34 true) (o_ G (Instr.fieldAt 48 v36 2) h36) h36 fun v37 h37 =>
 gd (af v34 true) (o_ G (Instr.loadAt 3 v37) h37) h37 fun v38 h38 =>
 gd (af v34 true) (opH P_ G (xEq .eql 3 (.tmp 0) (.const .nilFunc) v38 (.int .i64 1)) h38) h38 fun v39 h39 =>
 opH P_ G (bh v34 v39 (.bool false)) h39 fun v40 h40 =>
 gd (af v40 true) (fun K1 => K1 v16 h40) h40 fun v41 h41 =>
 gd (af v40 true) (o_ G (Instr.indexAt 40 v41 (.int .i64 0)) h41) h41 fun v42 h42 =>
 gd (af v40 true) (o_ G (Instr.fieldAt 48 v42 5) h42) h42 fun v43 h43 =>
 gd (af v40 true) (o_ G (Instr.loadAt 3 v43) h43) h43 fun v44 h44 =>
 gd (af v40 true) (opH P_ G (xEq .eql 3 (.tmp 0) (.const .nilFunc) v44 (.int .i64 5)) h44) h44 fun v45 h45 =>
 opH P_ G (bh v40 v45 (.bool false)) h45 fun v46 h46 =>
 gd (af v46 true) (fun K1 => K1 v16 h46) h46 fun v47 h47 =>
 gd (af v46 true) (o_ G (Instr.indexAt 40 v47 (.int .i64 0)) h47) h47 fun v48 h48 =>
 gd (af v46 true) (o_ G (Instr.fieldAt 48 v48 6) h48) h48 fun v49 h49 =>
 gd (af v46 true) (o_ G (Instr.loadAt 3 v49) h49) h49 fun v50 h50 =>
 gd (af v46 true) (opH P_ G (xEq .eql 3 (.tmp 0) (.const .nilFunc) v50 (.int .i64 9)) h50) h50 fun v51 h51 =>
 opH P_ G (bh v46 v51 (.bool false)) h51 fun v52 h52 =>
 K .ret (upd (upd (upd (upd (upd (upd (upd (upd (upd (upd (upd (upd (upd (upd (upd (upd (upd (upd (upd (upd (upd (upd (upd (upd (upd (upd (upd (upd (upd (upd (upd (upd (upd (upd (upd (upd (upd (upd (upd (upd (upd (upd (upd (upd (upd (upd (upd (upd (upd (upd (upd (upd (upd (upd (upd r 18 v10) 19 (r 2)) 20 v11) 21 v12) 22 v13) 23 v14) 24 v15) 17 v15) 25 v16) 26 v17) 4 v16) 5 v17) 27 v17) 28 v18) 29 v18) 30 v19) 31 v20) 32 v21) 33 v22) 34 v22) 35 v23) 36 v24) 37 v25) 38 v26) 39 v27) 40 v28) 41 v28) 42 v29) 43 v30) 44 v31) 45 v32) 46 v33) 47 v34) 48 v34) 49 v35) 50 v36) 51 v37) 52 v38) 53 v39) 54 v40) 55 v40) 56 v41) 57 v42) 58 v43) 59 v44) 60 v45) 61 v46) 62 v46) 63 v47) 64 v48) 65 v49) 66 v50) 67 v51) 68 v52) 0 v52) h52
def S23 (G : Hp) (K : EK) (r : Rg) (h : Hp) : Prop :=
 o_ G (Instr.build 26 #[(0, (.int .i64 3)), (1, (.int .i64 1)), (2, (.int .i64 1)), (7, (.int .i64 10)), (8, (.int .i64 2)), (9, (.int .i64 4)), (10, (.int .i64 1)), (11, (.int .i64 1)), (12, (.int .i64 1)), (13, (.int .i64 1)), (14, (.int .i64 100))]) h fun v0 h0 =>
 o_ G (Instr.alloc 26 true (.tuple #[])) h0 fun v1 h1 =>
 opH P_ G (su (Instr.storeAt 26 v1 v0)) h1 fun v2 h2 =>
 opH P_ G (callFunc 24 #[(.int .i64 3)]) h2 fun v3 h3 =>
 o_ G (Instr.extract v3 0) h3 fun v4 h4 =>
 o_ G (Instr.extract v3 1) h4 fun v5 h5 =>
 opH P_ G (xEq .neq 35 (.tmp 0) (.const .nilFunc) v5 (.int .i64 0)) h5 fun v6 h6 =>
 gd (af v6 false) (fun K1 => K1 v4 h6) h6 fun v7 h7 =>
 gd (af v6 false) (opH P_ G (xEq .eql 34 (.tmp 0) (.const .nilFunc) v7 (.pointer none)) h7) h7 fun v8 h8 =>
 opH P_ G (bh v6 (.bool true) v8) h8 fun v9 h9 =>
 (fun q => cond v9
 (K .ret (upd q 0 (.bool false)) h9)
 (Zh G K q h9))
 (upd (upd (upd (upd (upd (upd (upd (upd (upd (upd (upd (upd (upd (upd (upd r 0 (.bool false)) 6 v0) 1 v1) 8 v3) 7 v3) 9 v4) 10 v5) 2 v4) 3 v5) 11 v5) 12 v6) 13 v6) 14 v7) 15 v8) 16 v9)
theorem S23_eq : Weq 69 md23 (Tryz.f23.body.getD .skip) S23 := fun _ _ _ _ => by kernel_rfl
theorem enter23 : Ent 69 23 [.tmp 0] S23 := ent_ S23_eq Tryz.func23 rfl rfl rfl
end Go.Proofs.YtfflipnhffknnaaGreatDoor
end

section
namespace Go.Proofs.YtfflipnhffknnaaGreatDoor
open Go Go.HL Go.Proofs.Resv Go.Proofs.Srch
def Hj := jq (jq (jq (jq @List.length_cons.{0} @List.length_nil.{0}) (jq @al26 (jq @mz @bd28_0))) (jq (jq @bd30_ (jq @bd30_0 @bd45_0)) (jq @beq_self_eq_true.{0} (jq @bne_self_eq_false.{0} @cf24)))) (jq (jq (jq @cf27 (jq @Qi @I7)) (jq @Vu (jq @Oa @N9))) (jq (jq @N8 (jq @ld26 @ld3)) (jq @ln40 (jq @st26w @true_and))))
theorem wd {n : Nat} : jc (List.replicate n []) := fun L hL => by rw [(List.mem_replicate.1 hL).2]; exact Resv.Good.nil
theorem Mf {n b : Nat} : Few (List.replicate n []) b := fun L hL => by rw [(List.mem_replicate.1 hL).2]; exact Nat.zero_le _

def C12 : Conf := ⟨3, 1, 1, [], [], [], [], 10, 2, 4, 1, 1, 1, 1, 100, false⟩
def W12 : Res Move := ku C12 (some [[], [], []]) 0 ⟨0, 0, false⟩ 5 ⟨1, 0, false⟩ false

theorem w12 : outE W12 = 0 ∧ outL W12 = [⟨1, 1, 1, ⟨0, 0, false⟩, ⟨1, 0, false⟩, 5, 9⟩] := by decide +kernel

theorem made12 : df C12 := by
 rw [Dc, may_nil rfl rfl rfl rfl]
 rfl

set_option maxHeartbeats 4000000 in
theorem awake12 {G h : Hp} (st : iq G) : am P_ G 23 #[] h (fun u h' => u = .bool true ∧ h' = h) := by
 refine am.assume fun d => quietly (enter23 (by simp) ?_)
 unfold S23
 simp (disch := first | decide | exact bf | exact au | omega | rfl) only [bC, Hj]
 intro xc hxc gxc
 generalize e1 : Hp.set h xc _ = h1 at *
 obtain ⟨l1, d1, bc1⟩ := boxed e1 hxc d gxc
 try simp (disch := first | decide | omega) only [bC, Hj, Nat.reduceAdd, Nat.reduceMul]
 refine (Rv.qk (G := G) (h := h1) (n := 3) (by decide) (by decide)).mono ?_
 rintro _ h2 ⟨ta, tp, rfl, tab, s2, d2⟩
 try simp only [bC, Hj]
 unfold Zh
 have cc2 : ∀ k, aa G h2 ⟨xc, k, none⟩ = _ := fun k => aj (ai (s2.at 1 rfl bc1))
 try simp (disch := decide) only [bC, Hj, cc2]
 have hpb : ∀ x : Int, 0 ≤ x → x ≤ 1 → Bd x := fun x h1 h2 => ⟨by omega, by omega⟩
 have hf := Hb (G := G) (h := h2) (C := C12) (v := Mt C12 none 0 none 0 none 0 none 0) (vt := .pointer (some ⟨tp, 0, none⟩)) (To := some [[], [], []]) (p := ⟨0, 0, false⟩) (gp := ⟨1, 0, false⟩) (rb := 0) (t := 5) (any := false) (ca_nil rfl rfl rfl rfl).cv st (by intro p hp; cases hp) (by decide) (fun _ => by decide)
   ⟨tp, rfl, tab.see (s2.in 0 rfl), wd (n := 3), Mf (n := 3)⟩ ⟨hpb 0 (by decide) (by decide), hpb 0 (by decide) (by decide)⟩ ⟨hpb 1 (by decide) (by decide), hpb 0 (by decide) (by decide)⟩
 simp only [C12, Mt, jn, List.length_nil] at hf
 refine hf.mono ?_
 rintro _ h3 ⟨W, ⟨ip, vs, rfl, sl, _, s3, d3⟩, ⟨hno, _⟩ | ⟨_, rfl⟩⟩
 · exact absurd made12 hno
 have w1 : outE W12 = 0 := w12.1
 have w2 : outL W12 = [⟨1, 1, 1, ⟨0, 0, false⟩, ⟨1, 0, false⟩, 5, 9⟩] := w12.2
 unfold W12 C12 at w1 w2
 rw [w2] at sl
 rw [w1]
 obtain ⟨sa, cap, rfl, _⟩ := sl.len (by decide)
 obtain ⟨b, o, rfl, x0, x1, x2, x3, x4, x5, x6, x7, x8, x9, x10⟩ := Sees.mvx (sl.see (G := G) (by decide) (s3.in 0 rfl)) (i := 0) rfl
 simp only [Nat.zero_mul, Nat.add_zero] at x0 x1 x2 x3 x4 x5 x6 x7 x8 x9 x10
 try simp only [bC, Hj, ix40 (by decide : (0 : Int) ≤ 0) (by decide : (0 : Int) < (1 : Nat)), Int.toNat_zero, Nat.zero_mul, List.length_cons, List.length_nil, x0, x1, x2, x3, x4, x5, x6, x7, x8, x9, x10]
 have hone : (((1 : Nat) : Int) == 1) = true := rfl
 try simp only [bC, Hj, hone, Nat.zero_add, ix40 (by decide : (0 : Int) ≤ 0) (by decide : (0 : Int) < (1 : Nat)), Int.toNat_zero, Nat.zero_mul, Nat.add_zero, x0, x1, x2, x3, x4, x5, x6, x7, x8, x9, x10]
 exact l1.trans ((s2.in 1 rfl).trans (s3.in 1 rfl))
end Go.Proofs.YtfflipnhffknnaaGreatDoor
end

section
namespace Go.Proofs.YtfflipnhffknnaaGreatDoor
open Go Go.HL
def bRpY := jq (jq (jq (jq @al26 @Oo) (jq @X8 (jq @cf122 @cf71))) (jq (jq @Du @Mg) (jq @Ds (jq @Jb @Dr)))) (jq (jq (jq @Od @I0) (jq @ld22 (jq @ld23 @ld24))) (jq (jq @ld26 @vf) (jq @ln24 (jq @xz @ui))))
theorem eoraw : fj P_ 234 rawC.n 40 := ⟨by kernel_rfl, by kernel_rfl, by kernel_rfl⟩
theorem eopose : fj P_ 30 th.n 24 := ⟨by kernel_rfl, by kernel_rfl, by kernel_rfl⟩

def Room (n bytes : Nat) : Prop := (2 * n + 192) * bytes ≤ 281474976710656

theorem F6 {G h : Hp} {v : Value} {L : List Int} (sv : Sees icC G h v L) (hl : Room L.length 8) : am P_ G 122 #[v] h (fun u h' => ∃ ip, Slc icC 3 ip u L ∧ Sep [ip, h] h' ∧ Dis G h') := by
 refine am.assume fun d => Xk (by simp) ?_
 unfold S122
 simp only [bC, bRpY]
 refine nl icC (by decide) Cf eoint (by decide) (Sep.one (h := h)).none d Slc.nil sv (by simpa [Room] using hl) fun v' a' h' o' s' d' => ?_
 try simp (disch := first | decide | omega) only [bC, bRpY, Nat.reduceAdd, Nat.reduceMul]
 exact ⟨a', o', s', d'⟩

def Rel (pb : Hp) (raws : List Raw) (st : List (Cell × List Int)) : Prop := ∀ (i : Nat) (r : Raw) (s : Cell × List Int), raws[i]? = some r → st[i]? = some s → (r.x, r.y) = s.1 ∧ r.n = s.2.length ∧ Slc icC 3 pb (.slice r.a s.2.length r.c) s.2
def StkO (pz : Hp) (v : Value) (st : List (Cell × List Int)) : Prop := ∃ raws pr pb, Slc rawC 234 pr v raws ∧ Sep [pr, pb] pz ∧ raws.length = st.length ∧ Rel pb raws st

theorem Rel.le {pb pb' : Hp} {raws : List Raw} {st : List (Cell × List Int)} (r : Rel pb raws st) (l : pb.le pb') : Rel pb' raws st := fun i x s h1 h2 => let ⟨a, b, c⟩ := r i x s h1 h2; ⟨a, b, c.le l⟩

set_option maxHeartbeats 2000000 in
theorem B1 {G h : Hp} {C : Conf} {ab : Option Addr} {cb : Nat} {ap : Option Addr} {cp : Nat} {ar : Option Addr} {cr : Nat} {az : Option Addr} {cs : Nat} (ca : CA G h C ab cb ap cp ar cr az cs)
   (hst : Room C.st.length 40) (hb : ∀ s ∈ C.st, Room s.2.length 8) : am P_ G 71 #[.slice az C.st.length cs] h (fun u h' => ∃ pz, StkO pz u C.st ∧ Sep [pz, h] h' ∧ Dis G h') := by
 refine am.assume fun d => enter71 (by simp) ?_
 unfold S71
 have hlb : C.st.length ≤ 7036874417664 := by unfold Room at hst; omega
 refine di (fun m r h3 => ∃ (i : Nat) (raws : List Raw) (pr pb : Hp) (v : Value), m = C.st.length - i ∧ i ≤ C.st.length ∧ r 0 = .slice az C.st.length cs ∧ r 3 = v ∧ r 4 = .int .i64 i ∧ Slc rawC 234 pr v raws ∧ raws.length = i ∧ Rel pb raws C.st ∧ Sep [pr, pb, h] h3 ∧ Dis G h3) ?_
   (m := C.st.length) ⟨0, [], noHp, noHp, _, rfl, Nat.zero_le _, by simp (disch := decide) only [bC, bRpY], by simp (disch := decide) only [bC, bRpY], by simp only [bC, bRpY] <;> rfl, Slc.nil, rfl, fun i r s h1 => by simp at h1, (Sep.one.none).none, d⟩
 rintro m r h3 ⟨i, raws, pr, pb, v, rfl, hi, g0, g3, g4, o, hlen, rel, s3, d3⟩ X HX
 unfold Yx
 simp only [bC, bRpY, g0, g4]
 refine bo (fun hlt => ?_) (fun hge => ?_)
 rotate_left
 · obtain rfl : i = C.st.length := by omega
   try simp (disch := first | decide | omega) only [bC, bRpY, Nat.reduceAdd, Nat.reduceMul]
   unfold Yy
   try simp (disch := decide) only [bC, bRpY, g3]
   obtain ⟨pz, s4, t4⟩ := s3.pack2
   exact ⟨pz, ⟨raws, pr, pb, o, t4, hlen, rel⟩, s4, d3⟩
 have hlt' : i < C.st.length := by omega
 obtain ⟨s, hs⟩ : ∃ s, C.st[i]? = some s := ⟨_, List.getElem?_eq_getElem hlt'⟩
 have ca3 := ca.up (s3.in 2 rfl) d3
 obtain ⟨b, ofs, a, c, rfl, z0, z1, z2, sv⟩ := ca3.stk hs
 unfold Hv
 refine ⟨h3, Hp.le.refl _, ?_⟩
 try simp (disch := decide) only [bC, bRpY, g0, g4, Ln (Int.natCast_nonneg i) hlt, z0, z1, z2]
 refine (F6 sv (hb s (List.mem_of_getElem? hs))).mono ?_
 rintro u h4 ⟨ip, o4, s4, d4⟩
 refine ⟨s4.in 1 rfl, ?_⟩
 obtain ⟨sa, cap, rfl, hcap⟩ := o4.len (by decide)
 try simp only [bC, bRpY]
 intro x hx gx
 have s5 : Sep [ip, pr, pb, h] h4 := by
   have := s4.split s3
   simpa using this
 let rw0 : Raw := ⟨s.1.1, s.1.2, sa, s.2.length, cap⟩
 have s6 : Sep [pr, ip, pb, h] (h4.set x (.cells #[.int .i64 s.1.1, .int .i64 s.1.2, .slice sa s.2.length cap] 234 (0, 0))) := (s5.past hx).pick 1 rfl rfl
 have d6 : Dis G (h4.set x (.cells #[.int .i64 s.1.1, .int .i64 s.1.2, .slice sa s.2.length cap] 234 (0, 0))) := d4.set gx
 have b6 : (h4.set x (.cells #[.int .i64 s.1.1, .int .i64 s.1.2, .slice sa s.2.length cap] 234 (0, 0))) x = some (.cells #[.int .i64 s.1.1, .int .i64 s.1.2, .slice sa s.2.length cap] 234 (0, 0)) := ag
 generalize Hp.set h4 x _ = h6 at s6 d6 b6 ⊢
 rw [g3]
 refine nl rawC (by decide) un24 eoraw (by decide) (M := [rw0]) s6 d6 o (Sees.row (c := rawC) (L := [rw0]) b6 rfl (Nat.le_refl _)) (by
   unfold Room at hst
   refine Nat.le_trans (Nat.mul_le_mul_right _ ?_) hst
   rw [hlen, List.length_singleton]
   omega) fun v7 pr7 h7 o7 s7 d7 => ?_
 have s7' : Sep [ip, pb, pr7, h] h7 := (s7.pick 2 rfl rfl).pick 2 rfl rfl
 obtain ⟨pb7, s8, t8⟩ := s7'.pack2
 unfold Hu
 try simp (disch := first | decide | omega) only [bC, bRpY, g4]
 refine HX (C.st.length - (i + 1)) _ _ (by omega) ⟨i + 1, raws ++ [rw0], pr7, pb7, v7, rfl, hlt', by simp (disch := decide) only [bC, bRpY, g0], by simp (disch := decide) only [bC, bRpY], by simp only [bC, bRpY] <;> rfl, o7, by simp [hlen], ?_, s8.pick 1 rfl rfl, d7⟩
 intro j r' s' hr' hs'
 by_cases hj : j < i
 · rw [List.getElem?_append_left (by omega)] at hr'
   exact (rel.le (t8.in 1 rfl)) j r' s' hr' hs'
 · have hj2 : j < (raws ++ [rw0]).length := (List.getElem?_eq_some_iff.1 hr').1
   obtain rfl : j = i := by simp at hj2; omega
   rw [List.getElem?_append_right (by omega), hlen, Nat.sub_self] at hr'
   cases hr'
   rw [hs] at hs'
   cases hs'
   exact ⟨rfl, rfl, o4.le (t8.in 0 rfl)⟩

abbrev io (C : Conf) (vb vp vr vz : Value) : Obj := .cells #[.int .i64 C.w, .int .i64 C.h, .int .i64 C.ht, vb, vp, vr, vz, .int .i64 C.un, .int .i64 C.ac, .int .i64 C.sp, .int .i64 C.tu, .int .i64 C.ho, .int .i64 C.qu, .int .i64 C.re, .int .i64 C.bu, .bool C.back] 26 (0, 0)
abbrev confA (C : Conf) (vb vp vr vz : Value) : Value := .agg #[.int .i64 C.w, .int .i64 C.h, .int .i64 C.ht, vb, vp, vr, vz, .int .i64 C.un, .int .i64 C.ac, .int .i64 C.sp, .int .i64 C.tu, .int .i64 C.ho, .int .i64 C.qu, .int .i64 C.re, .int .i64 C.bu, .bool C.back]

theorem store26 {G h : Hp} {y : Nat} {C : Conf} {D : Conf} {v1 v2 v3 v4 : Value} {a1 a2 a3 a4 : Option Addr} {n1 n2 n3 n4 c1 c2 c3 c4 : Nat} {K : Unit → Hp → Prop} (hb : h y = some (io D v1 v2 v3 v4)) :
   wpH P_ G (Instr.storeAt 26 (.pointer (some ⟨y, 0, none⟩)) (confA C (.slice a1 n1 c1) (.slice a2 n2 c2) (.slice a3 n3 c3) (.slice a4 n4 c4))) h K = K () (h.set y (io C (.slice a1 n1 c1) (.slice a2 n2 c2) (.slice a3 n3 c3) (.slice a4 n4 c4))) := by
 conv => lhs; rw [← sk hb]
 exact st26w

structure Fit0 (C : Conf) : Prop where
 bl : Room C.bl.length 16
 po : Room C.po.length 16
 ro : Room C.ro.length 24
 st : Room C.st.length 40
 bins : ∀ s ∈ C.st, Room s.2.length 8

def Cz : Conf := ⟨0, 0, 0, [], [], [], [], 0, 0, 0, 0, 0, 0, 0, 0, false⟩
abbrev nilV : Value := .slice none 0 0

structure CO (h : Hp) (C : Conf) (u : Value) (h' pb pp pr pz : Hp) (vb vp vr vz : Value) : Prop where
 v : u = confA C vb vp vr vz
 bl : Slc bv 28 pb vb C.bl
 po : Slc bv 28 pp vp C.po
 ro : Slc th 30 pr vr C.ro
 st : StkO pz vz C.st
 sep : Sep [pb, pp, pr, pz, h] h'

def CopyR (G h : Hp) (C : Conf) (u : Value) (h' : Hp) : Prop := (∃ pb pp pr pz vb vp vr vz, CO h C u h' pb pp pr pz vb vp vr vz) ∧ Dis G h'

set_option maxHeartbeats 2000000 in
theorem vg {G h : Hp} {v : Value} {C : Conf} (hv : CV G h v C) (fit : Fit0 C) : am P_ G 28 #[v] h (CopyR G h C) := by
 obtain ⟨ab, cb, ap, cp, ar, cr, az, cs, rfl, ca⟩ := hv
 refine am.assume fun d => enter28 (by simp) ?_
 unfold S28
 simp (disch := decide) only [bC, bRpY]
 intro x hx gx y hy gy
 have exy := gg hy
 have s2 : Sep [noHp, noHp.set x (io C (.slice ab C.bl.length cb) (.slice ap C.po.length cp) (.slice ar C.ro.length cr) (.slice az C.st.length cs)), noHp.set y (io Cz nilV nilV nilV nilV), h] _ := (((Sep.one (h := h)).new (o := io C (.slice ab C.bl.length cb) (.slice ap C.po.length cp) (.slice ar C.ro.length cr) (.slice az C.st.length cs)) hx).new (o := io Cz nilV nilV nilV nilV) hy).swap.none
 have d2 := (d.set (o := io C (.slice ab C.bl.length cb) (.slice ap C.po.length cp) (.slice ar C.ro.length cr) (.slice az C.st.length cs)) gx).set (o := io Cz nilV nilV nilV nilV) gy
 unfold Cz at s2 d2
 generalize Hp.set (Hp.set h x _) y _ = h2 at s2 d2 ⊢
 have cx : ∀ j, aa G h2 ⟨x, j, none⟩ = _ := fun j => aj (ai (s2.at 1 rfl ag))
 have ca2 := ca.up (s2.in 3 rfl) d2
 try simp only [bC, bRpY, cx]
 refine nl bv (by decide) un22 eocell (by decide) s2 d2 Slc.nil ca2.bl (by simpa [Room] using fit.bl) fun vb pb h3 ob s3 d3 => ?_
 obtain ⟨sb, cpb, rfl, _⟩ := ob.len (by decide)
 rw [List.nil_append] at ob
 have hx3 := s3.at 1 rfl ag
 try simp (disch := first | decide | omega) only [bC, bRpY, Nat.reduceAdd, Nat.reduceMul]
 rw [da sz22 rfl hx3 (by simp)]
 have s4 : Sep [noHp, noHp.set x (io C (.slice sb C.bl.length cpb) (.slice ap C.po.length cp) (.slice ar C.ro.length cr) (.slice az C.st.length cs)), pb, noHp.set y (io ⟨0, 0, 0, [], [], [], [], 0, 0, 0, 0, 0, 0, 0, 0, false⟩ nilV nilV nilV nilV), h] (h3.set x (io C (.slice sb C.bl.length cpb) (.slice ap C.po.length cp) (.slice ar C.ro.length cr) (.slice az C.st.length cs))) := by
   have := (s3.pick 1 rfl rfl).put (o := io C (.slice sb C.bl.length cpb) (.slice ap C.po.length cp) (.slice ar C.ro.length cr) (.slice az C.st.length cs)) ag
   rw [set_set] at this
   exact this.none
 have d4 : Dis G (h3.set x (io C (.slice sb C.bl.length cpb) (.slice ap C.po.length cp) (.slice ar C.ro.length cr) (.slice az C.st.length cs))) := d3.set gx
 try simp only [bC, bRpY, List.nil_append]
 generalize Hp.set h3 x _ = h4 at s4 d4 ⊢
 refine nl bv (by decide) un22 eocell (by decide) s4 d4 Slc.nil (ca.up (s4.in 4 rfl) d4).po (by simpa [Room] using fit.po) fun vp pp h5 op s5 d5 => ?_
 obtain ⟨sp, cpp, rfl, _⟩ := op.len (by decide)
 rw [List.nil_append] at op
 have hx5 := s5.at 1 rfl ag
 try simp (disch := first | decide | omega) only [bC, bRpY, Nat.reduceAdd, Nat.reduceMul]
 rw [da sz22 rfl hx5 (by simp)]
 have s6 : Sep [noHp, noHp.set x (io C (.slice sb C.bl.length cpb) (.slice sp C.po.length cpp) (.slice ar C.ro.length cr) (.slice az C.st.length cs)), pp, pb, noHp.set y (io ⟨0, 0, 0, [], [], [], [], 0, 0, 0, 0, 0, 0, 0, 0, false⟩ nilV nilV nilV nilV), h] (h5.set x (io C (.slice sb C.bl.length cpb) (.slice sp C.po.length cpp) (.slice ar C.ro.length cr) (.slice az C.st.length cs))) := by
   have := (s5.pick 1 rfl rfl).put (o := io C (.slice sb C.bl.length cpb) (.slice sp C.po.length cpp) (.slice ar C.ro.length cr) (.slice az C.st.length cs)) ag
   rw [set_set] at this
   exact this.none
 have d6 : Dis G (h5.set x (io C (.slice sb C.bl.length cpb) (.slice sp C.po.length cpp) (.slice ar C.ro.length cr) (.slice az C.st.length cs))) := d5.set gx
 try simp only [bC, bRpY, List.nil_append]
 generalize Hp.set h5 x _ = h6 at s6 d6 ⊢
 refine nl th (by decide) un23 eopose (by decide) s6 d6 Slc.nil (ca.up (s6.in 5 rfl) d6).ro (by simpa [Room] using fit.ro) fun vr pr h7 or s7 d7 => ?_
 obtain ⟨sr, cpr, rfl, _⟩ := or.len (by decide)
 rw [List.nil_append] at or
 have hx7 := s7.at 1 rfl ag
 try simp (disch := first | decide | omega) only [bC, bRpY, Nat.reduceAdd, Nat.reduceMul]
 rw [da sz23 rfl hx7 (by simp)]
 have s8 : Sep [noHp.set x (io C (.slice sb C.bl.length cpb) (.slice sp C.po.length cpp) (.slice sr C.ro.length cpr) (.slice az C.st.length cs)), pr, pp, pb, noHp.set y (io ⟨0, 0, 0, [], [], [], [], 0, 0, 0, 0, 0, 0, 0, 0, false⟩ nilV nilV nilV nilV), h] (h7.set x (io C (.slice sb C.bl.length cpb) (.slice sp C.po.length cpp) (.slice sr C.ro.length cpr) (.slice az C.st.length cs))) := by
   have := (s7.pick 1 rfl rfl).put (o := io C (.slice sb C.bl.length cpb) (.slice sp C.po.length cpp) (.slice sr C.ro.length cpr) (.slice az C.st.length cs)) ag
   rw [set_set] at this
   exact this
 have d8 : Dis G (h7.set x (io C (.slice sb C.bl.length cpb) (.slice sp C.po.length cpp) (.slice sr C.ro.length cpr) (.slice az C.st.length cs))) := d7.set gx
 try simp only [bC, bRpY, List.nil_append]
 generalize Hp.set h7 x _ = h8 at s8 d8 ⊢
 refine (B1 (ca.up (s8.in 5 rfl) d8) fit.st fit.bins).mono ?_
 rintro vz h9 ⟨pz, oz, s9, d9⟩
 have s9' : Sep [pz, noHp.set x (io C (.slice sb C.bl.length cpb) (.slice sp C.po.length cpp) (.slice sr C.ro.length cpr) (.slice az C.st.length cs)), pr, pp, pb, noHp.set y (io ⟨0, 0, 0, [], [], [], [], 0, 0, 0, 0, 0, 0, 0, 0, false⟩ nilV nilV nilV nilV), h] h9 := by
   have := s9.split s8
   simpa using this
 obtain ⟨sz, cpz, rfl⟩ : ∃ sz cpz, vz = .slice sz C.st.length cpz := by
   obtain ⟨raws, _, _, o, _, e, _⟩ := oz
   obtain ⟨a, b, e2, _⟩ := o.len (by decide)
   exact ⟨a, b, by rw [e2, e]⟩
 have hx9 := s9'.at 1 rfl ag
 try simp (disch := first | decide | omega) only [bC, bRpY, Nat.reduceAdd, Nat.reduceMul]
 rw [da sz24 rfl hx9 (by simp)]
 have s10 : Sep [noHp.set x (io C (.slice sb C.bl.length cpb) (.slice sp C.po.length cpp) (.slice sr C.ro.length cpr) (.slice sz C.st.length cpz)), pz, pr, pp, pb, noHp.set y (io ⟨0, 0, 0, [], [], [], [], 0, 0, 0, 0, 0, 0, 0, 0, false⟩ nilV nilV nilV nilV), h] (h9.set x (io C (.slice sb C.bl.length cpb) (.slice sp C.po.length cpp) (.slice sr C.ro.length cpr) (.slice sz C.st.length cpz))) := by
   have := (s9'.pick 1 rfl rfl).put (o := io C (.slice sb C.bl.length cpb) (.slice sp C.po.length cpp) (.slice sr C.ro.length cpr) (.slice sz C.st.length cpz)) ag
   rw [set_set] at this
   exact this
 have d10 : Dis G (h9.set x (io C (.slice sb C.bl.length cpb) (.slice sp C.po.length cpp) (.slice sr C.ro.length cpr) (.slice sz C.st.length cpz))) := d9.set gx
 try simp only [bC, bRpY]
 generalize Hp.set h9 x _ = h10 at s10 d10 ⊢
 have hy10 := s10.at 5 rfl ag
 rw [store26 hy10]
 try simp only [bC, bRpY]
 refine ⟨⟨pb, pp, pr, pz, _, _, _, _, rfl, ob, op, or, oz, ?_⟩, d10.set gy⟩
 have s11 := ((s10.pick 5 rfl rfl).put (o := io C (.slice sb C.bl.length cpb) (.slice sp C.po.length cpp) (.slice sr C.ro.length cpr) (.slice sz C.st.length cpz)) ag).drop.drop
 have s12 : Sep [pz, pr, pp, pb, h] _ := s11
 exact ((s12.pick 1 rfl rfl).pick 2 rfl rfl).pick 3 rfl rfl

theorem StkO.len {pz : Hp} {v : Value} {st : List (Cell × List Int)} (o : StkO pz v st) : ∃ sz cpz, v = .slice sz st.length cpz := by
 obtain ⟨raws, _, _, o, _, e, _⟩ := o
 obtain ⟨a, b, e2, _⟩ := o.len (by decide)
 exact ⟨a, b, by rw [e2, e]⟩

theorem CO.cv {G h h' h2 pb pp pr pz : Hp} {C : Conf} {u vb vp vr vz : Value} (c : CO h C u h' pb pp pr pz vb vp vr vz) (l : h'.le h2) : CV G h2 u C := by
 obtain ⟨rfl, ob, op, or, oz, s⟩ := c
 obtain ⟨sb, cb, rfl, _⟩ := ob.len (by decide)
 obtain ⟨sp, cp, rfl, _⟩ := op.len (by decide)
 obtain ⟨sr, cr, rfl, _⟩ := or.len (by decide)
 obtain ⟨sz, cz, rfl⟩ := oz.len
 refine ⟨sb, cb, sp, cp, sr, cr, sz, cz, rfl, ob.sees (by decide) ((s.in 0 rfl).trans l), op.sees (by decide) ((s.in 1 rfl).trans l), or.sees (by decide) ((s.in 2 rfl).trans l), ?_⟩
 obtain ⟨raws, pr', pb', o, t, e, rel⟩ := oz
 refine ⟨raws, o.sees (by decide) (((t.in 0 rfl).trans (s.in 3 rfl)).trans l), fun i r x h1 h2 => ?_⟩
 obtain ⟨a, b, c⟩ := rel i r x h1 h2
 exact ⟨a, b, c.sees (by decide) (((t.in 1 rfl).trans (s.in 3 rfl)).trans l)⟩
end Go.Proofs.YtfflipnhffknnaaGreatDoor
end

section
namespace Go.Proofs.YtfflipnhffknnaaGreatDoor
open Go Go.HL Go.Proofs.Resv Go.Proofs.Srch
def vi := jq (jq (jq @uw (jq @cf38 @Aj)) (jq @Dt (jq @B7 @B6))) (jq (jq @B5 (jq @Dr @I9)) (jq (jq @ld23 @ld26) (jq @ld3 @ln23)))
structure SmO (C : Conf) : Prop where
 w : C.w ≤ 6
 h : C.h ≤ 6
 bu : C.bu ≤ 4000
 un : C.un ≤ 100
 tu : C.tu ≤ 200
 ho : C.ho ≤ 200
 ro : C.ro.length ≤ 4
 may : R5 C

set_option maxHeartbeats 4000000 in
theorem small12 {G h : Hp} {v : Value} {C : Conf} (hv : CV G h v C) : am P_ G 21 #[v] h (fun u h' => (∃ b, u = .bool b ∧ (b = true → SmO C)) ∧ h' = h) := by
 have hv0 := hv
 obtain ⟨ab, cb, ap, cp, ar, cr, az, cs, rfl, ca⟩ := hv
 refine am.assume fun d => quietly (enter21 (by simp) ?_)
 unfold S21
 simp only [bC, vi]
 intro x hx gx
 generalize e1 : Hp.set h x _ = h1
 obtain ⟨l1, d1, b1⟩ := boxed e1 hx d gx
 have cx : ∀ j, aa G h1 ⟨x, j, none⟩ = _ := fun j => aj (ai b1)
 by_cases g1 : C.w ≤ 6
 rotate_left
 · try simp only [bC, vi, cx, decide_eq_false g1, gh]
   exact ⟨⟨false, rfl, by simp⟩, l1⟩
 by_cases g2 : C.h ≤ 6
 rotate_left
 · try simp only [bC, vi, cx, decide_eq_true g1, decide_eq_false g2, gh]
   exact ⟨⟨false, rfl, by simp⟩, l1⟩
 by_cases g3 : C.bu ≤ 4000
 rotate_left
 · try simp only [bC, vi, cx, decide_eq_true g1, decide_eq_true g2, decide_eq_false g3, gh]
   exact ⟨⟨false, rfl, by simp⟩, l1⟩
 by_cases g4 : C.un ≤ 100
 rotate_left
 · try simp only [bC, vi, cx, decide_eq_true g1, decide_eq_true g2, decide_eq_true g3, decide_eq_false g4, gh]
   exact ⟨⟨false, rfl, by simp⟩, l1⟩
 by_cases g5 : C.tu ≤ 200
 rotate_left
 · try simp only [bC, vi, cx, decide_eq_true g1, decide_eq_true g2, decide_eq_true g3, decide_eq_true g4, decide_eq_false g5, gh]
   exact ⟨⟨false, rfl, by simp⟩, l1⟩
 by_cases g6 : C.ho ≤ 200
 rotate_left
 · try simp only [bC, vi, cx, decide_eq_true g1, decide_eq_true g2, decide_eq_true g3, decide_eq_true g4, decide_eq_true g5, decide_eq_false g6, gh]
   exact ⟨⟨false, rfl, by simp⟩, l1⟩
 by_cases g7 : ((C.ro.length : Nat) : Int) ≤ 4
 rotate_left
 · try simp only [bC, vi, cx, decide_eq_true g1, decide_eq_true g2, decide_eq_true g3, decide_eq_true g4, decide_eq_true g5, decide_eq_true g6, decide_eq_false g7, gh]
   exact ⟨⟨false, rfl, by simp⟩, l1⟩
 try simp only [bC, vi, cx, decide_eq_true g1, decide_eq_true g2, decide_eq_true g3, decide_eq_true g4, decide_eq_true g5, decide_eq_true g6, decide_eq_true g7]
 refine (Sj (hv0.up l1 d1)).mono ?_
 rintro _ h1 ⟨⟨b, rfl, hb⟩, rfl⟩
 try simp (disch := first | decide | omega) only [bC, vi, Nat.reduceAdd, Nat.reduceMul]
 exact ⟨⟨b, rfl, fun e => ⟨g1, g2, g3, g4, g5, g6, by omega, hb.1 e⟩⟩, l1⟩
end Go.Proofs.YtfflipnhffknnaaGreatDoor
end

section
namespace Go.Proofs.Srch
open Go.Proofs.Resv
section
variable {P M : Type} [DecidableEq P] {E : Env P M}

structure Flat (E : Env P M) (D : Int) : Prop where
 sp : ∀ p, E.ok p → E.spans p = [(0, FV)]
 wy : ∀ p, E.ok p → ∀ w ∈ E.ways p, w.2.2.2 = [(0, FV)] ∧ 1 ≤ w.2.2.1 ∧ w.2.2.1 ≤ D ∧ E.ok w.2.1

theorem tr {t : Int} (h0 : 0 ≤ t) (h1 : t < FV) : inside [((0 : Int), FV)] t = some 0 := by
 unfold inside insB
 rw [List.findIdx?_cons]
 simp [h0, h1]

theorem Uc {a d : Int} (h0 : 0 ≤ a) (hd : 0 ≤ d) (h : a + d < FV) : sumI a d = a + d := by
 unfold sumI cutI FV at *
 rw [if_neg (by omega)]
 omega
theorem sum_ge2 {a d : Int} (h0 : 0 ≤ a) (hd : 0 ≤ d) (h : sumI a d < FV) : sumI a d = a + d := by
 unfold sumI cutI FV at *
 split at h
 · omega
 · rw [if_neg (by assumption)]; omega

def shS (by_ : Int) (shM : M → M) (x : St P M) : St P M := { x with a := x.a + by_, mv := if x.b < 0 then x.mv else shM x.mv }
def shR (shM : M → M) : Res M → Res M
 | .ok l => .ok (l.map shM)
 | .no e => .no e

section
variable {by_ : Int} {shM : M → M}

theorem key_sh {S : List (St P M)} {p : P} {i : Nat} : key (S.map (shS by_ shM)) p i = key S p i := by
 unfold key
 rw [List.findIdx?_map]
 rfl

theorem Uz {S : List (St P M)} {p : P} {i : Nat} {s : Sp} {t : Int} {m : M} {b : Int} (hb : 0 ≤ b) : lj (S.map (shS by_ shM)) p i s (t + by_) (shM m) b = (lj S p i s t m b).map (shS by_ shM) := by
 unfold lj
 rw [key_sh]
 cases key S p i with
 | none =>
   simp only
   rw [List.map_append]
   congr 1
   simp [shS, show ¬ b < 0 by omega]
 | some k =>
   simp only [List.getElem?_map]
   cases hx : S[k]? with
   | none => rfl
   | some x =>
     simp only [Option.map_some]
     have e : (t + by_ < (shS by_ shM x).a) ↔ t < x.a := by unfold shS; simp only; omega
     by_cases h : t < x.a
     · rw [if_pos (e.2 h), if_pos h, List.map_set]
       simp [shS, show ¬ b < 0 by omega]
     · rw [if_neg (fun h' => h (e.1 h')), if_neg h]

theorem ltK_sh {x y : St P M} : ltK E (shS by_ shM x) (shS by_ shM y) = ltK E x y := by
 unfold ltK shS
 simp only
 exact decide_eq_decide.2 (by omega)

theorem qn : ∀ (L : List (St P M)) (k : Nat) (b : Option (Nat × St P M)), pc E (L.map (shS by_ shM)) k (b.map fun q => (q.1, shS by_ shM q.2)) = (pc E L k b).map fun q => (q.1, shS by_ shM q.2)
 | [], _, _ => rfl
 | x :: L, k, b => by
   rw [List.map_cons]
   unfold pc
   rw [show (shS by_ shM x).dn = x.dn from rfl]
   by_cases hd : x.dn = true
   · rw [if_pos hd, if_pos hd]
     exact qn L (k + 1) b
   · rw [if_neg hd, if_neg hd]
     cases b with
     | none => exact qn L (k + 1) (some (k, x))
     | some q =>
       obtain ⟨j, y⟩ := q
       simp only [Option.map_some]
       rw [ltK_sh]
       by_cases hl : ltK E x y = true
       · rw [if_pos hl, if_pos hl]; exact qn L (k + 1) (some (k, x))
       · rw [if_neg hl, if_neg hl]; exact qn L (k + 1) (some (j, y))
theorem U8 {S : List (St P M)} : least E (S.map (shS by_ shM)) = (least E S).map fun q => (q.1, shS by_ shM q.2) := qn S 0 none

theorem Pl : ∀ (f k : Nat) (S : List (St P M)) (acc : List M), path (S.map (shS by_ shM)) f k (acc.map shM) = (path S f k acc).map shM
 | 0, _, _, _ => rfl
 | f + 1, k, S, acc => by
   unfold path
   rw [List.getElem?_map]
   cases hx : S[k]? with
   | none => rfl
   | some x =>
     simp only [Option.map_some]
     rw [show (shS by_ shM x).b = x.b from rfl]
     by_cases hb : x.b < 0
     · rw [if_pos hb, if_pos hb]
     · rw [if_neg hb, if_neg hb]
       have := Pl f x.b.toNat S (x.mv :: acc)
       rw [List.map_cons] at this
       rw [show (shS by_ shM x).mv = shM x.mv by unfold shS; simp only [if_neg hb]]
       exact this

def Low (E : Env P M) (B : Int) (S : List (St P M)) : Prop := ∀ x ∈ S, x.s = (0, FV) ∧ E.ok x.p ∧ 0 ≤ x.a ∧ x.a ≤ B

theorem Low.up {B B' : Int} {S : List (St P M)} (l : Low E B S) (h : B ≤ B') : Low E B' S := fun x hx => let ⟨a, b, c, d⟩ := l x hx; ⟨a, b, c, Int.le_trans d h⟩

theorem Gw {B : Int} {S : List (St P M)} (l : Low E B S) {p : P} {i : Nat} {t : Int} {m : M} {b : Int} (hp : E.ok p) (h0 : 0 ≤ t) (h1 : t ≤ B) : Low E B (lj S p i (0, FV) t m b) := by
 unfold lj
 split
 · rename_i k hk
   split
   · rename_i x hx
     split
     · intro y hy
       rcases List.mem_or_eq_of_mem_set hy with hy | rfl
       · exact l y hy
       · obtain ⟨a, b, c, d⟩ := l x (List.mem_of_getElem? hx)
         exact ⟨a, b, h0, h1⟩
     · exact l
   · exact l
 · intro y hy
   rcases List.mem_append.1 hy with hy | hy
   · exact l y hy
   · rw [List.mem_singleton] at hy; subst hy; exact ⟨rfl, hp, h0, h1⟩

theorem zw {D : Int} (fl : Flat E D) {S : List (St P M)} {p : P} {t : Int} {m : M} {b : Int} (hp : E.ok p) (h0 : 0 ≤ t) (h1 : t < FV) : note E S p t m b = lj S p 0 (0, FV) t m b := by
 unfold note
 rw [fl.sp p hp, tr h0 h1]
 rfl

theorem Ge {D : Int} (fl : Flat E D) {S : List (St P M)} {x : St P M} {k : Int} {w : M × P × Int × List Sp} (hx : x.s = (0, FV)) (ho : E.ok x.p) (ha : 0 ≤ x.a) (hw : w ∈ E.ways x.p) (hb : x.a + D < FV) :
   mn E x k S w = lj S w.2.1 0 (0, FV) (x.a + w.2.2.1) (E.stamp w.1 x.a (x.a + w.2.2.1)) k := by
 obtain ⟨e1, e2, e3, e4⟩ := fl.wy x.p ho w hw
 unfold mn
 rw [e1, List.foldl_cons, List.foldl_nil]
 unfold er
 rw [hx]
 simp only
 rw [show max x.a 0 = x.a by omega, Uc ha (by omega) (by omega), if_neg (by omega), if_neg (by omega)]
 exact zw fl e4 (by omega) (by omega)

theorem O9 {D : Int} (fl : Flat E D) (hst : ∀ w a e, E.stamp w (a + by_) (e + by_) = shM (E.stamp w a e)) (hby : 0 ≤ by_) {x : St P M} {k : Nat} {B : Int} (hx : x.s = (0, FV)) (ho : E.ok x.p) (ha : 0 ≤ x.a) (hB : x.a ≤ B) (hb : B + by_ + D < FV) :
   ∀ (l : List (M × P × Int × List Sp)) (S : List (St P M)), (∀ w ∈ l, w ∈ E.ways x.p) → Low E (B + D) S → l.foldl (mn E (shS by_ shM x) k) (S.map (shS by_ shM)) = (l.foldl (mn E x k) S).map (shS by_ shM) ∧ Low E (B + D) (l.foldl (mn E x k) S)
 | [], S, _, lo => ⟨rfl, lo⟩
 | w :: l, S, hl, lo => by
   rw [List.foldl_cons, List.foldl_cons]
   have hw := hl w (.head _)
   obtain ⟨e1, e2, e3, e4⟩ := fl.wy x.p ho w hw
   have s1 := Ge fl (S := S.map (shS by_ shM)) (x := shS by_ shM x) (k := (k : Int)) hx ho (show 0 ≤ x.a + by_ by omega) hw (show x.a + by_ + D < FV by omega)
   have s2 := Ge fl (S := S) (x := x) (k := (k : Int)) hx ho ha hw (by omega)
   rw [s1, s2]
   have e5 : (shS by_ shM x).a + w.2.2.1 = (x.a + w.2.2.1) + by_ := by show x.a + by_ + _ = _; omega
   rw [e5, show (shS by_ shM x).a = x.a + by_ from rfl, hst, Uz (by omega)]
   exact O9 fl hst hby hx ho ha hB hb l _ (fun w hw => hl w (.tail _ hw)) (Gw lo e4 (by omega) (by omega))

theorem Ui {D : Int} (hD : 0 ≤ D) (fl : Flat E D) (hst : ∀ w a e, E.stamp w (a + by_) (e + by_) = shM (E.stamp w a e)) (hby : 0 ≤ by_) {goal : P → Sp → Bool} : ∀ (n : Nat) (B : Int) (S : List (St P M)), Low E B S → B + by_ + (n + 1) * D < FV →
   run E goal n (S.map (shS by_ shM)) = shR shM (run E goal n S)
 | 0, _, _, _, _ => rfl
 | n + 1, B, S, lo, hb => by
   unfold run
   rw [U8]
   cases hl : least E S with
   | none => rfl
   | some q =>
     obtain ⟨k, x⟩ := q
     simp only [Option.map_some]
     obtain ⟨hx, _, _⟩ := ng hl
     obtain ⟨x1, x2, x3, x4⟩ := lo x (List.mem_of_getElem? hx)
     rw [show (shS by_ shM x).p = x.p from rfl, show (shS by_ shM x).s = x.s from rfl]
     have et : take (S.map (shS by_ shM)) k (shS by_ shM x) = (take S k x).map (shS by_ shM) := by unfold take; rw [List.map_set]; rfl
     rw [et]
     by_cases hg : goal x.p x.s = true
     · rw [if_pos hg, if_pos hg]
       have := Pl (by_ := by_) (shM := shM) S.length k (take S k x) []
       rw [List.length_map]
       exact congrArg Res.ok this
     · rw [if_neg hg, if_neg hg]
       have hn : 0 ≤ (n : Int) * D := Int.mul_nonneg (by omega) hD
       have hn1 : ((n : Int) + 1) * D = n * D + D := by rw [Int.add_mul, Int.one_mul]
       have hn2 : (((n + 1 : Nat) : Int) + 1) * D = n * D + D + D := by rw [show (((n + 1 : Nat) : Int) + 1) = n + 1 + 1 by omega, Int.add_mul, Int.add_mul, Int.one_mul]
       rw [hn2] at hb
       have lo1 : Low E (B + D) (take S k x) := by
         intro y hy
         unfold take at hy
         rcases List.mem_or_eq_of_mem_set hy with hy | rfl
         · exact (lo.up (by omega)) y hy
         · exact ⟨x1, x2, x3, by show x.a ≤ _; omega⟩
       have := O9 (k := k) fl hst hby (x := { x with dn := true }) (B := B) x1 x2 x3 x4 (by omega) (E.ways x.p) (take S k x) (fun _ h => h) lo1
       have e2 : p6 E { shS by_ shM x with dn := true } k ((take S k x).map (shS by_ shM)) = (p6 E { x with dn := true } k (take S k x)).map (shS by_ shM) := this.1
       refine (congrArg (run E goal n) e2).trans ?_
       exact Ui hD fl hst hby n (B + D) _ this.2 (by rw [hn1]; omega)

theorem N6 {D : Int} (hD : 0 ≤ D) (fl : Flat E D) (hst : ∀ w a e, E.stamp w (a + by_) (e + by_) = shM (E.stamp w a e)) (hby : 0 ≤ by_) {goal : P → Sp → Bool} {p : P} {t : Int} {z : M} {n : Nat} (hp : E.ok p) (h0 : 0 ≤ t) (hb : t + by_ + (n + 1) * D < FV) :
   find E goal p (t + by_) z n = shR shM (find E goal p t z n) := by
 have hn : 0 ≤ ((n : Int) + 1) * D := Int.mul_nonneg (by omega) hD
 unfold find
 rw [fl.sp p hp, tr h0 (by omega), tr (by omega) (by omega)]
 simp only
 rw [zw fl hp (by omega) (by omega), zw fl hp h0 (by omega)]
 have e : lj ([] : List (St P M)) p 0 (0, FV) (t + by_) z (-1) = (lj [] p 0 (0, FV) t z (-1)).map (shS by_ shM) := rfl
 rw [e]
 exact Ui hD fl hst hby n t _ (Gw (fun _ h => by cases h) hp h0 (Int.le_refl _)) hb
end

inductive Rch (E : Env P M) (p0 : P) : P → Int → Prop where
 | start : Rch E p0 p0 0
 | step {p : P} {n : Int} {w : M × P × Int × List Sp} (h : Rch E p0 p n) (hw : w ∈ E.ways p) : Rch E p0 w.2.1 (n + w.2.2.1)

theorem Rch.ok {D : Int} (fl : Flat E D) {p0 p : P} {n : Int} (h : Rch E p0 p n) (ho : E.ok p0) : E.ok p ∧ 0 ≤ n := by
 induction h with
 | start => exact ⟨ho, Int.le_refl _⟩
 | step h hw ih => obtain ⟨_, e2, _, e4⟩ := fl.wy _ ih.1 _ hw; exact ⟨e4, by omega⟩
theorem Rch.pre {p0 p1 : P} {w : M × P × Int × List Sp} (hw : w ∈ E.ways p0) (e : w.2.1 = p1) : ∀ {p : P} {n : Int}, Rch E p1 p n → Rch E p0 p (w.2.2.1 + n)
 | _, _, .start => by subst e; have := Rch.step (.start (E := E) (p0 := p0)) hw; rw [Int.zero_add] at this; rw [Int.add_zero]; exact this
 | _, _, .step h hv => by have := Rch.step (Rch.pre hw e h) hv; rw [← Int.add_assoc]; exact this

inductive Wk (E : Env P M) (p0 : P) (t0 : Int) : List M → P → Nat → Int → Prop where
 | nil {i : Nat} (h : inside (E.spans p0) t0 = some i) : Wk E p0 t0 [] p0 i t0
 | snoc {l : List M} {p : P} {i j : Nat} {a : Int} {s0 s : Sp} {w : M × P × Int × List Sp} (h : Wk E p0 t0 l p i a) (h0 : (E.spans p)[i]? = some s0) (ha1 : s0.1 ≤ a) (ha2 : a < s0.2) (hw : w ∈ E.ways p) (hs : s ∈ w.2.2.2) (h1 : s0.1 ≤ s.1) (h2 : s.2 ≤ s0.2)
     (he : sumI (max a s.1) w.2.2.1 ≤ s.2) (he2 : sumI (max a s.1) w.2.2.1 < FV) (hj : inside (E.spans w.2.1) (sumI (max a s.1) w.2.2.1) = some j) : Wk E p0 t0 (l ++ [E.stamp w.1 (max a s.1) (sumI (max a s.1) w.2.2.1)]) w.2.1 j (sumI (max a s.1) w.2.2.1)

theorem Oh {S : List (St P M)} {k : Nat} {l : List (Nat × St P M)} (c : zo S k l) : ∃ x l', S[k]? = some x ∧ l = (k, x) :: l' := by
 cases c with
 | start h hb => exact ⟨_, _, h, rfl⟩
 | step h hb c => exact ⟨_, _, h, rfl⟩

theorem X6 (r : xi E) {p0 : P} {t0 lo : Int} {z : M} {S : List (St P M)} (v : Inv E p0 t0 z lo S) {k : Nat} {l : List (Nat × St P M)} (c : zo S k l) : ∀ {x : St P M}, S[k]? = some x → Wk E p0 t0 (jx l).reverse x.p x.i x.a := by
 induction c with
 | @start k x h hb =>
   intro x' h'
   rw [h] at h'; cases h'
   have hxm := List.mem_of_getElem? h
   obtain ⟨a1, a2, a3⟩ := v.at_ x hxm
   rcases v.by_ x hxm with ⟨_, e1, e2, _⟩ | ⟨y, h0, _⟩
   · have hin := Ab (r.ris x.p) a1 a2 a3
     rw [e1, e2] at hin ⊢
     exact .nil hin
   · omega
 | @step k j x l h hb c ih =>
   intro x' h'
   rw [h] at h'; cases h'
   have hxm := List.mem_of_getElem? h
   obtain ⟨a1, a2, a3⟩ := v.at_ x hxm
   rcases v.by_ x hxm with ⟨e, _⟩ | ⟨y, h0, hy, hd, hlt, w, hw, s, hs, l1, l2, l3, l4, l5, l6, l7⟩
   · omega
   · rw [show x.b.toNat = j by omega] at hy
     obtain ⟨b1, b2, b3⟩ := v.at_ y (List.mem_of_getElem? hy)
     have ih := ih hy
     have hin := Ab (r.ris x.p) a1 a2 a3
     have := Wk.snoc ih b1 b2 b3 hw hs l1 l2 (by rw [← l4]; exact l5) (by rw [← l4]; exact l6) (j := x.i) (by rw [← l4, ← l3]; exact hin)
     rw [← l4, ← l3, ← l7] at this
     have e : (jx ((k, x) :: l)).reverse = (jx l).reverse ++ [x.mv] := by
       obtain ⟨x1, l', _, rfl⟩ := Oh c
       show (x.mv :: jx ((j, x1) :: l')).reverse = _
       rw [List.reverse_cons]
     rw [e]
     exact this

theorem path_wk (r : xi E) {p0 : P} {t0 lo : Int} {z : M} {S : List (St P M)} (v : Inv E p0 t0 z lo S) {k : Nat} {x : St P M} (hk : S[k]? = some x) : Wk E p0 t0 (path S S.length k []) x.p x.i x.a := by
 obtain ⟨l, c, hl⟩ := Hg v hk
 rw [C7 c _ _ hl, List.append_nil]
 exact X6 r v c hk
end
theorem we {r : Int} : ∀ {L : List Slot} {a x y : Int}, Resv.Good L → 0 ≤ a → a ≤ x → x < y → y ≤ FV → (∀ s ∈ L, s.r ≠ r → y ≤ s.f ∨ s.t ≤ x) → ∃ g ∈ dh r L a, g.1 ≤ x ∧ y ≤ g.2
 | [], a, x, y, _, h0, h1, h2, h3, _ => by
   unfold dh
   rw [if_pos (by omega)]
   exact ⟨_, .head _, h1, h3⟩
 | s :: L, a, x, y, g, h0, h1, h2, h3, h => by
   have ok := g.ok s (.head _)
   obtain ⟨o1, o2, o3, o4⟩ := ok
   unfold dh
   by_cases hr : s.r = r
   · rw [if_pos hr]
     exact we g.tail h0 h1 h2 h3 fun u hu => h u (.tail _ hu)
   · rw [if_neg hr]
     rcases h s (.head _) hr with h4 | h4
     · rw [if_pos (by omega)]
       exact ⟨_, .head _, h1, h4⟩
     · obtain ⟨u, hu, e⟩ := we (r := r) g.tail (a := s.t) (by omega) h4 h2 h3 fun u hu => h u (.tail _ hu)
       split
       · exact ⟨u, .tail _ hu, e⟩
       · exact ⟨u, hu, e⟩

theorem Vj {T : Tb} (g : jc T) {r n a b : Int} (hn : inT T.length n = true) (h0 : 0 ≤ a) (h1 : a < b) (h2 : b ≤ FV) (hf : og (rowT T n) r a b = true) : ∃ u ∈ iu T r n, u.1 ≤ a ∧ b ≤ u.2 := by
 unfold iu
 rw [if_pos hn]
 exact we (zv g n) (Int.le_refl _) h0 h1 h2 (L0.1 hf)
theorem Ta {T : Tb} (g : jc T) {r n a b : Int} {u : Sp} (hu : u ∈ iu T r n) (h1 : u.1 ≤ a) (h2 : b ≤ u.2) : inT T.length n = true ∧ og (rowT T n) r a b = true := by
 unfold iu at hu
 split at hu
 · rename_i hn
   refine ⟨hn, L0.2 fun s hs hr => ?_⟩
   have gr := zv g n
   obtain ⟨_, h3⟩ := G6 (r := r) gr (Int.le_refl 0) (by decide) (fun s hs => .inl (gr.ok s hs).1)
   rcases (h3 u hu).2.2.2.2.2 s hs hr with h4 | h4 <;> omega
 · cases hu

theorem L6 {T : Tb} {r : Int} : ∀ (N : List Int) (l : List Sp) (s : Sp), s ∈ N.foldl (fun l n => m9 l (iu T r n)) l → (∃ u ∈ l, u.1 ≤ s.1 ∧ s.2 ≤ u.2) ∧ ∀ n ∈ N, ∃ u ∈ iu T r n, u.1 ≤ s.1 ∧ s.2 ≤ u.2
 | [], l, s, h => ⟨⟨s, h, Int.le_refl _, Int.le_refl _⟩, fun _ h => by cases h⟩
 | n :: N, l, s, h => by
   rw [List.foldl_cons] at h
   obtain ⟨⟨u, hu, h1, h2⟩, h3⟩ := L6 N _ s h
   obtain ⟨x, hx, y, hy, rfl, _⟩ := yi.1 hu
   simp only at h1 h2
   refine ⟨⟨x, hx, by omega, by omega⟩, fun m hm => ?_⟩
   rcases List.mem_cons.1 hm with rfl | hm
   · exact ⟨y, hy, by omega, by omega⟩
   · exact h3 m hm
theorem Mb {T : Tb} {r a b : Int} (hab : a < b) : ∀ (N : List Int) (l : List Sp), (∃ u ∈ l, u.1 ≤ a ∧ b ≤ u.2) → (∀ n ∈ N, ∃ u ∈ iu T r n, u.1 ≤ a ∧ b ≤ u.2) → ∃ s ∈ N.foldl (fun l n => m9 l (iu T r n)) l, s.1 ≤ a ∧ b ≤ s.2
 | [], l, h, _ => h
 | n :: N, l, ⟨u, hu, h1, h2⟩, h => by
   obtain ⟨v, hv, h3, h4⟩ := h n (.head _)
   rw [List.foldl_cons]
   exact Mb hab N _ ⟨(max u.1 v.1, min u.2 v.2), yi.2 ⟨u, hu, v, hv, rfl, by omega⟩, by simp only; omega, by simp only; omega⟩ fun m hm => h m (.tail _ hm)

theorem Lz {T : Tb} {r : Int} {N : List Int} {s : Sp} (h : s ∈ ia T r N) : ∀ n ∈ N, ∃ u ∈ iu T r n, u.1 ≤ s.1 ∧ s.2 ≤ u.2 := (L6 N _ s h).2
theorem L5 {T : Tb} {r a b : Int} {N : List Int} (h0 : 0 ≤ a) (h1 : a < b) (h2 : b ≤ FV) (h : ∀ n ∈ N, ∃ u ∈ iu T r n, u.1 ≤ a ∧ b ≤ u.2) : ∃ s ∈ ia T r N, s.1 ≤ a ∧ b ≤ s.2 :=
 Mb h1 N _ ⟨_, .head _, h0, h2⟩ h

theorem Tf {T : Tb} (g : jc T) {r : Int} {N N' : List Int} (hN : ∀ n ∈ N', n ∈ N) {s : Sp} (h : s ∈ ia T r N) : ∃ s' ∈ ia T r N', s'.1 ≤ s.1 ∧ s.2 ≤ s'.2 := by
 obtain ⟨b1, b2, b3⟩ := (tc g r N).bd s h
 exact L5 b1 b2 b3 fun n hn => Lz h n (hN n hn)
theorem Dl {T : Tb} (g : jc T) {r a b : Int} {N : List Int} {s : Sp} (h : s ∈ ia T r N) (h1 : s.1 ≤ a) (h2 : b ≤ s.2) : ∀ n ∈ N, inT T.length n = true ∧ og (rowT T n) r a b = true := fun n hn => by
 obtain ⟨u, hu, e1, e2⟩ := Lz h n hn
 exact Ta g hu (by omega) (by omega)
theorem M9 {T : Tb} (g : jc T) {r a b : Int} {N : List Int} (h0 : 0 ≤ a) (h1 : a < b) (h2 : b ≤ FV) (h : ∀ n ∈ N, inT T.length n = true ∧ og (rowT T n) r a b = true) : ∃ s ∈ ia T r N, s.1 ≤ a ∧ b ≤ s.2 :=
 L5 h0 h1 h2 fun n hn => Vj g (h n hn).1 h0 h1 h2 (h n hn).2

theorem G8 {k : Nat} {r : Int} : ∀ {N : List Int}, (∀ n ∈ N, inT k n = true) → ia (List.replicate k []) r N = [(0, FV)] := by
 intro N hN
 have key : ∀ (N : List Int), (∀ n ∈ N, inT k n = true) → N.foldl (fun l n => m9 l (iu (List.replicate k []) r n)) [((0 : Int), FV)] = [(0, FV)] := by
   intro N
   induction N with
   | nil => intro _; rfl
   | cons n N ih =>
     intro h
     rw [List.foldl_cons]
     have hn := h n (.head _)
     have e : iu (List.replicate k []) r n = [(0, FV)] := by
       unfold iu
       rw [List.length_replicate, if_pos hn]
       obtain ⟨h0, h1⟩ := B4.1 hn
       have := xu (T := List.replicate k []) h0 (by rw [List.length_replicate]; exact h1)
       rw [List.getElem?_replicate, if_pos (by omega)] at this
       rw [← Option.some.inj this]
       rfl
     rw [e]
     exact ih fun m hm => h m (.tail _ hm)
 exact key N hN

def p8 (r : Int) (T U : Tb) : Prop := T.length = U.length ∧ ∀ n, others (rowT T n) r = others (rowT U n) r
theorem p8.refl {r : Int} {T : Tb} : p8 r T T := ⟨rfl, fun _ => rfl⟩
theorem p8.trans {r : Int} {T U V : Tb} (a : p8 r T U) (b : p8 r U V) : p8 r T V := ⟨a.1.trans b.1, fun n => (a.2 n).trans (b.2 n)⟩
theorem p8.gaps {r : Int} {T U : Tb} (a : p8 r T U) (n : Int) : iu T r n = iu U r n := by
 unfold iu G7
 rw [a.1, ← Bc, a.2, Bc]
theorem p8.free {r : Int} {T U : Tb} (a : p8 r T U) (N : List Int) : ia T r N = ia U r N := by
 unfold ia
 congr 1
 funext l n
 rw [a.gaps]
end Go.Proofs.Srch
end

section
namespace Go.Proofs.YtfflipnhffknnaaGreatDoor
open Go Go.HL

def o8 (m : Move) : List Cell := if m.k = 1 then (List.range (m.n.toNat + 1)).flatMap (fun (i : Nat) => bj (dc m.f m.d i)) else if m.k = 2 then du (m.f.x, m.f.y) else bj m.f
def fe (C : Conf) (m : Move) : List Cell := if ep C m = true then kf (wC C) (kC C) (o8 m) else []

theorem rway_eq {C : Conf} {m : Move} (hp : PB m.f) (hl : ep C m = true) : o8 m = wayL m := by
 unfold o8 wayL
 by_cases h1 : m.k = 1
 · rw [if_pos h1, if_pos h1]
   unfold ep at hl
   rw [Bool.and_eq_true, if_pos h1] at hl
   simp only [Bool.and_eq_true] at hl
   have hd := cj.1 hl.2.2.1
   congr 1
   funext i
   rw [qb hp hd]
 · rw [if_neg h1, if_neg h1]
theorem T9 {C : Conf} (mk : df C) {m : Move} (hp : PB m.f) : ij (wC C) (kC C) (f3C C) m = fe C m := by
 unfold ij fe
 rw [Lh mk hp]
 cases hl : ep C m with
 | false => rfl
 | true => rw [if_pos rfl, if_pos rfl, rway_eq hp hl]
section
variable {C : Conf}

theorem Ay {α : Type} {ok : Nat → Bool} {mk : Nat → α} {x : α} : ∀ {k n : Nat}, x ∈ ir ok mk n k ↔ ∃ j, n ≤ j ∧ j < n + k ∧ x = mk j ∧ ∀ i, n ≤ i → i ≤ j → ok i = true
 | 0, n => by
   unfold ir
   simp only [List.not_mem_nil, false_iff]
   rintro ⟨j, h1, h2, _⟩
   omega
 | k + 1, n => by
   unfold ir
   cases hb : ok n with
   | false =>
     simp only [Bool.false_eq_true, if_false, List.not_mem_nil, false_iff]
     rintro ⟨j, h1, h2, _, h⟩
     have := h n (Nat.le_refl _) h1
     rw [hb] at this; cases this
   | true =>
     simp only [if_true, List.mem_cons]
     rw [Ay]
     constructor
     · rintro (rfl | ⟨j, h1, h2, rfl, h⟩)
       · exact ⟨n, Nat.le_refl _, by omega, rfl, fun i a b => by obtain rfl : i = n := by omega
                                                                 exact hb⟩
       · exact ⟨j, by omega, by omega, rfl, fun i a b => by
           by_cases hi : i = n
           · subst hi; exact hb
           · exact h i (by omega) b⟩
     · rintro ⟨j, h1, h2, rfl, h⟩
       by_cases hj : j = n
       · subst hj; exact .inl rfl
       · exact .inr ⟨j, by omega, by omega, rfl, fun i a b => h i (by omega) b⟩
theorem Gv {α : Type} {D : Nat → List α} {x : α} : ∀ {k i : Nat}, x ∈ jy D i k ↔ ∃ j, i ≤ j ∧ j < i + k ∧ x ∈ D j
 | 0, i => by
   unfold jy
   simp only [List.not_mem_nil, false_iff]
   rintro ⟨j, h1, h2, _⟩
   omega
 | k + 1, i => by
   unfold jy
   rw [List.mem_append, Gv]
   constructor
   · rintro (h | ⟨j, h1, h2, h⟩)
     · exact ⟨i, Nat.le_refl _, by omega, h⟩
     · exact ⟨j, by omega, by omega, h⟩
   · rintro ⟨j, h1, h2, h⟩
     by_cases hj : j = i
     · subst hj; exact .inl h
     · exact .inr ⟨j, by omega, by omega, h⟩
theorem U4 {p : Pose} {d : Nat} {x : Move} (h : x ∈ rrunD C p d) : ∃ n, 1 ≤ n ∧ n < 17 ∧ x = mkR p d n ∧ ep C x = true := by
 obtain ⟨n, h1, h2, rfl, h3⟩ := Ay.1 h
 exact ⟨n, h1, by omega, rfl, h3 n h1 (Nat.le_refl _)⟩

theorem rg {m : Move} (h : ep C m = true) : eo C m.f = true := by
 unfold ep at h
 exact (Bool.and_eq_true _ _ ▸ h).1
end
section
variable {C : Conf}

def ka (m : Move) : Move := ⟨m.k, if m.k = 1 then (m.d + 2).tmod 4 else m.d, m.n, m.t, m.f, m.a, m.e⟩

theorem yf {p q : Pose} (h1 : p.x = q.x) (h2 : p.y = q.y) (h3 : p.d = q.d) : p = q := by cases p; cases q; simp_all
theorem B3 (mk : df C) {c : Cell} (h : mj C c = true) : (0 ≤ c.1 ∧ c.1 < wC C ∧ 0 ≤ c.2 ∧ c.2 < kC C) ∧ c.1 < 16 ∧ c.2 < 16 := by
 obtain ⟨e1, e2, _, w2, _, k2⟩ := p9 mk.laid.w mk.laid.h
 unfold mj inB at h
 simp only [Bool.and_eq_true, decide_eq_true_eq, ge_iff_le] at h
 omega
theorem wr_s {x : Int} (h : -100 ≤ x ∧ x ≤ 100) : wr x = x := F9 (by unfold Bd; omega)
theorem o6 {p : Pose} {d n : Int} (hx : 0 ≤ p.x ∧ p.x < 16) (hy : 0 ≤ p.y ∧ p.y < 16) (hn : 0 ≤ n ∧ n ≤ 16) :
   (dc p d n).x = (if d = 1 then p.x + n else if d = 3 then p.x - n else p.x) ∧ (dc p d n).y = (if d = 0 then p.y - n else if d = 2 then p.y + n else p.y) ∧ (dc p d n).d = p.d := by
 unfold dc
 rw [wr_s (x := p.x + n) (by omega), wr_s (x := p.x - n) (by omega), wr_s (x := p.y - n) (by omega), wr_s (x := p.y + n) (by omega)]
 exact ⟨rfl, rfl, rfl⟩
theorem Ou {p : Pose} {d n i : Int} (hx : 0 ≤ p.x ∧ p.x < 16) (hy : 0 ≤ p.y ∧ p.y < 16) (hd : 0 ≤ d ∧ d ≤ 3) (hn : 0 ≤ n ∧ n ≤ 16) (hi : 0 ≤ i ∧ i ≤ n) (tx : 0 ≤ (dc p d n).x ∧ (dc p d n).x < 16) (ty : 0 ≤ (dc p d n).y ∧ (dc p d n).y < 16) :
   dc (dc p d n) ((d + 2).tmod 4) i = dc p d (n - i) := by
 obtain ⟨a1, a2, a3⟩ := o6 (d := (d + 2).tmod 4) (n := i) tx ty (by omega)
 obtain ⟨b1, b2, b3⟩ := o6 (d := d) (n := n) hx hy hn
 obtain ⟨c1, c2, c3⟩ := o6 (d := d) (n := n - i) hx hy (by omega)
 have hd4 : d = 0 ∨ d = 1 ∨ d = 2 ∨ d = 3 := by omega
 refine yf ?_ ?_ (by rw [a3, b3, c3])
 · rw [a1, b1, c1]
   rcases hd4 with rfl | rfl | rfl | rfl <;> simp [show ((0 : Int) + 2).tmod 4 = 2 from rfl, show ((1 : Int) + 2).tmod 4 = 3 from rfl, show ((2 : Int) + 2).tmod 4 = 0 from rfl, show ((3 : Int) + 2).tmod 4 = 1 from rfl] <;> omega
 · rw [a2, b2, c2]
   rcases hd4 with rfl | rfl | rfl | rfl <;> simp [show ((0 : Int) + 2).tmod 4 = 2 from rfl, show ((1 : Int) + 2).tmod 4 = 3 from rfl, show ((2 : Int) + 2).tmod 4 = 0 from rfl, show ((3 : Int) + 2).tmod 4 = 1 from rfl] <;> omega

theorem Ic {w k : Nat} {W V : List Cell} (h : ∀ x, x ∈ W ↔ x ∈ V) : kf w k W = kf w k V :=
 Cx (n := numW w) oq oq fun x => by rw [me, me, h]
theorem kv {L : List Cell} {a b c : Cell} (ha : a ∈ L) (hb : b ∈ L) (hc : c ∈ L) (ab : a ≠ b) (ac : a ≠ c) (bc : b ≠ c) : 3 ≤ L.length := by
 match L, ha, hb, hc with
 | [], ha, _, _ => cases ha
 | [x], ha, hb, _ => simp at ha hb; exact absurd (ha.trans hb.symm) ab
 | [x, y], ha, hb, hc =>
   simp at ha hb hc
   rcases ha with rfl | rfl <;> rcases hb with rfl | rfl <;> rcases hc with rfl | rfl <;> first | exact absurd rfl ab | exact absurd rfl ac | exact absurd rfl bc
 | x :: y :: z :: L, _, _, _ => simp

theorem pq (mk : df C) {p : Pose} (h : eo C p = true) : (0 ≤ p.x ∧ p.x < 16) ∧ (0 ≤ p.y ∧ p.y < 16) := by
 unfold eo at h
 rw [Bool.and_eq_true] at h
 have := B3 mk h.1
 simp only at this
 omega
theorem Cw (mk : df C) {m : Move} (hl : ep C m = true) (h1 : m.k = 1) : 1 ≤ m.n ∧ m.n ≤ 16 ∧ (0 ≤ m.d ∧ m.d ≤ 3) ∧ m.t = dc m.f m.d m.n ∧ ∀ i : Int, 0 ≤ i → i ≤ m.n → eo C (dc m.f m.d i) = true := by
 have hf := rg hl
 unfold ep at hl
 rw [hf, Bool.true_and, if_pos h1] at hl
 simp only [Bool.and_eq_true, decide_eq_true_eq, List.all_eq_true, List.mem_range] at hl
 obtain ⟨hn, hd, ht, hs⟩ := hl
 obtain ⟨n1, n2⟩ := cj.1 hn
 refine ⟨n1, n2, cj.1 hd, ht, fun i h0 hi => ?_⟩
 by_cases hz : i = 0
 · subst hz
   obtain ⟨fx, fy⟩ := pq mk hf
   obtain ⟨a1, a2, a3⟩ := o6 (d := m.d) (n := 0) fx fy (by omega)
   rw [show dc m.f m.d 0 = m.f from yf (by rw [a1]; simp) (by rw [a2]; simp) a3]
   exact hf
 · have := hs (i - 1).toNat (by omega)
   unfold wb at this
   rw [show (((i - 1).toNat : Nat) : Int) + 1 = i by omega] at this
   exact this

theorem Yj (mk : df C) {m : Move} (hl : ep C m = true) (h1 : m.k = 1) : ep C (ka m) = true ∧ fe C m = fe C (ka m) ∧ eo C m.t = true ∧ 3 ≤ (fe C m).length := by
 obtain ⟨n1, n2, hd, ht, hs⟩ := Cw mk hl h1
 have hf := rg hl
 obtain ⟨fx, fy⟩ := pq mk hf
 have hft : eo C m.t = true := by rw [ht]; exact hs m.n (by omega) (Int.le_refl _)
 obtain ⟨tx, ty⟩ := pq mk hft
 have hbs : ∀ i : Int, 0 ≤ i → i ≤ m.n → dc m.t ((m.d + 2).tmod 4) i = dc m.f m.d (m.n - i) := fun i h0 hi => by
   have tx' := tx
   have ty' := ty
   rw [ht] at tx' ty'
   rw [ht]
   exact Ou fx fy hd (by omega) ⟨h0, hi⟩ tx' ty'
 have ed : (ka m).d = (m.d + 2).tmod 4 := by unfold ka; simp only [if_pos h1]
 have hd' : 0 ≤ (m.d + 2).tmod 4 ∧ (m.d + 2).tmod 4 ≤ 3 := by
   have hd4 : m.d = 0 ∨ m.d = 1 ∨ m.d = 2 ∨ m.d = 3 := by omega
   rcases hd4 with e | e | e | e <;> rw [e] <;> decide
 have e0 : dc m.f m.d (m.n - m.n) = m.f := by
   rw [Int.sub_self]
   obtain ⟨a1, a2, a3⟩ := o6 (d := m.d) (n := 0) fx fy (by omega)
   exact yf (by rw [a1]; simp) (by rw [a2]; simp) a3
 have hlb : ep C (ka m) = true := by
   unfold ep
   rw [if_pos (show (ka m).k = 1 from h1), ed]
   simp only [Bool.and_eq_true, decide_eq_true_eq, List.all_eq_true, List.mem_range]
   refine ⟨hft, cj.2 ⟨n1, n2⟩, cj.2 hd', ?_, fun i hi => ?_⟩
   · show m.f = dc m.t ((m.d + 2).tmod 4) m.n
     rw [hbs m.n (by omega) (Int.le_refl _), e0]
   · have hi' : i < m.n.toNat := hi
     unfold wb
     rw [ed]
     show eo C (dc m.t _ ((i : Int) + 1)) = true
     rw [hbs _ (by omega) (by omega)]
     exact hs _ (by omega) (by omega)
 have mem1 : ∀ x, x ∈ o8 m ↔ ∃ i : Nat, i ≤ m.n.toNat ∧ x ∈ bj (dc m.f m.d i) := fun x => by
   unfold o8
   rw [if_pos h1, List.mem_flatMap]
   constructor
   · rintro ⟨i, hi, hx⟩; exact ⟨i, by have := List.mem_range.1 hi; omega, hx⟩
   · rintro ⟨i, hi, hx⟩; exact ⟨i, List.mem_range.2 (by omega), hx⟩
 have mem2 : ∀ x, x ∈ o8 (ka m) ↔ ∃ i : Nat, i ≤ m.n.toNat ∧ x ∈ bj (dc m.t ((m.d + 2).tmod 4) i) := fun x => by
   unfold o8
   rw [if_pos (show (ka m).k = 1 from h1), ed, List.mem_flatMap]
   constructor
   · rintro ⟨i, hi, hx⟩; exact ⟨i, by have : i < m.n.toNat + 1 := List.mem_range.1 hi; omega, hx⟩
   · rintro ⟨i, hi, hx⟩; exact ⟨i, List.mem_range.2 (show i < m.n.toNat + 1 by omega), hx⟩
 refine ⟨hlb, ?_, hft, ?_⟩
 · unfold fe
   rw [if_pos hl, if_pos hlb]
   refine Ic fun x => ?_
   rw [mem1, mem2]
   constructor
   · rintro ⟨i, hi, hx⟩
     refine ⟨m.n.toNat - i, by omega, ?_⟩
     rw [hbs _ (by omega) (by omega), show m.n - ((m.n.toNat - i : Nat) : Int) = (i : Int) by omega]
     exact hx
   · rintro ⟨i, hi, hx⟩
     refine ⟨m.n.toNat - i, by omega, ?_⟩
     rw [hbs _ (by omega) (by omega)] at hx
     rw [show ((m.n.toNat - i : Nat) : Int) = m.n - (i : Int) by omega]
     exact hx
 · unfold fe
   rw [if_pos hl]
   have hin : ∀ (i : Nat) (x : Cell), i ≤ m.n.toNat → x ∈ bj (dc m.f m.d i) → x ∈ kf (wC C) (kC C) (o8 m) := fun i x hi hx => by
     rw [me]
     have hfi := hs i (by omega) (by omega)
     unfold eo at hfi
     rw [Bool.and_eq_true] at hfi
     refine ⟨?_, (mem1 x).2 ⟨i, hi, hx⟩⟩
     simp only [bj, List.mem_cons, List.not_mem_nil, or_false] at hx
     rcases hx with rfl | rfl
     · exact (B3 mk hfi.1).1
     · exact (B3 mk hfi.2).1
   have z0 : dc m.f m.d ((0 : Nat) : Int) = m.f := by
     obtain ⟨a1, a2, a3⟩ := o6 (d := m.d) (n := ((0 : Nat) : Int)) fx fy (by omega)
     exact yf (by rw [a1]; simp) (by rw [a2]; simp) a3
   obtain ⟨a1, a2, a3⟩ := o6 (d := m.d) (n := 1) fx fy (by omega)
   have eA : east m.f = if m.f.d = true then (m.f.x, m.f.y + 1) else (m.f.x + 1, m.f.y) := by
     unfold east
     rw [wr_s (by omega), wr_s (by omega)]
   have h1f := hs 1 (by omega) (by omega)
   obtain ⟨sx, sy⟩ := pq mk h1f
   have eB : east (dc m.f m.d 1) = if m.f.d = true then ((dc m.f m.d 1).x, (dc m.f m.d 1).y + 1) else ((dc m.f m.d 1).x + 1, (dc m.f m.d 1).y) := by
     unfold east
     rw [wr_s (by omega), wr_s (by omega), a3]
   have c0 : (m.f.x, m.f.y) ∈ kf (wC C) (kC C) (o8 m) := hin 0 _ (by omega) (by rw [z0]; exact .head _)
   have c1 : east m.f ∈ kf (wC C) (kC C) (o8 m) := hin 0 _ (by omega) (by rw [z0]; exact .tail _ (.head _))
   have c2 : ((dc m.f m.d 1).x, (dc m.f m.d 1).y) ∈ kf (wC C) (kC C) (o8 m) := hin 1 _ (by omega) (.head _)
   have c3 : east (dc m.f m.d 1) ∈ kf (wC C) (kC C) (o8 m) := hin 1 _ (by omega) (.tail _ (.head _))
   rw [eA] at c1
   rw [eB] at c3
   rw [a1, a2] at c2 c3
   have hd4 : m.d = 0 ∨ m.d = 1 ∨ m.d = 2 ∨ m.d = 3 := by omega
   cases hdn : m.f.d with
   | false =>
     rw [hdn] at c1 c3
     simp only [Bool.false_eq_true, if_false] at c1 c3
     rcases hd4 with e | e | e | e <;> simp only [e] at c2 c3
     · exact kv c0 c1 c2 (by simp <;> omega) (by simp <;> omega) (by simp <;> omega)
     · exact kv c0 c1 c3 (by simp <;> omega) (by simp <;> omega) (by simp <;> omega)
     · exact kv c0 c1 c2 (by simp <;> omega) (by simp <;> omega) (by simp <;> omega)
     · exact kv c0 c1 c2 (by simp <;> omega) (by simp <;> omega) (by simp <;> omega)
   | true =>
     rw [hdn] at c1 c3
     simp only [if_true] at c1 c3
     rcases hd4 with e | e | e | e <;> simp only [e] at c2 c3
     · exact kv c0 c1 c2 (by simp <;> omega) (by simp <;> omega) (by simp <;> omega)
     · exact kv c0 c1 c2 (by simp <;> omega) (by simp <;> omega) (by simp <;> omega)
     · exact kv c0 c1 c3 (by simp <;> omega) (by simp <;> omega) (by simp <;> omega)
     · exact kv c0 c1 c2 (by simp <;> omega) (by simp <;> omega) (by simp <;> omega)

theorem T3 (mk : df C) {m : Move} (hl : ep C m = true) (h2 : m.k = 2) : ep C (ka m) = true ∧ fe C m = fe C (ka m) ∧ eo C m.t = true ∧ 3 ≤ (fe C m).length := by
 have h1 : ¬ m.k = 1 := by omega
 have hf := rg hl
 obtain ⟨fx, fy⟩ := pq mk hf
 have hl0 := hl
 unfold ep at hl0
 rw [hf, Bool.true_and, if_neg h1, if_pos h2] at hl0
 simp only [Bool.and_eq_true, decide_eq_true_eq, List.all_eq_true] at hl0
 obtain ⟨hs, hn, hd, ht⟩ := hl0
 have e1 : du (m.f.x, m.f.y) = [(m.f.x, m.f.y), (m.f.x + 1, m.f.y), (m.f.x, m.f.y + 1), (m.f.x + 1, m.f.y + 1)] := by
   unfold du
   simp only
   rw [wr_s (by omega), wr_s (by omega)]
 have hft : eo C m.t = true := by
   rw [ht]
   unfold eo east u8
   simp only [Bool.and_eq_true]
   rw [e1] at hs
   refine ⟨hs _ (.head _), ?_⟩
   cases hdn : m.f.d with
   | false => simp only [Bool.not_false, if_true]; rw [wr_s (by omega)]; exact hs _ (.tail _ (.tail _ (.head _)))
   | true => simp only [Bool.not_true, Bool.false_eq_true, if_false]; rw [wr_s (by omega)]; exact hs _ (.tail _ (.head _))
 have etx : m.t.x = m.f.x ∧ m.t.y = m.f.y := by rw [ht]; exact ⟨rfl, rfl⟩
 have hlb : ep C (ka m) = true := by
   unfold ep
   rw [if_neg (show ¬ (ka m).k = 1 from h1), if_pos (show (ka m).k = 2 from h2)]
   simp only [Bool.and_eq_true, decide_eq_true_eq, List.all_eq_true]
   refine ⟨hft, ?_, hn, ?_, ?_⟩
   · show ∀ x ∈ du (m.t.x, m.t.y), _
     rw [etx.1, etx.2]
     exact hs
   · show (if m.k = 1 then _ else m.d) = 0
     rw [if_neg h1]; exact hd
   · show m.f = u8 m.t
     rw [ht]
     unfold u8
     simp
 refine ⟨hlb, ?_, hft, ?_⟩
 · unfold fe
   rw [if_pos hl, if_pos hlb]
   unfold o8
   rw [if_neg h1, if_pos h2, if_neg (show ¬ (ka m).k = 1 from h1), if_pos (show (ka m).k = 2 from h2)]
   show _ = kf _ _ (du (m.t.x, m.t.y))
   rw [etx.1, etx.2]
 · unfold fe o8
   rw [if_pos hl, if_neg h1, if_pos h2]
   have hin : ∀ x ∈ du (m.f.x, m.f.y), x ∈ kf (wC C) (kC C) (du (m.f.x, m.f.y)) := fun x hx => by
     rw [me]
     exact ⟨(B3 mk (hs x hx)).1, hx⟩
   rw [e1] at hin ⊢
   exact kv (hin _ (.head _)) (hin _ (.tail _ (.head _))) (hin _ (.tail _ (.tail _ (.head _)))) (by simp; omega) (by simp; omega) (by simp; omega)

theorem Yk (mk : df C) {p : Pose} (hp : PB p) {m : Move} (h : m ∈ xx C p) : m.f = p ∧ MB m ∧ MB (ka m) ∧ (m.k = 1 ∨ m.k = 2) ∧ (m.k = 1 → 0 ≤ m.d ∧ m.d ≤ 3) ∧ ep C m = true ∧ ep C (ka m) = true ∧ fe C m = fe C (ka m) ∧ eo C m.t = true ∧ 3 ≤ (fe C m).length := by
 have key : m.f = p ∧ ep C m = true ∧ (m.k = 1 ∨ m.k = 2) := by
   unfold xx at h
   split at h
   · rcases List.mem_append.1 h with h | h
     · obtain ⟨j, _, _, hj⟩ := Gv.1 h
       obtain ⟨n, _, _, e1, e2⟩ := U4 hj
       exact ⟨by rw [e1]; rfl, e2, .inl (by rw [e1]; rfl)⟩
     · split at h
       · rename_i hl
         simp at h
         exact ⟨by rw [h]; rfl, by rw [h]; exact hl, .inr (by rw [h]; rfl)⟩
       · cases h
   · cases h
 obtain ⟨ef, hl, hk⟩ := key
 have hall : ep C (ka m) = true ∧ fe C m = fe C (ka m) ∧ eo C m.t = true ∧ 3 ≤ (fe C m).length := by
   rcases hk with hk | hk
   · exact Yj mk hl hk
   · exact T3 mk hl hk
 have hn : Bd m.n := by
   rcases hk with hk | hk
   · obtain ⟨n1, n2, _⟩ := Cw mk hl hk
     unfold Bd; omega
   · have hl0 := hl
     unfold ep at hl0
     rw [if_neg (by omega), if_pos hk] at hl0
     simp only [Bool.and_eq_true, decide_eq_true_eq] at hl0
     rw [hl0.2.2.1]
     unfold Bd; omega
 obtain ⟨tx, ty⟩ := pq mk hall.2.2.1
 refine ⟨ef, ⟨hn, by rw [ef]; exact hp⟩, ⟨hn, ⟨by show Bd m.t.x; unfold Bd; omega, by show Bd m.t.y; unfold Bd; omega⟩⟩, hk, fun hk1 => (Cw mk hl hk1).2.2.1, hl, hall.1, hall.2.1, hall.2.2.1, hall.2.2.2⟩
end
end Go.Proofs.YtfflipnhffknnaaGreatDoor
end

section
namespace Go.Proofs.YtfflipnhffknnaaGreatDoor
open Go Go.HL Go.Proofs.Resv Go.Proofs.Srch
section
abbrev envC (C : Conf) (T : Tb) (r : Int) : Env Pose Move := envE C (wC C) (kC C) (f3C C) T r
variable {C : Conf}

theorem Qk (mk : df C) {T : Tb} (gt : jc T) {r : Int} : my (envC C T r) := Wm (q := ⟨C, wC C, kC C, f3C C, T, r⟩) mk gt

theorem xj {T : Tb} {r : Int} {p : Pose} {w : Move × Pose × Int × List Sp} (h : w ∈ (envC C T r).ways p) : ∃ m ∈ jb (wC C) (kC C) (f3C C) p, w = wayE C (wC C) (kC C) (f3C C) T r m := by
 obtain ⟨m, hm, rfl⟩ := List.mem_map.1 h
 exact ⟨m, hm, rfl⟩

theorem fits_pb (mk : df C) {p : Pose} (h : eo C p = true) : PB p := by
 obtain ⟨a, b⟩ := pq mk h
 exact ⟨by unfold Bd; omega, by unfold Bd; omega⟩

theorem Np (mk : df C) {p : Pose} {m : Move} (h : m ∈ jb (wC C) (kC C) (f3C C) p) : eo C p = true ∧ m ∈ xx C p ∧ m.f = p ∧ MB m ∧ MB (ka m) ∧ (m.k = 1 ∨ m.k = 2) ∧ (m.k = 1 → 0 ≤ m.d ∧ m.d ≤ 3) ∧ ep C m = true ∧ ep C (ka m) = true ∧ fe C m = fe C (ka m) ∧ eo C m.t = true ∧ ij (wC C) (kC C) (f3C C) m = fe C m := by
 have hf : eo C p = true := by
   unfold jb at h
   split at h
   · rename_i h1; rw [ny mk] at h1; exact h1
   · cases h
 have hp := fits_pb mk hf
 rw [U3 mk hp] at h
 obtain ⟨e1, e2, e3, e4, e5, e6, e7, e8, e9, _⟩ := Yk mk hp h
 exact ⟨hf, h, e1, e2, e3, e4, e5, e6, e7, e8, e9, T9 mk (by rw [e1]; exact hp)⟩

theorem Be (mk : df C) {p : Pose} (h : eo C p = true) : ∀ c ∈ bj p, inW (wC C) (kC C) c = true := fun c hc => (ly (by rw [ny mk]; exact h) c hc).1
theorem wk_of (mk : df C) : C.w = (wC C : Int) ∧ C.h = (kC C : Int) ∧ 1 ≤ wC C ∧ wC C ≤ 16 ∧ 1 ≤ kC C ∧ kC C ≤ 16 := by
 have hb := (Dc.1 mk).nums
 unfold lh at hb
 simp only [Bool.and_eq_true] at hb
 exact p9 (by simp_all) (by simp_all)
theorem wr16 {x : Int} (h : 0 ≤ x ∧ x < 16) : wr x = x := F9 (by unfold Bd; omega)
theorem Ck (mk : df C) {m : Move} (hl : ep C m = true) (hk : m.k = 1 ∨ m.k = 2) : ∀ c ∈ bj m.f, c ∈ fe C m := by
 have hf := rg hl
 have hin := Be mk hf
 intro c hc
 have h0 := fu.1 (hin c hc)
 unfold fe
 rw [if_pos hl, me]
 refine ⟨by omega, ?_⟩
 unfold o8
 by_cases h1 : m.k = 1
 · rw [if_pos h1, List.mem_flatMap]
   refine ⟨0, by simp, ?_⟩
   have e : dc m.f m.d ((0 : Nat) : Int) = m.f := by
     obtain ⟨ha, hb⟩ := pq mk hf
     unfold dc
     simp [wr16 ha, wr16 hb]
   rw [e]; exact hc
 · have h2 : m.k = 2 := by omega
   rw [if_neg h1, if_pos h2]
   rcases List.mem_cons.1 hc with rfl | hc
   · simp [du]
   · rw [List.mem_singleton] at hc; subst hc
     unfold east du
     split <;> simp

theorem Cm (mk : df C) {p : Pose} {m : Move} (h : m ∈ jb (wC C) (kC C) (f3C C) p) : (∀ c ∈ bj p, c ∈ ij (wC C) (kC C) (f3C C) m) ∧ (∀ c ∈ bj m.t, c ∈ ij (wC C) (kC C) (f3C C) m) ∧ ∀ c ∈ ij (wC C) (kC C) (f3C C) m, inW (wC C) (kC C) c = true := by
 obtain ⟨hf, hr, e1, e2, e3, e4, e5, e6, e7, e8, e9, e10⟩ := Np mk h
 rw [e10]
 refine ⟨fun c hc => Ck mk e6 e4 c (by rw [e1]; exact hc), fun c hc => ?_, fun c hc => ?_⟩
 · rw [e8]
   exact Ck mk e7 (by unfold ka; exact e4) c hc
 · unfold fe at hc
   rw [if_pos e6, me] at hc
   exact fu.2 (by omega)

theorem env_ris (mk : df C) {T : Tb} (gt : jc T) {r : Int} : xi (envC C T r) := by
 refine ⟨fun p => tc gt r _, fun p w hw => ?_, fun p w hw s hs => ?_⟩
 · obtain ⟨m, hm, rfl⟩ := xj hw
   exact tc gt r _
 · obtain ⟨m, hm, rfl⟩ := xj hw
   obtain ⟨_, h2, _⟩ := Cm mk hm
   refine Tf gt (fun n hn => ?_) hs
   obtain ⟨c, hc, rfl⟩ := List.mem_map.1 hn
   exact List.mem_map.2 ⟨c, h2 c hc, rfl⟩

theorem in_T (mk : df C) {n : Nat} (hn : (n : Int) = C.w * C.h) {c : Cell} (hc : inW (wC C) (kC C) c = true) : inT n (numI (wC C) (kC C) c) = true := by
 obtain ⟨e1, _, _, e4⟩ := qg hc
 obtain ⟨h1, h2, _⟩ := wk_of mk
 rw [B4, e1]
 have : ((wC C * kC C : Nat) : Int) = C.w * C.h := by rw [h1, h2]; simp
 omega

theorem Wn (mk : df C) {n : Nat} (hn : (n : Int) = C.w * C.h) {r : Int} : Flat (envC C (List.replicate n []) r) 16000 := by
 refine ⟨fun p hp => ?_, fun p hp w hw => ?_⟩
 · refine G8 fun x hx => ?_
   obtain ⟨c, hc, rfl⟩ := List.mem_map.1 hx
   exact in_T mk hn (Be mk (by rw [← ny mk]; exact hp) c hc)
 · obtain ⟨m, hm, rfl⟩ := xj hw
   obtain ⟨_, _, h3⟩ := Cm mk hm
   obtain ⟨l1, l2⟩ := Dg mk hm
   refine ⟨G8 fun x hx => ?_, l1, l2, ?_⟩
   · obtain ⟨c, hc, rfl⟩ := List.mem_map.1 hx
     exact in_T mk hn (h3 c hc)
   · show bn (wC C) (kC C) (f3C C) m.t = true
     rw [ny mk]
     exact (Np mk hm).2.2.2.2.2.2.2.2.2.2.1
end
section
variable {C : Conf}

inductive Out (C : Conf) (T : Tb) (r : Int) (p : Pose) (t : Int) (gp : Pose) (any : Bool) : Res Move → Prop where
 | ok {l : List Move} {q : Pose} {i : Nat} {a : Int} {s : Sp} (w : Wk (envC C T r) p t l q i a) (hs : ((envC C T r).spans q)[i]? = some s) (h1 : s.1 ≤ a) (h2 : a < s.2) (g : js gp any q s = true)
     (best : ∀ p' i' t' s', Rc (envC C T r) p t p' i' t' → ((envC C T r).spans p')[i']? = some s' → js gp any p' s' = true → a ≤ t') : Out C T r p t gp any (.ok l)
 | route (h : (inside ((envC C T r).spans p) t).isSome = true) (none : ∀ p' i' t' s', Rc (envC C T r) p t p' i' t' → ((envC C T r).spans p')[i']? = some s' → js gp any p' s' = false) : Out C T r p t gp any (.no 6)
 | budget : Out C T r p t gp any (.no 7)
 | taken (h : inside ((envC C T r).spans p) t = none) : Out C T r p t gp any (.no 18)

theorem Vq (mk : df C) {T : Tb} (gt : jc T) {r : Int} {p gp : Pose} {t : Int} {any : Bool} {n : Nat} (hp : bn (wC C) (kC C) (f3C C) p = true) : Out C T r p t gp any (find (envC C T r) (js gp any) p t zM n) := by
 have ris := env_ris mk gt (r := r)
 rcases Vr (Qk mk gt (r := r)) ris (goal := js gp any) (t0 := t) (z := zM) (p0 := p) hp n with ⟨h, h2⟩ | ⟨h0, ⟨lo', S', k, x, h1, v, hk, hg, hb⟩ | ⟨h1, h2⟩ | h1⟩
 · rw [h]; exact .taken h2
 · rw [h1]
   obtain ⟨a1, a2, a3⟩ := v.at_ x (List.mem_of_getElem? hk)
   exact .ok (path_wk ris v hk) a1 a2 a3 hg hb
 · rw [h1]; exact .route h0 h2
 · rw [h1]; exact .budget

abbrev Bm (C : Conf) (T : Tb) (rb : Int) (p : Pose) (t : Int) (gp : Pose) (any : Bool) : Prop := (T.length : Int) ≠ C.w * C.h ∨ rb < 0 ∨ t < 0 ∨ t ≥ FV ∨ bn (wC C) (kC C) (f3C C) p = false ∨ aimB C gp any = false

theorem wg {T : Tb} {rb t : Int} {p gp : Pose} {any : Bool} (h : Bm C T rb p t gp any) : ku C (some T) rb p t gp any = .no 1 := by
 unfold ku
 exact if_pos h
theorem Dp {T : Tb} {rb t : Int} {p gp : Pose} {any : Bool} (h : ¬ Bm C T rb p t gp any) : ku C (some T) rb p t gp any = find (envC C T rb) (js gp any) p t zM C.bu.toNat := by
 unfold ku
 exact if_neg h

def shM (by_ : Int) (m : Move) : Move := { m with a := m.a + by_, e := m.e + by_ }
theorem Me (mk : df C) (hbu : C.bu ≤ 4000) {n : Nat} (hn : (n : Int) = C.w * C.h) {rb t by_ : Int} {p gp : Pose} {any : Bool} (h0 : 0 ≤ t) (h1 : t < 1073741824) (h2 : 0 ≤ by_) (h3 : by_ < 1073741824) :
   ku C (some (List.replicate n [])) rb p (t + by_) gp any = shR (shM by_) (ku C (some (List.replicate n [])) rb p t gp any) := by
 by_cases h : Bm C (List.replicate n []) rb p t gp any
 · rw [wg h, wg]
   · rfl
   · unfold Bm at *
     rcases h with h | h | h | h | h | h
     · exact .inl h
     · exact .inr (.inl h)
     · omega
     · unfold FV at h; omega
     · exact .inr (.inr (.inr (.inr (.inl h))))
     · exact .inr (.inr (.inr (.inr (.inr h))))
 · rw [Dp h, Dp]
   · have hp : bn (wC C) (kC C) (f3C C) p = true := by
       cases hf : bn (wC C) (kC C) (f3C C) p with
       | true => rfl
       | false => exact absurd (.inr (.inr (.inr (.inr (.inl hf))))) h
     refine N6 (D := 16000) (by decide) (Wn mk hn) (fun w a e => rfl) h2 hp h0 ?_
     have : ((C.bu.toNat : Int) + 1) * 16000 ≤ 4001 * 16000 := Int.mul_le_mul_of_nonneg_right (by omega) (by decide)
     unfold FV
     omega
   · unfold Bm at *
     rintro (h' | h' | h' | h' | h' | h')
     · exact h (.inl h')
     · exact h (.inr (.inl h'))
     · omega
     · unfold FV at h'; omega
     · exact h (.inr (.inr (.inr (.inr (.inl h')))))
     · exact h (.inr (.inr (.inr (.inr (.inr h')))))

theorem args_no {T : Tb} {rb t : Int} {p gp : Pose} {any : Bool} (h : ¬ Bm C T rb p t gp any) : (T.length : Int) = C.w * C.h ∧ 0 ≤ rb ∧ 0 ≤ t ∧ t < FV ∧ bn (wC C) (kC C) (f3C C) p = true ∧ aimB C gp any = true := by
 unfold Bm at h
 simp only [not_or, Decidable.not_not, Bool.not_eq_false] at h
 obtain ⟨a, b, c, d, e, f⟩ := h
 exact ⟨a, by omega, by omega, by omega, e, f⟩
end
section
variable {C : Conf}

def R6 (C : Conf) (T : Tb) (r : Int) (L : List Cell) (a b : Int) : Prop := ∀ c ∈ L, inT T.length (numI (wC C) (kC C) c) = true ∧ og (rowT T (numI (wC C) (kC C) c)) r a b = true

def Aw (p : Pose) (l : List Move) : Nat → Pose
 | 0 => p
 | j + 1 => (l.getD j zM).t
def ld (t : Int) (l : List Move) : Nat → Int
 | 0 => t
 | j + 1 => (l.getD j zM).e

structure MvOk (C : Conf) (T : Tb) (r : Int) (P : Pose) (N : Int) (m : Move) : Prop where
 k : m.k = 1 ∨ m.k = 2
 nb : Bd m.n
 leg : ep C m = true
 f : m.f = P
 n0 : 0 ≤ N
 at_ : N ≤ m.a
 e : m.e = m.a + fi C m
 e2 : m.a < m.e ∧ m.e < FV
 stand : R6 C T r (bj P) N m.a
 go : R6 C T r (fe C m) m.a m.e
 to : eo C m.t = true

theorem Gi {p : Pose} {l : List Move} {m : Move} {j : Nat} (h : j ≤ l.length) : Aw p (l ++ [m]) j = Aw p l j := by
 cases j with
 | zero => rfl
 | succ j =>
   show ((l ++ [m]).getD j zM).t = (l.getD j zM).t
   rw [List.getD_eq_getElem?_getD, List.getD_eq_getElem?_getD, List.getElem?_append_left (by omega)]
theorem Gp {t : Int} {l : List Move} {m : Move} {j : Nat} (h : j ≤ l.length) : ld t (l ++ [m]) j = ld t l j := by
 cases j with
 | zero => rfl
 | succ j =>
   show ((l ++ [m]).getD j zM).e = (l.getD j zM).e
   rw [List.getD_eq_getElem?_getD, List.getD_eq_getElem?_getD, List.getElem?_append_left (by omega)]

theorem wk_all (mk : df C) {T : Tb} (gt : jc T) {r : Int} {p q : Pose} {t a : Int} {l : List Move} {i : Nat} (hp : eo C p = true) (ht : 0 ≤ t) (w : Wk (envC C T r) p t l q i a) :
   (∀ j m, l[j]? = some m → MvOk C T r (Aw p l j) (ld t l j) m) ∧ q = Aw p l l.length ∧ a = ld t l l.length ∧ eo C q = true ∧ 0 ≤ a := by
 induction w with
 | nil h => exact ⟨fun j m hm => by simp at hm, rfl, rfl, hp, ht⟩
 | @snoc l q i j a s0 s w h h0 ha1 ha2 hw hs h1 h2 he he2 hj ih =>
   obtain ⟨ih1, rfl, rfl, ih4, ih5⟩ := ih
   obtain ⟨m, hm, rfl⟩ := xj hw
   obtain ⟨hf, hr, e1, e2, e3, e4, e5, e6, e7, e8, e9, e10⟩ := Np mk hm
   obtain ⟨l1, l2⟩ := Dg mk hm
   have es := sum_ge2 (show 0 ≤ max (ld t l l.length) s.1 by omega) (show 0 ≤ fi C m by omega) he2
   have e11 : (l ++ [si m (max (ld t l l.length) s.1) (sumI (max (ld t l l.length) s.1) (fi C m))]).getD l.length zM = si m (max (ld t l l.length) s.1) (sumI (max (ld t l l.length) s.1) (fi C m)) := by
     rw [List.getD_eq_getElem?_getD, List.getElem?_append_right (Nat.le_refl _)]; simp
   have hb := (Qk mk gt (r := r)).pos _ s0 (List.mem_of_getElem? h0)
   have hsum : sumI (max (ld t l l.length) s.1) (fi C m) ≤ s.2 := he
   have hsum2 : sumI (max (ld t l l.length) s.1) (fi C m) < FV := he2
   refine ⟨fun j m' hm' => ?_, ?_, ?_, e9, ?_⟩
   · by_cases hjl : j < l.length
     · rw [List.getElem?_append_left hjl] at hm'
       rw [Gi (by omega), Gp (by omega)]
       exact ih1 j m' hm'
     · have hjl' : j = l.length := by
         have := (List.getElem?_eq_some_iff.1 hm').1
         simp at this
         omega
       subst hjl'
       rw [Gi (Nat.le_refl _), Gp (Nat.le_refl _)]
       rw [List.getElem?_append_right (Nat.le_refl _)] at hm'
       simp at hm'
       subst hm'
       refine ⟨e4, e2.1, e6, e1, ih5, by show ld t l l.length ≤ max (ld t l l.length) s.1; omega, es, ⟨?_, hsum2⟩, fun c hc => ?_, fun c hc => ?_, e9⟩
       · show max (ld t l l.length) s.1 < sumI (max (ld t l l.length) s.1) (fi C m)
         omega
       · refine Dl gt (List.mem_of_getElem? h0) ha1 (show max (ld t l l.length) s.1 ≤ s0.2 by omega) _ (List.mem_map.2 ⟨c, hc, rfl⟩)
       · refine Dl gt hs (show s.1 ≤ max (ld t l l.length) s.1 by omega) hsum _ (List.mem_map.2 ⟨c, ?_, rfl⟩)
         rw [e10]
         exact hc
   · rw [List.length_append]
     exact (congrArg Move.t e11).symm
   · rw [List.length_append]
     exact (congrArg Move.e e11).symm
   · show 0 ≤ sumI (max (ld t l l.length) s.1) (fi C m)
     omega

theorem R6.span {T : Tb} (gt : jc T) {r a b : Int} {L : List Cell} (h : R6 C T r L a b) (h0 : 0 ≤ a) (h1 : a < b) (h2 : b ≤ FV) : ∃ s ∈ ia T r (L.map (numI (wC C) (kC C))), s.1 ≤ a ∧ b ≤ s.2 :=
 M9 gt h0 h1 h2 fun n hn => by
   obtain ⟨c, hc, rfl⟩ := List.mem_map.1 hn
   exact h c hc

theorem Th (mk : df C) {T : Tb} (gt : jc T) {rb t : Int} {p gp : Pose} {any : Bool} {l : List Move} (h : ku C (some T) rb p t gp any = .ok l) :
   ((T.length : Int) = C.w * C.h ∧ 0 ≤ rb ∧ 0 ≤ t ∧ t < FV ∧ eo C p = true) ∧ (∀ j m, l[j]? = some m → MvOk C T rb (Aw p l j) (ld t l j) m) ∧ ∃ s : Sp, s ∈ (envC C T rb).spans (Aw p l l.length) ∧ s.1 ≤ ld t l l.length ∧ ld t l l.length < s.2 ∧ js gp any (Aw p l l.length) s = true ∧ eo C (Aw p l l.length) = true ∧ 0 ≤ ld t l l.length := by
 have ha : ¬ Bm C T rb p t gp any := fun ha => by rw [wg ha] at h; cases h
 obtain ⟨c1, c2, c3, c4, c5, c6⟩ := args_no ha
 have hf : eo C p = true := by rw [← ny mk]; exact c5
 rw [Dp ha] at h
 have o1 := Vq mk gt (r := rb) (gp := gp) (t := t) (any := any) (n := C.bu.toNat) c5
 rw [h] at o1
 cases o1 with
 | ok w hs h1 h2 g best =>
   obtain ⟨w1, rfl, rfl, w4, w5⟩ := wk_all mk gt hf c3 w
   exact ⟨⟨c1, c2, c3, c4, hf⟩, w1, _, List.mem_of_getElem? hs, h1, h2, g, w4, w5⟩
theorem Vs (mk : df C) {T : Tb} (gt : jc T) {rb t : Int} {p gp : Pose} {any : Bool} {m : Move} (hm : m ∈ outL (ku C (some T) rb p t gp any)) : 0 ≤ m.a ∧ m.a < m.e ∧ m.e < FV := by
 cases h : ku C (some T) rb p t gp any with
 | no e => rw [h] at hm; cases hm
 | ok l =>
   rw [h] at hm
   obtain ⟨_, h1, _⟩ := Th mk gt h
   obtain ⟨j, hj⟩ := List.getElem?_of_mem hm
   have := h1 j m hj
   have a1 := this.n0
   have a2 := this.at_
   have a3 := this.e2
   omega
end
theorem Uf {C : Conf} (sm : SmO C) : 1 ≤ C.w * C.h ∧ C.w * C.h ≤ 36 ∧ IntKind.i64.wrap (C.w * C.h) = (((C.w * C.h).toNat : Nat) : Int) ∧ (((C.w * C.h).toNat : Nat) : Int) = C.w * C.h := by
 have hnb : 1 ≤ C.w ∧ 1 ≤ C.h := by
   have hb := sm.may.nums
   unfold lh ax at hb
   simp only [Bool.and_eq_true, decide_eq_true_eq] at hb
   omega
 obtain ⟨hw1, hh1⟩ := hnb
 have b2 : C.w * C.h ≤ 6 * 6 := Int.mul_le_mul sm.w sm.h (by omega) (by omega)
 have b1 : 1 * 1 ≤ C.w * C.h := Int.mul_le_mul hw1 hh1 (by omega) (by omega)
 refine ⟨by omega, by omega, ?_, by omega⟩
 rw [mq (by omega) (by omega)]; omega

theorem TabV.up {G h h' : Hp} {vt : Value} {To : Option Tb} (t : TabV G h vt To) (l : h.le h') (d : Dis G h') : TabV G h' vt To := by
 cases To with
 | none => exact t
 | some T => obtain ⟨tp, e, ts, x⟩ := t; exact ⟨tp, e, ts.up l d, x⟩

structure FindO (G : Hp) (h : Hp) (W : Res Move) (u : Value) (h' : Hp) : Prop where
 ex : ∃ ip vs, u = .tuple #[vs, .int .i64 (outE W)] ∧ Slc jg 48 ip vs (outL W) ∧ (outL W).length ≤ 110000 ∧ HL.Sep [ip, h] h' ∧ Dis G h'

theorem Hc {G h : Hp} {C : Conf} {v vt : Value} {To : Option Tb} {p gp : Pose} {rb t : Int} {any : Bool} (mk : df C) (hv : CV G h v C) (st : iq G) (hro : ∀ p ∈ C.ro, PB p) (fit : Fit0 C) (hbu : C.bu ≤ 4000)
   (tv : TabV G h vt To) (hp : PB p) (hgp : PB gp) :
   am P_ G 27 #[v, vt, .int .i64 rb, jn p, .int .i64 t, .agg #[.int .i64 gp.x, .int .i64 gp.y, .bool gp.d, .bool any]] h (FindO G h (ku C To rb p t gp any)) := by
 refine (Hb hv st hro (by have := fit.st; unfold Room at this; omega) (fun _ => hbu) tv hp hgp).mono ?_
 rintro u h' ⟨W, ⟨ip, vs, e1, e2, e3, e4, e5⟩, ⟨hno, _⟩ | ⟨_, rfl⟩⟩
 · exact absurd mk hno
 · exact ⟨ip, vs, e1, e2, e3, e4, e5⟩
def ii := jq (jq (jq (jq @Bool.and_self (jq @al48 @Tw)) (jq @beq_self_eq_true.{0} (jq @bne_self_eq_false.{0} @cf21))) (jq (jq @cf23 (jq @cf24 @cf25)) (jq (jq @cf27 @cf28) (jq @Qi @Aj)))) (jq (jq (jq @Dt (jq @N9 @N8)) (jq @ld26 (jq @Lj @ld3))) (jq (jq @ve (jq @ld48 @ld48p)) (jq (jq @ln40 @ne48p) (jq @st3s @Kk))))
theorem outE_sh {f : Move → Move} {W : Res Move} : outE (shR f W) = outE W := by cases W <;> rfl
theorem outL_sh {f : Move → Move} {W : Res Move} : outL (shR f W) = (outL W).map f := by cases W <;> rfl
set_option maxHeartbeats 8000000 in
theorem Nx {G : Hp} {v : Value} {C : Conf} {p g : Pose} {a0 b0 : Int} {any : Bool} (pp : PB p) (pg : PB g) (ba : Bd a0) (bb : Bd b0) (st : iq G) (hv : CV G noHp v C) (fit : Fit0 C) (hro : ∀ p ∈ C.ro, PB p) :
   am P_ G 4 #[v, jn p, .int .i64 a0, .int .i64 b0, jn g, .bool any] noHp (fun u _ => u = .bool true) := by
 have hv0 := hv
 obtain ⟨ab, cb, ap, cp, ar, cr, az, cs, rfl, ca⟩ := hv
 refine am.assume fun d => enter4 (by simp) ?_
 unfold S4
 simp only [bC, ii]
 intro xc hxc gxc x1 hx1 gx1 x2 hx2 gx2
 generalize e1 : Hp.set noHp xc _ = h1 at *
 obtain ⟨l1, d1, q1⟩ := boxed e1 hxc d gxc
 generalize e2 : Hp.set h1 x1 _ = h2 at *
 obtain ⟨l2, d2, q2⟩ := boxed e2 hx1 d1 gx1
 generalize e3 : Hp.set h2 x2 _ = hz at *
 obtain ⟨l3, dz, q3⟩ := boxed e3 hx2 d2 gx2
 have L := l1.trans (l2.trans (l3))
 have bc := l3 _ _ (l2 _ _ (q1))
 have b1 := l3 _ _ (q2)
 have b2 := q3
 have cc : ∀ {h' : Hp}, hz.le h' → ∀ k, aa G h' ⟨xc, k, none⟩ = _ := fun l k => aj (ai (l _ _ bc))
 have c1 : ∀ {h' : Hp}, hz.le h' → ∀ k, aa G h' ⟨x1, k, none⟩ = _ := fun l k => aj (ai (l _ _ b1))
 have c2 : ∀ {h' : Hp}, hz.le h' → ∀ k, aa G h' ⟨x2, k, none⟩ = _ := fun l k => aj (ai (l _ _ b2))
 have ca0 := ca.up L dz
 have lz := Hp.le.refl hz
 have aw : ∀ {h : Hp} {K : VK}, (∀ h', K (.bool true) h') → am P_ G 23 #[] h K := fun hK => (awake12 st).mono fun u h' e => by rw [e.1]; exact hK h'
 try simp only [bC, ii, cc lz]
 refine (small12 ca0.cv).mono ?_
 rintro _ hz ⟨⟨b, rfl, hb⟩, rfl⟩
 cases b with
 | false =>
   try simp only [bC, ii, gh]
   exact aw fun h' => by simp only [bC, ii]
 | true =>
 have sm := hb rfl
 have mk : df C := Dc.2 sm.may
 obtain ⟨n1, n2, n3, n4⟩ := Uf sm
 try simp only [bC, ii]
 unfold S4_k1
 try simp (disch := decide) only [bC, ii]
 refine (C6 (a := a0) (n := 1073741824) ba (by decide) (by decide)).mono ?_
 rintro _ hz ⟨rfl, rfl⟩
 have at_0 := Int.emod_nonneg a0 (by decide : (1073741824 : Int) ≠ 0)
 have at_1 := Int.emod_lt_of_pos a0 (by decide : (0 : Int) < 1073741824)
 generalize a0 % 1073741824 = at_ at at_0 at_1 ⊢
 try simp (disch := first | decide | omega) only [bC, ii, Nat.reduceAdd, Nat.reduceMul]
 refine (C6 (a := b0) (n := 1073741824) bb (by decide) (by decide)).mono ?_
 rintro _ hz ⟨rfl, rfl⟩
 have by_0 := Int.emod_nonneg b0 (by decide : (1073741824 : Int) ≠ 0)
 have by_1 := Int.emod_lt_of_pos b0 (by decide : (0 : Int) < 1073741824)
 generalize b0 % 1073741824 = by_ at by_0 by_1 ⊢
 try simp (disch := first | decide | omega) only [bC, ii, cc lz]
 first | rw [n3] | rw [← n4]
 generalize hn : (C.w * C.h).toNat = n at *
 refine (Rv.qk (n := n) (by omega) (by omega)).mono ?_
 rintro _ t5 ⟨ta5, tp5, rfl, tab5, st5, dt5⟩
 have lt5 := st5.in 1 rfl
 have tv5 : ∀ {h' : Hp}, t5.le h' → Dis G h' → TabV G h' (.pointer (some ⟨tp5, 0, none⟩)) (some (List.replicate n [])) := fun l d => ⟨tp5, rfl, (tab5.see (st5.in 0 rfl)).up l d, wd, Mf⟩
 try simp (disch := decide) only [bC, ii]
 unfold S4_k2
 try simp -implicitDefEqProofs (maxSteps := 2000000) (disch := first | decide | with_reducible exact Nat.ne_of_beq_eq_false rfl | exact bf | exact au | omega | rfl | (simp; done) | fail) only [bC, ii, cc lt5]
 refine (vg (ca0.up lt5 dt5).cv fit).mono ?_
 rintro u6 k6 ⟨⟨_, _, _, _, _, _, _, _, co6⟩, dk6⟩
 have lk6 : t5.le k6 := co6.sep.in 4 rfl
 refine ⟨lk6, ?_⟩
 try simp only [bC, ii, c1 lt5, c2 lt5]
 refine (Hc (To := some (List.replicate n [])) (p := p) (gp := g) (rb := 1) (t := at_) (any := any) mk (co6.cv (Hp.le.refl _)) st hro fit sm.bu (tv5 lk6 dk6) pp pg).mono ?_
 rintro _ m6 ⟨ip6, vs6, rfl, sl6, ll6, sm6, dm6⟩
 have lm6 : t5.le m6 := lk6.trans (sm6.in 1 rfl)
 have la6 : hz.le m6 := lt5.trans lm6
 try simp only [bC, ii, cc la6]
 refine (vg (ca0.up la6 dm6).cv fit).mono ?_
 rintro u7 k7 ⟨⟨_, _, _, _, _, _, _, _, co7⟩, dk7⟩
 have lk7 : m6.le k7 := co7.sep.in 4 rfl
 refine ⟨lk7, ?_⟩
 try simp only [bC, ii, c1 la6, c2 la6]
 refine (Hc (To := some (List.replicate n [])) (p := p) (gp := g) (rb := 1) (t := at_ + by_) (any := any) mk (co7.cv (Hp.le.refl _)) st hro fit sm.bu (tv5 (lm6.trans lk7) dk7) pp pg).mono ?_
 rintro _ m7 ⟨ip7, vs7, rfl, sl7, ll7, sm7, dm7⟩
 have lm7 : m6.le m7 := lk7.trans (sm7.in 1 rfl)
 rw [Me mk sm.bu (by omega) at_0 at_1 by_0 by_1] at sl7 ⊢
 have hbd : ∀ m ∈ outL (ku C (some (List.replicate n [])) 1 p at_ g any), (-4611686018427387904 ≤ m.a ∧ m.a ≤ 4611686018427387904) ∧ (-4611686018427387904 ≤ m.e ∧ m.e ≤ 4611686018427387904) := fun m hm => by
   have := Vs mk wd hm
   unfold FV at this
   omega
 generalize ku C (some (List.replicate n [])) 1 p at_ g any = W at sl6 sl7 ll6 ll7 hbd ⊢
 rw [outL_sh] at sl7
 obtain ⟨sa6, cap6, rfl, _⟩ := sl6.len (by decide)
 obtain ⟨sa7, cap7, rfl, _⟩ := sl7.len (by decide)
 simp only [outE_sh, List.length_map] at sl7 ⊢
 generalize outL W = M at sl6 sl7 ll6 hbd ⊢
 try simp only [bC, ii, show (outE W != outE W) = false from bne_self_eq_false _, show ((M.length : Int) != (M.length : Int)) = false from bne_self_eq_false _]
 unfold S4_k3
 generalize hKK : retK P_ G _ _ = KK
 have see6 : ∀ {h' : Hp}, m7.le h' → Dis G h' → Sees jg G h' (.slice sa6 M.length cap6) M := fun l d => (sl6.sees (by decide) ((sm6.in 0 rfl).trans (lm7.trans l)))
 have see7 : ∀ {h' : Hp}, m7.le h' → Dis G h' → Sees jg G h' (.slice sa7 M.length cap7) (M.map (shM by_)) := fun l d => by
   have := sl7.sees (G := G) (by decide) ((sm7.in 0 rfl).trans l)
   simpa using this
 refine di (fun m r h' => ∃ i : Nat, m = M.length - i ∧ i ≤ M.length ∧ r 3 = .int .i64 by_ ∧ r 15 = .slice sa6 M.length cap6 ∧ r 17 = .slice sa7 M.length cap7 ∧ r 19 = .int .i64 i ∧ m7.le h' ∧ Dis G h') ?_ (m := M.length)
   ⟨0, rfl, by omega, by simp (disch := decide) only [bC, ii], by simp (disch := decide) only [bC, ii], by simp (disch := decide) only [bC, ii], by simp only [bC, ii]; rfl, Hp.le.refl _, dm7⟩
 rintro m r h' ⟨i, rfl, hi, g3, g15, g17, g19, l', d'⟩ X hX
 unfold S4_l5
 simp only [bC, ii, g15, g19]
 refine bo (fun hlt => ?_) (fun hge => ?_)
 rotate_left
 · try simp (disch := first | decide | omega) only [bC, ii, Nat.reduceAdd, Nat.reduceMul]
   unfold S4_k4
   rw [← hKK]
   try simp only [bC, ii]
   exact aw fun h' => by simp only [bC, ii]
 obtain ⟨y, hy⟩ : ∃ y, M[i]? = some y := ⟨_, List.getElem?_eq_getElem (by omega)⟩
 obtain ⟨⟨by1, by2⟩, by3, by4⟩ := hbd y (List.mem_of_getElem? hy)
 obtain ⟨b, o, c, e1, x⟩ := (see6 l' d').get hy
 simp only [Value.slice.injEq] at e1
 obtain ⟨rfl, -, -⟩ := e1
 have y0 := x 0 (by decide)
 have y1 := x 1 (by decide)
 have y2 := x 2 (by decide)
 have y3 := x 3 (by decide)
 have y4 := x 4 (by decide)
 have y5 := x 5 (by decide)
 have y6 := x 6 (by decide)
 have y7 := x 7 (by decide)
 have y8 := x 8 (by decide)
 have y9 := x 9 (by decide)
 have y10 := x 10 (by decide)
 simp only [jg, Nat.add_zero, List.getElem?_cons_zero, List.getElem?_cons_succ] at y0 y1 y2 y3 y4 y5 y6 y7 y8 y9 y10
 unfold M7
 simp (disch := first | decide | exact bf | exact au | omega | rfl) only [bC, ii, g15, g19, ix40 (Int.natCast_nonneg i) hlt, y0, y1, y2, y3, y4, y5, y6, y7, y8, y9, y10]
 intro z hz_ gz_
 try simp (disch := first | decide | omega) only [bC, ii, Nat.reduceAdd, Nat.reduceMul]
 generalize ez : Hp.set h' z _ = k1
 obtain ⟨lz1, dk1, bz⟩ := boxed ez hz_ d' gz_
 try simp (disch := first | decide | omega) only [bC, ii, g3]
 rw [da sz3 rfl bz (by simp)]
 try simp -implicitDefEqProofs (maxSteps := 2000000) (disch := first | decide | with_reducible exact Nat.ne_of_beq_eq_false rfl | exact bf | exact au | omega | rfl | (simp; done) | fail) only [bC, ii]
 rw [← ez, set_set]
 generalize ez2 : Hp.set h' z _ = k2
 obtain ⟨lz2, dk2, bz2⟩ := boxed ez2 hz_ d' gz_
 have hy2 : (M.map (shM by_))[i]? = some (shM by_ y) := by rw [List.getElem?_map, hy]; rfl
 obtain ⟨b2, o2, c2', e2', x2_⟩ := (see7 (l'.trans lz2) dk2).get hy2
 simp only [Value.slice.injEq] at e2'
 obtain ⟨rfl, -, -⟩ := e2'
 have w0 : aa G k2 ⟨b2, o2 + i * 11, none⟩ = some (.int .i64 y.k) := x2_ 0 (by decide)
 have w1 : aa G k2 ⟨b2, o2 + i * 11 + 1, none⟩ = some (.int .i64 y.d) := x2_ 1 (by decide)
 have w2 : aa G k2 ⟨b2, o2 + i * 11 + 2, none⟩ = some (.int .i64 y.n) := x2_ 2 (by decide)
 have w3 : aa G k2 ⟨b2, o2 + i * 11 + 3, none⟩ = some (.int .i64 y.f.x) := x2_ 3 (by decide)
 have w4 : aa G k2 ⟨b2, o2 + i * 11 + 4, none⟩ = some (.int .i64 y.f.y) := x2_ 4 (by decide)
 have w5 : aa G k2 ⟨b2, o2 + i * 11 + 5, none⟩ = some (.bool y.f.d) := x2_ 5 (by decide)
 have w6 : aa G k2 ⟨b2, o2 + i * 11 + 6, none⟩ = some (.int .i64 y.t.x) := x2_ 6 (by decide)
 have w7 : aa G k2 ⟨b2, o2 + i * 11 + 7, none⟩ = some (.int .i64 y.t.y) := x2_ 7 (by decide)
 have w8 : aa G k2 ⟨b2, o2 + i * 11 + 8, none⟩ = some (.bool y.t.d) := x2_ 8 (by decide)
 have w9 : aa G k2 ⟨b2, o2 + i * 11 + 9, none⟩ = some (.int .i64 (y.a + by_)) := x2_ 9 (by decide)
 have w10 : aa G k2 ⟨b2, o2 + i * 11 + 10, none⟩ = some (.int .i64 (y.e + by_)) := x2_ 10 (by decide)
 simp (disch := decide) only [bC, ii, g17, g19, ix40p (Int.natCast_nonneg i) (show (i : Int) < M.length from hlt), w0, w1, w2, w3, w4, w5, w6, w7, w8, w9, w10]
 unfold M6
 simp (disch := first | decide | exact bf | exact au | omega | rfl) only [bC, ii, g19]
 exact hX (M.length - (i + 1)) _ _ (by omega) ⟨i + 1, rfl, by omega, by simp (disch := first | decide | omega) only [bC, ii, g3], by simp (disch := first | decide | omega) only [bC, ii, g15], by simp (disch := first | decide | omega) only [bC, ii, g17], by simp (disch := decide) only [bC, ii]; rfl, l'.trans lz2, dk2⟩
end Go.Proofs.YtfflipnhffknnaaGreatDoor
end

section
namespace Go.Proofs.YtfflipnhffknnaaGreatDoor
open Go Go.HL Go.ChangeShapes Go.WideShapes Go.RowKit
theorem Uu : ownKnob P_.godebug = none := by kernel_rfl
theorem Vd : laidOutB P_ = true := by kernel_rfl
theorem Vk : P_.globalNamed "skep/grid.steps" = some 0 := by kernel_rfl
theorem tSteps : (P_.globals[0]?).map (·.type) = some 245 := by kernel_rfl

abbrev G0 : List (String × DataW Unit) := [("skep/grid.steps", Rows.laid_skep_grid_steps)]

theorem Xy (os : Os) (args : Array Value) : laidMetH P_ G0 ((World.doorLaid P_ 400 os).forCall (fun _ _ => 0) ⟨#[], args, []⟩).memory :=
 laidMetH_of_parts3 (fuel := 8) (laidMet_of_run' 8 (by kernel_rfl) (by kernel_rfl)) (by kernel_rfl) (by kernel_rfl)

theorem Mq {H : Type} {enc : TypeId × Value → H} {P : Program} {w : World} {base : Nat} {spare : Nat → Bool} {held : Bool} {e : TypeId} {fuel : Nat} {cs : List Value} {y : DataW H × List MemPlace} {tos : List (TypeId × Nat)} (ht : fc P e = some tos)
   (h : DataW.trod enc P w base spare held fuel e cs = some y) : cs.length = P.cellsOf e ∧ ∃ (xs : List (DataW H × List MemPlace)) (m : Nat), y = (.agg (xs.map (·.1)), xs.flatMap (·.2)) ∧ xs.length = tos.length ∧ ∀ (i : Nat) (t o : Nat), tos[i]? = some (t, o) → DataW.trod enc P w base spare held m t ((cs.drop o).take (P.cellsOf t)) = xs[i]? := by
 unfold fc at ht
 split at ht
 · rename_i fs hfs
   obtain ⟨xs, n, _, h0, h1, h2, h3⟩ := DataW.trod_struct hfs h
   simp only [Option.some.injEq] at ht
   subst ht
   refine ⟨h1, xs, n, h0, by simp [h2], fun i t o hi => ?_⟩
   rw [List.getElem?_map, Array.getElem?_toList] at hi
   cases q : fs[i]? with
   | none => rw [q] at hi; cases hi
   | some f =>
     rw [q] at hi
     simp only [Option.map_some, Option.some.injEq, Prod.mk.injEq] at hi
     obtain ⟨rfl, rfl⟩ := hi
     exact h3 i f q
 · cases ht

theorem un3i : P_.underlying 3 = some (.int .i64) := by kernel_rfl
theorem c3 : P_.cellsOf 3 = 1 := by kernel_rfl
theorem c28 : P_.cellsOf 28 = 2 := by kernel_rfl
theorem c81 : P_.cellsOf 245 = 8 := by kernel_rfl
theorem sf28 : fc P_ 28 = some [(3, 0), (3, 1)] := by kernel_rfl

theorem xq {H : Type} {enc : TypeId × Value → H} {w : World} {base : Nat} {spare : Nat → Bool} {held : Bool} {m : Nat} {cs : List Value} {x : DataW H × List MemPlace} {a b : Int}
   (h : DataW.trod enc P_ w base spare held m 28 cs = some x) (e : x.1 = .agg [.lit (.int .i64 a), .lit (.int .i64 b)]) : cs = [.int .i64 a, .int .i64 b] := by
 obtain ⟨hl, xs, n, rfl, hxl, d⟩ := Mq sf28 h
 rw [c28] at hl
 match cs, hl, xs, hxl with
 | [v0, v1], _, [x0, x1], _ =>
 have h0 := d 0 3 0 rfl
 have h1 := d 1 3 1 rfl
 rw [c3] at h0 h1
 obtain ⟨k0, e0, f0, _⟩ := DataW.trod_int un3i (show DataW.trod _ _ _ _ _ _ n 3 _ = some x0 from h0)
 obtain ⟨k1, e1, f1, _⟩ := DataW.trod_int un3i (show DataW.trod _ _ _ _ _ _ n 3 _ = some x1 from h1)
 simp at e0 e1
 subst e0 e1 f0 f1
 simp at e
 obtain ⟨rfl, rfl⟩ := e
 rfl

theorem len8 {α : Type} {L : List α} (h : L.length = 8) : ∃ a b c d e f g i, L = [a, b, c, d, e, f, g, i] := by
 match L, h with
 | [a, b, c, d, e, f, g, i], _ => exact ⟨a, b, c, d, e, f, g, i, rfl⟩

theorem of_laid {W : World} (h : laidMetH P_ G0 W) : iq (ground W) := by
 rw [MakeChecks.laidMetH_plain _ _ _ (by kernel_rfl)] at h
 obtain ⟨ps, ⟨g0, t0, cs0, f0, p0, q0, hg0, ht0, hv0, hd0, _, _⟩, _, _⟩ := h
 obtain rfl := Option.some.inj (Vk.symm.trans hg0)
 obtain rfl := Option.some.inj (tSteps.symm.trans ht0)
 obtain ⟨xs, m, rfl, hx, hl, hxl, hel⟩ := DataW.trod_array un81 hd0
 rw [c81] at hl
 rw [c28] at hel
 simp only [Prod.mk.injEq] at hx
 obtain ⟨hx, _⟩ := hx
 have hobj : ∃ e f, W.heap[0]? = some (.cells cs0 e f) := by
   unfold World.var? at hv0
   rw [Vk] at hv0
   simp only [Option.bind_some] at hv0
   split at hv0
   · rename_i c e f hc
     cases hv0
     exact ⟨e, f, hc⟩
   · cases hv0
 obtain ⟨e, f, hobj⟩ := hobj
 refine ⟨e, f, ?_⟩
 show W.heap[0]? = _
 rw [hobj]
 match xs, hxl with
 | [x0, x1, x2, x3], _ =>
 have h0 := hel 0 (by decide)
 have h1 := hel 1 (by decide)
 have h2 := hel 2 (by decide)
 have h3 := hel 3 (by decide)
 unfold Rows.laid_skep_grid_steps at hx
 simp only [List.map_cons, List.map_nil, DataW.agg.injEq, List.cons.injEq] at hx
 have k0 := xq (show DataW.trod _ _ _ _ _ _ m 28 _ = some x0 from h0) hx.1.symm
 have k1 := xq (show DataW.trod _ _ _ _ _ _ m 28 _ = some x1 from h1) hx.2.1.symm
 have k2 := xq (show DataW.trod _ _ _ _ _ _ m 28 _ = some x2 from h2) hx.2.2.1.symm
 have k3 := xq (show DataW.trod _ _ _ _ _ _ m 28 _ = some x3 from h3) hx.2.2.2.1.symm
 obtain ⟨cs⟩ := cs0
 obtain ⟨a0, a1, a2, a3, a4, a5, a6, a7, rfl⟩ := len8 hl
 simp at k0 k1 k2 k3
 obtain ⟨rfl, rfl⟩ := k0
 obtain ⟨rfl, rfl⟩ := k1
 obtain ⟨rfl, rfl⟩ := k2
 obtain ⟨rfl, rfl⟩ := k3
 rfl
section
theorem qm {H : Type} {P : Program} {ts : List TypeId} {ds : List (DataW H)} (h : (DataW.weightsEach P ts ds).all (· ≤ reachBytes) = true) {j : Nat} {t : TypeId} {d : DataW H} (ht : ts[j]? = some t) (hd : ds[j]? = some d) : na P t d := fun n hn => by
 simpa using List.all_eq_true.1 h n (DataW.weights_mem_each ht hd n hn)

theorem tk {P : Program} {w : World} {r : Reach} {base : Nat} {t : TypeId} {v : Value} {tos : List (TypeId × Nat)} (ht : fc P t = some tos) (hv : Value.okWide P w r base t v) : ∃ cs : Array Value, v = .agg cs := by
 unfold fc at ht
 split at ht
 · rename_i fs hfs
   obtain ⟨cs, rfl, _⟩ := okWide_struct hfs hv
   exact ⟨cs, rfl⟩
 · cases ht

theorem sf30 : fc P_ 30 = some [(28, 0), (4, 2)] := by kernel_rfl
theorem sf95 : fc P_ 234 = some [(28, 0), (168, 2)] := by kernel_rfl
theorem sf26 : fc P_ 26 = some [(3, 0), (3, 1), (3, 2), (22, 3), (22, 4), (23, 5), (24, 6), (3, 7), (3, 8), (3, 9), (3, 10), (3, 11), (3, 12), (3, 13), (3, 14), (4, 15)] := by kernel_rfl
theorem un4b : P_.underlying 4 = some .bool := by kernel_rfl
theorem c4 : P_.cellsOf 4 = 1 := by kernel_rfl
theorem c22 : P_.cellsOf 22 = 1 := by kernel_rfl
theorem c23 : P_.cellsOf 23 = 1 := by kernel_rfl
theorem c24 : P_.cellsOf 24 = 1 := by kernel_rfl
theorem c26 : P_.cellsOf 26 = 16 := by kernel_rfl
theorem c30 : P_.cellsOf 30 = 3 := by kernel_rfl
theorem c57 : P_.cellsOf 168 = 1 := by kernel_rfl
theorem c95 : P_.cellsOf 234 = 3 := by kernel_rfl

section
variable {H : Type} {enc : TypeId × Value → H} {w : World} {base : Nat} {spare : Nat → Bool} {held : Bool}

theorem len2 {α : Type} {L : List α} (h : L.length = 2) : ∃ a b, L = [a, b] := by
 match L, h with
 | [a, b], _ => exact ⟨a, b, rfl⟩
theorem len3 {α : Type} {L : List α} (h : L.length = 3) : ∃ a b c, L = [a, b, c] := by
 match L, h with
 | [a, b, c], _ => exact ⟨a, b, c, rfl⟩

theorem yv {m : Nat} {cs : List Value} {y : DataW H × List MemPlace} (h : DataW.trod enc P_ w base spare held m 28 cs = some y) : ∃ c : Cell, cs = bv.enc c ∧ Bd c.1 ∧ Bd c.2 := by
 obtain ⟨hl, d⟩ := Dy sf28 h
 rw [c28] at hl
 obtain ⟨v0, v1, rfl⟩ := len2 hl
 obtain ⟨m0, z0, e0⟩ := d 0 _ _ rfl
 obtain ⟨m1, z1, e1⟩ := d 1 _ _ rfl
 rw [c3] at e0 e1
 obtain ⟨x0, f0, b0⟩ := j5 un3i e0
 obtain ⟨x1, f1, b1⟩ := j5 un3i e1
 simp at f0 f1
 subst f0 f1
 exact ⟨(x0, x1), rfl, b0, b1⟩
theorem K5 {m : Nat} {cs : List Value} {y : DataW H × List MemPlace} (h : DataW.trod enc P_ w base spare held m 30 cs = some y) : ∃ p : Pose, cs = th.enc p ∧ PB p := by
 obtain ⟨hl, d⟩ := Dy sf30 h
 rw [c30] at hl
 obtain ⟨v0, v1, v2, rfl⟩ := len3 hl
 obtain ⟨m0, z0, e0⟩ := d 0 _ _ rfl
 obtain ⟨m1, z1, e1⟩ := d 1 _ _ rfl
 rw [c28] at e0
 rw [c4] at e1
 obtain ⟨c, f0, b0⟩ := yv e0
 obtain ⟨b, f1⟩ := Mr un4b e1
 simp [bv] at f0 f1
 obtain ⟨rfl, rfl⟩ := f0
 subst f1
 exact ⟨⟨c.1, c.2, b⟩, rfl, b0⟩

def RawOk (G : Hp) (r : Raw) : Prop := ∃ L : List Int, r.n = L.length ∧ Room L.length 8 ∧ ∀ h, Dis G h → Sees icC G h (.slice r.a r.n r.c) L

theorem xv {n bytes : Nat} (h : n * bytes ≤ reachBytes) (hb : bytes ≤ 40) : Room n bytes := by
 unfold Room
 rw [show reachBytes = 140737488351232 from rfl] at h
 rw [Nat.add_mul, Nat.mul_assoc]
 have : 192 * bytes ≤ 7680 := by omega
 omega

theorem raw_dec {m : Nat} {cs : List Value} {y : DataW H × List MemPlace} (h : DataW.trod enc P_ w base spare held m 234 cs = some y) (hw : na P_ 234 y.1) : ∃ r : Raw, cs = rawC.enc r ∧ RawOk (ground w) r := by
 obtain ⟨hl, d⟩ := Bh sf95 h hw
 rw [c95] at hl
 obtain ⟨v0, v1, v2, rfl⟩ := len3 hl
 obtain ⟨m0, z0, e0, _⟩ := d 0 _ _ rfl
 obtain ⟨m1, z1, e1, w1⟩ := d 1 _ _ rfl
 rw [c28] at e0
 rw [c57] at e1
 obtain ⟨c, f0, b0⟩ := yv e0
 obtain ⟨a, n, cap, L, f1, hL, hs, hg, _⟩ := ph icC (fun _ => True) Cf c3 (by decide) (fun _ _ _ h _ => let ⟨x, e, _⟩ := j5 un3i h; ⟨x, e, trivial⟩) e1 w1
 simp [bv] at f0 f1
 obtain ⟨rfl, rfl⟩ := f0
 subst f1
 rw [show P_.bytesOf 3 = 8 by kernel_rfl] at hs
 subst hL
 exact ⟨⟨c.1, c.2, a, L.length, cap⟩, rfl, L, rfl, xv hs (by decide), hg⟩

theorem len16 {α : Type} {L : List α} (h : L.length = 16) : ∃ a b c d e f g i j k l m n o p q, L = [a, b, c, d, e, f, g, i, j, k, l, m, n, o, p, q] := by
 match L, h with
 | [a, b, c, d, e, f, g, i, j, k, l, m, n, o, p, q], _ => exact ⟨a, b, c, d, e, f, g, i, j, k, l, m, n, o, p, q, rfl⟩

theorem X4 {m : Nat} {cs : List Value} {y : DataW H × List MemPlace} (h : DataW.trod enc P_ w base spare held m 26 cs = some y) (hw : na P_ 26 y.1) :
   ∃ C : Conf, (∀ h, Dis (ground w) h → CV (ground w) h (.agg cs.toArray) C) ∧ Fit0 C ∧ ∀ p ∈ C.ro, PB p := by
 obtain ⟨hl, d⟩ := Bh sf26 h hw
 rw [c26] at hl
 obtain ⟨v0, v1, v2, v3, v4, v5, v6, v7, v8, v9, v10, v11, v12, v13, v14, v15, rfl⟩ := len16 hl
 obtain ⟨_, _, e0, _⟩ := d 0 _ _ rfl
 obtain ⟨_, _, e1, _⟩ := d 1 _ _ rfl
 obtain ⟨_, _, e2, _⟩ := d 2 _ _ rfl
 obtain ⟨_, _, e3, w3⟩ := d 3 _ _ rfl
 obtain ⟨_, _, e4, w4⟩ := d 4 _ _ rfl
 obtain ⟨_, _, e5, w5⟩ := d 5 _ _ rfl
 obtain ⟨_, _, e6, w6⟩ := d 6 _ _ rfl
 obtain ⟨_, _, e7, _⟩ := d 7 _ _ rfl
 obtain ⟨_, _, e8, _⟩ := d 8 _ _ rfl
 obtain ⟨_, _, e9, _⟩ := d 9 _ _ rfl
 obtain ⟨_, _, e10, _⟩ := d 10 _ _ rfl
 obtain ⟨_, _, e11, _⟩ := d 11 _ _ rfl
 obtain ⟨_, _, e12, _⟩ := d 12 _ _ rfl
 obtain ⟨_, _, e13, _⟩ := d 13 _ _ rfl
 obtain ⟨_, _, e14, _⟩ := d 14 _ _ rfl
 obtain ⟨_, _, e15, _⟩ := d 15 _ _ rfl
 simp only [c3, c4, c22, c23, c24] at e0 e1 e2 e3 e4 e5 e6 e7 e8 e9 e10 e11 e12 e13 e14 e15
 obtain ⟨x0, f0, _⟩ := j5 un3i e0
 obtain ⟨x1, f1, _⟩ := j5 un3i e1
 obtain ⟨x2, f2, _⟩ := j5 un3i e2
 obtain ⟨ab, nb, cb, B, f3, hB, sB, gB, _⟩ := ph bv (fun _ => True) un22 c28 (by decide) (fun _ _ _ h _ => let ⟨x, e, _⟩ := yv h; ⟨x, e, trivial⟩) e3 w3
 obtain ⟨ap, np, cp, PO, f4, hP, sP, gP, _⟩ := ph bv (fun _ => True) un22 c28 (by decide) (fun _ _ _ h _ => let ⟨x, e, _⟩ := yv h; ⟨x, e, trivial⟩) e4 w4
 obtain ⟨ar, nr, cr, R, f5, hR, sR, gR, qR⟩ := ph th PB un23 c30 (by decide) (fun _ _ _ h _ => K5 h) e5 w5
 obtain ⟨az, nz, cz, Z, f6, hZ, sZ, gZ, qZ⟩ := ph rawC (RawOk (ground w)) un24 c95 (by decide) (fun _ _ _ h hw => raw_dec h hw) e6 w6
 obtain ⟨x7, f7, _⟩ := j5 un3i e7
 obtain ⟨x8, f8, _⟩ := j5 un3i e8
 obtain ⟨x9, f9, _⟩ := j5 un3i e9
 obtain ⟨x10, f10, _⟩ := j5 un3i e10
 obtain ⟨x11, f11, _⟩ := j5 un3i e11
 obtain ⟨x12, f12, _⟩ := j5 un3i e12
 obtain ⟨x13, f13, _⟩ := j5 un3i e13
 obtain ⟨x14, f14, _⟩ := j5 un3i e14
 obtain ⟨x15, f15⟩ := Mr un4b e15
 simp at f0 f1 f2 f3 f4 f5 f6 f7 f8 f9 f10 f11 f12 f13 f14 f15
 subst f0 f1 f2 f3 f4 f5 f6 f7 f8 f9 f10 f11 f12 f13 f14 f15
 subst hB hP hR hZ
 rw [show P_.bytesOf 28 = 16 by kernel_rfl] at sB sP
 rw [show P_.bytesOf 30 = 24 by kernel_rfl] at sR
 rw [show P_.bytesOf 234 = 40 by kernel_rfl] at sZ
 obtain ⟨S, hS, qS⟩ := Ix (Q := fun i (s : Cell × List Int) => ∀ r, Z[i]? = some r → (r.x, r.y) = s.1 ∧ r.n = s.2.length ∧ Room s.2.length 8 ∧ ∀ h, Dis (ground w) h → Sees icC (ground w) h (.slice r.a s.2.length r.c) s.2) Z.length (fun i hi => by
   obtain ⟨L, e, rm, se⟩ := qZ _ (List.getElem_mem hi)
   refine ⟨((Z[i].x, Z[i].y), L), fun r hr => ?_⟩
   rw [List.getElem?_eq_getElem hi] at hr
   cases hr
   exact ⟨rfl, e, rm, fun h d => by rw [← e]; exact se h d⟩)
 refine ⟨⟨x0, x1, x2, B, PO, R, S, x7, x8, x9, x10, x11, x12, x13, x14, x15⟩, fun h d => ⟨ab, cb, ap, cp, ar, cr, az, cz, by simp only [Mt, hS], gB h d, gP h d, gR h d, Z, by show Sees rawC _ h (.slice az S.length cz) Z; rw [hS]; exact gZ h d, fun i r s hr hs => ?_⟩, ⟨xv sB (by decide), xv sP (by decide), xv sR (by decide), by show Room S.length 40; rw [hS]; exact xv sZ (by decide), fun s hs => ?_⟩, qR⟩
 · obtain ⟨a, b, c, e⟩ := qS i s hs r hr
   exact ⟨a, b, e h d⟩
 · obtain ⟨i, hi⟩ := List.getElem?_of_mem hs
   have hi2 : i < Z.length := by rw [← hS]; exact (List.getElem?_eq_some_iff.1 hi).1
   exact (qS i s hi _ (List.getElem?_eq_getElem hi2)).2.2.1

theorem K6 {r : Reach} {b0 : Nat} {v : Value} {d : DataW H} {ps : List MemPlace} (k : Value.okWide P_ w r b0 30 v) (h : DataW.Trod enc P_ w base spare held 30 v d ps) : ∃ p : Pose, v = jn p ∧ PB p := by
 obtain ⟨cs, rfl⟩ := tk sf30 k
 obtain ⟨m, h⟩ := h
 obtain ⟨c, e, b⟩ := K5 (cs := cs.toList) h
 exact ⟨c, by rw [← Array.toArray_toList (xs := cs), e]; rfl, b⟩
theorem Pw {r : Reach} {b0 : Nat} {v : Value} {d : DataW H} {ps : List MemPlace} (k : Value.okWide P_ w r b0 3 v) (h : DataW.Trod enc P_ w base spare held 3 v d ps) : ∃ n : Int, v = .int .i64 n ∧ Bd n := by
 obtain ⟨n, rfl, rfl, rfl, wf⟩ := open_int un3i k h
 exact ⟨n, rfl, by simpa [Lit.wf, IntKind.min, IntKind.max, IntKind.signed, IntKind.bits, Bd] using wf⟩
theorem X9 {r : Reach} {b0 : Nat} {v : Value} {d : DataW H} {ps : List MemPlace} (k : Value.okWide P_ w r b0 4 v) (h : DataW.Trod enc P_ w base spare held 4 v d ps) : ∃ b : Bool, v = .bool b := by
 obtain ⟨b, rfl, rfl, rfl⟩ := open_bool un4b k h
 exact ⟨b, rfl⟩
theorem X5 {r : Reach} {b0 : Nat} {v : Value} {d : DataW H} {ps : List MemPlace} (k : Value.okWide P_ w r b0 26 v) (h : DataW.Trod enc P_ w base spare held 26 v d ps) (hl : na P_ 26 d) :
   ∃ C : Conf, (∀ h, Dis (ground w) h → CV (ground w) h v C) ∧ Fit0 C ∧ ∀ p ∈ C.ro, PB p := by
 obtain ⟨cs, rfl⟩ := tk sf26 k
 obtain ⟨m, h⟩ := h
 obtain ⟨C, hC, f, hp⟩ := X4 (cs := cs.toList) h hl
 exact ⟨C, fun h d => by simpa using hC h d, f, hp⟩
end
end
end Go.Proofs.YtfflipnhffknnaaGreatDoor
end

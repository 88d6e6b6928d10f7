/- Texts of the proof, one behind the other. -/
import Derived.Test.YtfflipnhffknnaaGreatDoorAM1
import Derived.Test.YtfflipnhffknnaaGreatDoorAM6
import Derived.Test.YtfflipnhffknnaaGreatDoorAM3
import Derived.Test.YtfflipnhffknnaaGreatDoorAM5
import Derived.Test.YtfflipnhffknnaaGreatDoorAH2
import Derived.Test.YtfflipnhffknnaaGreatDoorAH3
import Derived.Test.YtfflipnhffknnaaGreatDoorRows
import Derived.Test.YtfflipnhffknnaaGreatDoorTie
import Derived.JoinedOf
import Derived.Handed
import Derived.LaidMore
import Derived.LaidHandle
import Derived.LaidLaws
import Derived.MakeChecks
import Derived.Test.YtfflipnhffknnaaGreatDoorAM4
set_option linter.unusedVariables false
set_option maxRecDepth 100000
set_option linter.unusedSimpArgs false
set_option maxHeartbeats 8000000
set_option linter.defProp false
section
namespace Go.Proofs.YtfflipnhffknnaaGreatDoor
open Go Go.HL
section
variable (G:Hp) (K:EK) (r:Rg) (h:Hp)
def md7:Nat->Hint
 |8=>mh false [0,1,0,0,0,0,63,127,255,255,511,2047] [m_,e_,n_,m_,n_,m_,e_,n_,n_,n_,n_,n_] [false,true,false,false,false,false,false,false,false,false,false,false] false
 |9=>mh false [0,1,0,0,0,0,0,112,0,511,1023,2047,2047,4095,16383] [m_,e_,n_,m_,n_,n_,n_,n_,m_,e_,n_,n_,n_,n_,n_] [false,true,false,false,false,false,false,false,false,false,false,false,false,false,false] false
 |16=>mh false [0,0,2,7,15,31,31,127,255,31,31,1567,3615,8191,16383] [n_,n_,m_,n_,n_,n_,n_,n_,m_,n_,n_,n_,m_,m_,n_] (fs 15) false
 |_=>mh false [] [] [] false
def Ya:Prop:=
 opH P_ G (xEq .eql 3 (.tmp 0) (.tmp 0) (r 20) (r 15)) h fun v43 h43=>g_ v43 true (c_ G 32 #[] h43) h43 fun v44 h44=>
 opH P_ G (bj v43 v44 (.bool false)) h44 fun v45 h45=>
 K .ret (u7 r 123 (r 20) 124 (r 15) 125 v43 126 v43 127 v44 128 v45 10 v45) h45
def Dy:Prop:=
 o_ G (binOp .add 3 (r 21) (.int .i64 1)) h fun v52 h52=>
 K .normal (u3 r 90 (r 21) 91 v52 21 v52) h52
def Uf:Prop:=
 o_ G (Instr.indexAt 40 (r 18) (r 21)) h fun v65 h65=>o_ G (Instr.fieldAt 48 v65 0) h65 fun v66 h66=>o_ G (Instr.loadAt 3 v66) h66 fun v67 h67=>
 opH P_ G (xEq .eql 3 (.tmp 0) (.const .nilFunc) v67 (.int .i64 3)) h67 fun v68 h68=>g_ v68 false (fun K1=>K1 (r 18) h68) h68 fun v69 h69=>g_ v68 false (fun K1=>K1 (r 21) h69) h69 fun v70 h70=>g_ v68 false (o_ G (Instr.indexAt 40 v69 v70) h70) h70 fun v71 h71=>g_ v68 false (o_ G (Instr.fieldAt 48 v71 0) h71) h71 fun v72 h72=>g_ v68 false (o_ G (Instr.loadAt 3 v72) h72) h72 fun v73 h73=>g_ v68 false (opH P_ G (xEq .eql 3 (.tmp 0) (.const .nilFunc) v73 (.int .i64 4)) h73) h73 fun v74 h74=>
 opH P_ G (bj v68 (.bool true) v74) h74 fun v75 h75=>
 cond v75
 (o_ G (binOp .add 3 (r 20) (.int .i64 1)) h75 fun v76 h76=>
 Dy G K (u7 (u10 r 107 (r 18) 108 (r 21) 109 v65 110 v66 111 v67 112 v68 113 v68 114 v69 115 v70 116 v71) 117 v72 118 v73 119 v74 120 v75 121 (r 20) 122 v76 20 v76) h76)
 (Dy G K (u4 (u10 r 107 (r 18) 108 (r 21) 109 v65 110 v66 111 v67 112 v68 113 v68 114 v69 115 v70 116 v71) 117 v72 118 v73 119 v74 120 v75) h75)
def Ug:Prop:=
 w_ G h (Builtin.len_ #[40] 3 #[(r 16)]) h fun v53 h53=>
 p_ (binOp .geq 3 (r 21) v53) h53 fun v54 h54=>g_ v54 false (fun K1=>K1 (r 16) h54) h54 fun v55 h55=>g_ v54 false (fun K1=>K1 (r 21) h55) h55 fun v56 h56=>g_ v54 false (p_ (Instr.indexAt 40 v55 v56) h56) h56 fun v57 h57=>g_ v54 false (w_ G h (Instr.loadAt 48 v57) h57) h57 fun v58 h58=>g_ v54 false (fun K1=>K1 (r 18) h58) h58 fun v59 h59=>g_ v54 false (fun K1=>K1 (r 21) h59) h59 fun v60 h60=>g_ v54 false (p_ (Instr.indexAt 40 v59 v60) h60) h60 fun v61 h61=>g_ v54 false (w_ G h (Instr.loadAt 48 v61) h61) h61 fun v62 h62=>g_ v54 false (bm P_ G h (xEq .neq 48 (.tmp 0) (.tmp 0) v58 v62) h62) h62 fun v63 h63=>
 bm P_ noHp noHp (bj v54 (.bool true) v63) h63 fun v64 h64=>
 (fun q=>cond v64
 (K .ret (upd q 10 (.bool false)) h64)
 (Uf G K q h64))
 (u5 (u10 r 92 (r 21) 93 (r 16) 94 v53 95 v54 96 v54 97 v55 98 v56 99 v57 100 v58 101 v59) 102 v60 103 v61 104 v62 105 v63 106 v64)
def S7_l5 (r:Rg) (h:Hp) (K:EK):Prop:=
 o_ G (Builtin.len_ #[40] 3 #[(r 18)]) h fun v46 h46=>o_ G (binOp .lss 3 (r 21) v46) h46 fun v47 h47=>g_ v47 true (fun K1=>K1 (r 20) h47) h47 fun v48 h48=>g_ v47 true (fun K1=>K1 (r 15) h48) h48 fun v49 h49=>g_ v47 true (o_ G (binOp .lss 3 v48 v49) h49) h49 fun v50 h50=>
 opH P_ G (bj v47 v50 (.bool false)) h50 fun v51 h51=>
 (fun q=>cond v51
 (Ug G K q h51)
 (K (.exit 0) q h51))
 (u9 r 81 (r 21) 82 (r 18) 83 v46 84 v47 85 v47 86 v48 87 v49 88 v50 89 v51)
def S7_k3:Prop:=
 dl (S7_l5 G) (u2 r 20 (.int .i64 0) 21 (.int .i64 0)) h (bo 0 (ci (Ya G K) K))
def S7_k2:Prop:=
 c_ G 33 #[(r 2)] h fun v18 h18=>o_ G (Instr.extract v18 0) h18 fun v19 h19=>o_ G (Instr.extract v18 1) h19 fun v20 h20=>o_ G (Builtin.len_ #[59] 3 #[v19]) h20 fun v21 h21=>o_ G (binOp .add 3 v21 (.int .i64 1)) h21 fun v22 h22=>
 c_ G 25 #[(r 4),v22] h22 fun v23 h23=>
 w_ G h23 (Instr.loadAt 26 (r 5)) h23 fun v24 h24=>
 c_ G 28 #[v24] h24 fun v25 h25=>h23.le h25/\
 w_ G h23 (Instr.loadAt 30 (r 6)) h25 fun v26 h26=>
 w_ G h23 (Instr.loadAt 30 (r 8)) h26 fun v27 h27=>
 c_ G 34 #[v25,(r 11),(.int .i64 0),v26,(.int .i64 5),v19,v27] h27 fun v28 h28=>
 p_ (Instr.extract v28 0) h28 fun v29 h29=>
 p_ (Instr.extract v28 1) h29 fun v30 h30=>
 w_ G h30 (Instr.loadAt 26 (r 5)) h30 fun v31 h31=>
 c_ G 28 #[v31] h31 fun v32 h32=>h30.le h32/\
 w_ G h30 (Instr.loadAt 30 (r 6)) h32 fun v33 h33=>
 p_ (Instr.sliceAt 59 v19 none (some v23) (some v23)) h33 fun v34 h34=>
 w_ G h30 (Instr.loadAt 30 (r 8)) h34 fun v35 h35=>
 c_ G 34 #[v32,(r 11),(.int .i64 0),v33,(.int .i64 5),v34,v35] h35 fun v36 h36=>
 p_ (Instr.extract v36 0) h36 fun v37 h37=>
 p_ (Instr.extract v36 1) h37 fun v38 h38=>
 opH P_ G (xEq .neq 35 (.tmp 0) (.const .nilFunc) v30 (.int .i64 0)) h38 fun v39 h39=>g_ v39 false (fun K1=>K1 v38 h39) h39 fun v40 h40=>g_ v39 false (opH P_ G (xEq .neq 35 (.tmp 0) (.const .nilFunc) v40 (.int .i64 0)) h40) h40 fun v41 h41=>
 opH P_ G (bj v39 (.bool true) v41) h41 fun v42 h42=>
 cond v42
 (c_ G 32 #[] h42 fun v77 h77=>
 K .ret (u8 (u10 (u10 (u10 (u10 r 42 (r 2) 43 v18 41 v18 44 v19 45 v20 13 v19 14 v20 46 (r 4) 47 v19 48 v21) 49 v22 50 v23 15 v23 52 v24 53 v25 54 (r 11) 55 v26 56 v19 57 v27 58 v28) 51 v28 59 v29 60 v30 16 v29 17 v30 62 v31 63 v32 64 (r 11) 65 v33 66 v19) 67 v23 68 v23 69 v34 70 v35 71 v36 61 v36 72 v37 73 v38 18 v37 19 v38) 74 v30 75 v39 76 v39 77 v40 78 v41 79 v42 80 v77 10 v77) h77)
 (S7_k3 G K (u6 (u10 (u10 (u10 (u10 r 42 (r 2) 43 v18 41 v18 44 v19 45 v20 13 v19 14 v20 46 (r 4) 47 v19 48 v21) 49 v22 50 v23 15 v23 52 v24 53 v25 54 (r 11) 55 v26 56 v19 57 v27 58 v28) 51 v28 59 v29 60 v30 16 v29 17 v30 62 v31 63 v32 64 (r 11) 65 v33 66 v19) 67 v23 68 v23 69 v34 70 v35 71 v36 61 v36 72 v37 73 v38 18 v37 19 v38) 74 v30 75 v39 76 v39 77 v40 78 v41 79 v42) h42)
def S7_k1:Prop:=
 o_ G (Instr.fieldAt 26 (r 5) 0) h fun v6 h6=>o_ G (Instr.loadAt 3 v6) h6 fun v7 h7=>o_ G (Instr.fieldAt 26 (r 5) 1) h7 fun v8 h8=>o_ G (Instr.loadAt 3 v8) h8 fun v9 h9=>o_ G (binOp .mul 3 v7 v9) h9 fun v10 h10=>
 c_ G 24 #[v10] h10 fun v11 h11=>o_ G (Instr.extract v11 0) h11 fun v12 h12=>o_ G (Instr.extract v11 1) h12 fun v13 h13=>
 opH P_ G (xEq .neq 35 (.tmp 0) (.const .nilFunc) v13 (.int .i64 0)) h13 fun v14 h14=>g_ v14 false (fun K1=>K1 v12 h14) h14 fun v15 h15=>g_ v14 false (opH P_ G (xEq .eql 34 (.tmp 0) (.const .nilFunc) v15 (.pointer none)) h15) h15 fun v16 h16=>
 opH P_ G (bj v14 (.bool true) v16) h16 fun v17 h17=>
 (fun q=>cond v17
 (K .ret (upd q 10 (.bool false)) h17)
 (S7_k2 G K q h17))
 (u7 (u10 r 27 v6 28 v7 29 v8 30 v9 31 v10 32 v11 26 v11 33 v12 34 v13 11 v12) 12 v13 35 v13 36 v14 37 v14 38 v15 39 v16 40 v17)
def S7:Prop:=
 o_ G (Instr.box 26 (r 0)) h fun v0 h0=>o_ G (Instr.box 30 (r 1)) h0 fun v1 h1=>o_ G (Instr.box 30 (r 3)) h1 fun v2 h2=>o_ G (Instr.loadAt 26 v0) h2 fun v3 h3=>
 c_ G 21 #[v3] h3 fun v4 h4=>o_ G (Op.unary .not v4) h4 fun v5 h5=>
 cond v5
 (c_ G 32 #[] h5 fun v78 h78=>
 K .ret (u9 r 5 v0 6 v1 8 v2 10 (.bool false) 22 v3 23 v4 24 v5 25 v78 10 v78) h78)
 (S7_k1 G K (u7 r 5 v0 6 v1 8 v2 10 (.bool false) 22 v3 23 v4 24 v5) h5)
theorem enter7:Ent 129 7 [.tmp 10] S7:=ent_ (m:=md7) (c:=(Tryz.f7.body.getD .skip)) (fun _ _ _ _=>by kernel_rfl) Tryz.func7 rfl rfl rfl
def md8:Nat->Hint
 |6=>⟨false,[0,1,0,0,0,19,63,0,0,0,1023,2047,4095,8191,16383,32767],[.pureM,.eff,.pureN,.pureM,.pureN,.eff,.eff,.pureM,.pureM,.pureN,.eff,.pureM,.pureN,.eff,.pureN,.pureN],[.pureM,.eff,.pureN,.pureM,.pureN,.eff,.eff,.pureM,.pureM,.pureN,.eff,.late,.pureN,.eff,.pureN,.pureN],[false,true,false,false,false,true,true,false,false,false,false,false,false,false,false,false],true⟩
 |_=>mh false [] [] [] false
def S8_k2:Prop:=
 ∃q22:Hp,q22.le h/\
 w_ G q22 (Instr.loadAt 26 (r 3)) h fun v23 h23=>
 c_ G 28 #[v23] h23 fun v24 h24=>q22.le h24/\
 w_ G q22 (Instr.loadAt 30 (r 4)) h24 fun v25 h25=>o_ G (Builtin.append_ #[40,40] 40 #[(.slice none 0 0),(r 2)]) h25 fun v26 h26=>q22.le h26/\
 c_ G 35 #[v24,(r 7),v25,v26] h26 fun v27 h27=>q22.le h27/\
 w_ G q22 (Instr.loadAt 26 (r 3)) h27 fun v28 h28=>
 w_ G q22 (Instr.loadAt 30 (r 4)) h28 fun v29 h29=>
 c_ G 36 #[v28,v29,(r 2)] h29 fun v30 h30=>
 bm P_ G h30 (xEq .eql 4 (.tmp 0) (.tmp 0) v27 v30) h30 fun v31 h31=>g_ v31 true (c_ G 32 #[] h31) h31 fun v32 h32=>
 bm P_ noHp noHp (bj v31 v32 (.bool false)) h32 fun v33 h33=>
 K .ret (u6 (u10 r 34 v23 35 v24 36 (r 7) 37 v25 38 (r 2) 39 v26 40 v27 41 v28 42 v29 43 (r 2)) 44 v30 45 v31 46 v31 47 v32 48 v33 6 v33) h33
def S8_k1:Prop:=
 o_ G (Instr.fieldAt 26 (r 3) 7) h fun v9 h9=>o_ G (Instr.loadAt 3 v9) h9 fun v10 h10=>o_ G (Instr.fieldAt 26 (r 3) 8) h10 fun v11 h11=>o_ G (Instr.loadAt 3 v11) h11 fun v12 h12=>o_ G (Instr.fieldAt 26 (r 3) 9) h12 fun v13 h13=>o_ G (Instr.loadAt 3 v13) h13 fun v14 h14=>
 c_ G 29 #[v10,v12,v14] h14 fun v15 h15=>o_ G (Instr.extract v15 0) h15 fun v16 h16=>o_ G (Instr.extract v15 1) h16 fun v17 h17=>
 opH P_ G (xEq .neq 35 (.tmp 0) (.const .nilFunc) v17 (.int .i64 0)) h17 fun v18 h18=>g_ v18 false (fun K1=>K1 v16 h18) h18 fun v19 h19=>g_ v18 false (opH P_ G (xEq .eql 50 (.tmp 0) (.const .nilFunc) v19 (.pointer none)) h19) h19 fun v20 h20=>
 opH P_ G (bj v18 (.bool true) v20) h20 fun v21 h21=>
 (fun q=>cond v21
 (K .ret (upd q 6 (.bool false)) h21)
 (S8_k2 G K q h21))
 (u8 (u10 r 19 v9 20 v10 21 v11 22 v12 23 v13 24 v14 25 v15 18 v15 26 v16 27 v17) 7 v16 8 v17 28 v17 29 v18 30 v18 31 v19 32 v20 33 v21)
def S8:Prop:=
 o_ G (Instr.box 26 (r 0)) h fun v0 h0=>o_ G (Instr.box 30 (r 1)) h0 fun v1 h1=>o_ G (Instr.loadAt 26 v0) h1 fun v2 h2=>
 c_ G 21 #[v2] h2 fun v3 h3=>o_ G (Op.unary .not v3) h3 fun v4 h4=>g_ v4 false (fun K1=>K1 (r 2) h4) h4 fun v5 h5=>g_ v4 false (o_ G (Builtin.len_ #[40] 3 #[v5]) h5) h5 fun v6 h6=>g_ v4 false (o_ G (binOp .gtr 3 v6 (.int .i64 60)) h6) h6 fun v7 h7=>
 opH P_ G (bj v4 (.bool true) v7) h7 fun v8 h8=>
 cond v8
 (c_ G 32 #[] h8 fun v34 h34=>
 K .ret (u3 (u10 r 3 v0 4 v1 6 (.bool false) 9 v2 10 v3 11 v4 12 v4 13 v5 14 v6 15 v7) 16 v8 17 v34 6 v34) h34)
 (S8_k1 G K (upd (u10 r 3 v0 4 v1 6 (.bool false) 9 v2 10 v3 11 v4 12 v4 13 v5 14 v6 15 v7) 16 v8) h8)
theorem enter8:Ent 49 8 [.tmp 6] S8:=ent_ (m:=md8) (c:=(Tryz.f8.body.getD .skip)) (fun _ _ _ _=>by kernel_rfl) Tryz.func8 rfl rfl rfl
def md9:Nat->Hint
 |8=>mh false [0,1,0,0,0,0,63,127,255,255,511,2047] [m_,e_,n_,m_,n_,m_,e_,n_,n_,n_,n_,n_] [false,true,false,false,false,false,false,false,false,false,false,false] true
 |12=>mh false [0,1,0,0,0,0,48,127,255] [m_,e_,n_,m_,n_,n_,n_,e_,n_] [false,true,false,false,false,false,false,false,false] true
 |20=>mh false [0,1,0,0,0,31,63] [m_,e_,n_,m_,n_,e_,n_] [false,true,false,false,false,false,false] true
 |29=>mh true [0,1,0,0,0,31,63,127,255,511,255,255,255,8191,16383,32767,65535,131071,262143,131071,131071,131071,4194303,8388607,16777215,33554431,67108863,134217727,268435455] [m_,e_,n_,m_,n_,e_,n_,n_,m_,e_,n_,m_,n_,e_,n_,n_,n_,m_,e_,n_,m_,n_,e_,n_,n_,n_,e_,n_,n_] [false,true,false,false,false,true,false,false,false,true,false,false,false,true,false,false,false,false,true,false,false,false,false,false,false,false,false,false,false] true
 |_=>mh false [] [] [] false
def S9_k6:Prop:=
 c_ G 25 #[(r 5),(.int .i64 90)] h fun v62 h62=>o_ G (binOp .add 3 (.int .i64 1) v62) h62 fun v63 h63=>o_ G (Builtin.append_ #[40,40] 40 #[(.slice none 0 0),(r 19)]) h63 fun v64 h64=>o_ G (Instr.indexAt 40 v64 (r 21)) h64 fun v65 h65=>o_ G (Instr.fieldAt 48 v65 6) h65 fun v66 h66=>o_ G (Instr.loadAt 3 v66) h66 fun v67 h67=>o_ G (binOp .add 3 v67 v63) h67 fun v68 h68=>o_ G (Instr.indexAt 40 v64 (r 21)) h68 fun v69 h69=>o_ G (Instr.fieldAt 48 v69 6) h69 fun v70 h70=>
 opH P_ G (su (Instr.storeAt 3 v70 v68)) h70 fun v71 h71=>o_ G (Builtin.append_ #[40,40] 40 #[(.slice none 0 0),(r 19)]) h71 fun v72 h72=>o_ G (Instr.indexAt 40 v72 (r 21)) h72 fun v73 h73=>o_ G (Instr.fieldAt 48 v73 4) h73 fun v74 h74=>o_ G (Instr.fieldAt 30 v74 0) h74 fun v75 h75=>o_ G (Instr.fieldAt 28 v75 0) h75 fun v76 h76=>o_ G (Instr.loadAt 3 v76) h76 fun v77 h77=>o_ G (binOp .add 3 v77 v63) h77 fun v78 h78=>o_ G (Instr.indexAt 40 v72 (r 21)) h78 fun v79 h79=>o_ G (Instr.fieldAt 48 v79 4) h79 fun v80 h80=>o_ G (Instr.fieldAt 30 v80 0) h80 fun v81 h81=>o_ G (Instr.fieldAt 28 v81 0) h81 fun v82 h82=>
 opH P_ G (su (Instr.storeAt 3 v82 v78)) h82 fun v83 h83=>o_ G (Builtin.append_ #[40,40] 40 #[(.slice none 0 0),(r 19)]) h83 fun v84 h84=>o_ G (binOp .add 3 (.int .i64 5) v63) h84 fun v85 h85=>o_ G (Instr.indexAt 40 v84 (r 21)) h85 fun v86 h86=>o_ G (Instr.fieldAt 48 v86 0) h86 fun v87 h87=>
 opH P_ G (su (Instr.storeAt 3 v87 v85)) h87 fun v88 h88=>
 ∃q89:Hp,q89.le h88/\
 w_ G q89 (Instr.loadAt 26 (r 6)) h88 fun v90 h90=>
 c_ G 28 #[v90] h90 fun v91 h91=>q89.le h91/\
 w_ G q89 (Instr.loadAt 30 (r 7)) h91 fun v92 h92=>
 c_ G 35 #[v91,(r 15),v92,v64] h92 fun v93 h93=>q89.le h93/\
 p_ (Op.unary .not v93) h93 fun v94 h94=>g_ v94 true (w_ G q89 (Instr.loadAt 26 (r 6)) h94) h94 fun v95 h95=>g_ v94 true (fun K1=>c_ G 28 #[v95] h95 fun v h'=>q89.le h'/\K1 v h') h95 fun v96 h96=>g_ v94 true (fun K1=>K1 (r 15) h96) h96 fun v97 h97=>g_ v94 true (w_ G q89 (Instr.loadAt 30 (r 7)) h97) h97 fun v98 h98=>g_ v94 true (fun K1=>K1 v72 h98) h98 fun v99 h99=>g_ v94 true (fun K1=>c_ G 35 #[v96,v97,v98,v99] h99 fun v h'=>q89.le h'/\K1 v h') h99 fun v100 h100=>g_ v94 true (p_ (Op.unary .not v100) h100) h100 fun v101 h101=>
 bm P_ noHp noHp (bj v94 v101 (.bool false)) h101 fun v102 h102=>g_ v102 true (w_ G q89 (Instr.loadAt 26 (r 6)) h102) h102 fun v103 h103=>g_ v102 true (fun K1=>c_ G 28 #[v103] h103 fun v h'=>q89.le h'/\K1 v h') h103 fun v104 h104=>g_ v102 true (fun K1=>K1 (r 15) h104) h104 fun v105 h105=>g_ v102 true (w_ G q89 (Instr.loadAt 30 (r 7)) h105) h105 fun v106 h106=>g_ v102 true (fun K1=>K1 v84 h106) h106 fun v107 h107=>g_ v102 true (c_ G 35 #[v104,v105,v106,v107] h107) h107 fun v108 h108=>g_ v102 true (p_ (Op.unary .not v108) h108) h108 fun v109 h109=>
 bm P_ noHp noHp (bj v102 v109 (.bool false)) h109 fun v110 h110=>g_ v110 true (c_ G 32 #[] h110) h110 fun v111 h111=>
 bm P_ noHp noHp (bj v110 v111 (.bool false)) h111 fun v112 h112=>
 K .ret (u4 (u10 (u10 (u10 (u10 (u10 (u10 (u10 r 132 (r 5) 133 v62 134 v63 24 v63 135 (r 19) 136 v64 22 v64 137 v64 138 (r 21) 139 v64) 140 (r 21) 141 v65 142 v66 143 v67 144 v63 145 v68 146 v69 147 v70 148 (r 19) 149 v72) 25 v72 150 v72 151 (r 21) 152 v72 153 (r 21) 154 v73 155 v74 156 v75 157 v76 158 v77) 159 v63 160 v78 161 v79 162 v80 163 v81 164 v82 165 (r 19) 166 v84 26 v84 167 v84) 168 (r 21) 169 v63 170 v85 171 v86 172 v87 173 v90 174 v91 175 (r 15) 176 v92 177 v64) 178 v93 179 v94 180 v94 181 v95 182 v96 183 v97 184 v98 185 v99 186 v100 187 v101) 188 v102 189 v102 190 v103 191 v104 192 v105 193 v106 194 v107 195 v108 196 v109 197 v110) 198 v110 199 v111 200 v112 12 v112) h112
def S9_k5:Prop:=
 ∃q56:Hp,q56.le h/\
 w_ G q56 (Instr.loadAt 26 (r 6)) h fun v57 h57=>
 c_ G 28 #[v57] h57 fun v58 h58=>q56.le h58/\
 w_ G q56 (Instr.loadAt 30 (r 7)) h58 fun v59 h59=>
 c_ G 35 #[v58,(r 15),v59,(r 22)] h59 fun v60 h60=>
 p_ (Op.unary .not v60) h60 fun v61 h61=>
 (fun q=>cond v61
 (K .ret (upd q 12 (.bool false)) h61)
 (S9_k6 G K q h61))
 (u7 r 125 v57 126 v58 127 (r 15) 128 v59 129 (r 22) 130 v60 131 v61)
def Ud:Prop:=
 o_ G (binOp .add 3 (r 23) (.int .i64 1)) h fun v115 h115=>
 K .normal (u3 r 103 (r 23) 104 v115 23 v115) h115
def Ue:Prop:=
 o_ G (Instr.indexAt 40 (r 22) (r 23)) h fun v116 h116=>o_ G (Instr.fieldAt 48 v116 5) h116 fun v117 h117=>o_ G (Instr.loadAt 3 v117) h117 fun v118 h118=>o_ G (binOp .add 3 v118 (.int .i64 100)) h118 fun v119 h119=>o_ G (Instr.indexAt 40 (r 22) (r 23)) h119 fun v120 h120=>o_ G (Instr.fieldAt 48 v120 5) h120 fun v121 h121=>
 opH P_ G (su (Instr.storeAt 3 v121 v119)) h121 fun v122 h122=>o_ G (Instr.indexAt 40 (r 22) (r 23)) h122 fun v123 h123=>o_ G (Instr.fieldAt 48 v123 6) h123 fun v124 h124=>o_ G (Instr.loadAt 3 v124) h124 fun v125 h125=>o_ G (binOp .add 3 v125 (.int .i64 100)) h125 fun v126 h126=>o_ G (Instr.indexAt 40 (r 22) (r 23)) h126 fun v127 h127=>o_ G (Instr.fieldAt 48 v127 6) h127 fun v128 h128=>
 opH P_ G (su (Instr.storeAt 3 v128 v126)) h128 fun v129 h129=>
 Ud G K (u10 (u10 r 105 (r 22) 106 (r 23) 107 (r 22) 108 (r 23) 109 v116 110 v117 111 v118 112 v119 113 v120 114 v121) 115 (r 22) 116 (r 23) 117 (r 22) 118 (r 23) 119 v123 120 v124 121 v125 122 v126 123 v127 124 v128) h129
def S9_l7 (r:Rg) (h:Hp) (K:EK):Prop:=
 o_ G (Builtin.len_ #[40] 3 #[(r 22)]) h fun v113 h113=>o_ G (binOp .lss 3 (r 23) v113) h113 fun v114 h114=>
 (fun q=>cond v114
 (Ue G K q h114)
 (K (.exit 0) q h114))
 (u4 r 99 (r 23) 100 (r 22) 101 v113 102 v114)
def S9_k4:Prop:=
 o_ G (Builtin.append_ #[40,40] 40 #[(.slice none 0 0),(r 19)]) h fun v55 h55=>
 dl (S9_l7 G) (u5 r 96 (r 19) 97 v55 22 v55 98 (r 21) 23 (r 21)) h55 (bo 0 (ci (S9_k5 G K) K))
def S9_k3:Prop:=
 o_ G (Builtin.len_ #[40] 3 #[(r 19)]) h fun v46 h46=>
 c_ G 25 #[(r 4),v46] h46 fun v47 h47=>
 ∃q48:Hp,q48.le h47/\
 w_ G q48 (Instr.loadAt 26 (r 6)) h47 fun v49 h49=>
 c_ G 28 #[v49] h49 fun v50 h50=>q48.le h50/\
 w_ G q48 (Instr.loadAt 30 (r 7)) h50 fun v51 h51=>
 p_ (Instr.sliceAt 40 (r 19) none (some v47) none) h51 fun v52 h52=>
 c_ G 35 #[v50,(r 15),v51,v52] h52 fun v53 h53=>
 p_ (Op.unary .not v53) h53 fun v54 h54=>
 (fun q=>cond v54
 (K .ret (upd q 12 (.bool false)) h54)
 (S9_k4 G K q h54))
 (u4 (u10 r 83 (r 4) 84 (r 19) 85 v46 86 v47 21 v47 87 v49 88 v50 89 (r 15) 90 v51 91 (r 19)) 92 v47 93 v52 94 v53 95 v54)
def S9_k2:Prop:=
 c_ G 33 #[(r 2)] h fun v30 h30=>o_ G (Instr.extract v30 0) h30 fun v31 h31=>o_ G (Instr.extract v30 1) h31 fun v32 h32=>
 ∃q33:Hp,q33.le h32/\
 w_ G q33 (Instr.loadAt 26 (r 6)) h32 fun v34 h34=>
 c_ G 28 #[v34] h34 fun v35 h35=>q33.le h35/\
 w_ G q33 (Instr.loadAt 30 (r 7)) h35 fun v36 h36=>
 w_ G q33 (Instr.loadAt 30 (r 9)) h36 fun v37 h37=>
 c_ G 34 #[v35,(r 13),(.int .i64 0),v36,(.int .i64 7),v31,v37] h37 fun v38 h38=>
 p_ (Instr.extract v38 0) h38 fun v39 h39=>
 p_ (Instr.extract v38 1) h39 fun v40 h40=>
 opH P_ G (xEq .neq 35 (.tmp 0) (.const .nilFunc) v40 (.int .i64 0)) h40 fun v41 h41=>g_ v41 false (fun K1=>K1 v39 h41) h41 fun v42 h42=>g_ v41 false (o_ G (Builtin.len_ #[40] 3 #[v42]) h42) h42 fun v43 h43=>g_ v41 false (opH P_ G (xEq .eql 3 (.tmp 0) (.const .nilFunc) v43 (.int .i64 0)) h43) h43 fun v44 h44=>
 opH P_ G (bj v41 (.bool true) v44) h44 fun v45 h45=>
 cond v45
 (c_ G 32 #[] h45 fun v130 h130=>
 K .ret (u8 (u10 (u10 r 61 (r 2) 62 v30 60 v30 63 v31 64 v32 17 v31 18 v32 66 v34 67 v35 68 (r 13)) 69 v36 70 v31 71 v37 72 v38 65 v38 73 v39 74 v40 19 v39 20 v40 75 v40) 76 v41 77 v41 78 v42 79 v43 80 v44 81 v45 82 v130 12 v130) h130)
 (S9_k3 G K (u6 (u10 (u10 r 61 (r 2) 62 v30 60 v30 63 v31 64 v32 17 v31 18 v32 66 v34 67 v35 68 (r 13)) 69 v36 70 v31 71 v37 72 v38 65 v38 73 v39 74 v40 19 v39 20 v40 75 v40) 76 v41 77 v41 78 v42 79 v43 80 v44 81 v45) h45)
def S9_k1:Prop:=
 o_ G (Instr.fieldAt 26 (r 6) 0) h fun v6 h6=>o_ G (Instr.loadAt 3 v6) h6 fun v7 h7=>o_ G (Instr.fieldAt 26 (r 6) 1) h7 fun v8 h8=>o_ G (Instr.loadAt 3 v8) h8 fun v9 h9=>o_ G (binOp .mul 3 v7 v9) h9 fun v10 h10=>
 c_ G 24 #[v10] h10 fun v11 h11=>o_ G (Instr.extract v11 0) h11 fun v12 h12=>o_ G (Instr.extract v11 1) h12 fun v13 h13=>o_ G (Instr.fieldAt 26 (r 6) 7) h13 fun v14 h14=>o_ G (Instr.loadAt 3 v14) h14 fun v15 h15=>o_ G (Instr.fieldAt 26 (r 6) 8) h15 fun v16 h16=>o_ G (Instr.loadAt 3 v16) h16 fun v17 h17=>o_ G (Instr.fieldAt 26 (r 6) 9) h17 fun v18 h18=>o_ G (Instr.loadAt 3 v18) h18 fun v19 h19=>
 c_ G 29 #[v15,v17,v19] h19 fun v20 h20=>o_ G (Instr.extract v20 0) h20 fun v21 h21=>o_ G (Instr.extract v20 1) h21 fun v22 h22=>
 opH P_ G (xEq .neq 35 (.tmp 0) (.const .nilFunc) v13 (.int .i64 0)) h22 fun v23 h23=>g_ v23 false (fun K1=>K1 v22 h23) h23 fun v24 h24=>g_ v23 false (opH P_ G (xEq .neq 35 (.tmp 0) (.const .nilFunc) v24 (.int .i64 0)) h24) h24 fun v25 h25=>
 opH P_ G (bj v23 (.bool true) v25) h25 fun v26 h26=>g_ v26 false (fun K1=>K1 v12 h26) h26 fun v27 h27=>g_ v26 false (opH P_ G (xEq .eql 34 (.tmp 0) (.const .nilFunc) v27 (.pointer none)) h27) h27 fun v28 h28=>
 opH P_ G (bj v26 (.bool true) v28) h28 fun v29 h29=>
 (fun q=>cond v29
 (K .ret (upd q 12 (.bool false)) h29)
 (S9_k2 G K q h29))
 (u3 (u10 (u10 (u10 r 32 v6 33 v7 34 v8 35 v9 36 v10 37 v11 31 v11 38 v12 39 v13 13 v12) 14 v13 41 v14 42 v15 43 v16 44 v17 45 v18 46 v19 47 v20 40 v20 48 v21) 49 v22 15 v21 16 v22 50 v13 51 v23 52 v23 53 v24 54 v25 55 v26 56 v26) 57 v27 58 v28 59 v29)
def S9:Prop:=
 o_ G (Instr.box 26 (r 0)) h fun v0 h0=>o_ G (Instr.box 30 (r 1)) h0 fun v1 h1=>o_ G (Instr.box 30 (r 3)) h1 fun v2 h2=>o_ G (Instr.loadAt 26 v0) h2 fun v3 h3=>
 c_ G 21 #[v3] h3 fun v4 h4=>o_ G (Op.unary .not v4) h4 fun v5 h5=>
 cond v5
 (c_ G 32 #[] h5 fun v131 h131=>
 K .ret (u9 r 6 v0 7 v1 9 v2 12 (.bool false) 27 v3 28 v4 29 v5 30 v131 12 v131) h131)
 (S9_k1 G K (u7 r 6 v0 7 v1 9 v2 12 (.bool false) 27 v3 28 v4 29 v5) h5)
theorem enter9:Ent 201 9 [.tmp 12] S9:=ent_ (m:=md9) (c:=(Tryz.f9.body.getD .skip)) (fun _ _ _ _=>by kernel_rfl) Tryz.func9 rfl rfl rfl
def md10:Nat->Hint
 |8=>mh false [0,1,3,7,15,31,63,15,15,271,783,1935,3983,8191,16383,32767,65535,131071,262143,65535,65535,1114111,3211263,7929855,16318463,33554431,67108863,134217727,268435455,536870911,1073741823] [n_,m_,m_,n_,n_,n_,m_,m_,n_,n_,m_,e_,n_,m_,n_,n_,n_,n_,m_,m_,n_,n_,m_,e_,n_,m_,n_,n_,e_,n_,n_] [false,false,false,false,false,false,false,false,false,false,false,true,false,false,false,false,false,false,false,false,false,false,false,true,false,false,false,false,false,false,false] false
 |_=>mh false [] [] [] false
def aC3:Prop:=
 o_ G (Instr.loadAt 30 (r 3)) h fun v15 h15=>
 c_ G 39 #[(r 5),v15,(.slice none 0 0)] h15 fun v16 h16=>o_ G (Instr.loadAt 30 (r 3)) h16 fun v17 h17=>
 c_ G 40 #[v17] h17 fun v18 h18=>
 w_ G h18 (Builtin.len_ #[71] 3 #[v16]) h18 fun v19 h19=>
 bm P_ G h18 (xEq .eql 3 (.tmp 0) (.const .nilFunc) v19 (.int .i64 2)) h19 fun v20 h20=>g_ v20 true (fun K1=>K1 v16 h20) h20 fun v21 h21=>g_ v20 true (p_ (Instr.indexAt 71 v21 (.int .i64 0)) h21) h21 fun v22 h22=>g_ v20 true (w_ G h18 (Instr.loadAt 75 v22) h22) h22 fun v23 h23=>g_ v20 true (w_ G h18 (Instr.loadAt 26 (r 2)) h23) h23 fun v24 h24=>g_ v20 true (fun K1=>K1 v18 h24) h24 fun v25 h25=>g_ v20 true (p_ (Instr.indexAt 22 v25 (.int .i64 0)) h25) h25 fun v26 h26=>g_ v20 true (w_ G h18 (Instr.loadAt 28 v26) h26) h26 fun v27 h27=>g_ v20 true (fun K1=>c_ G 41 #[v24,v27] h27 fun v h'=>h18.le h'/\K1 v h') h27 fun v28 h28=>g_ v20 true (p_ (Instr.build 75 #[(0,v28),(1,(.int .i64 0)),(2,(.int .i64 4611686018427387904))]) h28) h28 fun v29 h29=>g_ v20 true (bm P_ G h18 (xEq .eql 75 (.tmp 0) (.tmp 0) v23 v29) h29) h29 fun v30 h30=>
 bm P_ noHp noHp (bj v20 v30 (.bool false)) h30 fun v31 h31=>g_ v31 true (fun K1=>K1 v16 h31) h31 fun v32 h32=>g_ v31 true (p_ (Instr.indexAt 71 v32 (.int .i64 1)) h32) h32 fun v33 h33=>g_ v31 true (w_ G h18 (Instr.loadAt 75 v33) h33) h33 fun v34 h34=>g_ v31 true (w_ G h18 (Instr.loadAt 26 (r 2)) h34) h34 fun v35 h35=>g_ v31 true (fun K1=>K1 v18 h35) h35 fun v36 h36=>g_ v31 true (p_ (Instr.indexAt 22 v36 (.int .i64 1)) h36) h36 fun v37 h37=>g_ v31 true (w_ G h18 (Instr.loadAt 28 v37) h37) h37 fun v38 h38=>g_ v31 true (fun K1=>c_ G 41 #[v35,v38] h38 fun v h'=>h18.le h'/\K1 v h') h38 fun v39 h39=>g_ v31 true (p_ (Instr.build 75 #[(0,v39),(1,(.int .i64 0)),(2,(.int .i64 4611686018427387904))]) h39) h39 fun v40 h40=>g_ v31 true (bm P_ G h18 (xEq .eql 75 (.tmp 0) (.tmp 0) v34 v40) h40) h40 fun v41 h41=>
 bm P_ noHp noHp (bj v31 v41 (.bool false)) h41 fun v42 h42=>g_ v42 true (c_ G 32 #[] h42) h42 fun v43 h43=>
 bm P_ noHp noHp (bj v42 v43 (.bool false)) h43 fun v44 h44=>
 K .ret (u8 (u10 (u10 (u10 r 32 (r 5) 33 v15 34 v16 7 v16 35 v17 36 v18 8 v18 37 v16 38 v19 39 v20) 40 v20 41 v21 42 v22 43 v23 44 v24 45 v25 46 v26 47 v27 48 v28 49 v29) 50 v30 51 v31 52 v31 53 v32 54 v33 55 v34 56 v35 57 v36 58 v37 59 v38) 60 v39 61 v40 62 v41 63 v42 64 v42 65 v43 66 v44 4 v44) h44
def aC4:Prop:=
 o_ G (Instr.loadAt 26 (r 2)) h fun v11 h11=>o_ G (Instr.loadAt 30 (r 3)) h11 fun v12 h12=>
 c_ G 22 #[v11,v12] h12 fun v13 h13=>o_ G (Op.unary .not v13) h13 fun v14 h14=>
 cond v14
 (c_ G 32 #[] h14 fun v45 h45=>
 K .ret (u6 r 27 v11 28 v12 29 v13 30 v14 31 v45 4 v45) h45)
 (aC3 G K (u4 r 27 v11 28 v12 29 v13 30 v14) h14)
def S10:Prop:=
 o_ G (Instr.box 26 (r 0)) h fun v0 h0=>o_ G (Instr.box 30 (r 1)) h0 fun v1 h1=>o_ G (Instr.loadAt 26 v0) h1 fun v2 h2=>
 c_ G 28 #[v2] h2 fun v3 h3=>
 c_ G 37 #[v3] h3 fun v4 h4=>o_ G (Instr.extract v4 0) h4 fun v5 h5=>o_ G (Instr.extract v4 1) h5 fun v6 h6=>
 opH P_ G (xEq .neq 35 (.tmp 0) (.const .nilFunc) v6 (.int .i64 0)) h6 fun v7 h7=>g_ v7 false (fun K1=>K1 v5 h7) h7 fun v8 h8=>g_ v7 false (opH P_ G (xEq .eql 68 (.tmp 0) (.const .nilFunc) v8 (.pointer none)) h8) h8 fun v9 h9=>
 opH P_ G (bj v7 (.bool true) v9) h9 fun v10 h10=>
 cond v10
 (o_ G (Instr.loadAt 26 v0) h10 fun v46 h46=>
 c_ G 38 #[v46] h46 fun v47 h47=>o_ G (Op.unary .not v47) h47 fun v48 h48=>g_ v48 true (c_ G 32 #[] h48) h48 fun v49 h49=>
 opH P_ G (bj v48 v49 (.bool false)) h49 fun v50 h50=>
 K .ret (u4 (u10 (u10 r 2 v0 3 v1 4 (.bool false) 10 v2 11 v3 12 v4 9 v4 13 v5 14 v6 5 v5) 6 v6 15 v6 16 v7 17 v7 18 v8 19 v9 20 v10 21 v46 22 v47 23 v48) 24 v48 25 v49 26 v50 4 v50) h50)
 (aC4 G K (u7 (u10 r 2 v0 3 v1 4 (.bool false) 10 v2 11 v3 12 v4 9 v4 13 v5 14 v6 5 v5) 6 v6 15 v6 16 v7 17 v7 18 v8 19 v9 20 v10) h10)
theorem enter10:Ent 67 10 [.tmp 4] S10:=ent_ (m:=md10) (c:=(Tryz.f10.body.getD .skip)) (fun _ _ _ _=>by kernel_rfl) Tryz.func10 rfl rfl rfl
def md32:Nat->Hint
 |_=>mh false [] [] [] false
def aB5:Prop:=
 o_ G (Instr.loadAt 26 (r 1)) h fun v10 h10=>o_ G (Instr.build 30 #[]) h10 fun v11 h11=>o_ G (Instr.build 119 #[(1,(.int .i64 3))]) h11 fun v12 h12=>o_ G (Instr.buildSlice 59 1 #[(0,v12)]) h12 fun v13 h13=>o_ G (Instr.build 28 #[(0,(.int .i64 1))]) h13 fun v14 h14=>o_ G (Instr.build 30 #[(0,v14)]) h14 fun v15 h15=>
 c_ G 34 #[v10,(r 2),(.int .i64 0),v11,(.int .i64 3),v13,v15] h15 fun v16 h16=>o_ G (Instr.extract v16 0) h16 fun v17 h17=>o_ G (Instr.extract v16 1) h17 fun v18 h18=>
 opH P_ G (xEq .eql 35 (.tmp 0) (.const .nilFunc) v18 (.int .i64 0)) h18 fun v19 h19=>g_ v19 true (fun K1=>K1 v17 h19) h19 fun v20 h20=>g_ v19 true (o_ G (Builtin.len_ #[40] 3 #[v20]) h20) h20 fun v21 h21=>g_ v19 true (opH P_ G (xEq .eql 3 (.tmp 0) (.const .nilFunc) v21 (.int .i64 2)) h21) h21 fun v22 h22=>
 opH P_ G (bj v19 v22 (.bool false)) h22 fun v23 h23=>g_ v23 true (fun K1=>K1 v17 h23) h23 fun v24 h24=>g_ v23 true (o_ G (Instr.indexAt 40 v24 (.int .i64 0)) h24) h24 fun v25 h25=>g_ v23 true (o_ G (Instr.fieldAt 48 v25 0) h25) h25 fun v26 h26=>g_ v23 true (o_ G (Instr.loadAt 3 v26) h26) h26 fun v27 h27=>g_ v23 true (opH P_ G (xEq .eql 3 (.tmp 0) (.const .nilFunc) v27 (.int .i64 3)) h27) h27 fun v28 h28=>
 opH P_ G (bj v23 v28 (.bool false)) h28 fun v29 h29=>g_ v29 true (fun K1=>K1 v17 h29) h29 fun v30 h30=>g_ v29 true (o_ G (Instr.indexAt 40 v30 (.int .i64 0)) h30) h30 fun v31 h31=>g_ v29 true (o_ G (Instr.fieldAt 48 v31 5) h31) h31 fun v32 h32=>g_ v29 true (o_ G (Instr.loadAt 3 v32) h32) h32 fun v33 h33=>g_ v29 true (opH P_ G (xEq .eql 3 (.tmp 0) (.const .nilFunc) v33 (.int .i64 3)) h33) h33 fun v34 h34=>
 opH P_ G (bj v29 v34 (.bool false)) h34 fun v35 h35=>g_ v35 true (fun K1=>K1 v17 h35) h35 fun v36 h36=>g_ v35 true (o_ G (Instr.indexAt 40 v36 (.int .i64 0)) h36) h36 fun v37 h37=>g_ v35 true (o_ G (Instr.fieldAt 48 v37 6) h37) h37 fun v38 h38=>g_ v35 true (o_ G (Instr.loadAt 3 v38) h38) h38 fun v39 h39=>g_ v35 true (opH P_ G (xEq .eql 3 (.tmp 0) (.const .nilFunc) v39 (.int .i64 9)) h39) h39 fun v40 h40=>
 opH P_ G (bj v35 v40 (.bool false)) h40 fun v41 h41=>g_ v41 true (fun K1=>K1 v17 h41) h41 fun v42 h42=>g_ v41 true (o_ G (Instr.indexAt 40 v42 (.int .i64 1)) h42) h42 fun v43 h43=>g_ v41 true (o_ G (Instr.fieldAt 48 v43 0) h43) h43 fun v44 h44=>g_ v41 true (o_ G (Instr.loadAt 3 v44) h44) h44 fun v45 h45=>g_ v41 true (opH P_ G (xEq .eql 3 (.tmp 0) (.const .nilFunc) v45 (.int .i64 1)) h45) h45 fun v46 h46=>
 opH P_ G (bj v41 v46 (.bool false)) h46 fun v47 h47=>g_ v47 true (fun K1=>K1 v17 h47) h47 fun v48 h48=>g_ v47 true (o_ G (Instr.indexAt 40 v48 (.int .i64 1)) h48) h48 fun v49 h49=>g_ v47 true (o_ G (Instr.fieldAt 48 v49 6) h49) h49 fun v50 h50=>g_ v47 true (o_ G (Instr.loadAt 3 v50) h50) h50 fun v51 h51=>g_ v47 true (opH P_ G (xEq .eql 3 (.tmp 0) (.const .nilFunc) v51 (.int .i64 13)) h51) h51 fun v52 h52=>
 opH P_ G (bj v47 v52 (.bool false)) h52 fun v53 h53=>
 K .ret (u6 (u10 (u10 (u10 (u10 (u10 r 18 v10 19 (r 2) 20 v11 21 v12 22 v13 23 v14 24 v15 25 v16 17 v16 26 v17) 27 v18 4 v17 5 v18 28 v18 29 v19 30 v19 31 v20 32 v21 33 v22 34 v23) 35 v23 36 v24 37 v25 38 v26 39 v27 40 v28 41 v29 42 v29 43 v30 44 v31) 45 v32 46 v33 47 v34 48 v35 49 v35 50 v36 51 v37 52 v38 53 v39 54 v40) 55 v41 56 v41 57 v42 58 v43 59 v44 60 v45 61 v46 62 v47 63 v47 64 v48) 65 v49 66 v50 67 v51 68 v52 69 v53 0 v53) h53
def S32:Prop:=
 o_ G (Instr.build 26 #[(0,(.int .i64 3)),(1,(.int .i64 1)),(2,(.int .i64 1)),(7,(.int .i64 10)),(8,(.int .i64 2)),(9,(.int .i64 4)),(10,(.int .i64 1)),(11,(.int .i64 6)),(12,(.int .i64 1)),(13,(.int .i64 1)),(14,(.int .i64 100))]) h fun v0 h0=>o_ G (Instr.alloc 26 true (.tuple #[])) h0 fun v1 h1=>
 opH P_ G (su (Instr.storeAt 26 v1 v0)) h1 fun v2 h2=>
 c_ G 24 #[(.int .i64 3)] h2 fun v3 h3=>o_ G (Instr.extract v3 0) h3 fun v4 h4=>o_ G (Instr.extract v3 1) h4 fun v5 h5=>
 opH P_ G (xEq .neq 35 (.tmp 0) (.const .nilFunc) v5 (.int .i64 0)) h5 fun v6 h6=>g_ v6 false (fun K1=>K1 v4 h6) h6 fun v7 h7=>g_ v6 false (opH P_ G (xEq .eql 34 (.tmp 0) (.const .nilFunc) v7 (.pointer none)) h7) h7 fun v8 h8=>
 opH P_ G (bj v6 (.bool true) v8) h8 fun v9 h9=>
 (fun q=>cond v9
 (K .ret (upd q 0 (.bool false)) h9)
 (aB5 G K q h9))
 (u5 (u10 r 0 (.bool false) 6 v0 1 v1 8 v3 7 v3 9 v4 10 v5 2 v4 3 v5 11 v5) 12 v6 13 v6 14 v7 15 v8 16 v9)
theorem enter32:Ent 70 32 [.tmp 0] S32:=ent_ (m:=md32) (c:=(Tryz.f32.body.getD .skip)) (fun _ _ _ _=>by kernel_rfl) Tryz.func32 rfl rfl rfl
def md33:Nat->Hint
 |7=>mh false [0,0,0,6,14,30,0,0,192,448,960,2046,4094,8191,16383] [n_,n_,n_,n_,n_,m_,n_,n_,n_,n_,m_,n_,.alloc,e_,n_] (fs 15) false
 |_=>mh false [] [] [] false
def Wh (G:Hp) (K:EK) (r:Rg) (h:Hp):Prop:=
 K .ret (u4 r 38 (r 4) 39 (r 5) 2 (r 4) 3 (r 5)) h
def Ob:Prop:=
 o_ G (binOp .add 3 (r 6) (.int .i64 1)) h fun v5 h5=>
 K .normal (u3 r 15 (r 6) 16 v5 6 v5) h5
def Oc:Prop:=
 o_ G (Instr.indexAt 59 (r 0) (r 6)) h fun v6 h6=>o_ G (Instr.loadAt 119 v6) h6 fun v7 h7=>o_ G (Instr.buildSlice 59 1 #[(0,v7)]) h7 fun v8 h8=>o_ G (Builtin.append_ #[59,59] 59 #[(r 4),v8]) h8 fun v9 h9=>
 p_ (Instr.indexAt 59 (r 0) (r 6)) h9 fun v10 h10=>
 p_ (Instr.fieldAt 119 v10 0) h10 fun v11 h11=>
 w_ G h9 (Instr.loadAt 28 v11) h11 fun v12 h12=>
 p_ (Instr.indexAt 59 (r 0) (r 6)) h12 fun v13 h13=>
 p_ (Instr.fieldAt 119 v13 1) h13 fun v14 h14=>
 w_ G h9 (Instr.loadAt 3 v14) h14 fun v15 h15=>
 p_ (Instr.build 175 #[(0,v12),(1,v15)]) h15 fun v16 h16=>o_ G (Instr.buildSlice 60 1 #[(0,v16)]) h16 fun v17 h17=>o_ G (Builtin.append_ #[60,60] 60 #[(r 5),v17]) h17 fun v18 h18=>
 Ob G K (u3 (u10 (u10 r 17 (r 4) 18 (r 0) 19 (r 6) 20 v6 21 v7 22 v8 23 v9 4 v9 24 (r 5) 25 (r 0)) 26 (r 6) 27 v10 28 v11 29 v12 30 (r 0) 31 (r 6) 32 v13 33 v14 34 v15 35 v16) 36 v17 37 v18 5 v18) h18
def aB4 (r:Rg) (h:Hp) (K:EK):Prop:=
 o_ G (Builtin.len_ #[59] 3 #[(r 0)]) h fun v0 h0=>o_ G (binOp .lss 3 (r 6) v0) h0 fun v1 h1=>g_ v1 true (fun K1=>K1 (r 6) h1) h1 fun v2 h2=>g_ v1 true (o_ G (binOp .lss 3 v2 (.int .i64 4)) h2) h2 fun v3 h3=>
 opH P_ G (bj v1 v3 (.bool false)) h3 fun v4 h4=>
 (fun q=>cond v4
 (Oc G K q h4)
 (K (.exit 0) q h4))
 (u8 r 7 (r 6) 8 (r 0) 9 v0 10 v1 11 v1 12 v2 13 v3 14 v4)
def S33:Prop:=
 dl (aB4 G) (u5 r 2 (.slice none 0 0) 3 (.slice none 0 0) 4 (.slice none 0 0) 5 (.slice none 0 0) 6 (.int .i64 0)) h (bo 0 (ci (Wh G K) K))
theorem enter33:Ent 40 33 [.tmp 2,.tmp 3] S33:=ent_ (m:=md33) (c:=(Tryz.f33.body.getD .skip)) (fun _ _ _ _=>by kernel_rfl) Tryz.func33 rfl rfl rfl
end
end Go.Proofs.YtfflipnhffknnaaGreatDoor
end
section
namespace Go.Proofs.YtfflipnhffknnaaGreatDoor
open Go Go.HL Go.Proofs.Resv Go.Proofs.Srch
def fm:=jq bC (jq (jq (jq (jq (jq @List.length_cons.{0} @List.length_nil.{0}) (jq @al119 @al26)) (jq (jq @al35 @al40) (jq @bd119_1 @p9))) (jq (jq (jq @bd28_0 @bd30_) (jq @aw0 @beq_self_eq_true.{0})) (jq (jq @bne_self_eq_false.{0} @T7) (jq @ny (jq @cf24 @cf34))))) (jq (jq (jq (jq @cf74 @Tq) (jq @fa119_1 @zq)) (jq (jq @Vm @I1) (jq @ld119 (jq @ld26 @ld3)))) (jq (jq (jq @ln40 @ln59) (jq @jy @qt)) (jq (jq @sn @ag2) (jq @st26w (jq @st35s @true_and))))))
theorem ag7 {G h B h0:Hp} {q:RdQ} (st:iq G) (w:RdW G q B) {p hm:Pose} {t:Int} {S:List Stp} {sv:Value} (pp:PB p) (ph:PB hm) (ss:Sees stpC G B sv S) (hS:∀s∈S,StpB s) (hl:S.length<=7)
   {xh:Nat} (bh:B xh=some (fh hm)) (le0:h0.le B) {r:Rg} {R:VK}
   (g5:r 5=sv) (g7:r 7 = .pointer (some ⟨q.xc,0,none⟩)) (g8:r 8 = .pointer (some ⟨q.xt,0,none⟩)) (g9:r 9 = .pointer (some ⟨q.xr,0,none⟩)) (g10:r 10 = .pointer (some ⟨q.xf,0,none⟩)) (g11:r 11 = .pointer (some ⟨q.xa,0,none⟩)) (g13:r 13 = .pointer (some ⟨xh,0,none⟩))
   (s:HL.Sep [noHp.set q.xf (fh p),noHp.set q.xa (.cells #[t] 3 (0,0)),B] h) (d:Dis G h) (H:∀u h',Q9 G h0 (te q.C q.T q.rb p t S hm) u h'->R u h'):
   Wg G (retK P_ G [.tmp 14,.tmp 15] R) r h:=by
 obtain ⟨sa,sc,rfl,_⟩:=id ss
 generalize hKK:retK P_ G [.tmp 14,.tmp 15] R=KK
 unfold Wg
 try simp only [fm,g5]
 refine di (fun m p' h'=>∃i:Nat,m=S.length-i/\i<=S.length/\(∀y,1<=y->y<=13->p' y=r y)/\p' 27 = .slice sa S.length sc/\p' 28 = .int .i64 S.length/\p' 29 = .int .i64 i/\HL.Sep [noHp.set q.xf (fh p),noHp.set q.xa (.cells #[t] 3 (0,0)),B] h'/\Dis G h'/\∀s∈S.take i,zc s=true) ?_ (m:=S.length)
   ⟨0,rfl,Nat.zero_le _,fun y h1 h2=>by simp (disch:=omega) only [av],by simp (disch:=decide) only [fm]<;>rfl,by simp (disch:=decide) only [fm]<;>rfl,by simp only [fm]<;>rfl,s,d,by simp⟩
 clear s d
 rintro m p' h1 ⟨i,rfl,hi,hp',p27,p28,p29,s,d,hok⟩ X hX
 unfold aB2
 simp only [fm,p28,p29]
 refine bv (fun hlt=>?_) (fun hge=>?_)
 rotate_left
 . obtain rfl:i=S.length:=by omega
   rw [List.take_length]at hok
   try simp (disch:=first|decide|omega) only [fm,Nat.reduceAdd,Nat.reduceMul]
   unfold Wf
   try simp (disch:=first|decide|exact aq|exact ao|omega|rfl) only [fm]
   intro xl hxl gxl
   have s1:=s.new (o := .cells #[.slice none 0 0] 40 (0,0)) hxl
   generalize e1:Hp.set h1 xl _=h2 at*
   obtain ⟨l2,d2,b2⟩:=boxed e1 hxl d gxl
   intro xe hxe gxe
   have s2:=s1.new (o := .cells #[(0:Int)] 35 (0,0)) hxe
   have d3:=d2.set (o := .cells #[(0:Int)] 35 (0,0)) gxe
   try simp (disch:=first|decide|omega) only [fm,Nat.reduceAdd,Nat.reduceMul]
   have w2:RdW G { q with xe:=xe,xl:=xl } B:=⟨w.bc,w.bt,w.br,w.tv,w.mk_,w.hro,w.fit,w.hbu⟩
   have hz:∀y,1<=y->y<=13->p' y=r y:=hp'
   rw [<- hKK]
   refine ag6 (q:={ q with xe:=xe,xl:=xl }) st w2 pp ph ss hS hl bh le0 (by simp (disch:=decide) only [fm,(hz 5 (by decide) (by decide)).trans g5]) (by simp (disch:=decide) only [fm,(hz 7 (by decide) (by decide)).trans g7]) (by simp (disch:=decide) only [fm,(hz 10 (by decide) (by decide)).trans g10]) (by simp (disch:=decide) only [fm,(hz 11 (by decide) (by decide)).trans g11]) (by simp (disch:=decide) only [fm,(hz 13 (by decide) (by decide)).trans g13]) (by simp (disch:=decide) only [fm]) (by simp (disch:=decide) only [fm])
     (by simp (disch:=decide) only [fm,(hz 7 (by decide) (by decide)).trans g7,(hz 8 (by decide) (by decide)).trans g8,(hz 9 (by decide) (by decide)).trans g9,(hz 10 (by decide) (by decide)).trans g10,(hz 11 (by decide) (by decide)).trans g11]) (by simp only [fm]<;>rfl)
     ⟨_,noHp,Slc.nil,s2.none.sel [3,4,1,2,0,5] (by decide) rfl,d3⟩ fun u h' hR=>H u h' ?_
   unfold te
   rw [if_pos (List.all_eq_true.2 hok)]
   exact hR
 obtain ⟨z,hz⟩:∃z,S[i]?=some z:=⟨_,List.getElem?_eq_getElem (by omega)⟩
 obtain ⟨b,o,rfl,c0,c1,c2⟩:=Sees.stp (ss.up (s.in 2 rfl) d) hz
 unfold Js
 simp (disch:=first|decide|exact aq|exact ao|omega|rfl) only [fm,p27,p29,ix59 (Int.natCast_nonneg i) hlt,c0,c1,c2]
 intro x hx gx
 have s1:=s.past (o := .cells #[z.x,z.y,z.k] 119 (0,0)) hx
 try simp (disch:=first|decide|omega) only [fm,Nat.reduceAdd,Nat.reduceMul]
 generalize e1:Hp.set h1 x _=h2 at*
 obtain ⟨l2,d2,b2⟩:=boxed e1 hx d gx
 have cx:∀k,af G h2 ⟨x,k,none⟩=_:=fun k=>aj (ai b2)
 have next:zc z=true->∀r':Rg,(∀y,1<=y->y<=13->r' y=r y)->r' 27 = .slice (some ⟨b,o,none⟩) S.length sc->r' 28 = .int .i64 S.length->r' 29 = .int .i64 i->B4 G (ci X (bo 0 (ci (Wf G KK) (qg KK)))) r' h2:=fun hk r' hr e27 e28 e29=>by
   unfold B4
   simp (disch:=first|decide|omega) only [fm,e29]
   refine hX (S.length-(i+1)) _ _ (by omega) ⟨i+1,rfl,by omega,fun y h1 h2=>by simp (disch:=omega) only [av];exact hr y h1 h2,by simp (disch:=decide) only [fm,e27],by simp (disch:=decide) only [fm,e28],by simp only [fm]<;>rfl,s1,d2,fun s hs=>?_⟩
   rw [List.take_add_one,hz]at hs
   rcases List.mem_append.1 hs with hs|hs
   . exact hok s hs
   . simp at hs;subst hs;exact hk
 try simp (disch:=first|decide|omega) only [fm,Nat.reduceAdd,Nat.reduceMul,cx]
 by_cases k3:z.k=3
 . try simp only [fm,show (z.k != 3)=false by simp [k3],fe]
   exact next (by unfold zc;simp [k3]) _ (fun y h1 h2=>by simp (disch:=omega) only [av];exact hp' y h1 h2) (by simp (disch:=decide) only [fm,p27]) (by simp (disch:=decide) only [fm,p28]) (by simp (disch:=decide) only [fm,p29])
 by_cases k4:z.k=4
 . try simp only [fm,show (z.k != 3)=true by simp [k3],show (z.k != 4)=false by simp [k4],cx]
   exact next (by unfold zc;simp [k4]) _ (fun y h1 h2=>by simp (disch:=omega) only [av];exact hp' y h1 h2) (by simp (disch:=decide) only [fm,p27]) (by simp (disch:=decide) only [fm,p28]) (by simp (disch:=decide) only [fm,p29])
 try simp only [fm,show (z.k != 3)=true by simp [k3],show (z.k != 4)=true by simp [k4],cx]
 rw [<- hKK]
 try simp (disch:=decide) only [fm]
 refine H _ _ ?_
 unfold te
 rw [if_neg (fun ha=>by
   have:=List.all_eq_true.1 ha z (List.mem_of_getElem? hz)
   unfold zc at this
   simp [k3,k4]at this)]
 exact ⟨noHp,_,rfl,Slc.nil,by simp [outL],((s1.sel (L':=[B]) [2] (by decide) rfl).cut le0).none,d2⟩
theorem vn {G h:Hp} {C:Conf} {v vt sv:Value} {T:Tb} {p hm:Pose} {rb t:Int} {S:List Stp} (hv:CV G h v C) (st:iq G) (hro:∀p∈C.ro,PB p) (fit:Fit0 C) (hbu:cj C->C.bu<=4000)
   (tv:TabV G h vt (some T)) (pp:PB p) (ph:PB hm) (ss:Sees stpC G h sv S) (hS:∀s∈S,StpB s) (hl:S.length<=7):
   al P_ G 34 #[v,vt,rb,ja p,t,sv,ja hm] h (fun u h'=>∃W,Q9 G h W u h'/\((¬cj C/\W = .no 5)\/(cj C/\W=te C T rb p t S hm))):=by
 have hsl:C.st.length<=100000000000000:=by have:=fit.st;unfold Room at this;omega
 obtain ⟨ab,cb,ap,cp',ar,cr,az,cs,rfl,ca⟩:=hv
 obtain ⟨tp,rfl,ts,gT,fT⟩:=tv
 obtain ⟨sa,sc,rfl,_⟩:=id ss
 refine al.assume fun d=>enter34 (by simp) ?_
 unfold S34
 simp (disch:=decide) only [fm]
 intro xc hxc gxc
 have s1:=(HL.Sep.one (h:=h)).grow (o:=zu C ab cb ap cp' ar cr az cs) hxc
 generalize e1:Hp.set h xc _=h1 at*
 obtain ⟨l1,d1,q1⟩:=boxed e1 hxc d gxc
 intro xt hxt gxt
 have s2:=s1.grow (o := .cells #[.pointer (some ⟨tp,0,none⟩)] 34 (0,0)) hxt
 generalize e2:Hp.set h1 xt _=h2 at*
 obtain ⟨l2,d2,q2⟩:=boxed e2 hxt d1 gxt
 intro xr hxr gxr
 have s3:=s2.grow (o := .cells #[rb] 3 (0,0)) hxr
 generalize e3:Hp.set h2 xr _=h3 at*
 obtain ⟨l3,d3,q3⟩:=boxed e3 hxr d2 gxr
 have LB:=l1.trans (l2.trans l3)
 have q1B:=l3 _ _ (l2 _ _ q1)
 have q2B:=l3 _ _ q2
 intro xf hxf gxf
 have s4:=s3.new (o:=fh p) hxf
 generalize e4:Hp.set h3 xf _=h4 at*
 obtain ⟨l4,d4,q4⟩:=boxed e4 hxf d3 gxf
 intro xa hxa gxa
 have s5:=s4.new (o := .cells #[t] 3 (0,0)) hxa
 generalize e5:Hp.set h4 xa _=h5 at*
 obtain ⟨l5,d5,q5⟩:=boxed e5 hxa d4 gxa
 intro xh hxh gxh
 have s6:=(s5.sel (L':=[h3,noHp.set xf (fh p),noHp.set xa (.cells #[t] 3 (0,0))]) [2,1,0] (by decide) rfl).grow (o:=fh hm) hxh
 have lB:h3.le (h3.set xh (fh hm)):=b8 (s5.in 2 rfl |>.none hxh)
 have bh:(h3.set xh (fh hm)) xh=some (fh hm):=ag
 generalize e6:Hp.set h5 xh _=h6 at*
 obtain ⟨l6,d6,q6⟩:=boxed e6 hxh d5 gxh
 generalize h3.set xh (fh hm)=B at*
 have dB:Dis G B:=fun y o hy=>d6 y o (s6.hd _ _ hy)
 have LhB:=LB.trans lB
 have cc6:∀k,af G h6 ⟨xc,k,none⟩=_:=fun k=>aj (ai (s6.hd _ _ (lB _ _ q1B)))
 have Lh6:h.le h6:=LhB.trans s6.hd
 have sN:HL.Sep [noHp,h] h6:=(((s6.sel (L':=[B]) [0] (by decide) rfl).cut LhB).none)
 try simp only [fm,cc6]
 refine (ab5 (ca.up Lh6 d6).cv st hro hsl).mono ?_
 rintro _ h6 ⟨⟨b,rfl,hb⟩,rfl⟩
 cases b with
 |false=>
   try simp only [fm]
   exact ⟨.no 5,⟨noHp,_,rfl,Slc.nil,by simp [outL],sN,d6⟩,.inl ⟨fun h=>by simpa using hb.2 h,rfl⟩⟩
 |true=>
 have mk:cj C:=hb.1 rfl
 try simp only [fm]
 refine ag7 (q:=⟨C,T,rb,.pointer (some ⟨tp,0,none⟩),xc,xt,xr,xf,xa,0,0⟩) (B:=B) (h0:=h) st ⟨⟨ab,cb,ap,cp',ar,cr,az,cs,ca.up LhB dB,lB _ _ q1B⟩,lB _ _ q2B,lB _ _ q3,TabV.up ⟨tp,rfl,ts,gT,fT⟩ LhB dB,mk,hro,fit,hbu mk⟩ pp ph (ss.up LhB dB) hS hl bh LhB
   (by simp (disch:=decide) only [fm]) (by simp (disch:=decide) only [fm]) (by simp (disch:=decide) only [fm]) (by simp (disch:=decide) only [fm]) (by simp (disch:=decide) only [fm]) (by simp (disch:=decide) only [fm]) (by simp (disch:=decide) only [fm]) (s6.sel [1,2,0] (by decide) rfl) d6 fun u h' hR=>⟨_,hR,.inr ⟨mk,rfl⟩⟩
def C13:Conf:=⟨3,1,1,[],[],[],[],10,2,4,1,6,1,1,100,false⟩
def W13:Res Move:=te C13 [[],[],[]] 0 ⟨0,0,false⟩ 3 [⟨0,0,3⟩] ⟨1,0,false⟩
theorem w13:outE W13=0/\outL W13=[⟨3,0,0,⟨0,0,false⟩,⟨0,0,false⟩,3,9⟩,⟨1,1,1,⟨0,0,false⟩,⟨1,0,false⟩,9,13⟩]:=by decide +kernel
theorem made13:cj C13:=by
 rw [uz,may_nil rfl rfl rfl rfl]
 rfl
theorem G3 {G h:Hp} (st:iq G):al P_ G 32 #[] h (fun u h'=>u = .bool true/\h'=h):=by
 refine al.assume fun d=>quietly (enter32 (by simp) ?_)
 unfold S32
 simp (disch:=first|decide|exact aq|exact ao|omega|rfl) only [fm]
 intro xc hxc gxc
 generalize e1:Hp.set h xc _=h1 at*
 obtain ⟨l1,d1,bc1⟩:=boxed e1 hxc d gxc
 try simp (disch:=first|decide|omega) only [fm,Nat.reduceAdd,Nat.reduceMul]
 refine (Rv.pu (G:=G) (h:=h1) (n:=3) (by decide) (by decide)).mono ?_
 rintro _ h2 ⟨ta,tp,rfl,tab,s2,d2⟩
 try simp only [fm]
 unfold aB5
 have cc2:∀k,af G h2 ⟨xc,k,none⟩=_:=fun k=>aj (ai (s2.at 1 rfl bc1))
 try simp (disch:=decide) only [fm,cc2]
 intro xs hxs gxs
 have s3:=s2.new (o := .cells #[(0:Int),(0:Int),(3:Int)] 119 (0,0)) hxs
 have d3:=d2.set (o := .cells #[(0:Int),(0:Int),(3:Int)] 119 (0,0)) gxs
 try simp (disch:=first|decide|omega) only [fm,Nat.reduceAdd,Nat.reduceMul]
 generalize Hp.set h2 xs _=h3 at*
 have hpb:∀x:Int,0<=x->x<=1->Bd x:=fun x h1 h2=>⟨by omega,by omega⟩
 have hf:=vn (G:=G) (h:=h3) (C:=C13) (v:=Tz C13 none 0 none 0 none 0 none 0) (vt := .pointer (some ⟨tp,0,none⟩)) (sv := .slice (some ⟨xs,0,none⟩) 1 1) (T:=[[],[],[]]) (p:=⟨0,0,false⟩) (hm:=⟨1,0,false⟩) (rb:=0) (t:=3) (S:=[⟨0,0,3⟩]) (ca_nil rfl rfl rfl rfl).cv st (by intro p hp;cases hp) ⟨by unfold Room C13;decide,by unfold Room C13;decide,by unfold Room C13;decide,by unfold Room C13;decide,by intro s hs;cases hs⟩ (fun _=>by decide)
   ⟨tp,rfl,tab.see (s3.in 1 rfl),jm (n:=3),Iz (n:=3)⟩ ⟨hpb 0 (by decide) (by decide),hpb 0 (by decide) (by decide)⟩ ⟨hpb 1 (by decide) (by decide),hpb 0 (by decide) (by decide)⟩
   (Sees.row (c:=stpC) (L:=[⟨0,0,3⟩]) (s3.at 0 rfl ag) rfl (Nat.le_refl _)) (fun s hs=>by rw [List.mem_singleton]at hs;subst hs;exact ⟨hpb 0 (by decide) (by decide),hpb 0 (by decide) (by decide)⟩) (by decide)
 simp only [C13,Tz,ja,List.length_nil]at hf
 refine hf.mono ?_
 rintro _ h4 ⟨W,⟨ip,vs,rfl,sl,_,s4,d4⟩,⟨hno,_⟩|⟨_,rfl⟩⟩
 . exact absurd made13 hno
 have w1:outE W13=0:=w13.1
 have w2:outL W13=[⟨3,0,0,⟨0,0,false⟩,⟨0,0,false⟩,3,9⟩,⟨1,1,1,⟨0,0,false⟩,⟨1,0,false⟩,9,13⟩]:=w13.2
 unfold W13 C13 at w1 w2
 rw [w2]at sl
 rw [w1]
 obtain ⟨sa,cap,rfl,_⟩:=sl.len (by decide)
 have see:=sl.see (G:=G) (by decide) (s4.in 0 rfl)
 obtain ⟨b,o,rfl,x0,x1,x2,x3,x4,x5,x6,x7,x8,x9,x10⟩:=Sees.mvx see (i:=0) rfl
 obtain ⟨b',o',e',y0,y1,y2,y3,y4,y5,y6,y7,y8,y9,y10⟩:=Sees.mvx see (i:=1) rfl
 cases e'
 simp only [Nat.zero_mul,Nat.add_zero,Nat.one_mul]at x0 x1 x2 x3 x4 x5 x6 x7 x8 x9 x10 y0 y1 y2 y3 y4 y5 y6 y7 y8 y9 y10
 try simp only [fm,Nat.reduceAdd,ix40 (by decide:(0:Int)<=0) (by decide:(0:Int)<(2:Nat)),ix40 (by decide:(0:Int)<=1) (by decide:(1:Int)<(2:Nat)),Int.toNat_zero,Nat.zero_mul,List.length_cons,List.length_nil,x0,x9,x10,y0,y10]
 have htwo:(((2:Nat):Int)==2)=true:=rfl
 try simp only [fm,htwo,show Int.toNat 1=1 from rfl,Nat.one_mul,ix40 (by decide:(0:Int)<=0) (by decide:(0:Int)<(2:Nat)),ix40 (by decide:(0:Int)<=1) (by decide:(1:Int)<(2:Nat)),Int.toNat_zero,Nat.zero_mul,List.length_cons,List.length_nil,x0,x9,x10,y0,y10]
 exact l1.trans ((s3.in 2 rfl).trans (s4.in 1 rfl))
def ri:=jq bC (jq (jq (jq (jq @kg @bne_self_eq_false.{0}) (jq @cf21 @cf28)) (jq (jq @cf29 @cf32) (jq @cf35 (jq @cf36 @eq4p)))) (jq (jq (jq @Xz @Bw) (jq @Ez @Ey)) (jq (jq @ld26 @zi) (jq @ld3 (jq @qw @ln40)))))
theorem E1 {G h k a q:Hp} {C:Conf} {u:Value} (co:Zl G h C u k) (s:HL.Sep [a,q] h):∃Q,HL.Sep [a,Q] k/\q.le Q/\Dis G k/\Dis G Q/\CV G Q u C:=by
 obtain ⟨⟨pb,pp_,pr,pz,vb,vp,vr,vz,eu,ob,op,or,oz,sp⟩,dk⟩:=co
 have s1:=HL.Sep.open (L:=[a,q]) (R:=[pb,pp_,pr,pz]) (sp.sel [4,0,1,2,3] (by decide) rfl) s
 obtain ⟨Q,sQ,tQ⟩:=HL.Sep.pack [q,pb,pp_,pr,pz] (R:=[a]) (s1.sel [1,2,3,4,5,0] (by decide) rfl)
 have dQ:Dis G Q:=fun x o hx=>dk x o (sQ.hd _ _ hx)
 have coB:CO noHp C u Q pb pp_ pr pz vb vp vr vz:=⟨eu,ob,op,or,oz,(tQ.sel (L':=[pb,pp_,pr,pz]) [1,2,3,4] (by decide) rfl).none.sel [1,2,3,4,0] (by decide) rfl⟩
 exact ⟨Q,sQ.swap,tQ.in 0 rfl,dk,dQ,coB.cv (Hp.le.refl _)⟩
theorem Ux {G:Hp} {v mv:Value} {C:Conf} {p:Pose} {M:List Move} (pp:PB p) (hm:vk ff G mv M) (hb:∀m∈M,MB m) (st:iq G) (hv:CV G noHp v C) (fit:Fit0 C) (hro:∀p∈C.ro,PB p):
   al Tryz.prog G 8 #[v,ja p,mv] noHp (fun u _=>u = .bool true):=by
 have hv0:=hv
 obtain ⟨ab,cb,ap,cp,ar,cr,az,cs,rfl,ca⟩:=hv
 refine al.assume fun d=>enter8 (by simp) ?_
 obtain ⟨sa,sc,rfl,_⟩:=id (hm noHp d)
 unfold S8
 simp only [ri]
 intro xc hxc gxc x1 hx1 gx1
 generalize e1:Hp.set noHp xc _=h1 at*
 obtain ⟨l1,d1,q1⟩:=boxed e1 hxc d gxc
 generalize e2:Hp.set h1 x1 _=hz at*
 obtain ⟨l2,dz,q2⟩:=boxed e2 hx1 d1 gx1
 have L:=l1.trans (l2)
 have bc:=l2 _ _ (q1)
 have b1:=q2
 have cc:∀{h':Hp},hz.le h'->∀k,af G h' ⟨xc,k,none⟩=_:=fun l k=>aj (ai (l _ _ bc))
 have c1:∀{h':Hp},hz.le h'->∀k,af G h' ⟨x1,k,none⟩=_:=fun l k=>aj (ai (l _ _ b1))
 have ca0:=ca.up L dz
 have lz:=Hp.le.refl hz
 have aw:∀{h:Hp} {K:Value->Hp->Prop},(∀h',K (.bool true) h')->al Tryz.prog G 32 #[] h K:=fun hK=>(G3 st).mono fun u h' e=>by rw [e.1];exact hK h'
 try simp only [ri,cc lz]
 refine (Or ca0.cv).mono ?_
 rintro _ hz ⟨⟨b,rfl,hb'⟩,rfl⟩
 cases b with
 |false=>
   try simp only [ri,fe]
   exact aw fun h'=>by simp only [ri]
 |true=>
 have sm:=hb' rfl
 have mk:cj C:=uz.2 sm.may
 have kb:KB C.un C.ac C.sp:=kb_of mk
 have hbl:C.bl.length<=100000000000000:=by have:=fit.bl;unfold Room at this;omega
 have hsl:C.st.length<=100000000000000:=by have:=fit.st;unfold Room at this;omega
 try simp only [ri]
 refine bv (fun hgt=>?_) (fun hle=>?_)
 . try simp (disch:=first|decide|omega) only [ri,Nat.reduceAdd,Nat.reduceMul,fe]
   exact aw fun h'=>by simp only [ri]
 unfold S8_k1
 try simp (disch:=decide) only [ri,cc lz]
 refine (Il (U:=C.un) (A:=C.ac) (V:=C.sp)).mono ?_
 rintro _ h4 (⟨_,ak,kp,rfl,kpk,s4,d4⟩|⟨hno,_⟩)
 rotate_left
 . exact absurd kb hno
 have l4:=s4.in 1 rfl
 try simp only [ri]
 unfold S8_k2
 refine ⟨hz,l4,?_⟩
 try simp (disch:=decide) only [ri,cc lz]
 refine (i7 (ca0.up l4 d4).cv fit).mono ?_
 rintro u5 k5 co5
 obtain ⟨Q,sQ,lQ,dk,dQ,cvQ⟩:=E1 co5 s4
 refine ⟨lQ.trans (sQ.in 1 rfl),?_⟩
 try simp only [ri,c1 lz]
 refine ez ff (by decide) (L:=[]) (M:=M) un40 eomove (by decide) (by decide) sQ.none dk Slc.nil (hm _ dk) (by simp;omega) fun v6 i6 h6 o6 s6 d6=>?_
 rw [List.nil_append]at o6
 refine ⟨lQ.trans (s6.in 2 rfl),?_⟩
 obtain ⟨U,sU,tU⟩:=HL.Sep.pack [i6,Q] (R:=[ak]) (s6.sel [0,2,1] (by decide) rfl)
 have dU:Dis G U:=fun x o hx=>d6 x o (sU.hd _ _ hx)
 refine (Hv (p:=p) (M:=M) (cvQ.up (tU.in 1 rfl) dU) st hro hsl mk kpk (o6.see (by decide) (tU.in 0 rfl)) hb (by omega) sU.swap).mono ?_
 rintro _ h7 ⟨rfl,a7,kpk7,s7,d7⟩
 have l7:hz.le h7:=lQ.trans ((tU.in 1 rfl).trans (s7.in 1 rfl))
 refine ⟨l7,?_⟩
 try simp (disch:=first|decide|omega) only [ri,Nat.reduceAdd,Nat.reduceMul,cc lz,c1 lz]
 refine (Ru (p:=p) (M:=M) (ca0.up l7 d7).cv mk hbl kb (hm _ d7) hb (by omega)).mono ?_
 rintro _ h7 ⟨rfl,rfl⟩
 cases fg C p 0 M with
 |false=>
   try simp only [ri,show (false==false)=true from rfl]
   exact aw fun h'=>by simp only [ri]
 |true=>
   try simp only [ri,show (true==true)=true from rfl]
   exact aw fun h'=>by simp only [ri]
end Go.Proofs.YtfflipnhffknnaaGreatDoor
end
section
namespace Go.Proofs.YtfflipnhffknnaaGreatDoor
open Go Go.HL Go.ChangeShapes Go.WideShapes Go.RowKit
theorem C0:ownKnob P_.godebug=none:=by kernel_rfl
theorem C7:laidOutB P_=true:=by kernel_rfl
theorem ak6:P_.globalNamed "skep/grid.steps" = some 0:=by kernel_rfl
theorem tSteps:(P_.globals[0]?).map (·.type)=some 245:=by kernel_rfl
abbrev qd:List (String × DataW Unit):=[("skep/grid.steps",Rows.laid_skep_grid_steps)]
theorem Dj (os:Os) (args:Array Value):laidMetH P_ qd ((World.doorLaid P_ 400 os).forCall (fun _ _=>0) ⟨#[],args,[]⟩).memory:=
 laidMetH_of_parts3 (fuel:=8) (laidMet_of_run' 8 (by kernel_rfl) (by kernel_rfl)) (by kernel_rfl) (by kernel_rfl)
theorem Tw {H:Type} {enc:TypeId × Value->H} {P:Program} {w:World} {base:Nat} {spare:Nat->Bool} {held:Bool} {e:TypeId} {fuel:Nat} {cs:List Value} {y:DataW H × List MemPlace} {tos:List (TypeId × Nat)} (ht:gk P e=some tos)
   (h:DataW.trod enc P w base spare held fuel e cs=some y):cs.length=P.cellsOf e/\∃(xs:List (DataW H × List MemPlace)) (m:Nat),y=(.agg (xs.map (·.1)),xs.flatMap (·.2))/\xs.length=tos.length/\∀(i:Nat) (t o:Nat),tos[i]?=some (t,o)->DataW.trod enc P w base spare held m t ((cs.drop o).take (P.cellsOf t))=xs[i]?:=by
 unfold gk at ht
 split at ht
 . rename_i fs hfs
   obtain ⟨xs,n,_,h0,h1,h2,h3⟩:=DataW.trod_struct hfs h
   simp only [Option.some.injEq]at ht
   subst ht
   refine ⟨h1,xs,n,h0,by simp [h2],fun i t o hi=>?_⟩
   rw [List.getElem?_map,Array.getElem?_toList]at hi
   cases q:fs[i]? with
   |none=>rw [q]at hi;cases hi
   |some f=>
     rw [q]at hi
     simp only [Option.map_some,Option.some.injEq,Prod.mk.injEq]at hi
     obtain ⟨rfl,rfl⟩:=hi
     exact h3 i f q
 . cases ht
theorem un3i:P_.underlying 3=some (.int .i64):=by kernel_rfl
theorem c3:P_.cellsOf 3=1:=by kernel_rfl
theorem c28:P_.cellsOf 28=2:=by kernel_rfl
theorem c81:P_.cellsOf 245=8:=by kernel_rfl
theorem sf28:gk P_ 28=some [(3,0),(3,1)]:=by kernel_rfl
theorem Ck {H:Type} {enc:TypeId × Value->H} {w:World} {base:Nat} {spare:Nat->Bool} {held:Bool} {m:Nat} {cs:List Value} {x:DataW H × List MemPlace} {a b:Int}
   (h:DataW.trod enc P_ w base spare held m 28 cs=some x) (e:x.1 = .agg [.lit (.int .i64 a),.lit (.int .i64 b)]):cs=[.int .i64 a,.int .i64 b]:=by
 obtain ⟨hl,xs,n,rfl,hxl,d⟩:=Tw sf28 h
 rw [c28]at hl
 match cs,hl,xs,hxl with
 |[v0,v1],_,[x0,x1],_=>
 have h0:=d 0 3 0 rfl
 have h1:=d 1 3 1 rfl
 rw [c3]at h0 h1
 obtain ⟨k0,e0,f0,_⟩:=DataW.trod_int un3i (show DataW.trod _ _ _ _ _ _ n 3 _=some x0 from h0)
 obtain ⟨k1,e1,f1,_⟩:=DataW.trod_int un3i (show DataW.trod _ _ _ _ _ _ n 3 _=some x1 from h1)
 simp at e0 e1
 subst e0 e1 f0 f1
 simp at e
 obtain ⟨rfl,rfl⟩:=e
 rfl
theorem len8 {α:Type} {L:List α} (h:L.length=8):∃a b c d e f g i,L=[a,b,c,d,e,f,g,i]:=by
 match L,h with
 |[a,b,c,d,e,f,g,i],_=>exact ⟨a,b,c,d,e,f,g,i,rfl⟩
theorem Gr {W:World} (h:laidMetH P_ qd W):iq (ground W):=by
 rw [MakeChecks.laidMetH_plain _ _ _ (by kernel_rfl)]at h
 obtain ⟨ps,⟨g0,t0,cs0,f0,p0,q0,hg0,ht0,hv0,hd0,_,_⟩,_,_⟩:=h
 obtain rfl:=Option.some.inj (ak6.symm.trans hg0)
 obtain rfl:=Option.some.inj (tSteps.symm.trans ht0)
 obtain ⟨xs,m,rfl,hx,hl,hxl,hel⟩:=DataW.trod_array un81 hd0
 rw [c81]at hl
 rw [c28]at hel
 simp only [Prod.mk.injEq]at hx
 obtain ⟨hx,_⟩:=hx
 have hobj:∃e f,W.heap[0]?=some (.cells cs0 e f):=by
   unfold World.var? at hv0
   rw [ak6]at hv0
   simp only [Option.bind_some]at hv0
   split at hv0
   . rename_i c e f hc
     cases hv0
     exact ⟨e,f,hc⟩
   . cases hv0
 obtain ⟨e,f,hobj⟩:=hobj
 refine ⟨e,f,?_⟩
 show W.heap[0]?=_
 rw [hobj]
 match xs,hxl with
 |[x0,x1,x2,x3],_=>
 have h0:=hel 0 (by decide)
 have h1:=hel 1 (by decide)
 have h2:=hel 2 (by decide)
 have h3:=hel 3 (by decide)
 unfold Rows.laid_skep_grid_steps at hx
 simp only [List.map_cons,List.map_nil,DataW.agg.injEq,List.cons.injEq]at hx
 have k0:=Ck (show DataW.trod _ _ _ _ _ _ m 28 _=some x0 from h0) hx.1.symm
 have k1:=Ck (show DataW.trod _ _ _ _ _ _ m 28 _=some x1 from h1) hx.2.1.symm
 have k2:=Ck (show DataW.trod _ _ _ _ _ _ m 28 _=some x2 from h2) hx.2.2.1.symm
 have k3:=Ck (show DataW.trod _ _ _ _ _ _ m 28 _=some x3 from h3) hx.2.2.2.1.symm
 obtain ⟨cs⟩:=cs0
 obtain ⟨a0,a1,a2,a3,a4,a5,a6,a7,rfl⟩:=len8 hl
 simp at k0 k1 k2 k3
 obtain ⟨rfl,rfl⟩:=k0
 obtain ⟨rfl,rfl⟩:=k1
 obtain ⟨rfl,rfl⟩:=k2
 obtain ⟨rfl,rfl⟩:=k3
 rfl
section
theorem j9 {H:Type} {P:Program} {ts:List TypeId} {ds:List (DataW H)} (h:(DataW.weightsEach P ts ds).all (· <= reachBytes)=true) {j:Nat} {t:TypeId} {d:DataW H} (ht:ts[j]?=some t) (hd:ds[j]?=some d):ls P t d:=fun n hn=>by
 simpa using List.all_eq_true.1 h n (DataW.weights_mem_each ht hd n hn)
theorem za {P:Program} {w:World} {r:Reach} {base:Nat} {t:TypeId} {v:Value} {tos:List (TypeId × Nat)} (ht:gk P t=some tos) (hv:Value.okWide P w r base t v):∃cs:Array Value,v = .agg cs:=by
 unfold gk at ht
 split at ht
 . rename_i fs hfs
   obtain ⟨cs,rfl,_⟩:=okWide_struct hfs hv
   exact ⟨cs,rfl⟩
 . cases ht
theorem sf30:gk P_ 30=some [(28,0),(4,2)]:=by kernel_rfl
theorem sf95:gk P_ 234=some [(28,0),(168,2)]:=by kernel_rfl
theorem sf26:gk P_ 26=some [(3,0),(3,1),(3,2),(22,3),(22,4),(23,5),(24,6),(3,7),(3,8),(3,9),(3,10),(3,11),(3,12),(3,13),(3,14),(4,15)]:=by kernel_rfl
theorem un4b:P_.underlying 4=some .bool:=by kernel_rfl
theorem c4:P_.cellsOf 4=1:=by kernel_rfl
theorem c22:P_.cellsOf 22=1:=by kernel_rfl
theorem c23:P_.cellsOf 23=1:=by kernel_rfl
theorem c24:P_.cellsOf 24=1:=by kernel_rfl
theorem c26:P_.cellsOf 26=16:=by kernel_rfl
theorem c30:P_.cellsOf 30=3:=by kernel_rfl
theorem c57:P_.cellsOf 168=1:=by kernel_rfl
theorem c95:P_.cellsOf 234=3:=by kernel_rfl
section
variable {H:Type} {enc:TypeId × Value->H} {w:World} {base:Nat} {spare:Nat->Bool} {held:Bool}
theorem len2 {α:Type} {L:List α} (h:L.length=2):∃a b,L=[a,b]:=by
 match L,h with
 |[a,b],_=>exact ⟨a,b,rfl⟩
theorem len3 {α:Type} {L:List α} (h:L.length=3):∃a b c,L=[a,b,c]:=by
 match L,h with
 |[a,b,c],_=>exact ⟨a,b,c,rfl⟩
theorem zv {m:Nat} {cs:List Value} {y:DataW H × List MemPlace} (h:DataW.trod enc P_ w base spare held m 28 cs=some y):∃c:Cell,cs=dr.enc c/\Bd c.1/\Bd c.2:=by
 obtain ⟨hl,d⟩:=wt sf28 h
 rw [c28]at hl
 obtain ⟨v0,v1,rfl⟩:=len2 hl
 obtain ⟨m0,z0,e0⟩:=d 0 _ _ rfl
 obtain ⟨m1,z1,e1⟩:=d 1 _ _ rfl
 rw [c3]at e0 e1
 obtain ⟨x0,f0,b0⟩:=jz un3i e0
 obtain ⟨x1,f1,b1⟩:=jz un3i e1
 simp at f0 f1
 subst f0 f1
 exact ⟨(x0,x1),rfl,b0,b1⟩
theorem Cw {m:Nat} {cs:List Value} {y:DataW H × List MemPlace} (h:DataW.trod enc P_ w base spare held m 30 cs=some y):∃p:Pose,cs=xu.enc p/\PB p:=by
 obtain ⟨hl,d⟩:=wt sf30 h
 rw [c30]at hl
 obtain ⟨v0,v1,v2,rfl⟩:=len3 hl
 obtain ⟨m0,z0,e0⟩:=d 0 _ _ rfl
 obtain ⟨m1,z1,e1⟩:=d 1 _ _ rfl
 rw [c28]at e0
 rw [c4]at e1
 obtain ⟨c,f0,b0⟩:=zv e0
 obtain ⟨b,f1⟩:=Tx un4b e1
 simp [dr]at f0 f1
 obtain ⟨rfl,rfl⟩:=f0
 subst f1
 exact ⟨⟨c.1,c.2,b⟩,rfl,b0⟩
def RawOk (G:Hp) (r:Raw):Prop:=∃L:List Int,r.n=L.length/\Room L.length 8/\∀h,Dis G h->Sees icC G h (.slice r.a r.n r.c) L
theorem Cn {n bytes:Nat} (h:n*bytes<=reachBytes) (hb:bytes<=40):Room n bytes:=by
 unfold Room
 rw [show reachBytes=140737488351232 from rfl]at h
 rw [Nat.add_mul,Nat.mul_assoc]
 have:192*bytes<=7680:=by omega
 omega
theorem raw_dec {m:Nat} {cs:List Value} {y:DataW H × List MemPlace} (h:DataW.trod enc P_ w base spare held m 234 cs=some y) (hw:ls P_ 234 y.1):∃r:Raw,cs=rawC.enc r/\RawOk (ground w) r:=by
 obtain ⟨hl,d⟩:=F3 sf95 h hw
 rw [c95]at hl
 obtain ⟨v0,v1,v2,rfl⟩:=len3 hl
 obtain ⟨m0,z0,e0,_⟩:=d 0 _ _ rfl
 obtain ⟨m1,z1,e1,w1⟩:=d 1 _ _ rfl
 rw [c28]at e0
 rw [c57]at e1
 obtain ⟨c,f0,b0⟩:=zv e0
 obtain ⟨a,n,cap,L,f1,hL,hs,hg,_⟩:=tl icC (fun _=>True) Fe c3 (by decide) (fun _ _ _ h _=>let ⟨x,e,_⟩:=jz un3i h;⟨x,e,trivial⟩) e1 w1
 simp [dr]at f0 f1
 obtain ⟨rfl,rfl⟩:=f0
 subst f1
 rw [show P_.bytesOf 3=8 by kernel_rfl]at hs
 subst hL
 exact ⟨⟨c.1,c.2,a,L.length,cap⟩,rfl,L,rfl,Cn hs (by decide),hg⟩
theorem len16 {α:Type} {L:List α} (h:L.length=16):∃a b c d e f g i j k l m n o p q,L=[a,b,c,d,e,f,g,i,j,k,l,m,n,o,p,q]:=by
 match L,h with
 |[a,b,c,d,e,f,g,i,j,k,l,m,n,o,p,q],_=>exact ⟨a,b,c,d,e,f,g,i,j,k,l,m,n,o,p,q,rfl⟩
theorem au5 {m:Nat} {cs:List Value} {y:DataW H × List MemPlace} (h:DataW.trod enc P_ w base spare held m 26 cs=some y) (hw:ls P_ 26 y.1):
   ∃C:Conf,(∀h,Dis (ground w) h->CV (ground w) h (.agg cs.toArray) C)/\Fit0 C/\∀p∈C.ro,PB p:=by
 obtain ⟨hl,d⟩:=F3 sf26 h hw
 rw [c26]at hl
 obtain ⟨v0,v1,v2,v3,v4,v5,v6,v7,v8,v9,v10,v11,v12,v13,v14,v15,rfl⟩:=len16 hl
 obtain ⟨_,_,e0,_⟩:=d 0 _ _ rfl
 obtain ⟨_,_,e1,_⟩:=d 1 _ _ rfl
 obtain ⟨_,_,e2,_⟩:=d 2 _ _ rfl
 obtain ⟨_,_,e3,w3⟩:=d 3 _ _ rfl
 obtain ⟨_,_,e4,w4⟩:=d 4 _ _ rfl
 obtain ⟨_,_,e5,w5⟩:=d 5 _ _ rfl
 obtain ⟨_,_,e6,w6⟩:=d 6 _ _ rfl
 obtain ⟨_,_,e7,_⟩:=d 7 _ _ rfl
 obtain ⟨_,_,e8,_⟩:=d 8 _ _ rfl
 obtain ⟨_,_,e9,_⟩:=d 9 _ _ rfl
 obtain ⟨_,_,e10,_⟩:=d 10 _ _ rfl
 obtain ⟨_,_,e11,_⟩:=d 11 _ _ rfl
 obtain ⟨_,_,e12,_⟩:=d 12 _ _ rfl
 obtain ⟨_,_,e13,_⟩:=d 13 _ _ rfl
 obtain ⟨_,_,e14,_⟩:=d 14 _ _ rfl
 obtain ⟨_,_,e15,_⟩:=d 15 _ _ rfl
 simp only [c3,c4,c22,c23,c24]at e0 e1 e2 e3 e4 e5 e6 e7 e8 e9 e10 e11 e12 e13 e14 e15
 obtain ⟨x0,f0,_⟩:=jz un3i e0
 obtain ⟨x1,f1,_⟩:=jz un3i e1
 obtain ⟨x2,f2,_⟩:=jz un3i e2
 obtain ⟨ab,nb,cb,B,f3,hB,sB,gB,_⟩:=tl dr (fun _=>True) un22 c28 (by decide) (fun _ _ _ h _=>let ⟨x,e,_⟩:=zv h;⟨x,e,trivial⟩) e3 w3
 obtain ⟨ap,np,cp,PO,f4,hP,sP,gP,_⟩:=tl dr (fun _=>True) un22 c28 (by decide) (fun _ _ _ h _=>let ⟨x,e,_⟩:=zv h;⟨x,e,trivial⟩) e4 w4
 obtain ⟨ar,nr,cr,R,f5,hR,sR,gR,qR⟩:=tl xu PB un23 c30 (by decide) (fun _ _ _ h _=>Cw h) e5 w5
 obtain ⟨az,nz,cz,Z,f6,hZ,sZ,gZ,qZ⟩:=tl rawC (RawOk (ground w)) un24 c95 (by decide) (fun _ _ _ h hw=>raw_dec h hw) e6 w6
 obtain ⟨x7,f7,_⟩:=jz un3i e7
 obtain ⟨x8,f8,_⟩:=jz un3i e8
 obtain ⟨x9,f9,_⟩:=jz un3i e9
 obtain ⟨x10,f10,_⟩:=jz un3i e10
 obtain ⟨x11,f11,_⟩:=jz un3i e11
 obtain ⟨x12,f12,_⟩:=jz un3i e12
 obtain ⟨x13,f13,_⟩:=jz un3i e13
 obtain ⟨x14,f14,_⟩:=jz un3i e14
 obtain ⟨x15,f15⟩:=Tx un4b e15
 simp at f0 f1 f2 f3 f4 f5 f6 f7 f8 f9 f10 f11 f12 f13 f14 f15
 subst f0 f1 f2 f3 f4 f5 f6 f7 f8 f9 f10 f11 f12 f13 f14 f15
 subst hB hP hR hZ
 rw [show P_.bytesOf 28=16 by kernel_rfl]at sB sP
 rw [show P_.bytesOf 30=24 by kernel_rfl]at sR
 rw [show P_.bytesOf 234=40 by kernel_rfl]at sZ
 obtain ⟨S,hS,qS⟩:=Gt (Q:=fun i (s:Cell × List Int)=>∀r,Z[i]?=some r->(r.x,r.y)=s.1/\r.n=s.2.length/\Room s.2.length 8/\∀h,Dis (ground w) h->Sees icC (ground w) h (.slice r.a s.2.length r.c) s.2) Z.length (fun i hi=>by
   obtain ⟨L,e,rm,se⟩:=qZ _ (List.getElem_mem hi)
   refine ⟨((Z[i].x,Z[i].y),L),fun r hr=>?_⟩
   rw [List.getElem?_eq_getElem hi]at hr
   cases hr
   exact ⟨rfl,e,rm,fun h d=>by rw [<- e];exact se h d⟩)
 refine ⟨⟨x0,x1,x2,B,PO,R,S,x7,x8,x9,x10,x11,x12,x13,x14,x15⟩,fun h d=>⟨ab,cb,ap,cp,ar,cr,az,cz,by simp only [Tz,hS],gB h d,gP h d,gR h d,Z,by show Sees rawC _ h (.slice az S.length cz) Z;rw [hS];exact gZ h d,fun i r s hr hs=>?_⟩,⟨Cn sB (by decide),Cn sP (by decide),Cn sR (by decide),by show Room S.length 40;rw [hS];exact Cn sZ (by decide),fun s hs=>?_⟩,qR⟩
 . obtain ⟨a,b,c,e⟩:=qS i s hs r hr
   exact ⟨a,b,e h d⟩
 . obtain ⟨i,hi⟩:=List.getElem?_of_mem hs
   have hi2:i<Z.length:=by rw [<- hS];exact (List.getElem?_eq_some_iff.1 hi).1
   exact (qS i s hi _ (List.getElem?_eq_getElem hi2)).2.2.1
theorem ur {r:Reach} {b0:Nat} {v:Value} {d:DataW H} {ps:List MemPlace} (k:Value.okWide P_ w r b0 30 v) (h:DataW.Trod enc P_ w base spare held 30 v d ps):∃p:Pose,v=ja p/\PB p:=by
 obtain ⟨cs,rfl⟩:=za sf30 k
 obtain ⟨m,h⟩:=h
 obtain ⟨c,e,b⟩:=Cw (cs:=cs.toList) h
 exact ⟨c,by rw [<- Array.toArray_toList (xs:=cs),e];rfl,b⟩
theorem Pe {r:Reach} {b0:Nat} {v:Value} {d:DataW H} {ps:List MemPlace} (k:Value.okWide P_ w r b0 3 v) (h:DataW.Trod enc P_ w base spare held 3 v d ps):∃n:Int,v = .int .i64 n/\Bd n:=by
 obtain ⟨n,rfl,rfl,rfl,wf⟩:=open_int un3i k h
 exact ⟨n,rfl,by simpa [Lit.wf,IntKind.min,IntKind.max,IntKind.signed,IntKind.bits,Bd]using wf⟩
theorem Dl {r:Reach} {b0:Nat} {v:Value} {d:DataW H} {ps:List MemPlace} (k:Value.okWide P_ w r b0 26 v) (h:DataW.Trod enc P_ w base spare held 26 v d ps) (hl:ls P_ 26 d):
   ∃C:Conf,(∀h,Dis (ground w) h->CV (ground w) h v C)/\Fit0 C/\∀p∈C.ro,PB p:=by
 obtain ⟨cs,rfl⟩:=za sf26 k
 obtain ⟨m,h⟩:=h
 obtain ⟨C,hC,f,hp⟩:=au5 (cs:=cs.toList) h hl
 exact ⟨C,fun h d=>by simpa using hC h d,f,hp⟩
end
end
section
theorem sf46:gk P_ 48=some [(3,0),(3,1),(3,2),(30,3),(30,6),(3,9),(3,10)]:=by kernel_rfl
theorem c46:P_.cellsOf 48=11:=by kernel_rfl
section
variable {H:Type} {enc:TypeId × Value->H} {w:World} {base:Nat} {spare:Nat->Bool} {held:Bool}
theorem len11 {α:Type} {L:List α} (h:L.length=11):∃a b c d e f g i j k l,L=[a,b,c,d,e,f,g,i,j,k,l]:=by
 match L,h with
 |[a,b,c,d,e,f,g,i,j,k,l],_=>exact ⟨a,b,c,d,e,f,g,i,j,k,l,rfl⟩
theorem aj2 {m:Nat} {cs:List Value} {y:DataW H × List MemPlace} (h:DataW.trod enc P_ w base spare held m 48 cs=some y):∃v:Move,cs=ff.enc v/\MB v/\PB v.t:=by
 obtain ⟨hl,d⟩:=wt sf46 h
 rw [c46]at hl
 obtain ⟨v0,v1,v2,v3,v4,v5,v6,v7,v8,v9,v10,rfl⟩:=len11 hl
 obtain ⟨_,_,e0⟩:=d 0 _ _ rfl
 obtain ⟨_,_,e1⟩:=d 1 _ _ rfl
 obtain ⟨_,_,e2⟩:=d 2 _ _ rfl
 obtain ⟨_,_,e3⟩:=d 3 _ _ rfl
 obtain ⟨_,_,e4⟩:=d 4 _ _ rfl
 obtain ⟨_,_,e5⟩:=d 5 _ _ rfl
 obtain ⟨_,_,e6⟩:=d 6 _ _ rfl
 simp only [c3,c30]at e0 e1 e2 e3 e4 e5 e6
 obtain ⟨x0,f0,_⟩:=jz un3i e0
 obtain ⟨x1,f1,_⟩:=jz un3i e1
 obtain ⟨x2,f2,n2⟩:=jz un3i e2
 obtain ⟨p3,f3,b3⟩:=Cw e3
 obtain ⟨p4,f4,b4⟩:=Cw e4
 obtain ⟨x5,f5,_⟩:=jz un3i e5
 obtain ⟨x6,f6,_⟩:=jz un3i e6
 simp [xu]at f0 f1 f2 f3 f4 f5 f6
 obtain ⟨rfl,rfl,rfl⟩:=f3
 obtain ⟨rfl,rfl,rfl⟩:=f4
 subst f0 f1 f2 f5 f6
 exact ⟨⟨x0,x1,x2,p3,p4,x5,x6⟩,rfl,⟨n2,b3⟩,b4⟩
end
end
end Go.Proofs.YtfflipnhffknnaaGreatDoor
end
section
namespace Go.Proofs.YtfflipnhffknnaaGreatDoor
open Go Go.HL Go.ChangeShapes Go.WideShapes Go.RowKit Go.Proofs.Resv
section
theorem cw3:P_.cellsOf 186=3:=by kernel_rfl
theorem cstp:P_.cellsOf 119=3:=by kernel_rfl
theorem sfstp:gk P_ 119=some [(28,0),(3,2)]:=by kernel_rfl
section
variable {H:Type} {enc:TypeId × Value->H} {w:World} {base:Nat} {spare:Nat->Bool} {held:Bool}
theorem af9 {m:Nat} {cs:List Value} {y:DataW H × List MemPlace} (h:DataW.trod enc P_ w base spare held m 119 cs=some y):∃x:Stp,cs=stpC.enc x/\StpB x:=by
 obtain ⟨hl,d⟩:=wt sfstp h
 rw [cstp]at hl
 obtain ⟨v0,v1,v2,rfl⟩:=len3 hl
 obtain ⟨m0,z0,e0⟩:=d 0 _ _ rfl
 obtain ⟨m1,z1,e1⟩:=d 1 _ _ rfl
 rw [c28]at e0
 rw [c3]at e1
 obtain ⟨c,f0,b0⟩:=zv e0
 obtain ⟨x1,f1,b1⟩:=jz un3i e1
 simp [dr]at f0 f1
 obtain ⟨rfl,rfl⟩:=f0
 subst f1
 exact ⟨⟨c.1,c.2,x1⟩,rfl,b0⟩
theorem Ln {r:Reach} {b0:Nat} {v:Value} {d:DataW H} {ps:List MemPlace} (k:Value.okWide P_ w r b0 59 v) (h:DataW.Trod enc P_ w base spare held 59 v d ps):∃l:List Stp,vk stpC (ground w) v l/\∀x∈l,StpB x:=by
 obtain ⟨a,len,cap,rfl⟩:=okWide_slice un59 k
 obtain ⟨m,h⟩:=h
 obtain ⟨a',len',cap',L,e,hl,_,hg,hq⟩:=M4 stpC StpB un59 cstp (by decide) (fun _ _ _ h=>af9 h) h
 simp [Value.cells]at e
 obtain ⟨rfl,rfl,rfl⟩:=e
 exact ⟨L,hg,hq⟩
theorem aa3 {r:Reach} {b0:Nat} {v:Value} {d:DataW H} {ps:List MemPlace} (k:Value.okWide P_ w r b0 40 v) (h:DataW.Trod enc P_ w base spare held 40 v d ps):∃l:List Move,vk ff (ground w) v l/\∀x∈l,MB x:=by
 obtain ⟨a,len,cap,rfl⟩:=okWide_slice un40 k
 obtain ⟨m,h⟩:=h
 obtain ⟨a',len',cap',L,e,hl,_,hg,hq⟩:=M4 ff MB un40 c46 (by decide) (fun _ _ _ h=>let ⟨v,e,b,_⟩:=aj2 h;⟨v,e,b⟩) h
 simp [Value.cells]at e
 obtain ⟨rfl,rfl,rfl⟩:=e
 exact ⟨L,hg,hq⟩
end
end
end Go.Proofs.YtfflipnhffknnaaGreatDoor
end
section
namespace Go.Proofs.YtfflipnhffknnaaGreatDoor
open Go Go.HL Go.Proofs.Resv Go.Proofs.Srch
def db:=jq bC (jq (jq (jq (jq (jq @Bool.and_self @V0) (jq @beq_self_eq_true.{0} @Dq)) (jq (jq @bne_self_eq_false.{0} @T7) (jq @au8 @cf21))) (jq (jq (jq @cf24 @cf25) (jq @cf28 @cf32)) (jq (jq @cf33 @cf34) (jq @Tq (jq @ao4 @Tp))))) (jq (jq (jq (jq @Bz @E0) (jq @zq @ix40)) (jq (jq @ix59p @ld119) (jq @ld26 (jq @zi @t6)))) (jq (jq (jq @ld3 @qw) (jq @ld3p @Sj)) (jq (jq @ln40 @ln40p) (jq @ln59 (jq @ne48p @jy))))))
theorem slice3p {P:Program} {G:Hp} {T e:TypeId} {n:Nat} (hu:P.underlying T=some (.slice e)) (hs:(P.info? e).map (·.size)=some n) {a:Option Addr} {len cap:Nat} {j:Int} {h0:Hp} {K:Value->Prop} (h1:0<=j) (h2:j<=cap):
   pw P G h0 (Instr.sliceAt T (.slice a len cap) none (some (.int .i64 j)) (some (.int .i64 j))) K=K (.slice a j.toNat j.toNat):=by
 cases hi:P.info? e with
 |none=>rw [hi]at hs;cases hs
 |some x=>
   have h3:j<=max j 0:=by omega
   have hp:∀{α:Type} {a:α} {K:α->Prop},pw P G h0 (Sem.pure a) K=K a:=fun {α a K}=>rfl
   simp [Instr.sliceAt,Instr.slice,Instr.sliceBounds,Instr.sliceBound,asIntOf,underlying,program,bind,Sem.bind,pure,pw,na,hu,sizeOf,typeInfo,hi,h1,h2]
   cases a<;>simp [Addr.add,h3,hp]
theorem Sees.first {α:Type} {c:Cod α} {G h:Hp} {a:Option Addr} {len cap:Nat} {L:List α} (s:Sees c G h (.slice a len cap) L) {k:Nat} (hk:k<=L.length):Sees c G h (.slice a k k) (L.take k):=by
 obtain ⟨a',cap',e,h1,h2⟩:=s
 cases e
 refine ⟨a,k,by rw [List.length_take,Nat.min_eq_left hk],by rw [List.length_take];omega,?_⟩
 rcases h2 with rfl|⟨b,o,rfl,hc⟩
 . exact .inl (by simp)
 . refine .inr ⟨b,o,rfl,fun i x hx j hj=>hc i x ?_ j hj⟩
   rw [List.getElem?_take]at hx
   split at hx
   . exact hx
   . cases hx
theorem eostp:gc P_ 119 stpC.n 24:=eo119
theorem eostp2:gc P_ 175 stpC.n 24:=eo175
theorem Hj {G h:Hp} {sv:Value} {L:List Stp} (hl:Sees stpC G h sv L):
   al P_ G 33 #[sv] h (fun u h'=>∃ia va ib vb,u = .tuple #[va,vb]/\Slc stpC 119 ia va (L.take 4)/\Slc stpC 175 ib vb (L.take 4)/\HL.Sep [ia,ib,h] h'/\Dis G h'):=by
 obtain ⟨sa,sc,rfl,_⟩:=id hl
 refine al.assume fun d=>enter33 (by simp) ?_
 unfold S33
 generalize hKK:retK P_ G _ _=KK
 refine di (fun m p h'=>∃(i:Nat) (ia va ib vb:_),m=4-i/\i<=4/\i<=L.length/\p 0 = .slice sa L.length sc/\p 4=va/\p 5=vb/\p 6 = .int .i64 i/\Slc stpC 119 ia va (L.take i)/\Slc stpC 175 ib vb (L.take i)/\HL.Sep [ia,ib,h] h'/\Dis G h') ?_ (m:=4)
   ⟨0,noHp,_,noHp,_,rfl,by omega,by omega,by simp (disch:=decide) only [db],by simp (disch:=decide) only [db],by simp (disch:=decide) only [db],by simp only [db]<;>rfl,Slc.nil,Slc.nil,HL.Sep.one.none.none,d⟩
 rintro m p h1 ⟨i,ia,va,ib,vb,rfl,hi,hil,p0,p4,p5,p6,slA,slB,s,d1⟩ X hX
 unfold aB4
 simp only [db,p0,p6]
 have go:¬(i<L.length/\i<4)->∀r':Rg,r' 4=va->r' 5=vb->bo 0 (ci (Wh G KK) KK) (.exit 0) r' h1:=fun hh r' e4 e5=>by
   try simp only [db]
   unfold Wh
   rw [<- hKK]
   obtain ⟨a1,c1,rfl,_⟩:=id (slA.len (by decide))
   obtain ⟨a2,c2,rfl,_⟩:=id (slB.len (by decide))
   have e:L.take i=L.take 4:=by
     by_cases h4:i=4
     . rw [h4]
     . have:i=L.length:=by omega
       rw [this,List.take_length,List.take_of_length_le (by omega)]
   rw [e]at slA slB e4 e5
   try simp (disch:=decide) only [db,e4,e5]
   exact ⟨ia,_,ib,_,rfl,slA,slB,s,d1⟩
 by_cases q1:(i:Int)<L.length
 rotate_left
 . try simp only [db,ig q1,fe]
   exact go (by omega) _ (by simp (disch:=decide) only [db,p4]) (by simp (disch:=decide) only [db,p5])
 by_cases q2:(i:Int)<4
 rotate_left
 . try simp only [db,gi q1,ig q2]
   exact go (by omega) _ (by simp (disch:=decide) only [db,p4]) (by simp (disch:=decide) only [db,p5])
 obtain ⟨z,hz⟩:∃z,L[i]?=some z:=⟨_,List.getElem?_eq_getElem (by omega)⟩
 obtain ⟨b,o,rfl,c0,c1,c2⟩:=Sees.stp (hl.up (s.in 2 rfl) d1) hz
 try simp only [db,gi q1,gi q2]
 unfold Oc
 obtain ⟨a1,cp1,rfl,_⟩:=id (slA.len (by decide))
 obtain ⟨a2,cp2,rfl,_⟩:=id (slB.len (by decide))
 try simp (disch:=first|decide|omega) only [db,p0,p6,p4,ix59 (Int.natCast_nonneg i) q1,c0,c1,c2]
 intro x hx gx
 try simp (disch:=first|decide|omega) only [db,Nat.reduceAdd,Nat.reduceMul]
 have s2:=s.new (o := .cells #[z.x,z.y,z.k] 119 (0,0)) hx
 have d2:=d1.set (o := .cells #[z.x,z.y,z.k] 119 (0,0)) gx
 generalize Hp.set h1 x _=h2 at*
 refine ez stpC (by decide) (M:=[z]) un59 eostp (by decide) (by decide) (s2.sel (L':=[ia,noHp.set x _,ib,h]) [1,0,2,3] (by decide) rfl) d2 slA (Sees.row (c:=stpC) (L:=[z]) (s2.at 0 rfl ag) rfl (Nat.le_refl _)) (by simp;omega) fun v3 i3 h3 o3 s3 d3=>?_
 obtain ⟨b',o',e',c0',c1',c2'⟩:=Sees.stp (hl.up (s3.in 3 rfl) d3) hz
 cases e'
 obtain ⟨a3,cp3,rfl,_⟩:=id (o3.len (by decide))
 try simp only [db,p0,p5,p6,ix59p (Int.natCast_nonneg i) q1,c0',c1',c2']
 intro y hy gy
 try simp (disch:=first|decide|omega) only [db,Nat.reduceAdd,Nat.reduceMul]
 have s4:=s3.new (o := .cells #[z.x,z.y,z.k] 175 (0,0)) hy
 have d4:=d3.set (o := .cells #[z.x,z.y,z.k] 175 (0,0)) gy
 generalize Hp.set h3 y _=h4 at*
 refine ez stpC (by decide) (M:=[z]) un60 eostp2 (by decide) (by decide) (s4.sel (L':=[ib,noHp.set y _,i3,h]) [3,0,1,4] (by decide) rfl) d4 slB (Sees.row (c:=stpC) (L:=[z]) (s4.at 0 rfl ag) rfl (Nat.le_refl _)) (by simp;omega) fun v5 i5 h5 o5 s5 d5=>?_
 try simp (disch:=first|decide|omega) only [db,Nat.reduceAdd,Nat.reduceMul]
 unfold Ob
 try simp (disch:=first|decide|omega) only [db,p6]
 have et:L.take (i+1)=L.take i++[z]:=by rw [List.take_add_one,hz];rfl
 refine hX (4-(i+1)) _ _ (by omega) ⟨i+1,i3,.slice a3 (L.take i++[z]).length cp3,i5,v5,rfl,by omega,by omega,by simp (disch:=decide) only [db,p0],by simp (disch:=decide) only [db],by simp (disch:=decide) only [db],by simp only [db]<;>rfl,by rw [et];exact o3,by rw [et];exact o5,s5.sel [2,0,3] (by decide) rfl,d5⟩
theorem ad7 {G h:Hp} {X Y:List Move} {k:Nat} (hk:∃l X' Y',X=l++X'/\Y=l++Y'/\l.countP ii=k) (bX:X.length<=110000) (bY:Y.length<=110000) {vx vy:Value} (sx:∀{h':Hp},h.le h'->Dis G h'->Sees ff G h' vx X) (sy:∀{h':Hp},h.le h'->Dis G h'->Sees ff G h' vy Y) (d:Dis G h)
   (aw:∀{h:Hp} {K:VK},(∀h',K (.bool true) h')->al P_ G 32 #[] h K) {r:Rg} (g15:r 15 = .int .i64 k) (g16:r 16=vx) (g18:r 18=vy) {K:EK} (H:∀r' h',r' 10 = .bool true->K .ret r' h'):S7_k3 G K r h:=by
 obtain ⟨l,X',Y',rfl,rfl,rfl⟩:=hk
 obtain ⟨xa,xc,rfl,_⟩:=id (sx (Hp.le.refl _) d)
 obtain ⟨ya,yc,rfl,_⟩:=id (sy (Hp.le.refl _) d)
 have hle:=List.countP_le_length (p:=ii) (l:=l)
 rw [List.length_append]at bX bY
 unfold S7_k3
 refine di (fun m p h'=>∃i:Nat,m=l.length-i/\i<=l.length/\p 15=r 15/\p 16=r 16/\p 18=r 18/\p 20 = .int .i64 ((l.take i).countP ii)/\p 21 = .int .i64 i/\h.le h'/\Dis G h') ?_ (m:=l.length)
   ⟨0,rfl,by omega,by simp (disch:=decide) only [db],by simp (disch:=decide) only [db],by simp (disch:=decide) only [db],by simp (disch:=decide) only [db]<;>simp,by simp only [db]<;>rfl,Hp.le.refl _,d⟩
 rintro m p h1 ⟨i,rfl,hi,p15,p16,p18,p20,p21,lh,d1⟩ Z hZ
 rw [g15]at p15
 rw [g16]at p16
 rw [g18]at p18
 have hsum:l.countP ii=(l.take i).countP ii+(l.drop i).countP ii:=by
   rw [<- List.countP_append,List.take_append_drop]
 unfold S7_l5
 simp only [db,p18,p20,p21,p15]
 have go:(l.take i).countP ii=l.countP ii->∀r':Rg,r' 15 = .int .i64 (l.countP ii)->r' 20 = .int .i64 ((l.take i).countP ii)->bo 0 (ci (Ya G K) K) (.exit 0) r' h1:=fun hh r' e15 e20=>by
   try simp only [db]
   unfold Ya
   rw [hh]at e20
   try simp only [db,e15,e20]
   refine aw fun h'=>?_
   try simp (disch:=first|decide|omega) only [db,Nat.reduceAdd,Nat.reduceMul]
   exact H _ _ (by simp only [db])
 by_cases hdone:(l.take i).countP ii=l.countP ii
 . by_cases q1:(i:Int)<(l++Y').length
   . try simp only [db,gi q1,ig (show ¬(((l.take i).countP ii:Nat):Int)<((l.countP ii:Nat):Int)by omega)]
     exact go hdone _ (by simp (disch:=decide) only [db,p15]) (by simp (disch:=decide) only [db,p20])
   . try simp only [db,ig q1,fe]
     exact go hdone _ (by simp (disch:=decide) only [db,p15]) (by simp (disch:=decide) only [db,p20])
 have hil:i<l.length:=by
   by_cases hc:i<l.length
   . exact hc
   . have:l.take i=l:=List.take_of_length_le (by omega)
     rw [this]at hdone
     exact absurd rfl hdone
 obtain ⟨m,hm⟩:∃m,l[i]?=some m:=⟨_,List.getElem?_eq_getElem (by omega)⟩
 have q1:(i:Int)<(l++Y').length:=by rw [List.length_append];omega
 have q1x:(i:Int)<(l++X').length:=by rw [List.length_append];omega
 have hmx:(l++X')[i]?=some m:=by rw [List.getElem?_append_left hil];exact hm
 have hmy:(l++Y')[i]?=some m:=by rw [List.getElem?_append_left hil];exact hm
 obtain ⟨b1,o1,rfl,x0,x1,x2,x3,x4,x5,x6,x7,x8,x9,x10⟩:=Sees.mvx (sx lh d1) hmx
 obtain ⟨b2,o2,rfl,y0,y1,y2,y3,y4,y5,y6,y7,y8,y9,y10⟩:=Sees.mvx (sy lh d1) hmy
 have q2:(((l.take i).countP ii:Nat):Int)<((l.countP ii:Nat):Int):=by omega
 try simp only [db,gi q1,gi q2]
 unfold Ug
 try simp (disch:=decide) only [db,p16,p18,p21,ig (show ¬(i:Int)>=(l++X').length by omega),Sm (Int.natCast_nonneg i) q1,Sm (Int.natCast_nonneg i) q1x,x0,x1,x2,x3,x4,x5,x6,x7,x8,x9,x10,y0,y1,y2,y3,y4,y5,y6,y7,y8,y9,y10]
 unfold Uf
 have next:∀c:Nat,(l.take (i+1)).countP ii=c->∀r':Rg,r' 15=r 15->r' 16=r 16->r' 18=r 18->r' 20 = .int .i64 c->r' 21 = .int .i64 i->Dy G (ci Z (bo 0 (ci (Ya G K) K))) r' h1:=fun c hc r' e15 e16 e18 e20 e21=>by
   unfold Dy
   simp (disch:=first|decide|omega) only [db,e21]
   exact hZ (l.length-(i+1)) _ _ (by omega) ⟨i+1,rfl,by omega,by simp (disch:=decide) only [db,e15],by simp (disch:=decide) only [db,e16],by simp (disch:=decide) only [db,e18],by simp (disch:=decide) only [db,e20];rw [hc],by simp only [db]<;>rfl,lh,d1⟩
 have hcount:(l.take (i+1)).countP ii=(l.take i).countP ii+if ii m=true then 1 else 0:=by
   rw [List.take_add_one,hm,List.countP_append]
   show _+[m].countP ii=_
   rw [List.countP_singleton]
 try simp (disch:=first|decide|omega) only [db,p18,p20,p21,ix40 (Int.natCast_nonneg i) q1,y0]
 by_cases k3:m.k=3
 . try simp only [db,show (m.k==3)=true by simp [k3],fe,p20]
   exact next ((l.take i).countP ii+1) (by rw [hcount,if_pos (by unfold ii;simp [k3])]) _ (by simp (disch:=decide) only [db,p15,g15]) (by simp (disch:=decide) only [db,p16,g16]) (by simp (disch:=decide) only [db,p18,g18]) (by simp only [db]<;>rfl) (by simp (disch:=decide) only [db,p21])
 try simp (disch:=first|decide|omega) only [db,show (m.k==3)=false by simp [k3],y0]
 by_cases k4:m.k=4
 . try simp only [db,show (m.k==4)=true by simp [k4],p20]
   exact next ((l.take i).countP ii+1) (by rw [hcount,if_pos (by unfold ii;simp [k4])]) _ (by simp (disch:=decide) only [db,p15,g15]) (by simp (disch:=decide) only [db,p16,g16]) (by simp (disch:=decide) only [db,p18,g18]) (by simp only [db]<;>rfl) (by simp (disch:=decide) only [db,p21])
 try simp only [db,show (m.k==4)=false by simp [k4]]
 exact next ((l.take i).countP ii) (by rw [hcount,if_neg (by unfold ii;simp [k3,k4])];rfl) _ (by simp (disch:=decide) only [db,p15,g15]) (by simp (disch:=decide) only [db,p16,g16]) (by simp (disch:=decide) only [db,p18,g18]) (by simp (disch:=decide) only [db,p20]) (by simp (disch:=decide) only [db,p21])
theorem T9 {G:Hp} {v sv:Value} {C:Conf} {p hm:Pose} {S:List Stp} {n0:Int} (pp:PB p) (ph:PB hm) (bn:Bd n0) (hs:vk stpC G sv S) (hS:∀s∈S,StpB s) (st:iq G) (hv:CV G noHp v C) (fit:Fit0 C) (hro:∀p∈C.ro,PB p):
   al P_ G 7 #[v,ja p,sv,ja hm,n0] noHp (fun u _=>u = .bool true):=by
 have hv0:=hv
 obtain ⟨ab,cb,ap,cp,ar,cr,az,cs,rfl,ca⟩:=hv
 refine al.assume fun d=>enter7 (by simp) ?_
 obtain ⟨sa,sc,rfl,_⟩:=id (hs noHp d)
 unfold S7
 simp only [db]
 intro xc hxc gxc x1 hx1 gx1 x2 hx2 gx2
 generalize e1:Hp.set noHp xc _=h1 at*
 obtain ⟨l1,d1,q1⟩:=boxed e1 hxc d gxc
 generalize e2:Hp.set h1 x1 _=h2 at*
 obtain ⟨l2,d2,q2⟩:=boxed e2 hx1 d1 gx1
 generalize e3:Hp.set h2 x2 _=hz at*
 obtain ⟨l3,dz,q3⟩:=boxed e3 hx2 d2 gx2
 have L:=l1.trans (l2.trans (l3))
 have bc:=l3 _ _ (l2 _ _ (q1))
 have b1:=l3 _ _ (q2)
 have b2:=q3
 have cc:∀{h':Hp},hz.le h'->∀k,af G h' ⟨xc,k,none⟩=_:=fun l k=>aj (ai (l _ _ bc))
 have c1:∀{h':Hp},hz.le h'->∀k,af G h' ⟨x1,k,none⟩=_:=fun l k=>aj (ai (l _ _ b1))
 have c2:∀{h':Hp},hz.le h'->∀k,af G h' ⟨x2,k,none⟩=_:=fun l k=>aj (ai (l _ _ b2))
 have ca0:=ca.up L dz
 have lz:=Hp.le.refl hz
 have aw:∀{h:Hp} {K:VK},(∀h',K (.bool true) h')->al P_ G 32 #[] h K:=fun hK=>(G3 st).mono fun u h' e=>by rw [e.1];exact hK h'
 try simp only [db,cc lz]
 refine (Or ca0.cv).mono ?_
 rintro _ hz ⟨⟨b,rfl,hb⟩,rfl⟩
 cases b with
 |false=>
   try simp only [db,fe]
   exact aw fun h'=>by simp only [db]
 |true=>
 have sm:=hb rfl
 have mk:cj C:=uz.2 sm.may
 obtain ⟨n1,n2,n3,n4⟩:=Ro sm
 try simp only [db]
 unfold S7_k1
 try simp (disch:=first|decide|omega) only [db,cc lz]
 first|rw [n3]|rw [<- n4]
 generalize hn:(C.w*C.h).toNat=n at*
 refine (Rv.pu (n:=n) (by omega) (by omega)).mono ?_
 rintro _ t5 ⟨ta5,tp5,rfl,tab5,st5,dt5⟩
 have lt5:=st5.in 1 rfl
 have tv5:∀{h':Hp},t5.le h'->Dis G h'->TabV G h' (.pointer (some ⟨tp5,0,none⟩)) (some (List.replicate n [])):=fun l d=>⟨tp5,rfl,(tab5.see (st5.in 0 rfl)).up l d,jm,Iz⟩
 try simp only [db]
 unfold S7_k2
 try simp (disch:=decide) only [db]
 refine (Hj (hs t5 dt5)).mono ?_
 rintro _ h6 ⟨ia,va,ib,vb,rfl,slA,slB,s6,d6⟩
 have l6:=s6.in 2 rfl
 obtain ⟨aa,ac,rfl,hac⟩:=id (slA.len (by decide))
 have hS4:∀s∈S.take 4,StpB s:=fun s h=>hS s (List.mem_of_mem_take h)
 have hl4:(S.take 4).length<=4:=by rw [List.length_take];omega
 have ssA:∀{h':Hp},h6.le h'->Dis G h'->Sees stpC G h' (.slice aa (S.take 4).length ac) (S.take 4):=fun l d=>slA.see (by decide) ((s6.in 0 rfl).trans l)
 generalize S.take 4=S4 at*
 try simp (disch:=first|decide|omega) only [db]
 refine (vw (a:=n0) (n:=(S4.length:Int)+1) bn (by omega) (by omega)).mono ?_
 rintro _ h6 ⟨rfl,rfl⟩
 have k0:=Int.emod_nonneg n0 (show ((S4.length:Int)+1)≠0 by omega)
 have k1:=Int.emod_lt_of_pos n0 (show 0<(S4.length:Int)+1 by omega)
 obtain ⟨k,hk⟩:∃k:Nat,n0 % ((S4.length:Int)+1)=k:=⟨(n0 % ((S4.length:Int)+1)).toNat,by omega⟩
 rw [hk]at k0 k1 ⊢
 have hkl:k<=S4.length:=by omega
 have lz6:hz.le h6:=lt5.trans l6
 try simp only [db,cc lz6]
 refine (i7 (ca0.up lz6 d6).cv fit).mono ?_
 rintro u7 k7 ⟨⟨_,_,_,_,_,_,_,_,co7⟩,dk7⟩
 have lk7:h6.le k7:=co7.sep.in 4 rfl
 refine ⟨lk7,?_⟩
 try simp only [db,c1 lz6,c2 lz6]
 refine (vn (T:=List.replicate n []) (p:=p) (hm:=hm) (rb:=0) (t:=5) (S:=S4) (co7.cv (Hp.le.refl _)) st hro fit (fun _=>sm.bu) (tv5 (l6.trans lk7) dk7) pp ph (ssA lk7 dk7) hS4 (by omega)).mono ?_
 rintro _ m7 ⟨W1,⟨ip7,vs7,rfl,sl7,ll7,sm7,dm7⟩,⟨hno,_⟩|⟨_,hW1⟩⟩
 . exact absurd mk hno
 have lm7:h6.le m7:=lk7.trans (sm7.in 1 rfl)
 have la7:hz.le m7:=lz6.trans lm7
 try simp only [db,cc la7]
 refine (i7 (ca0.up la7 dm7).cv fit).mono ?_
 rintro u8 k8 ⟨⟨_,_,_,_,_,_,_,_,co8⟩,dk8⟩
 have lk8:m7.le k8:=co8.sep.in 4 rfl
 refine ⟨lk8,?_⟩
 try simp only [db,c1 la7,c2 la7]
 rw [slice3p un59 Wr k0 (by omega)]
 try simp only [db,c2 la7]
 have ssK:Sees stpC G k8 (.slice aa (k:Int).toNat (k:Int).toNat) (S4.take k):=by
   rw [Int.toNat_natCast]
   exact Sees.first (ssA (lm7.trans lk8) dk8) hkl
 refine (vn (T:=List.replicate n []) (p:=p) (hm:=hm) (rb:=0) (t:=5) (S:=S4.take k) (co8.cv (Hp.le.refl _)) st hro fit (fun _=>sm.bu) (tv5 (l6.trans (lm7.trans lk8)) dk8) pp ph ssK (fun s h=>hS4 s (List.mem_of_mem_take h)) (by rw [List.length_take];omega)).mono ?_
 rintro _ m8 ⟨W2,⟨ip8,vs8,rfl,sl8,ll8,sm8,dm8⟩,⟨hno,_⟩|⟨_,hW2⟩⟩
 . exact absurd mk hno
 have lm8:m7.le m8:=lk8.trans (sm8.in 1 rfl)
 try simp only [db]
 cases W1 with
 |no e1=>
   have hne:e1≠0:=yp mk jm hW1.symm
   try simp only [db,show outE (Res.no (M:=Move) e1)=e1 from rfl,show (e1 != 0)=true by simp [hne],fe]
   exact aw fun h'=>by simp only [db]
 |ok X=>
 cases W2 with
 |no e2=>
   have hne:e2≠0:=yp mk jm hW2.symm
   try simp only [db,show outE (Res.ok X)=0 from rfl,show ((0:Int) != 0)=false from rfl,show outE (Res.no (M:=Move) e2)=e2 from rfl,show (e2 != 0)=true by simp [hne]]
   exact aw fun h'=>by simp only [db]
 |ok Y=>
 try simp only [db,show outE (Res.ok X)=0 from rfl,show outE (Res.ok Y)=0 from rfl,show ((0:Int) != 0)=false from rfl]
 refine ad7 (Ov mk jm hkl hW1.symm hW2.symm) (Nat.le_trans ll7 (by decide)) (Nat.le_trans ll8 (by decide)) (fun l d=>sl7.see (by decide) ((sm7.in 0 rfl).trans (lm8.trans l))) (fun l d=>sl8.see (by decide) ((sm8.in 0 rfl).trans l)) dm8 aw (by simp (disch:=decide) only [db]) (by simp (disch:=decide) only [db]) (by simp (disch:=decide) only [db]) fun r' h' e=>by simp only [db,e]
def fc:=jq bC (jq (jq (jq (jq (jq @al28 @al48) (jq @al71 @F5)) (jq (jq @rq @au7) (jq @vf @ny))) (jq (jq (jq @cf87 @cf88) (jq @cf89 @cf90)) (jq (jq @De @Xh) (jq @Po @ld28)))) (jq (jq (jq (jq @t6 @ld30) (jq @qw @ld3p)) (jq (jq @ld48 @Sj) (jq @ld68 @Mn))) (jq (jq (jq @ld71 @ld71p) (jq @ln22 @ln40)) (jq (jq @my @kq) (jq @Lo @Hn)))))
theorem eowant3:gc P_ 75 Rv.Fd.n 24:=eo75
def xq (w k:Nat) (cells:List Cell) (a b:Int):List Want:=if a>=b then []else cells.map fun c=>⟨numI w k c,a,b⟩
def HdSt (G B:Hp) (xl:Nat) (l:List Want) (h:Hp):Prop:=∃vl ip,Slc Rv.Fd 75 ip vl l/\HL.Sep [noHp.set xl (.cells #[vl] 71 (0,0)),ip,B] h/\Dis G h
theorem Es {G h B:Hp} {g cv:Value} {w k xl xg:Nat} {f:Nat->Nat->Int} {cells:List Cell} {a b:Int} {l:List Want} (gs:GS G B g w k f) (bg:B xg=some (.cells #[g] 68 (0,0))) (sc:Sees dr G B cv cells) (s:HdSt G B xl l h) (hl:l.length+cells.length<=1000000000):
   al P_ G 87 #[cv,a,b,.pointer (some ⟨xl,0,none⟩),.pointer (some ⟨xg,0,none⟩)] h (fun u h'=>HdSt G B xl (l++xq w k cells a b) h'):=by
 obtain ⟨sa,scap,rfl,_⟩:=id sc
 refine enter87 (by simp) ?_
 unfold S87
 simp only [fc]
 refine bv (fun hge=>?_) (fun hlt=>?_)
 . try simp (disch:=first|decide|omega) only [fc,Nat.reduceAdd,Nat.reduceMul]
   unfold xq
   rw [if_pos hge,List.append_nil]
   exact s
 unfold aw5
 try simp (disch:=decide) only [fc]
 generalize hKK:retK P_ G _ _=KK
 have hpw:xq w k cells a b=cells.map fun c=>⟨numI w k c,a,b⟩:=by unfold xq;exact if_neg hlt
 refine di (fun m r h'=>∃i:Nat,m=cells.length-i/\i<=cells.length/\r 1 = .int .i64 a/\r 2 = .int .i64 b/\r 3 = .pointer (some ⟨xl,0,none⟩)/\r 4 = .pointer (some ⟨xg,0,none⟩)/\r 13 = .slice sa cells.length scap/\r 14 = .int .i64 cells.length/\r 15 = .int .i64 i/\HdSt G B xl (l++(cells.take i).map fun c=>⟨numI w k c,a,b⟩) h') ?_ (m:=cells.length)
   ⟨0,rfl,Nat.zero_le _,by simp (disch:=decide) only [fc],by simp (disch:=decide) only [fc],by simp (disch:=decide) only [fc],by simp (disch:=decide) only [fc],by simp (disch:=decide) only [fc],by simp (disch:=decide) only [fc]<;>rfl,by simp only [fc]<;>rfl,by simpa using s⟩
 clear s
 rintro m r h1 ⟨i,rfl,hi,r1,r2,r3,r4,r13,r14,r15,vl,ip,sl,s,d⟩ X hX
 unfold aw4
 simp only [fc,r14,r15]
 refine bv (fun hlt=>?_) (fun hge=>?_)
 rotate_left
 . obtain rfl:i=cells.length:=by omega
   rw [List.take_length]at sl
   try simp (disch:=first|decide|omega) only [fc,Nat.reduceAdd,Nat.reduceMul]
   rw [<- hKK]
   try simp only [fc]
   rw [hpw]
   exact ⟨vl,ip,sl,s,d⟩
 obtain ⟨c,hc⟩:∃c,cells[i]?=some c:=⟨_,List.getElem?_eq_getElem (by omega)⟩
 obtain ⟨b1,o1,rfl,e1,e2⟩:=Sees.cell (sc.up (s.in 2 rfl) d) hc
 obtain ⟨la,lc,rfl,_⟩:=id (sl.len (by decide))
 unfold Ng
 try simp (disch:=first|decide|exact aq|exact ao|omega|rfl) only [fc,r13,r15,ix22 (Int.natCast_nonneg i) hlt,e1,e2]
 intro x hx gx
 have s1:=s.new (o:=cellO c) hx
 have d1:=d.set (o:=cellO c) gx
 try simp (disch:=first|decide|omega) only [fc,Nat.reduceAdd,Nat.reduceMul]
 generalize Hp.set h1 x _=h2 at*
 have cx:∀j,af G h2 ⟨x,j,none⟩=_:=fun j=>aj (ai (s1.at 0 rfl ag))
 have cl:∀j,af G h2 ⟨xl,j,none⟩=_:=fun j=>aj (ai (s1.at 1 rfl ag))
 have cg:∀j,af G h2 ⟨xg,j,none⟩=_:=fun j=>aj (ai (s1.at 3 rfl bg))
 try simp only [fc,r1,r2,r3,r4,cx,cl,cg]
 refine (nn (c:=c) (gs.up (s1.in 3 rfl) d1)).mono ?_
 rintro _ h2 ⟨rfl,rfl⟩
 refine ⟨Hp.le.refl _,?_⟩
 try simp only [fc,r1,r2]
 intro y hy gy
 have s2:=s1.new (o := .cells #[(numI w k c),a,b] 75 (0,0)) hy
 have d2:=d1.set (o := .cells #[(numI w k c),a,b] 75 (0,0)) gy
 try simp (disch:=first|decide|omega) only [fc,Nat.reduceAdd,Nat.reduceMul]
 generalize Hp.set h2 y _=h3 at*
 have hlen:(l++(cells.take i).map fun c=>(⟨numI w k c,a,b⟩:Want)).length=l.length+i:=by
   rw [List.length_append,List.length_map,List.length_take,Nat.min_eq_left hi]
 refine pa Rv.Fd (by decide) (M:=[(⟨numI w k c,a,b⟩:Want)]) un71 eowant3 (by decide) (s2.sel (L':=[ip,noHp.set y _,noHp.set x _,noHp.set xl _,B]) [3,0,1,2,4] (by decide) rfl) d2 sl (Sees.row (c:=Rv.Fd) (L:=[(⟨numI w k c,a,b⟩:Want)]) (s2.at 0 rfl ag) rfl (Nat.le_refl _)) (by rw [hlen,List.length_singleton];omega) fun v4 i4 h4 o4 s4 d4=>?_
 obtain ⟨la4,lc4,rfl,_⟩:=id (o4.len (by decide))
 have bl4:=s4.at 3 rfl ag
 try simp (disch:=first|decide|omega) only [fc,Nat.reduceAdd,Nat.reduceMul,r3]
 rw [dh sz71 rfl bl4 (by simp)]
 simp only [List.set_cons_zero]
 have s5:=(s4.sel [3,0,4] (by decide) rfl).put (o := .cells #[.slice la4 (l++(cells.take i).map (fun c=>(⟨numI w k c,a,b⟩:Want))++[(⟨numI w k c,a,b⟩:Want)]).length lc4] 71 (0,0)) ag
 rw [set_set]at s5
 have d5:=d4.set (o := .cells #[.slice la4 (l++(cells.take i).map (fun c=>(⟨numI w k c,a,b⟩:Want))++[(⟨numI w k c,a,b⟩:Want)]).length lc4] 71 (0,0)) (d4 _ _ bl4)
 try simp (disch:=first|decide|omega) only [fc,Nat.reduceAdd,Nat.reduceMul]
 unfold Nf
 try simp (disch:=first|decide|omega) only [fc,r15]
 have et:l++(cells.take (i+1)).map (fun c=>(⟨numI w k c,a,b⟩:Want))=l++(cells.take i).map (fun c=>(⟨numI w k c,a,b⟩:Want))++[⟨numI w k c,a,b⟩]:=by
   rw [List.take_add_one,hc,List.map_append,List.append_assoc];rfl
 exact hX (cells.length-(i+1)) _ _ (by omega) ⟨i+1,rfl,by omega,by simp (disch:=decide) only [fc,r1],by simp (disch:=decide) only [fc,r2],by simp (disch:=decide) only [fc,r3],by simp (disch:=decide) only [fc,r4],by simp (disch:=decide) only [fc,r13],by simp (disch:=decide) only [fc,r14],by simp only [fc]<;>rfl,by rw [et];exact ⟨_,i4,o4,s5,d5⟩⟩
def zj (w k:Nat) (f:Nat->Nat->Int):Pose->Int->List Move->List Want
 |p,t,[]=>xq w k (bz p) t FV
 |p,t,m::M=>xq w k (bz p) t m.a++xq w k (jj w k f m) m.a m.e++zj w k f m.t m.e M
theorem H5 {w k:Nat} {L:List Cell} {a b:Int}:(xq w k L a b).length<=L.length:=by
 unfold xq
 split
 . simp
 . rw [List.length_map];exact Nat.le_refl _
theorem Fi {G h:Hp} {b:Nat} {p:Pose} (hb:h b=some (.cells #[p.x,p.y,(east p).1,(east p).2] 28 (0,0))):Sees dr G h (.slice (some ⟨b,0,none⟩) 2 2) (bz p):=
 Sees.row (c:=dr) (L:=bz p) hb rfl (Nat.le_refl _)
theorem Vd {G h:Hp} {g mv:Value} {w k:Nat} {f:Nat->Nat->Int} {p:Pose} {M:List Move} (gs:GS G h g w k f) (st:iq G) (pp:PB p) (sm:Sees ff G h mv M) (hM:∀m∈M,MB m/\PB m.t) (hml:M.length<=1000000):
   al P_ G 39 #[g,ja p,mv] h (fun u h'=>∃ip,Slc Rv.Fd 75 ip u (zj w k f p 0 M)/\(zj w k f p 0 M).length<=M.length*258+2/\HL.Sep [ip,h] h'/\Dis G h'):=by
 obtain ⟨sa,sc,rfl,_⟩:=id sm
 obtain ⟨gp,gkb,rfl,_⟩:=id gs.ex
 refine al.assume fun d=>enter39 (by simp) ?_
 unfold S39
 simp only [fc]
 intro xg hxg gxg
 have s1:=(HL.Sep.one (h:=h)).grow (o := .cells #[.pointer (some ⟨gp,0,none⟩)] 68 (0,0)) hxg
 have lB:h.le (h.set xg (.cells #[.pointer (some ⟨gp,0,none⟩)] 68 (0,0))):=b8 hxg
 have bg:(h.set xg (.cells #[.pointer (some ⟨gp,0,none⟩)] 68 (0,0))) xg=some (.cells #[.pointer (some ⟨gp,0,none⟩)] 68 (0,0)):=ag
 have dB:Dis G (h.set xg (.cells #[.pointer (some ⟨gp,0,none⟩)] 68 (0,0))):=d.set gxg
 generalize h.set xg (.cells #[.pointer (some ⟨gp,0,none⟩)] 68 (0,0))=B at*
 intro xp hxp gxp
 have s2:=s1.new (o:=fh p) hxp
 have d2:=dB.set (o:=fh p) gxp
 generalize Hp.set B xp _=h2 at*
 intro xl hxl gxl
 have s3:=s2.new (o := .cells #[.slice none 0 0] 71 (0,0)) hxl
 have d3:=d2.set (o := .cells #[.slice none 0 0] 71 (0,0)) gxl
 try simp (disch:=first|decide|omega) only [fc,Nat.reduceAdd,Nat.reduceMul]
 generalize Hp.set h2 xl _=h3 at*
 have gsB:=gs.up lB dB
 have w16:=gs.w2
 have k16:=gs.k2
 generalize hKK:retK P_ G _ _=KK
 refine di (fun m r h'=>∃(i:Nat) (pz:Pose) (tz:Int) (l:List Want) (vl:Value) (ip:Hp),m=M.length-i/\i<=M.length/\r 3 = .pointer (some ⟨xg,0,none⟩)/\r 4 = .pointer (some ⟨xp,0,none⟩)/\r 7 = .pointer (some ⟨xl,0,none⟩)/\r 8 = .func (.func 87) #[] #[.pointer (some ⟨xl,0,none⟩),.pointer (some ⟨xg,0,none⟩)]/\r 9 = .int .i64 tz/\r 13 = .slice sa M.length sc/\r 14 = .int .i64 M.length/\r 15 = .int .i64 i/\PB pz/\
   Slc Rv.Fd 75 ip vl l/\l.length<=i*258/\HL.Sep [noHp.set xl (.cells #[vl] 71 (0,0)),ip,noHp.set xp (fh pz),B] h'/\Dis G h'/\l++zj w k f pz tz (M.drop i)=zj w k f p 0 M) ?_ (m:=M.length)
   ⟨0,p,0,[],_,noHp,rfl,Nat.zero_le _,by simp (disch:=decide) only [fc],by simp (disch:=decide) only [fc],by simp (disch:=decide) only [fc],by simp (disch:=decide) only [fc],by simp (disch:=decide) only [fc]<;>rfl,by simp (disch:=decide) only [fc]<;>rfl,by simp (disch:=decide) only [fc]<;>rfl,by simp only [fc]<;>rfl,pp,Slc.nil,by simp,s3.none.sel [1,0,2,3] (by decide) rfl,d3,by simp⟩
 clear s3 s2 s1
 rintro m r h4 ⟨i,pz,tz,l,vl,ip,rfl,hi,r3,r4,r7,r8,r9,r13,r14,r15,ppz,sl,hll,s,d4,hgo⟩ X hX
 have hi2:i*258<=1000000*258:=Nat.mul_le_mul_right _ (by omega)
 unfold az9
 simp only [fc,r14,r15]
 refine bv (fun hlt=>?_) (fun hge=>?_)
 rotate_left
 . obtain rfl:i=M.length:=by omega
   rw [List.drop_length]at hgo
   try simp (disch:=first|decide|omega) only [fc,Nat.reduceAdd,Nat.reduceMul]
   unfold aA0
   have cg:∀j,af G h4 ⟨xg,j,none⟩=_:=fun j=>aj (ai (s.at 3 rfl bg))
   have cp:∀j,af G h4 ⟨xp,j,none⟩=_:=fun j=>aj (ai (s.at 2 rfl ag))
   try simp (disch:=decide) only [fc,r3,r4,r8,r9,cg,cp]
   refine (mq (p:=pz) st ppz (g := .pointer (some ⟨gp,0,none⟩))).mono ?_
   rintro _ h5 ⟨b,rfl,hb,gb,rfl⟩
   have s5:=(s.sel [3,0,1,2] (by decide) rfl).grow (o := .cells #[pz.x,pz.y,(east pz).1,(east pz).2] 28 (0,0)) hb
   have d5:=d4.set (o := .cells #[pz.x,pz.y,(east pz).1,(east pz).2] 28 (0,0)) gb
   have lQ:B.le (B.set b (.cells #[pz.x,pz.y,(east pz).1,(east pz).2] 28 (0,0))):=b8 ((s.in 3 rfl).none hb)
   have bQ:(B.set b (.cells #[pz.x,pz.y,(east pz).1,(east pz).2] 28 (0,0))) b=some (.cells #[pz.x,pz.y,(east pz).1,(east pz).2] 28 (0,0)):=ag
   generalize Hp.set h4 b _=h5 at*
   generalize B.set b (.cells #[pz.x,pz.y,(east pz).1,(east pz).2] 28 (0,0))=Q at*
   have dQ:Dis G Q:=fun y o hy=>d5 y o (s5.hd _ _ hy)
   try simp (disch:=first|decide|omega) only [fc,Nat.reduceAdd,Nat.reduceMul]
   refine (Es (xl:=xl) (xg:=xg) (l:=l) (a:=tz) (b:=4611686018427387904) (cells:=bz pz) (gsB.up lQ dQ) (lQ _ _ bg) (Fi bQ) ⟨vl,ip,sl,s5.sel [1,2,0] (by decide) rfl,d5⟩ (by show l.length+2<=_;omega)).mono ?_
   rintro u6 h6 ⟨vl6,ip6,sl6,s6,d6⟩
   have cl:∀j,af G h6 ⟨xl,j,none⟩=_:=fun j=>aj (ai (s6.at 0 rfl ag))
   try simp only [fc,r7,cl]
   rw [<- hKK]
   obtain ⟨la,lc,rfl,_⟩:=id (sl6.len (by decide))
   try simp only [fc]
   have hgo':l++xq w k (bz pz) tz 4611686018427387904=zj w k f p 0 M:=hgo
   rw [hgo']at sl6
   refine ⟨ip6,by rw [hgo'];exact sl6,?_,((s6.sel (L':=[Q,ip6]) [2,1] (by decide) rfl).cut (lB.trans lQ)).swap,d6⟩
   rw [<- hgo',List.length_append]
   have:=H5 (w:=w) (k:=k) (L:=bz pz) (a:=tz) (b:=4611686018427387904)
   have e2:(bz pz).length=2:=rfl
   omega
 obtain ⟨z,hz⟩:∃z,M[i]?=some z:=⟨_,List.getElem?_eq_getElem (by omega)⟩
 obtain ⟨zb,zt⟩:=hM z (List.mem_of_getElem? hz)
 have hdrop:M.drop i=z::M.drop (i+1):=by
   rw [List.drop_eq_getElem_cons (by omega)]
   congr 1
   exact Option.some.inj ((List.getElem?_eq_getElem (by omega)).symm.trans hz)
 rw [hdrop]at hgo
 obtain ⟨b,o,rfl,y0,y1,y2,y3,y4,y5,y6,y7,y8,y9,y10⟩:=Sees.mvx (sm.up (lB.trans (s.in 3 rfl)) d4) hz
 unfold Nz
 try simp (disch:=first|decide|exact aq|exact ao|omega|rfl) only [fc,Nat.reduceAdd,r13,r15,ix40 (Int.natCast_nonneg i) hlt,y0,y1,y2,y3,y4,y5,y6,y7,y8,y9,y10]
 intro x hx gx
 have s5:=(s.sel [3,0,1,2] (by decide) rfl).grow (o := .cells #[z.k,z.d,z.n,z.f.x,z.f.y,.bool z.f.d,z.t.x,z.t.y,.bool z.t.d,z.a,z.e] 48 (0,0)) hx
 have d5:=d4.set (o := .cells #[z.k,z.d,z.n,z.f.x,z.f.y,.bool z.f.d,z.t.x,z.t.y,.bool z.t.d,z.a,z.e] 48 (0,0)) gx
 have lQ:B.le (B.set x (.cells #[z.k,z.d,z.n,z.f.x,z.f.y,.bool z.f.d,z.t.x,z.t.y,.bool z.t.d,z.a,z.e] 48 (0,0))):=b8 ((s.in 3 rfl).none hx)
 have bQ:(B.set x (.cells #[z.k,z.d,z.n,z.f.x,z.f.y,.bool z.f.d,z.t.x,z.t.y,.bool z.t.d,z.a,z.e] 48 (0,0))) x=some (.cells #[z.k,z.d,z.n,z.f.x,z.f.y,.bool z.f.d,z.t.x,z.t.y,.bool z.t.d,z.a,z.e] 48 (0,0)):=ag
 try simp (disch:=first|decide|omega) only [fc,Nat.reduceAdd,Nat.reduceMul]
 generalize Hp.set h4 x _=h5 at*
 generalize B.set x (.cells #[z.k,z.d,z.n,z.f.x,z.f.y,.bool z.f.d,z.t.x,z.t.y,.bool z.t.d,z.a,z.e] 48 (0,0))=Q at*
 have cxQ:∀{h':Hp},Q.le h'->∀j,af G h' ⟨x,j,none⟩=_:=fun l j=>aj (ai (l _ _ bQ))
 have cgQ:∀{h':Hp},Q.le h'->∀j,af G h' ⟨xg,j,none⟩=_:=fun l j=>aj (ai (l _ _ (lQ _ _ bg)))
 have cp5:∀j,af G h5 ⟨xp,j,none⟩=_:=fun j=>aj (ai (s5.at 3 rfl ag))
 refine ⟨h5,Hp.le.refl _,?_⟩
 try simp only [fc,r3,r4,cgQ (s5.in 0 rfl),cp5]
 refine (mq (p:=pz) st ppz (g := .pointer (some ⟨gp,0,none⟩))).mono ?_
 rintro _ h6 ⟨b6,rfl,hb6,gb6,rfl⟩
 refine ⟨b8 hb6,?_⟩
 have s6:=s5.grow (o := .cells #[pz.x,pz.y,(east pz).1,(east pz).2] 28 (0,0)) hb6
 have d6:=d5.set (o := .cells #[pz.x,pz.y,(east pz).1,(east pz).2] 28 (0,0)) gb6
 have lU:Q.le (Q.set b6 (.cells #[pz.x,pz.y,(east pz).1,(east pz).2] 28 (0,0))):=b8 ((s5.in 0 rfl).none hb6)
 have bU:(Q.set b6 (.cells #[pz.x,pz.y,(east pz).1,(east pz).2] 28 (0,0))) b6=some (.cells #[pz.x,pz.y,(east pz).1,(east pz).2] 28 (0,0)):=ag
 try simp only [fc,r8,r9,cxQ (s5.in 0 rfl)]
 generalize Hp.set h5 b6 _=h6 at*
 generalize Q.set b6 (.cells #[pz.x,pz.y,(east pz).1,(east pz).2] 28 (0,0))=U at*
 obtain ⟨V,sV,tV⟩:=HL.Sep.pack [U,noHp.set xp (fh pz)] (R:=[noHp.set xl (.cells #[vl] 71 (0,0)),ip]) (s6.sel [0,3,1,2] (by decide) rfl)
 have dV:Dis G V:=fun y o hy=>d6 y o (sV.hd _ _ hy)
 refine (Es (xl:=xl) (xg:=xg) (l:=l) (a:=tz) (b:=z.a) (cells:=bz pz) (gsB.up (lQ.trans (lU.trans (tV.in 0 rfl))) dV) (tV.at 0 rfl (lU _ _ (lQ _ _ bg))) (Fi (tV.at 0 rfl bU)) ⟨vl,ip,sl,sV.sel [1,2,0] (by decide) rfl,d6⟩ (by show l.length+2<=_;omega)).mono ?_
 rintro u7 h7 ⟨vl7,ip7,sl7,s7,d7⟩
 have p1:=H5 (w:=w) (k:=k) (L:=bz pz) (a:=tz) (b:=z.a)
 have e2:(bz pz).length=2:=rfl
 refine ⟨h7,Hp.le.refl _,?_⟩
 have lQV:Q.le V:=lU.trans (tV.in 0 rfl)
 try simp only [fc,r3,cgQ (lQV.trans (s7.in 2 rfl)),cxQ (lQV.trans (s7.in 2 rfl))]
 refine (He (m:=z) (gsB.up (lQ.trans (lQV.trans (s7.in 2 rfl))) d7) st zb).mono ?_
 rintro v8 h8 ⟨ip8,sl8,s8,d8⟩
 refine ⟨s8.in 1 rfl,?_⟩
 obtain ⟨a8,c8,rfl,_⟩:=id (sl8.len (by decide))
 have s9:=s8.swap.open s7
 try simp (disch:=first|decide|omega) only [fc,Nat.reduceAdd,Nat.reduceMul,r8,cxQ (lQV.trans (s7.in 2 rfl))]
 obtain ⟨Y,sY,tY⟩:=HL.Sep.pack [V,ip8] (R:=[noHp.set xl (.cells #[vl7] 71 (0,0)),ip7]) (s9.sel [2,3,0,1] (by decide) rfl)
 have dY:Dis G Y:=fun y o hy=>d8 y o (sY.hd _ _ hy)
 have hsw:(jj w k f z).length<=256:=by
   unfold jj
   split
   . exact Uk w16 k16
   . simp
 refine (Es (xl:=xl) (xg:=xg) (l:=l++xq w k (bz pz) tz z.a) (a:=z.a) (b:=z.e) (cells:=jj w k f z) (gsB.up (lQ.trans (lQV.trans (tY.in 0 rfl))) dY) (tY.at 0 rfl (lQV _ _ (lQ _ _ bg))) (sl8.see (by decide) (tY.in 1 rfl)) ⟨vl7,ip7,sl7,sY.sel [1,2,0] (by decide) rfl,d8⟩ (by rw [List.length_append];omega)).mono ?_
 rintro u10 h10 ⟨vl10,ip10,sl10,s10,d10⟩
 have p2:=H5 (w:=w) (k:=k) (L:=jj w k f z) (a:=z.a) (b:=z.e)
 have s11:=(s10.sel (L':=[Y,noHp.set xl (.cells #[vl10] 71 (0,0)),ip10]) [2,0,1] (by decide) rfl)
 have s12:=(s11.cut (tY.in 0 rfl))
 have s13:=HL.Sep.open (L:=[U,noHp.set xp (fh pz)]) s12 tV
 refine ⟨U,s13.in 0 rfl,?_⟩
 try simp only [fc,r4,cxQ lU]
 have bp:=s13.at 1 rfl ag
 rw [vm (p:=z.t) bp]
 have s14:=(s13.sel (L':=[noHp.set xp (fh pz),U,noHp.set xl (.cells #[vl10] 71 (0,0)),ip10]) [1,0,2,3] (by decide) rfl).put (o:=fh z.t) ag
 rw [set_set]at s14
 have d14:=d10.set (o:=fh z.t) (d10 _ _ bp)
 refine ⟨s14.in 1 rfl,?_⟩
 try simp (disch:=first|decide|omega) only [fc,Nat.reduceAdd,Nat.reduceMul]
 unfold Ny
 try simp (disch:=first|decide|omega) only [fc,r15]
 refine hX (M.length-(i+1)) _ _ (by omega) ⟨i+1,z.t,z.e,_,vl10,ip10,rfl,by omega,by simp (disch:=decide) only [fc,r3],by simp (disch:=decide) only [fc,r4],by simp (disch:=decide) only [fc,r7],by simp (disch:=decide) only [fc,r8],by simp (disch:=decide) only [fc],by simp (disch:=decide) only [fc,r13],by simp (disch:=decide) only [fc,r14],by simp only [fc]<;>rfl,zt,sl10,?_,((s14.sel (L':=[U,noHp.set xl (.cells #[vl10] 71 (0,0)),ip10,noHp.set xp (fh z.t)]) [1,2,3,0] (by decide) rfl).cut (lQ.trans lU)).sel [1,2,3,0] (by decide) rfl,d14,?_⟩
 . rw [List.length_append,List.length_append,Nat.add_mul];omega
 . rw [<- hgo]
   show l++_++_++_=l++(_++_++_)
   rw [List.append_assoc,List.append_assoc,List.append_assoc]
def qy:=jq bC (jq (jq (jq (jq @Bool.and_self @List.length_cons.{0}) (jq @List.length_nil.{0} (jq @F5 @bne_self_eq_false.{0}))) (jq (jq @cf22 @cf28) (jq @cf32 (jq @cf37 @cf38)))) (jq (jq (jq @cf39 @cf40) (jq @cf41 (jq @eq68s @eq75p))) (jq (jq @ld26 (jq @zi @t6)) (jq @ld30 (jq @ld75p @ln71p)))))
theorem Rk {G:Hp} {v:Value} {C:Conf} {p:Pose} (pp:PB p) (st:iq G) (hv:CV G noHp v C) (fit:Fit0 C) (hro:∀p∈C.ro,PB p):
   al P_ G 10 #[v,ja p] noHp (fun u _=>u = .bool true):=by
 have hv0:=hv
 obtain ⟨ab,cb,ap,cp,ar,cr,az,cs,rfl,ca⟩:=hv
 refine al.assume fun d=>enter10 (by simp) ?_
 unfold S10
 simp only [qy]
 intro xc hxc gxc x1 hx1 gx1
 generalize e1:Hp.set noHp xc _=h1 at*
 obtain ⟨l1,d1,q1⟩:=boxed e1 hxc d gxc
 generalize e2:Hp.set h1 x1 _=hz at*
 obtain ⟨l2,dz,q2⟩:=boxed e2 hx1 d1 gx1
 have L:=l1.trans (l2)
 have bc:=l2 _ _ (q1)
 have b1:=q2
 have cc:∀{h':Hp},hz.le h'->∀k,af G h' ⟨xc,k,none⟩=_:=fun l k=>aj (ai (l _ _ bc))
 have c1:∀{h':Hp},hz.le h'->∀k,af G h' ⟨x1,k,none⟩=_:=fun l k=>aj (ai (l _ _ b1))
 have ca0:=ca.up L dz
 have lz:=Hp.le.refl hz
 have aw:∀{h:Hp} {K:VK},(∀h',K (.bool true) h')->al P_ G 32 #[] h K:=fun hK=>(G3 st).mono fun u h' e=>by rw [e.1];exact hK h'
 have hbl:C.bl.length<=100000000000000:=by have:=fit.bl;unfold Room at this;omega
 have hsl:C.st.length<=100000000000000:=by have:=fit.st;unfold Room at this;omega
 try simp only [qy,cc lz]
 refine (i7 ca0.cv fit).mono ?_
 rintro u6 k6 ⟨⟨_,_,_,_,_,_,_,_,co6⟩,dk6⟩
 have lk6:hz.le k6:=co6.sep.in 4 rfl
 try simp (disch:=first|decide|omega) only [qy,Nat.reduceAdd,Nat.reduceMul]
 refine (pu (co6.cv (Hp.le.refl _)) st hro hsl).mono ?_
 rintro _ h5 ⟨l5,d5,⟨mk,ga,gp,kb',rfl,go,s5⟩|⟨hno,rfl⟩⟩
 rotate_left
 . have lz5:hz.le h5:=lk6.trans l5
   try simp only [qy,show ((5:Int) != 0)=true from rfl,cc lz5,fe]
   refine (Lu (ca0.up lz5 d5).cv).mono ?_
   rintro _ h5 ⟨⟨b,rfl,hb⟩,rfl⟩
   cases b with
   |true=>exact absurd (uz.2 (hb.1 rfl)) hno
   |false=>
     try simp only [qy]
     exact aw fun h'=>by simp only [qy]
 have lz5:hz.le h5:=lk6.trans l5
 try simp only [qy]
 unfold aC4
 try simp (disch:=decide) only [qy,cc lz5,c1 lz5]
 refine (vq (p:=p) (ca0.up lz5 d5).cv hbl).mono ?_
 rintro _ h5 ⟨rfl,rfl⟩
 cases fp:fi C p with
 |false=>
   try simp only [qy]
   exact aw fun h'=>by simp only [qy]
 |true=>
 try simp only [qy]
 unfold aC3
 try simp (disch:=decide) only [qy,c1 lz5]
 obtain ⟨ew,ek,w1,w16,k1,k16⟩:=wk_of mk
 have gs5:=(go.gs (G:=G)).up (s5.in 0 rfl) d5
 refine (Vd (p:=p) (M:=[]) (mv := .slice none 0 0) gs5 st pp ⟨none,0,rfl,Nat.le_refl _,.inl rfl⟩ (fun _ h=>by cases h) (by simp)).mono ?_
 rintro _ h6 ⟨ip6,sl6,_,s6,d6⟩
 have l6:hz.le h6:=lz5.trans (s6.in 1 rfl)
 have e6:zj (wC C) (kC C) (f3C C) p 0 []=[⟨numR C (p.x,p.y),0,4611686018427387904⟩,⟨numR C (east p),0,4611686018427387904⟩]:=by
   unfold zj xq
   rw [if_neg (by decide)]
   show [(⟨numI _ _ (p.x,p.y),0,FV⟩:Want),⟨numI _ _ (east p),0,FV⟩]=_
   rw [ai7 mk,ai7 mk]
 rw [e6]at sl6
 obtain ⟨a6,c6,rfl,_⟩:=id (sl6.len (by decide))
 try simp only [qy,Nat.reduceAdd,c1 l6]
 refine (tw (p:=p)).mono ?_
 rintro _ h7 ⟨b7,rfl,hb7,gb7,rfl⟩
 have d7:=d6.set (o := .cells #[p.x,p.y,(east p).1,(east p).2] 28 (0,0)) gb7
 have l67:h6.le (h6.set b7 (.cells #[p.x,p.y,(east p).1,(east p).2] 28 (0,0))):=b8 hb7
 have bb7:(h6.set b7 (.cells #[p.x,p.y,(east p).1,(east p).2] 28 (0,0))) b7=some (.cells #[p.x,p.y,(east p).1,(east p).2] 28 (0,0)):=ag
 generalize Hp.set h6 b7 _=h7 at*
 have see:=sl6.see (G:=G) (by decide) ((s6.in 0 rfl).trans l67)
 obtain ⟨b,o,rfl,y0,y1,y2⟩:=Rv.Sees.want see (i:=0) rfl
 obtain ⟨b',o',e',z0,z1,z2⟩:=Rv.Sees.want see (i:=1) rfl
 cases e'
 have cb:∀k,af G h7 ⟨b7,k,none⟩=_:=fun k=>aj (ai bb7)
 simp only [Nat.zero_mul,Nat.add_zero,Nat.one_mul]at y0 y1 y2 z0 z1 z2
 have l7:=l6.trans l67
 have htwo:(((2:Nat):Int)==2)=true:=rfl
 try simp only [qy,htwo,show Int.toNat 1=1 from rfl,Int.toNat_zero,Nat.zero_mul,Nat.one_mul,ix71p (by decide:(0:Int)<=0) (by decide:(0:Int)<(2:Nat)),qe (by decide:(0:Int)<=0) (by decide:(0:Int)<(2:Nat)),y0,y1,y2,cb,cc l7]
 have cv7:=(ca0.up l7 d7).cv
 have hw:C.w<=16:=by omega
 have hh:C.h<=16:=by omega
 have hn1:(numR C (p.x,p.y)==numR C (p.x,p.y))=true:=beq_self_eq_true _
 have hn2:(numR C (east p)==numR C (east p))=true:=beq_self_eq_true _
 have h00:((0:Int)==0)=true:=rfl
 have hff:((4611686018427387904:Int)==4611686018427387904)=true:=rfl
 refine (Co (c:=(p.x,p.y)) cv7 hw hh).mono ?_
 rintro _ h8 ⟨rfl,rfl⟩
 refine ⟨Hp.le.refl _,?_⟩
 try simp only [qy,Nat.reduceAdd,hn1,h00,hff,htwo,show Int.toNat 1=1 from rfl,Nat.one_mul,ix71p (by decide:(0:Int)<=1) (by decide:(1:Int)<(2:Nat)),qe (by decide:(0:Int)<=1) (by decide:(1:Int)<(2:Nat)),z0,z1,z2,cb,cc l7]
 refine (Co (c:=east p) cv7 hw hh).mono ?_
 rintro _ h8 ⟨rfl,rfl⟩
 refine ⟨Hp.le.refl _,?_⟩
 try simp only [qy,hn2,h00,hff]
 exact aw fun h'=>by simp only [qy]
section
variable {C:Conf}
theorem Ei:∀{w:List Move} {p:Pose} {t:Int},fg C p t w=true->t<=endT t w/\∀m∈w,m.e<=endT t w
 |[],_,t,_=>⟨Int.le_refl _,fun _ h=>by cases h⟩
 |x::w,p,t,h=>by
   rw [me,Bool.and_eq_true,nl]at h
   obtain ⟨⟨h1,h2,h3,h4,h5,h6⟩,h7⟩:=h
   obtain ⟨i1,i2⟩:=Ei h7
   rw [M1]
   refine ⟨by omega,fun m hm=>?_⟩
   rcases List.mem_cons.1 hm with rfl|hm
   . exact i1
   . exact i2 m hm
theorem wk_time (mk:cj C) {n:Nat} (hn:(n:Int)=C.w*C.h) {r:Int} {p q:Pose} {t a:Int} {l:List Move} {i:Nat} (hp:dg (wC C) (kC C) (f3C C) p=true) (ht:0<=t) (w:Wk (envC C (List.replicate n []) r) p t l q i a):
   dg (wC C) (kC C) (f3C C) q=true/\0<=a/\a<=t+16000*l.length:=by
 have fl:=ao8 mk hn (r:=r)
 induction w with
 |nil h=>exact ⟨hp,ht,by simp⟩
 |@snoc l q i j a s0 s w h h0 ha1 ha2 hw hs h1 h2 he he2 hj ih=>
   obtain ⟨ih1,ih2,ih3⟩:=ih
   obtain ⟨e1,e2,e3,e4⟩:=fl.wy q ih1 w hw
   rw [e1,List.mem_singleton]at hs
   subst hs
   have es:=Gp (show 0<=max a 0 by omega) (show 0<=w.2.2.1 by omega) he2
   refine ⟨e4,?_,?_⟩
   . show 0<=sumI (max a 0) w.2.2.1;rw [es];omega
   . show sumI (max a 0) w.2.2.1<=_;rw [es,List.length_append,List.length_singleton];omega
theorem Ix (mk:cj C) {n:Nat} (hn:(n:Int)=C.w*C.h) {rb t:Int} {p gp:Pose} {any:Bool} {l:List Move} (h:jh C (some (List.replicate n [])) rb p t gp any = .ok l):endT t l<=t+16000*l.length:=by
 have ha:¬Ji C (List.replicate n []) rb p t gp any:=fun ha=>by rw [Bu ha]at h;cases h
 obtain ⟨c1,c2,c3,c4,c5,c6⟩:=P6 ha
 have hf:fi C p=true:=by rw [<- py mk];exact c5
 rw [Iy ha]at h
 have o1:=Iv mk (jm (n:=n)) (r:=rb) (gp:=gp) (t:=t) (any:=any) (n:=C.bu.toNat) c5
 rw [h]at o1
 cases o1 with
 |ok w hs h1 h2 g best=>
   obtain ⟨_,_,w3⟩:=wk_time mk hn c5 c3 w
   obtain ⟨_,_,e,_⟩:=ae6 mk jm hf c3 w
   rw [e]at w3
   exact w3
theorem Sy (mk:cj C) {n:Nat} (hn:(n:Int)=C.w*C.h) {rb:Int} {hm:Pose}:∀{S:List Stp} {p:Pose} {t:Int} {l L:List Move},goR C (List.replicate n []) rb hm S p t l = .ok L->∃M,L=l++M/\∀m∈M,m.e<=t+16000*M.length
 |[],p,t,l,L,h=>by
   rw [Pj]at h
   cases hw:jh C (some (List.replicate n [])) rb p t hm false with
   |no e=>rw [hw]at h;cases h
   |ok w=>
     rw [hw]at h
     cases h
     have:=Ix mk hn hw
     exact ⟨w,rfl,fun m hm=>Int.le_trans ((Ei (sd mk jm hw).1).2 m hm) this⟩
 |s::S,p,t,l,L,h=>by
   rw [Ir]at h
   cases hw:jh C (some (List.replicate n [])) rb p t ⟨s.x,s.y,false⟩ true with
   |no e=>rw [hw]at h;cases h
   |ok w=>
     rw [hw]at h
     simp only at h
     obtain ⟨M,rfl,hM⟩:=Sy mk hn h
     have h1:=Ix mk hn hw
     have h2:=(Ei (sd mk jm hw).1).2
     have h4:=(sd mk jm hw).2.2.2.1
     obtain ⟨o1,o2⟩:=ho_bd mk
     have hs:sumI (endT t w) C.ho<=endT t w+C.ho:=by unfold sumI cutI FV;split<;>omega
     refine ⟨w++rf C s.k (endP p w) (endT t w)::M,by simp,fun m hm=>?_⟩
     have hl:((w++rf C s.k (endP p w) (endT t w)::M).length:Int)=w.length+(M.length+1):=by simp
     rw [hl]
     rcases List.mem_append.1 hm with hm|hm
     . have:=h2 m hm;omega
     . rcases List.mem_cons.1 hm with rfl|hm
       . show sumI (endT t w) C.ho<=_;omega
       . have:=hM m hm;omega
def C6 (m:Move):Move:={ m with a:=m.a+100,e:=m.e+100 }
theorem Hy:∀{w:List Move} {p:Pose} {t t':Int},t'<=t+100->fg C p t w=true->(∀m∈w,m.e+100<FV)->fg C p t' (w.map C6)=true
 |[],_,_,_,_,_,_=>rfl
 |x::w,p,t,t',ht,h,hb=>by
   rw [me,Bool.and_eq_true,nl]at h
   obtain ⟨⟨h1,h2,h3,h4,h5,h6⟩,h7⟩:=h
   have hx:=hb x (.head _)
   rw [List.map_cons,me,Bool.and_eq_true,nl]
   exact ⟨⟨h1,by show t'<=x.a+100;omega,by show x.a+100<x.e+100;omega,hx,h5,by show x.e+100=x.a+100+dp C x;omega⟩,Hy (show x.e+100<=x.e+100 from Int.le_refl _) h7 fun m hm=>hb m (.tail _ hm)⟩
theorem Hx {w:List Move} {p:Pose} {t:Int} (h:fg C p t w=true) (i:Nat):fg C p t (w.take i)=true/\fg C (endP p (w.take i)) (endT t (w.take i)) (w.drop i)=true:=by
 rw [<- List.take_append_drop i w,vo,Bool.and_eq_true]at h
 simpa using h
theorem R5 {w:List Move} {p:Pose} {t:Int} (h:fg C p t w=true) (i:Nat) (hb:∀m∈w,m.e+100<FV):fg C p t (w.take i++(w.drop i).map C6)=true:=by
 obtain ⟨h1,h2⟩:=Hx h i
 rw [vo,h1,Bool.true_and]
 exact Hy (by omega) h2 fun m hm=>hb m (List.mem_of_mem_drop hm)
theorem Eh {w:List Move} {p:Pose} {t:Int} {i:Nat} {x:Move} (hi:i<w.length) (hx:∀P N,oneR C P N x=false):fg C p t (w.set i x)=false:=by
 cases h:fg C p t (w.set i x)with
 |false=>rfl
 |true=>
   have:=Ej h i x (by rw [List.getElem?_set_self hi])
   rw [hx]at this
   cases this
theorem one_end {m:Move} {b P:Int} (hm:m.e=m.a+dp C m) (hb:1<=b):∀P N,oneR C P N { m with e:=m.e+b }=false:=fun P N=>by
 cases h:oneR C P N { m with e:=m.e+b }with
 |false=>rfl
 |true=>
   obtain ⟨_,_,_,_,_,h6⟩:=nl.1 h
   have h6':m.e+b=m.a+dp C m:=h6
   omega
theorem Fl {m:Move} (h:df C m=false):∀P N,oneR C P N m=false:=fun P N=>by
 unfold oneR
 rw [h]
 simp
theorem Gk {m:Move} {b:Int} (hl:df C m=true) (hb:1<=b):df C { m with t:={ m.t with x:=m.t.x+b } }=false:=by
 cases h:df C { m with t:={ m.t with x:=m.t.x+b } }with
 |false=>rfl
 |true=>
   have hne:∀q:Pose,m.t=q->(⟨m.t.x+b,m.t.y,m.t.d⟩:Pose)=q->False:=fun q h1 h2=>by
     have:=congrArg Pose.x (h2.trans h1.symm)
     simp only at this
     omega
   unfold df at hl h
   simp only [Bool.and_eq_true]at hl h
   obtain ⟨_,hl⟩:=hl
   obtain ⟨_,h⟩:=h
   by_cases h1:m.k=1
   . rw [if_pos h1]at hl h
     simp only [Bool.and_eq_true,decide_eq_true_eq]at hl h
     exact (hne _ hl.2.2.1 h.2.2.1).elim
   . rw [if_neg h1]at hl h
     by_cases h2:m.k=2
     . rw [if_pos h2]at hl h
       simp only [Bool.and_eq_true,decide_eq_true_eq]at hl h
       exact (hne _ hl.2.2.2 h.2.2.2).elim
     . rw [if_neg h2]at hl h
       simp only [Bool.and_eq_true,decide_eq_true_eq]at hl h
       exact (hne _ hl.2.2.2 h.2.2.2).elim
theorem U7 {m:Move} {b:Int} (hb:1<=b):df C { m with k:=5+b }=false:=by
 unfold df
 simp only
 rw [if_neg (by omega),if_neg (by omega),decide_eq_false (by omega)]
 simp
end
def fk:=jq bC (jq (jq (jq (jq @List.length_nil.{0} (jq @bne_self_eq_false.{0} @cf21)) (jq (jq @cf24 @cf25) (jq @cf28 @cf29))) (jq (jq @cf32 (jq @cf33 @cf34)) (jq (jq @cf35 @Tq) (jq @Bz @E0)))) (jq (jq (jq @Bw (jq @Ez @Ey)) (jq (jq @zr @tk) (jq @zq @Pp))) (jq (jq @Vm (jq @I1 @ld26)) (jq (jq @zi @ld3) (jq @qw @ln40)))))
theorem Lr {α:Type} (c:Cod α) (hn:0<c.n) {L:List α} {t:List Value} {i j:Nat} {x y:α} {v:Value} (hx:L[i]?=some x) (hj:j<c.n) (he:c.enc y=(c.enc x).set j v):(c.rows L++t).set (i*c.n+j) v=c.rows (L.set i y)++t:=by
 have hi:=(List.getElem?_eq_some_iff.1 hx).1
 have hle:(i+1)*c.n<=L.length*c.n:=Nat.mul_le_mul_right _ hi
 rw [Nat.succ_mul]at hle
 apply List.ext_getElem?
 intro q
 rw [List.getElem?_set]
 by_cases hq:q<L.length*c.n
 . have hq1:q / c.n<L.length:=Nat.div_lt_of_lt_mul (by rw [Nat.mul_comm];exact hq)
   have hq2:q % c.n<c.n:=Nat.mod_lt _ hn
   have hq3:q=(q / c.n)*c.n+q % c.n:=by rw [Nat.mul_comm];exact (Nat.div_add_mod q c.n).symm
   generalize q / c.n=i' at*
   generalize q % c.n=j' at*
   subst hq3
   obtain ⟨x',hx'⟩:∃x',L[i']?=some x':=⟨_,List.getElem?_eq_getElem hq1⟩
   by_cases hii:i=i'
   . subst hii
     rw [hx]at hx';cases hx'
     have h2:(L.set i y)[i]?=some y:=by rw [List.getElem?_set_self hi]
     rw [c.rows_get (t:=t) h2 hq2,c.rows_get (t:=t) hx hq2,he,List.getElem?_set]
     by_cases hjj:j=j'
     . subst hjj
       rw [if_pos rfl,if_pos rfl,if_pos (by rw [List.length_append,c.rows_length];omega),if_pos (by rw [c.len];exact hj)]
     . rw [if_neg (by omega),if_neg hjj]
   . have h2:(L.set i y)[i']?=some x':=by rw [List.getElem?_set_ne hii];exact hx'
     rw [c.rows_get (t:=t) h2 hq2,c.rows_get (t:=t) hx' hq2,if_neg ?_]
     intro e
     rcases Nat.lt_or_gt_of_ne hii with h|h
     . have:=Nat.mul_le_mul_right c.n (show i+1<=i' from h)
       rw [Nat.succ_mul]at this
       omega
     . have:=Nat.mul_le_mul_right c.n (show i'+1<=i from h)
       rw [Nat.succ_mul]at this
       omega
 . rw [if_neg (by omega),List.getElem?_append_right (by rw [c.rows_length];omega),List.getElem?_append_right (by rw [c.rows_length,List.length_set];omega),c.rows_length,c.rows_length,List.length_set]
theorem sj {α:Type} {c:Cod α} {e:TypeId} {a:Hp} {v:Value} {L:List α} (o:Slc c e a v L) (hL:L≠[]):∃b cap t,v = .slice (some ⟨b,0,none⟩) L.length cap/\a b=some (.cells (c.rows L++t).toArray e (0,0))/\(c.rows L++t).length=cap*c.n:=by
 obtain ⟨ob,o⟩:=o
 cases ob with
 |none=>exact absurd o.2 hL
 |some b=>obtain ⟨cap,t,e1,e2,e3⟩:=o;exact ⟨b,cap,t,e1,e2,e3⟩
theorem yh {P:Program} {G:Hp} {α:Type} (c:Cod α) (hn:0<c.n) {T e:TypeId} (hi:(P.info? T).map (·.size)=some 1) {h a:Hp} {R:List Hp} {b len cap:Nat} {L:List α} {i j o:Nat} {x y:α} {w:Value} (sl:Slc c e a (.slice (some ⟨b,0,none⟩) len cap) L) (s:HL.Sep (a::R) h) (d:Dis G h) (hx:L[i]?=some x) (hj:j<c.n) (he:c.enc y=(c.enc x).set j w) (h1:js w=true) (ho:o=i*c.n+j) {K:Unit->Hp->Prop}
   (H:∀a' h',Slc c e a' (.slice (some ⟨b,0,none⟩) len cap) (L.set i y)->HL.Sep (a'::R) h'->Dis G h'->K () h'):wpH P G (Instr.storeAt T (.pointer (some ⟨b,o,none⟩)) w) h K:=by
 have hL:L≠[]:=fun h=>by rw [h]at hx;simp at hx
 have hil:=(List.getElem?_eq_some_iff.1 hx).1
 obtain ⟨b',cap',t,e1,e2,e3⟩:=sj sl hL
 simp only [Value.slice.injEq,Option.some.injEq,Addr.mk.injEq]at e1
 obtain ⟨⟨rfl,_,_⟩,rfl,rfl⟩:=e1
 have hle:(i+1)*c.n<=L.length*c.n:=Nat.mul_le_mul_right _ hil
 rw [Nat.succ_mul]at hle
 have hlen:i*c.n+j<(c.rows L++t).length:=by rw [List.length_append,c.rows_length];omega
 subst ho
 rw [dh hi h1 (s.hd _ _ e2) hlen,Lr c hn hx hj he]
 refine H _ _ ⟨some b,cap,t,by rw [List.length_set],ag,?_⟩ (s.put e2) (d.set (d _ _ (s.hd _ _ e2)))
 rw [<- Lr c hn hx hj he,List.length_set]
 exact e3
theorem tf {G h a U k:Hp} {u mv:Value} {C:Conf} {kp:Nat} {p:Pose} {M:List Move} (co:Zl G h C u k) (s:HL.Sep [a,U] h) (st:iq G) (hro:∀p∈C.ro,PB p) (hsl:C.st.length<=100000000000000) (mk:cj C) (kpk:KP a kp C.un C.ac C.sp) (sm:Sees ff G U mv M) (hb:∀m∈M,MB m) (hml:M.length<=1000000000):
   al P_ G 35 #[u,.pointer (some ⟨kp,0,none⟩),ja p,mv] k (fun b h'=>b = .bool (fg C p 0 M)/\∃a',KP a' kp C.un C.ac C.sp/\HL.Sep [a',U] h'/\Dis G h'):=by
 obtain ⟨Q,sQ,lQ,dk,dQ,cv⟩:=E1 co s
 refine (Hv (p:=p) (M:=M) cv st hro hsl mk kpk (sm.up lQ dQ) hb hml sQ).mono ?_
 rintro b h' ⟨e,a',k',s',d'⟩
 exact ⟨e,a',k',(s'.swap.cut lQ).swap,d'⟩
theorem At {G h k:Hp} {C:Conf} {u:Value} (co:Zl G h C u k):h.le k:=by obtain ⟨⟨_,_,_,_,_,_,_,_,co⟩,_⟩:=co;exact co.sep.in 4 rfl
theorem aa9 {G h ix:Hp} {R:List Hp} {M:List Move} {i:Nat} {b cap:Nat} (hi:i<=M.length) (hMl:M.length<=100000) (hM:∀m∈M,0<=m.a/\m.a<m.e/\m.e+100<FV) (sl:Slc ff 48 ix (.slice (some ⟨b,0,none⟩) M.length cap) M) (s:HL.Sep (ix::R) h) (d:Dis G h) {X:Exit->Rg->Hp->Prop} {r:Rg} (g22:r 22 = .slice (some ⟨b,0,none⟩) M.length cap) (g23:r 23 = .int .i64 i)
   (H:∀(r':Rg) (h' ix':Hp),(∀y,1<=y->y<=22->r' y=r y)->Slc ff 48 ix' (.slice (some ⟨b,0,none⟩) M.length cap) (M.take i++(M.drop i).map C6)->HL.Sep (ix'::R) h'->Dis G h'->X (.exit 0) r' h'):
   dl (S9_l7 G) r h X:=by
 refine di (fun m p h'=>∃(j:Nat) (ix':Hp) (N:List Move),m=M.length-j/\i<=j/\j<=M.length/\(∀y,1<=y->y<=22->p y=r y)/\p 23 = .int .i64 j/\N.length=M.length/\(∀k,N[k]?=if i<=k/\k<j then (M[k]?).map C6 else M[k]?)/\Slc ff 48 ix' (.slice (some ⟨b,0,none⟩) M.length cap) N/\HL.Sep (ix'::R) h'/\Dis G h') ?_ (m:=M.length-i)
   ⟨i,ix,M,rfl,Nat.le_refl _,hi,fun _ _ _=>rfl,g23,rfl,fun k=>by rw [if_neg (by omega)],sl,s,d⟩
 clear sl s d
 rintro m p h1 ⟨j,ix1,N,rfl,hij,hj,hp,p23,hN,hNk,sl,s,d⟩ Y hY
 have p22:=(hp 22 (by decide) (by decide)).trans g22
 unfold S9_l7
 simp only [fk,p22,p23]
 refine bv (fun hlt=>?_) (fun hge=>?_)
 rotate_left
 . obtain rfl:j=M.length:=by omega
   try simp (disch:=first|decide|omega) only [fk,Nat.reduceAdd,Nat.reduceMul]
   refine H _ h1 ix1 (fun y h1 h2=>by simp (disch:=omega) only [av];exact hp y h1 h2) ?_ s d
   have e:N=M.take i++(M.drop i).map C6:=by
     apply List.ext_getElem?
     intro k
     rw [hNk]
     by_cases hk:k<i
     . rw [if_neg (by omega),List.getElem?_append_left (by rw [List.length_take];omega),List.getElem?_take,if_pos hk]
     . rw [List.getElem?_append_right (by rw [List.length_take];omega),List.length_take,Nat.min_eq_left hi,List.getElem?_map,List.getElem?_drop,show i+(k-i)=k by omega]
       by_cases hk2:k<M.length
       . rw [if_pos ⟨by omega,hk2⟩]
       . rw [if_neg (by omega),List.getElem?_eq_none (by omega)];rfl
   rw [<- e];exact sl
 obtain ⟨z,hz⟩:∃z,M[j]?=some z:=⟨_,List.getElem?_eq_getElem (by omega)⟩
 obtain ⟨z1,z2,z3⟩:=hM z (List.mem_of_getElem? hz)
 unfold FV at z3
 have hNz:N[j]?=some z:=by rw [hNk,if_neg (by omega)];exact hz
 have hlt2:(j:Int)<N.length:=by rw [hN];exact hlt
 have see1:Sees ff G h1 (.slice (some ⟨b,0,none⟩) M.length cap) N:=sl.see (by decide) (s.in 0 rfl)
 obtain ⟨b1,o1,e1,y0,y1,y2,y3,y4,y5,y6,y7,y8,y9,y10⟩:=Sees.mvx see1 hNz
 simp only [Option.some.injEq,Addr.mk.injEq]at e1
 obtain ⟨rfl,rfl,_⟩:=e1
 simp only [Nat.zero_add]at y9 y10
 unfold Ue
 try simp (disch:=first|decide|omega) only [fk,p22,p23,ix40 (Int.natCast_nonneg j) hlt,y9]
 have w1:IntKind.i64.wrap (z.a+100)=z.a+100:=kf (by omega) (by omega)
 try rw [w1]
 refine yh ff (by decide) (j:=9) (y:={ z with a:=z.a+100 }) sz3 sl s d hNz (by decide) rfl rfl rfl fun ix2 h2 sl2 s2 d2=>?_
 have hN2:(N.set j { z with a:=z.a+100 })[j]?=some { z with a:=z.a+100 }:=by rw [List.getElem?_set_self (by omega)]
 have see2:Sees ff G h2 (.slice (some ⟨b,0,none⟩) M.length cap) _:=sl2.see (by decide) (s2.in 0 rfl)
 obtain ⟨b2,o2,e2,x0,x1,x2,x3,x4,x5,x6,x7,x8,x9,x10⟩:=Sees.mvx see2 hN2
 simp only [Option.some.injEq,Addr.mk.injEq]at e2
 obtain ⟨rfl,rfl,_⟩:=e2
 simp only [Nat.zero_add]at x9 x10
 try simp (disch:=first|decide|omega) only [fk,p22,p23,ix40 (Int.natCast_nonneg j) hlt,x10]
 have w2:IntKind.i64.wrap (z.e+100)=z.e+100:=kf (by omega) (by omega)
 try rw [w2]
 refine yh ff (by decide) (j:=10) (y:=C6 z) sz3 sl2 s2 d2 hN2 (by decide) rfl rfl rfl fun ix3 h3 sl3 s3 d3=>?_
 rw [List.set_set]at sl3
 try simp (disch:=first|decide|omega) only [fk,Nat.reduceAdd,Nat.reduceMul]
 unfold Ud
 try simp (disch:=first|decide|omega) only [fk,p23]
 refine hY (M.length-(j+1)) _ _ (by omega) ⟨j+1,ix3,_,rfl,by omega,by omega,fun y h1 h2=>by simp (disch:=omega) only [av];exact hp y h1 h2,by simp only [fk]<;>rfl,by rw [List.length_set];exact hN,fun k=>?_,sl3,s3,d3⟩
 rw [List.getElem?_set]
 by_cases hk:j=k
 . subst hk
   rw [if_pos rfl,if_pos (by omega),if_pos (by omega),hz];rfl
 . rw [if_neg hk,hNk]
   by_cases hk2:i<=k/\k<j
   . rw [if_pos hk2,if_pos (by omega)]
   . rw [if_neg hk2,if_neg (by omega)]
theorem mb_endB {m:Move} {b:Int} (h:MB m):MB { m with e:=m.e+b }:=⟨h.n,h.f⟩
theorem mb_late {M:List Move} (h:∀m∈M,MB m) {i:Nat}:∀m∈M.take i++(M.drop i).map C6,MB m:=fun m hm=>by
 rcases List.mem_append.1 hm with hm|hm
 . exact h m (List.mem_of_mem_take hm)
 . obtain ⟨x,hx,rfl⟩:=List.mem_map.1 hm
   have:=h x (List.mem_of_mem_drop hx)
   exact ⟨this.n,this.f⟩
theorem U4 {M:List Move} (h:∀m∈M,MB m) {i:Nat} {x:Move} (hx:MB x):∀m∈M.set i x,MB m:=fun m hm=>by
 rcases List.mem_or_eq_of_mem_set hm with hm|rfl
 . exact h m hm
 . exact hx
theorem Ui {G:Hp} {v sv:Value} {C:Conf} {p hm:Pose} {wh by_:Int} {S:List Stp} (pp:PB p) (ph:PB hm) (bw:Bd wh) (bb:Bd by_) (hs:vk stpC G sv S) (hS:∀s∈S,StpB s) (st:iq G) (hv:CV G noHp v C) (fit:Fit0 C) (hro:∀p∈C.ro,PB p):
   al P_ G 9 #[v,ja p,sv,ja hm,wh,by_] noHp (fun u _=>u = .bool true):=by
 have hv0:=hv
 obtain ⟨ab,cb,ap,cp,ar,cr,az,cs,rfl,ca⟩:=hv
 refine al.assume fun d=>enter9 (by simp) ?_
 obtain ⟨sa,sc,rfl,_⟩:=id (hs noHp d)
 unfold S9
 simp only [fk]
 intro xc hxc gxc x1 hx1 gx1 x2 hx2 gx2
 generalize e1:Hp.set noHp xc _=h1 at*
 obtain ⟨l1,d1,q1⟩:=boxed e1 hxc d gxc
 generalize e2:Hp.set h1 x1 _=h2 at*
 obtain ⟨l2,d2,q2⟩:=boxed e2 hx1 d1 gx1
 generalize e3:Hp.set h2 x2 _=hz at*
 obtain ⟨l3,dz,q3⟩:=boxed e3 hx2 d2 gx2
 have L:=l1.trans (l2.trans (l3))
 have bc:=l3 _ _ (l2 _ _ (q1))
 have b1:=l3 _ _ (q2)
 have b2:=q3
 have cc:∀{h':Hp},hz.le h'->∀k,af G h' ⟨xc,k,none⟩=_:=fun l k=>aj (ai (l _ _ bc))
 have c1:∀{h':Hp},hz.le h'->∀k,af G h' ⟨x1,k,none⟩=_:=fun l k=>aj (ai (l _ _ b1))
 have c2:∀{h':Hp},hz.le h'->∀k,af G h' ⟨x2,k,none⟩=_:=fun l k=>aj (ai (l _ _ b2))
 have ca0:=ca.up L dz
 have lz:=Hp.le.refl hz
 have aw:∀{h:Hp} {K:VK},(∀h',K (.bool true) h')->al P_ G 32 #[] h K:=fun hK=>(G3 st).mono fun u h' e=>by rw [e.1];exact hK h'
 have hsl:C.st.length<=100000000000000:=by have:=fit.st;unfold Room at this;omega
 try simp only [fk,cc lz]
 refine (Or ca0.cv).mono ?_
 rintro _ hz ⟨⟨b,rfl,hb⟩,rfl⟩
 cases b with
 |false=>
   try simp only [fk,fe]
   exact aw fun h'=>by simp only [fk]
 |true=>
 have sm:=hb rfl
 have mk:cj C:=uz.2 sm.may
 have kb:KB C.un C.ac C.sp:=kb_of mk
 obtain ⟨n1,n2,n3,n4⟩:=Ro sm
 try simp only [fk]
 unfold S9_k1
 try simp (disch:=first|decide|omega) only [fk,cc lz]
 first|rw [n3]|rw [<- n4]
 generalize hn:(C.w*C.h).toNat=n at*
 refine (Rv.pu (n:=n) (by omega) (by omega)).mono ?_
 rintro _ h4 ⟨ta,tp,rfl,tab,s4,d4⟩
 have l4:=s4.in 1 rfl
 have tv4:∀{h':Hp},h4.le h'->Dis G h'->TabV G h' (.pointer (some ⟨tp,0,none⟩)) (some (List.replicate n [])):=fun l d=>⟨tp,rfl,(tab.see (s4.in 0 rfl)).up l d,jm,Iz⟩
 try simp only [fk,cc l4]
 refine (Il (U:=C.un) (A:=C.ac) (V:=C.sp)).mono ?_
 rintro _ h5 (⟨_,ak,kp,rfl,kpk,s5,d5⟩|⟨hno,_⟩)
 rotate_left
 . exact absurd kb hno
 have l5:=s5.in 1 rfl
 try simp only [fk]
 unfold S9_k2
 try simp (disch:=decide) only [fk]
 refine (Hj (hs h5 d5)).mono ?_
 rintro _ h6 ⟨ia,va,ib,vb,rfl,slA,slB,s6,d6⟩
 obtain ⟨aa,ac,rfl,hac⟩:=id (slA.len (by decide))
 have hS4:∀s∈S.take 4,StpB s:=fun s h=>hS s (List.mem_of_mem_take h)
 have hl4:(S.take 4).length<=4:=by rw [List.length_take];omega
 generalize S.take 4=S4 at*
 have s7:=HL.Sep.open (L:=[ak,h4]) (R:=[ia,ib]) (s6.sel (L':=[h5,ia,ib]) [2,0,1] (by decide) rfl) s5
 obtain ⟨Q6,sQ6,tQ6⟩:=HL.Sep.pack [h4,ia] (R:=[ak]) (s7.sel [1,2,0] (by decide) rfl)
 have l6:h4.le h6:=(tQ6.in 0 rfl).trans (sQ6.in 0 rfl)
 refine ⟨h6,Hp.le.refl _,?_⟩
 try simp only [fk,cc (l4.trans l6)]
 refine (i7 (ca0.up (l4.trans l6) d6).cv fit).mono ?_
 rintro u7 k7 co7
 obtain ⟨Q7,sQ7,lQ7,dk7,dQ7,cv7⟩:=E1 co7 sQ6.swap
 have lk7:h6.le k7:=At co7
 refine ⟨lk7,?_⟩
 try simp only [fk,c1 (l4.trans l6),c2 (l4.trans l6)]
 refine (vn (T:=List.replicate n []) (p:=p) (hm:=hm) (rb:=0) (t:=7) (S:=S4) (cv7.up (sQ7.in 1 rfl) dk7) st hro fit (fun _=>sm.bu) (tv4 (l6.trans lk7) dk7) pp ph (slA.see (by decide) ((tQ6.in 1 rfl).trans (lQ7.trans (sQ7.in 1 rfl)))) hS4 (by omega)).mono ?_
 rintro _ m7 ⟨W,⟨ip7,vs7,rfl,sl7,ll7,sm7,dm7⟩,⟨hno,_⟩|⟨_,hW⟩⟩
 . exact absurd mk hno
 try simp only [fk]
 cases W with
 |no e1=>
   have hne:e1≠0:=yp mk jm hW.symm
   try simp only [fk,show outE (Res.no (M:=Move) e1)=e1 from rfl,show (e1 != 0)=true by simp [hne],fe]
   exact aw fun h'=>by simp only [fk]
 |ok M=>
 replace sl7:Slc ff 48 ip7 vs7 M:=sl7
 replace ll7:M.length<=4096:=ll7
 obtain ⟨wa,wc,rfl,_⟩:=id (sl7.len (by decide))
 try simp only [fk,show outE (Res.ok M)=0 from rfl,show ((0:Int) != 0)=false from rfl]
 by_cases hM0:M=[]
 . subst hM0
   try simp only [fk,show (((0:Nat):Int)==0)=true from rfl]
   exact aw fun h'=>by simp only [fk]
 have hMp:=List.length_pos_iff.2 hM0
 try simp only [fk,show (((M.length:Nat):Int)==0)=false by simp;omega]
 obtain ⟨hS5,hgo,_⟩:=Eg hW.symm
 obtain ⟨M',e1',r1,r2,r3,r4,r5⟩:=Sz mk jm hS5 hgo
 obtain ⟨M'',e1'',htm⟩:=Sy mk n4 hgo
 rw [List.nil_append]at e1' e1''
 subst e1'
 subst e1''
 have hall:=Hz r1
 have hMB:∀m∈M,MB m:=fun m hm=>(Si mk (hall m hm).2.2.2).1
 have hlate:∀m∈M,0<=m.a/\m.a<m.e/\m.e+100<FV:=fun m hm=>by
   have h1:=hall m hm
   have h2:=htm m hm
   have h3:(16000:Int)*M.length<=16000*4096:=by omega
   exact ⟨by omega,h1.2.1,by unfold FV;omega⟩
 have r0:=Uy (C:=C) (show (0:Int)<=7 by decide) r1
 have s8:=HL.Sep.open (L:=[ak,Q7]) (R:=[ip7]) sm7.swap sQ7
 obtain ⟨Q,sQ,tQ⟩:=HL.Sep.pack [Q7,ip7] (R:=[ak]) (s8.sel [1,2,0] (by decide) rfl)
 have lhzQ:hz.le Q:=l4.trans ((tQ6.in 0 rfl).trans (lQ7.trans (tQ.in 0 rfl)))
 have dQ:Dis G Q:=fun y o hy=>dm7 y o (sQ.hd _ _ hy)
 have sMQ:Sees ff G Q (.slice wa M.length wc) M:=sl7.see (by decide) (tQ.in 1 rfl)
 clear s8 sm7 sQ7 sQ6 s7 s6 s5
 unfold S9_k3
 try simp (disch:=decide) only [fk]
 refine (vw (a:=wh) (n:=(M.length:Int)) bw (by omega) (by omega)).mono ?_
 rintro _ m8 ⟨rfl,rfl⟩
 have i0:=Int.emod_nonneg wh (show ((M.length:Int))≠0 by omega)
 have i1:=Int.emod_lt_of_pos wh (show 0<(M.length:Int)by omega)
 obtain ⟨i,hi⟩:∃i:Nat,wh % (M.length:Int)=i:=⟨(wh % (M.length:Int)).toNat,by omega⟩
 rw [hi]at i0 i1 ⊢
 have hil:i<M.length:=by omega
 refine ⟨Q,sQ.in 0 rfl,?_⟩
 try simp only [fk,cc lhzQ]
 refine (i7 (ca0.up (lhzQ.trans (sQ.in 0 rfl)) dm7).cv fit).mono ?_
 rintro u9 k9 co9
 refine ⟨(sQ.in 0 rfl).trans (At co9),?_⟩
 try simp only [fk,c1 lhzQ]
 refine Zx un40 sz48 sMQ i0 (by omega) fun v10 sv10=>?_
 rw [Int.toNat_natCast]at sv10
 try simp (disch:=first|decide|omega) only [fk,Nat.reduceAdd,Nat.reduceMul]
 refine (tf (p:=p) (M:=M.take i) co9 sQ.swap st hro hsl mk kpk sv10 (fun m hm=>hMB m (List.mem_of_mem_take hm)) (by rw [List.length_take];omega)).mono ?_
 rintro _ h10 ⟨rfl,a10,kpk10,s10,d10⟩
 rw [(Hx r0 i).1]
 try simp only [fk]
 unfold S9_k4
 try simp (disch:=decide) only [fk]
 refine ez ff (by decide) (L:=[]) (M:=M) un40 eomove (by decide) (by decide) s10.none d10 Slc.nil (sMQ.up (s10.in 1 rfl) d10) (by simp;omega) fun v11 ix11 h11 o11 s11 d11=>?_
 rw [List.nil_append]at o11
 obtain ⟨b11,cap11,_,rfl,_,_⟩:=sj o11 hM0
 try simp (disch:=first|decide|omega) only [fk,Nat.reduceAdd,Nat.reduceMul]
 refine aa9 (i:=i) (by omega) (by omega) hlate o11 s11 d11 (by simp (disch:=decide) only [fk]) (by simp only [fk]) fun r' h12 ix12 hr' sl12 s12 d12=>?_
 have f5:=hr' 5 (by decide) (by decide)
 have f6:=hr' 6 (by decide) (by decide)
 have f7:=hr' 7 (by decide) (by decide)
 have f15:=hr' 15 (by decide) (by decide)
 have f19:=hr' 19 (by decide) (by decide)
 have f21:=hr' 21 (by decide) (by decide)
 have f22:=hr' 22 (by decide) (by decide)
 simp (disch:=omega) only [av,af3]at f5 f6 f7 f15 f19 f21 f22
 try simp only [fk]
 unfold S9_k5
 refine ⟨Q,s12.in 2 rfl,?_⟩
 try simp only [fk,f6,cc lhzQ]
 refine (i7 (ca0.up (lhzQ.trans (s12.in 2 rfl)) d12).cv fit).mono ?_
 rintro u13 k13 co13
 refine ⟨(s12.in 2 rfl).trans (At co13),?_⟩
 try simp only [fk,f7,c1 lhzQ,f15,f22]
 obtain ⟨U13,sU13,tU13⟩:=HL.Sep.pack [Q,ix12] (R:=[a10]) (s12.sel [2,0,1] (by decide) rfl)
 have hlen12:(M.take i++(M.drop i).map C6).length=M.length:=by simp;omega
 refine (tf (p:=p) (M:=M.take i++(M.drop i).map C6) co13 sU13.swap st hro hsl mk kpk10 (sl12.see (by decide) (tU13.in 1 rfl)) (mb_late hMB) (by omega)).mono ?_
 rintro _ h14 ⟨rfl,a14,kpk14,s14,d14⟩
 rw [R5 r0 i fun m hm=>(hlate m hm).2.2]
 have s14':=(s14.swap.cut (tU13.in 0 rfl)).swap
 clear s14 sU13 tU13 s12 sl12 s11 o11 s10 sQ
 try simp only [fk]
 unfold S9_k6
 try simp (disch:=decide) only [fk,f5]
 refine (vw (a:=by_) (n:=90) bb (by decide) (by decide)).mono ?_
 rintro _ h14 ⟨rfl,rfl⟩
 have p0:=Int.emod_nonneg by_ (by decide:(90:Int)≠0)
 have p1:=Int.emod_lt_of_pos by_ (by decide:(0:Int)<90)
 generalize by_ % 90=bq at p0 p1 ⊢
 obtain ⟨z,hz_⟩:∃z,M[i]?=some z:=⟨_,List.getElem?_eq_getElem hil⟩
 have hzm:=List.mem_of_getElem? hz_
 obtain ⟨z1,z2,z3⟩:=hlate z hzm
 have zl:=(hall z hzm).2.2.2
 have zone:=nl.1 (Ej r0 i z hz_)
 have zfit:=rn mk (Si mk zl).2
 unfold FV at z3
 try simp (disch:=first|decide|omega) only [fk,f19,show IntKind.i64.wrap (1+bq)=1+bq from kf (by omega) (by omega)]
 refine ez ff (by decide) (L:=[]) (M:=M) un40 eomove (by decide) (by decide) s14'.none d14 Slc.nil (sMQ.up (s14'.in 1 rfl) d14) (by simp;omega) fun vx ix hx ox sx dx=>?_
 rw [List.nil_append]at ox
 obtain ⟨bx,capx,_,rfl,_,_⟩:=sj ox hM0
 obtain ⟨_,_,ex,x0,_,_,_,_,_,x6,_,_,_,x10⟩:=Sees.mvx (ox.see (G:=G) (by decide) (sx.in 0 rfl)) hz_
 simp only [Option.some.injEq,Addr.mk.injEq]at ex
 obtain ⟨rfl,rfl,_⟩:=ex
 simp only [Nat.zero_add]at x0 x6 x10
 try simp only [fk,f21,ix40 (Int.natCast_nonneg i) i1,x10,show IntKind.i64.wrap (z.e+(1+bq))=z.e+(1+bq)from kf (by omega) (by omega)]
 refine yh ff (by decide) (j:=10) (y:={ z with e:=z.e+(1+bq) }) sz3 ox sx dx hz_ (by decide) rfl rfl rfl fun ix2 h15 slx s15 d15=>?_
 have rx:=Eh (C:=C) (p:=p) (t:=0) hil (one_end (P:=0) (m:=z) (b:=1+bq) zone.2.2.2.2.2 (by omega))
 try simp (disch:=first|decide|omega) only [fk,Nat.reduceAdd,Nat.reduceMul,f19]
 refine ez ff (by decide) (L:=[]) (M:=M) un40 eomove (by decide) (by decide) s15.none d15 Slc.nil (sMQ.up (s15.in 2 rfl) d15) (by simp;omega) fun vy iy hy oy sy dy=>?_
 rw [List.nil_append]at oy
 obtain ⟨b_y,capy,_,rfl,_,_⟩:=sj oy hM0
 obtain ⟨_,_,ey,_,_,_,_,_,_,y6,_,_,_,_⟩:=Sees.mvx (oy.see (G:=G) (by decide) (sy.in 0 rfl)) hz_
 simp only [Option.some.injEq,Addr.mk.injEq]at ey
 obtain ⟨rfl,rfl,_⟩:=ey
 simp only [Nat.zero_add]at y6
 try simp only [fk,f21,ix40 (Int.natCast_nonneg i) i1,y6,show IntKind.i64.wrap (z.t.x+(1+bq))=z.t.x+(1+bq)from kf (by omega) (by omega)]
 refine yh ff (by decide) (j:=6) (y:={ z with t:={ z.t with x:=z.t.x+(1+bq) } }) sz3 oy sy dy hz_ (by decide) rfl rfl rfl fun iy2 h16 sly s16 d16=>?_
 have ry:=Eh (C:=C) (p:=p) (t:=0) hil (Fl (Gk (b:=1+bq) zl (by omega)))
 try simp (disch:=first|decide|omega) only [fk,Nat.reduceAdd,Nat.reduceMul,f19]
 refine ez ff (by decide) (L:=[]) (M:=M) un40 eomove (by decide) (by decide) s16.none d16 Slc.nil (sMQ.up (s16.in 3 rfl) d16) (by simp;omega) fun vz iz hz2 oz sz_ dz_=>?_
 rw [List.nil_append]at oz
 obtain ⟨b_z,capz,_,rfl,_,_⟩:=sj oz hM0
 try simp only [fk,f21,ix40 (Int.natCast_nonneg i) i1,show IntKind.i64.wrap (5+(1+bq))=5+(1+bq)from kf (by omega) (by omega)]
 refine yh ff (by decide) (j:=0) (y:={ z with k:=5+(1+bq) }) sz3 oz sz_ dz_ hz_ (by decide) rfl rfl rfl fun iz2 h17 slz s17 d17=>?_
 have rz:=Eh (C:=C) (p:=p) (t:=0) hil (Fl (U7 (m:=z) (b:=1+bq) (by omega)))
 obtain ⟨U,sU,tU⟩:=HL.Sep.pack [Q,ix2,iy2,iz2] (R:=[a14]) (s17.sel [4,2,1,0,3] (by decide) rfl)
 have lhzU:hz.le U:=lhzQ.trans (tU.in 0 rfl)
 have hl':∀{x:Move},(M.set i x).length<=1000000000:=fun {x}=>by rw [List.length_set];omega
 have hml:∀{x:Move},M.length=(M.set i x).length:=fun {x}=>by rw [List.length_set]
 refine ⟨U,sU.in 0 rfl,?_⟩
 try simp only [fk,f6,cc lhzU]
 refine (i7 (ca0.up (lhzU.trans (sU.in 0 rfl)) d17).cv fit).mono ?_
 rintro u18 k18 co18
 refine ⟨(sU.in 0 rfl).trans (At co18),?_⟩
 try simp only [fk,f7,c1 lhzU,f15]
 refine (tf (p:=p) (M:=M.set i { z with e:=z.e+(1+bq) }) co18 sU.swap st hro hsl mk kpk14 (slx.see (by decide) (tU.in 1 rfl)) (U4 hMB (mb_endB (hMB z hzm))) hl').mono ?_
 rintro _ h19 ⟨rfl,a19,kpk19,s19,d19⟩
 refine ⟨s19.in 1 rfl,?_⟩
 rw [rx]
 try simp only [fk,f6,cc lhzU]
 refine (i7 (ca0.up (lhzU.trans (s19.in 1 rfl)) d19).cv fit).mono ?_
 rintro u20 k20 co20
 refine ⟨(s19.in 1 rfl).trans (At co20),?_⟩
 try simp only [fk,f7,c1 lhzU,f15]
 refine (tf (p:=p) (M:=M.set i { z with t:={ z.t with x:=z.t.x+(1+bq) } }) co20 s19 st hro hsl mk kpk19 (sly.see (by decide) (tU.in 2 rfl)) (U4 hMB ⟨(hMB z hzm).n,(hMB z hzm).f⟩) hl').mono ?_
 rintro _ h21 ⟨rfl,a21,kpk21,s21,d21⟩
 refine ⟨s21.in 1 rfl,?_⟩
 rw [ry]
 try simp only [fk,f6,cc lhzU]
 refine (i7 (ca0.up (lhzU.trans (s21.in 1 rfl)) d21).cv fit).mono ?_
 rintro u22 k22 co22
 refine ⟨(s21.in 1 rfl).trans (At co22),?_⟩
 try simp only [fk,f7,c1 lhzU,f15]
 refine (tf (p:=p) (M:=M.set i { z with k:=5+(1+bq) }) co22 s21 st hro hsl mk kpk21 (slz.see (by decide) (tU.in 3 rfl)) (U4 hMB ⟨(hMB z hzm).n,(hMB z hzm).f⟩) hl').mono ?_
 rintro _ h23 ⟨rfl,a23,kpk23,s23,d23⟩
 rw [rz]
 try simp only [fk]
 exact aw fun h'=>by simp only [fk]
end Go.Proofs.YtfflipnhffknnaaGreatDoor
end

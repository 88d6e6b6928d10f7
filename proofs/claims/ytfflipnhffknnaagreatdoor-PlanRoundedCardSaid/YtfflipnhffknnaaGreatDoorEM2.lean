/- Texts of the proof, one behind the other. -/
import Derived.Test.YtfflipnhffknnaaGreatDoorEM1
import Derived.Test.YtfflipnhffknnaaGreatDoorEH3
import Derived.Test.YtfflipnhffknnaaGreatDoorEH4
set_option linter.unusedVariables false
set_option maxRecDepth 100000
set_option linter.unusedSimpArgs false
set_option maxHeartbeats 1000000
set_option linter.defProp false
section
namespace Go.Proofs.YtfflipnhffknnaaGreatDoor
open Go Go.HL
section
variable (G:Hp) (K:EK) (r:Rg) (h:Hp)
def md38:Nat->Hint
 |6=>⟨false,[0,0,2,0,14,30,63,127,255,511,1023,511,2559,511,14847,31231,65535,131071,262143,524287,1048575,2097151,1048575,5242879,1048575,30408703,63963135,134217727,268435455,536870911],[.pureM,.pureN,.pureM,.pureN,.pureN,.pureM,.eff,.pureN,.pureN,.pureN,.pureM,.pureN,.pureM,.pureN,.pureN,.pureM,.eff,.pureN,.pureN,.pureN,.pureN,.pureM,.pureN,.pureM,.pureN,.pureN,.pureM,.eff,.pureN,.pureN],[.pureM,.pureN,.pureM,.pureN,.pureN,.pureM,.eff,.pureN,.pureN,.pureN,.late,.pureN,.late,.pureN,.pureN,.late,.eff,.pureN,.pureN,.pureN,.pureN,.late,.pureN,.late,.pureN,.pureN,.late,.eff,.pureN,.pureN],[false,false,false,false,false,false,false,false,false,false,false,false,false,false,false,false,false,false,false,false,false,false,false,false,false,false,false,false,false,false],false⟩
 |11=>⟨false,[0,0,2,0,14,30,63,127,255,511,1023,511,2559,511,14847,31231,65535,131071,262143,524287,1048575,1048575,3145727,1048575,15728639,32505855,67108863,134217727,268435455,536870911,536870911,1610612735,536870911,8053063679,16642998271,34359738367,68719476735,137438953471],[.pureM,.pureN,.pureM,.pureN,.pureN,.pureM,.eff,.pureN,.pureN,.pureN,.pureM,.pureN,.pureM,.pureN,.pureN,.pureM,.eff,.pureN,.pureN,.pureN,.pureM,.pureN,.pureM,.pureN,.pureN,.pureM,.eff,.pureN,.pureN,.pureM,.pureN,.pureM,.pureN,.pureN,.pureM,.eff,.pureN,.pureN],[.pureM,.pureN,.pureM,.pureN,.pureN,.pureM,.eff,.pureN,.pureN,.pureN,.late,.pureN,.late,.pureN,.pureN,.late,.eff,.pureN,.pureN,.pureN,.late,.pureN,.late,.pureN,.pureN,.late,.eff,.pureN,.pureN,.late,.pureN,.late,.pureN,.pureN,.late,.eff,.pureN,.pureN],[false,false,false,false,false,false,false,false,false,false,false,false,false,false,false,false,false,false,false,false,false,false,false,false,false,false,false,false,false,false,false,false,false,false,false,false,false,false],false⟩
 |17=>mh false [0,0,2,0,14,30,63,127] [m_,n_,m_,n_,n_,m_,e_,n_] (fs 8) false
 |_=>mh false [] [] [] false
def aB8:Prop:=
 o_ G (Instr.loadAt 26 (r 1)) h fun v19 h19=>
 c_ G 86 #[v19] h19 fun v20 h20=>
 K .ret (u3 r 147 v19 148 v20 2 v20) h20
def M6:Prop:=
 o_ G (binOp .add 3 (r 7) (.int .i64 1)) h fun v23 h23=>
 K .normal (u3 r 138 (r 7) 139 v23 7 v23) h23
def M7:Prop:=
 o_ G (Instr.indexAt 22 (r 5) (r 7)) h fun v24 h24=>o_ G (Instr.loadAt 28 v24) h24 fun v25 h25=>
 c_ G 83 #[(r 5),v25] h25 fun v26 h26=>o_ G (binOp .gtr 3 v26 (.int .i64 1)) h26 fun v27 h27=>
 (fun q=>cond v27
 (K .ret (upd q 2 (.bool false)) h27)
 (M6 G K q h27))
 (u7 r 140 (r 5) 141 (r 5) 142 (r 7) 143 v24 144 v25 145 v26 146 v27)
def Vy (r:Rg) (h:Hp) (K:EK):Prop:=
 o_ G (Builtin.len_ #[22] 3 #[(r 5)]) h fun v21 h21=>o_ G (binOp .lss 3 (r 7) v21) h21 fun v22 h22=>
 (fun q=>cond v22
 (M7 G K q h22)
 (K (.exit 6) q h22))
 (u4 r 134 (r 7) 135 (r 5) 136 v21 137 v22)
def aB9:Prop:=
 ci (Vy G) (upd r 7 (.int .i64 0)) h (bn 6 (bv (aB8 G K) K))
def Iz:Prop:=
 o_ G (binOp .add 3 (r 6) (.int .i64 1)) h fun v32 h32=>
 K .normal (u3 r 116 (r 6) 117 v32 6 v32) h32
def Iy:Prop:=
 o_ G (Instr.fieldAt 26 (r 1) 5) h fun v40 h40=>o_ G (Instr.loadAt 23 v40) h40 fun v41 h41=>o_ G (Instr.indexAt 23 v41 (r 6)) h41 fun v42 h42=>o_ G (Instr.loadAt 30 v42) h42 fun v43 h43=>
 c_ G 40 #[v43] h43 fun v44 h44=>o_ G (Builtin.append_ #[22,22] 22 #[(r 5),v44]) h44 fun v45 h45=>
 Iz G K (u9 r 126 (r 5) 127 v40 128 v41 129 (r 6) 130 v42 131 v43 132 v44 133 v45 5 v45) h45
def I0:Prop:=
 w_ G h (Instr.loadAt 26 (r 1)) h fun v33 h33=>
 p_ (Instr.fieldAt 26 (r 1) 5) h33 fun v34 h34=>
 w_ G h (Instr.loadAt 23 v34) h34 fun v35 h35=>
 p_ (Instr.indexAt 23 v35 (r 6)) h35 fun v36 h36=>
 w_ G h (Instr.loadAt 30 v36) h36 fun v37 h37=>
 c_ G 22 #[v33,v37] h37 fun v38 h38=>
 p_ (Op.unary .not v38) h38 fun v39 h39=>
 (fun q=>cond v39
 (K .ret (upd q 2 (.bool false)) h39)
 (Iy G K q h39))
 (u8 r 118 v33 119 v34 120 v35 121 (r 6) 122 v36 123 v37 124 v38 125 v39)
def Vx (r:Rg) (h:Hp) (K:EK):Prop:=
 o_ G (Instr.fieldAt 26 (r 1) 5) h fun v28 h28=>o_ G (Instr.loadAt 23 v28) h28 fun v29 h29=>o_ G (Builtin.len_ #[23] 3 #[v29]) h29 fun v30 h30=>o_ G (binOp .lss 3 (r 6) v30) h30 fun v31 h31=>
 (fun q=>cond v31
 (I0 G K q h31)
 (K (.exit 4) q h31))
 (u5 r 111 (r 6) 112 v28 113 v29 114 v30 115 v31)
def aC0:Prop:=
 ci (Vx G) (u2 r 5 (.slice none 0 0) 6 (.int .i64 0)) h (bn 4 (bv (aB9 G K) K))
def Fr:Prop:=
 o_ G (binOp .add 3 (r 4) (.int .i64 1)) h fun v50 h50=>
 K .normal (u3 r 71 (r 4) 72 v50 4 v50) h50
def Fs:Prop:=
 w_ G h (Instr.loadAt 26 (r 1)) h fun v51 h51=>
 p_ (Instr.fieldAt 26 (r 1) 4) h51 fun v52 h52=>
 w_ G h (Instr.loadAt 22 v52) h52 fun v53 h53=>
 p_ (Instr.indexAt 22 v53 (r 4)) h53 fun v54 h54=>
 w_ G h (Instr.loadAt 28 v54) h54 fun v55 h55=>
 c_ G 82 #[v51,v55] h55 fun v56 h56=>
 p_ (Op.unary .not v56) h56 fun v57 h57=>g_ v57 false (p_ (Instr.fieldAt 26 (r 1) 4) h57) h57 fun v58 h58=>g_ v57 false (w_ G h58 (Instr.loadAt 22 v58) h58) h58 fun v59 h59=>g_ v57 false (p_ (Instr.fieldAt 26 (r 1) 4) h59) h59 fun v60 h60=>g_ v57 false (w_ G h60 (Instr.loadAt 22 v60) h60) h60 fun v61 h61=>g_ v57 false (fun K1=>K1 (r 4) h61) h61 fun v62 h62=>g_ v57 false (p_ (Instr.indexAt 22 v61 v62) h62) h62 fun v63 h63=>g_ v57 false (w_ G h63 (Instr.loadAt 28 v63) h63) h63 fun v64 h64=>g_ v57 false (c_ G 83 #[v59,v64] h64) h64 fun v65 h65=>g_ v57 false (p_ (binOp .gtr 3 v65 (.int .i64 1)) h65) h65 fun v66 h66=>
 bk P_ noHp noHp (bj v57 (.bool true) v66) h66 fun v67 h67=>g_ v67 false (w_ G h67 (Instr.loadAt 26 (r 1)) h67) h67 fun v68 h68=>g_ v67 false (p_ (Instr.fieldAt 26 (r 1) 4) h68) h68 fun v69 h69=>g_ v67 false (w_ G h69 (Instr.loadAt 22 v69) h69) h69 fun v70 h70=>g_ v67 false (fun K1=>K1 (r 4) h70) h70 fun v71 h71=>g_ v67 false (p_ (Instr.indexAt 22 v70 v71) h71) h71 fun v72 h72=>g_ v67 false (w_ G h72 (Instr.loadAt 28 v72) h72) h72 fun v73 h73=>g_ v67 false (c_ G 84 #[v68,v73] h73) h73 fun v74 h74=>
 bk P_ noHp noHp (bj v67 (.bool true) v74) h74 fun v75 h75=>g_ v75 false (w_ G h75 (Instr.loadAt 26 (r 1)) h75) h75 fun v76 h76=>g_ v75 false (p_ (Instr.fieldAt 26 (r 1) 4) h76) h76 fun v77 h77=>g_ v75 false (w_ G h77 (Instr.loadAt 22 v77) h77) h77 fun v78 h78=>g_ v75 false (fun K1=>K1 (r 4) h78) h78 fun v79 h79=>g_ v75 false (p_ (Instr.indexAt 22 v78 v79) h79) h79 fun v80 h80=>g_ v75 false (w_ G h80 (Instr.loadAt 28 v80) h80) h80 fun v81 h81=>g_ v75 false (c_ G 85 #[v76,v81] h81) h81 fun v82 h82=>g_ v75 false (p_ (Op.unary .not v82) h82) h82 fun v83 h83=>
 bk P_ noHp noHp (bj v75 (.bool true) v83) h83 fun v84 h84=>
 (fun q=>cond v84
 (K .ret (upd q 2 (.bool false)) h84)
 (Fr G K q h84))
 (u8 (u10 (u10 (u10 r 73 v51 74 v52 75 v53 76 (r 4) 77 v54 78 v55 79 v56 80 v57 81 v57 82 v58) 83 v59 84 v60 85 v61 86 v62 87 v63 88 v64 89 v65 90 v66 91 v67 92 v67) 93 v68 94 v69 95 v70 96 v71 97 v72 98 v73 99 v74 100 v75 101 v75 102 v76) 103 v77 104 v78 105 v79 106 v80 107 v81 108 v82 109 v83 110 v84)
def Pm (r:Rg) (h:Hp) (K:EK):Prop:=
 o_ G (Instr.fieldAt 26 (r 1) 4) h fun v46 h46=>o_ G (Instr.loadAt 22 v46) h46 fun v47 h47=>o_ G (Builtin.len_ #[22] 3 #[v47]) h47 fun v48 h48=>o_ G (binOp .lss 3 (r 4) v48) h48 fun v49 h49=>
 (fun q=>cond v49
 (Fs G K q h49)
 (K (.exit 2) q h49))
 (u5 r 66 (r 4) 67 v46 68 v47 69 v48 70 v49)
def aC1:Prop:=
 ci (Pm G) (upd r 4 (.int .i64 0)) h (bn 2 (bv (aC0 G K) K))
def Fp:Prop:=
 o_ G (binOp .add 3 (r 3) (.int .i64 1)) h fun v89 h89=>
 K .normal (u3 r 34 (r 3) 35 v89 3 v89) h89
def Fq:Prop:=
 w_ G h (Instr.loadAt 26 (r 1)) h fun v90 h90=>
 p_ (Instr.fieldAt 26 (r 1) 3) h90 fun v91 h91=>
 w_ G h (Instr.loadAt 22 v91) h91 fun v92 h92=>
 p_ (Instr.indexAt 22 v92 (r 3)) h92 fun v93 h93=>
 w_ G h (Instr.loadAt 28 v93) h93 fun v94 h94=>
 c_ G 82 #[v90,v94] h94 fun v95 h95=>
 p_ (Op.unary .not v95) h95 fun v96 h96=>g_ v96 false (p_ (Instr.fieldAt 26 (r 1) 3) h96) h96 fun v97 h97=>g_ v96 false (w_ G h97 (Instr.loadAt 22 v97) h97) h97 fun v98 h98=>g_ v96 false (p_ (Instr.fieldAt 26 (r 1) 3) h98) h98 fun v99 h99=>g_ v96 false (w_ G h99 (Instr.loadAt 22 v99) h99) h99 fun v100 h100=>g_ v96 false (fun K1=>K1 (r 3) h100) h100 fun v101 h101=>g_ v96 false (p_ (Instr.indexAt 22 v100 v101) h101) h101 fun v102 h102=>g_ v96 false (w_ G h102 (Instr.loadAt 28 v102) h102) h102 fun v103 h103=>g_ v96 false (c_ G 83 #[v98,v103] h103) h103 fun v104 h104=>g_ v96 false (p_ (binOp .gtr 3 v104 (.int .i64 1)) h104) h104 fun v105 h105=>
 bk P_ noHp noHp (bj v96 (.bool true) v105) h105 fun v106 h106=>g_ v106 false (p_ (Instr.fieldAt 26 (r 1) 4) h106) h106 fun v107 h107=>g_ v106 false (w_ G h107 (Instr.loadAt 22 v107) h107) h107 fun v108 h108=>g_ v106 false (p_ (Instr.fieldAt 26 (r 1) 3) h108) h108 fun v109 h109=>g_ v106 false (w_ G h109 (Instr.loadAt 22 v109) h109) h109 fun v110 h110=>g_ v106 false (fun K1=>K1 (r 3) h110) h110 fun v111 h111=>g_ v106 false (p_ (Instr.indexAt 22 v110 v111) h111) h111 fun v112 h112=>g_ v106 false (w_ G h112 (Instr.loadAt 28 v112) h112) h112 fun v113 h113=>g_ v106 false (c_ G 83 #[v108,v113] h113) h113 fun v114 h114=>g_ v106 false (p_ (binOp .gtr 3 v114 (.int .i64 0)) h114) h114 fun v115 h115=>
 bk P_ noHp noHp (bj v106 (.bool true) v115) h115 fun v116 h116=>
 (fun q=>cond v116
 (K .ret (upd q 2 (.bool false)) h116)
 (Fp G K q h116))
 (u10 (u10 (u10 r 36 v90 37 v91 38 v92 39 (r 3) 40 v93 41 v94 42 v95 43 v96 44 v96 45 v97) 46 v98 47 v99 48 v100 49 v101 50 v102 51 v103 52 v104 53 v105 54 v106 55 v106) 56 v107 57 v108 58 v109 59 v110 60 v111 61 v112 62 v113 63 v114 64 v115 65 v116)
def Pl (r:Rg) (h:Hp) (K:EK):Prop:=
 o_ G (Instr.fieldAt 26 (r 1) 3) h fun v85 h85=>o_ G (Instr.loadAt 22 v85) h85 fun v86 h86=>o_ G (Builtin.len_ #[22] 3 #[v86]) h86 fun v87 h87=>o_ G (binOp .lss 3 (r 3) v87) h87 fun v88 h88=>
 (fun q=>cond v88
 (Fq G K q h88)
 (K (.exit 0) q h88))
 (u5 r 29 (r 3) 30 v85 31 v86 32 v87 33 v88)
def aC2:Prop:=
 ci (Pl G) (upd r 3 (.int .i64 0)) h (bn 0 (bv (aC1 G K) K))
def S38:Prop:=
 o_ G (Instr.box 26 (r 0)) h fun v0 h0=>o_ G (Instr.loadAt 26 v0) h0 fun v1 h1=>
 c_ G 81 #[v1] h1 fun v2 h2=>o_ G (Op.unary .not v2) h2 fun v3 h3=>g_ v3 false (o_ G (Instr.fieldAt 26 v0 4) h3) h3 fun v4 h4=>g_ v3 false (o_ G (Instr.loadAt 22 v4) h4) h4 fun v5 h5=>g_ v3 false (o_ G (Builtin.len_ #[22] 3 #[v5]) h5) h5 fun v6 h6=>g_ v3 false (o_ G (binOp .gtr 3 v6 (.int .i64 8)) h6) h6 fun v7 h7=>
 opH P_ G (bj v3 (.bool true) v7) h7 fun v8 h8=>g_ v8 false (o_ G (Instr.fieldAt 26 v0 5) h8) h8 fun v9 h9=>g_ v8 false (o_ G (Instr.loadAt 23 v9) h9) h9 fun v10 h10=>g_ v8 false (o_ G (Builtin.len_ #[23] 3 #[v10]) h10) h10 fun v11 h11=>g_ v8 false (o_ G (binOp .gtr 3 v11 (.int .i64 8)) h11) h11 fun v12 h12=>
 opH P_ G (bj v8 (.bool true) v12) h12 fun v13 h13=>g_ v13 false (o_ G (Instr.fieldAt 26 v0 3) h13) h13 fun v14 h14=>g_ v13 false (o_ G (Instr.loadAt 22 v14) h14) h14 fun v15 h15=>g_ v13 false (o_ G (Builtin.len_ #[22] 3 #[v15]) h15) h15 fun v16 h16=>g_ v13 false (o_ G (binOp .gtr 3 v16 (.int .i64 256)) h16) h16 fun v17 h17=>
 opH P_ G (bj v13 (.bool true) v17) h17 fun v18 h18=>
 (fun q=>cond v18
 (K .ret (upd q 2 (.bool false)) h18)
 (aC2 G K q h18))
 (u3 (u10 (u10 r 1 v0 2 (.bool false) 8 v1 9 v2 10 v3 11 v3 12 v4 13 v5 14 v6 15 v7) 16 v8 17 v8 18 v9 19 v10 20 v11 21 v12 22 v13 23 v13 24 v14 25 v15) 26 v16 27 v17 28 v18)
theorem enter38:Ent 149 38 [.tmp 2] S38:=ent_ (m:=md38) (c:=(Tryz.f38.body.getD .skip)) (fun _ _ _ _=>by kernel_rfl) Tryz.func38 rfl rfl rfl
def md40:Nat->Hint
 |_=>mh false [] [] [] false
def aB7:Prop:=
 o_ G (Instr.fieldAt 30 (r 1) 0) h fun v3 h3=>o_ G (Instr.loadAt 28 v3) h3 fun v4 h4=>o_ G (Instr.fieldAt 30 (r 1) 0) h4 fun v5 h5=>o_ G (Instr.fieldAt 28 v5 0) h5 fun v6 h6=>o_ G (Instr.loadAt 3 v6) h6 fun v7 h7=>o_ G (binOp .add 3 v7 (.int .i64 1)) h7 fun v8 h8=>o_ G (Instr.fieldAt 30 (r 1) 0) h8 fun v9 h9=>o_ G (Instr.fieldAt 28 v9 1) h9 fun v10 h10=>o_ G (Instr.loadAt 3 v10) h10 fun v11 h11=>o_ G (Instr.build 28 #[(0,v8),(1,v11)]) h11 fun v12 h12=>o_ G (Instr.buildSlice 22 2 #[(0,v4),(1,v12)]) h12 fun v13 h13=>
 K .ret (u2 (u10 r 16 v3 17 v4 18 v5 19 v6 20 v7 21 v8 22 v9 23 v10 24 v11 25 v12) 26 v13 2 v13) h13
def S40:Prop:=
 o_ G (Instr.box 30 (r 0)) h fun v0 h0=>o_ G (Instr.fieldAt 30 v0 1) h0 fun v1 h1=>o_ G (Instr.loadAt 4 v1) h1 fun v2 h2=>
 cond v2
 (o_ G (Instr.fieldAt 30 v0 0) h2 fun v14 h14=>o_ G (Instr.loadAt 28 v14) h14 fun v15 h15=>o_ G (Instr.fieldAt 30 v0 0) h15 fun v16 h16=>o_ G (Instr.fieldAt 28 v16 0) h16 fun v17 h17=>o_ G (Instr.loadAt 3 v17) h17 fun v18 h18=>o_ G (Instr.fieldAt 30 v0 0) h18 fun v19 h19=>o_ G (Instr.fieldAt 28 v19 1) h19 fun v20 h20=>o_ G (Instr.loadAt 3 v20) h20 fun v21 h21=>o_ G (binOp .add 3 v21 (.int .i64 1)) h21 fun v22 h22=>o_ G (Instr.build 28 #[(0,v18),(1,v22)]) h22 fun v23 h23=>o_ G (Instr.buildSlice 22 2 #[(0,v15),(1,v23)]) h23 fun v24 h24=>
 K .ret (u6 (u10 r 1 v0 2 (.slice none 0 0) 3 v1 4 v2 5 v14 6 v15 7 v16 8 v17 9 v18 10 v19) 11 v20 12 v21 13 v22 14 v23 15 v24 2 v24) h24)
 (aB7 G K (u4 r 1 v0 2 (.slice none 0 0) 3 v1 4 v2) h2)
theorem enter40:Ent 27 40 [.tmp 2] S40:=ent_ (m:=md40) (c:=(Tryz.f40.body.getD .skip)) (fun _ _ _ _=>by kernel_rfl) Tryz.func40 rfl rfl rfl
def md22:Nat->Hint
 |2=>⟨false,[0,0,2,6,15,31,63,63,191,447,1023,2047,4095],[.pureM,.pureN,.pureN,.pureM,.eff,.pureN,.pureM,.pureN,.pureN,.pureM,.eff,.pureN,.pureN],[.pureM,.pureN,.pureN,.pureM,.eff,.pureN,.late,.pureN,.pureN,.late,.eff,.pureN,.pureN],[false,false,false,false,false,false,false,false,false,false,false,false,false],false⟩
 |_=>mh false [] [] [] false
def S22:Prop:=
 o_ G (Instr.box 26 (r 0)) h fun v0 h0=>o_ G (Instr.box 30 (r 1)) h0 fun v1 h1=>o_ G (Instr.loadAt 30 v1) h1 fun v2 h2=>
 c_ G 40 #[v2] h2 fun v3 h3=>
 w_ G h3 (Instr.loadAt 26 v0) h3 fun v4 h4=>
 p_ (Instr.indexAt 22 v3 (.int .i64 0)) h4 fun v5 h5=>
 w_ G h3 (Instr.loadAt 28 v5) h5 fun v6 h6=>
 c_ G 60 #[v4,v6] h6 fun v7 h7=>g_ v7 true (w_ G h7 (Instr.loadAt 26 v0) h7) h7 fun v8 h8=>g_ v7 true (fun K1=>K1 v3 h8) h8 fun v9 h9=>g_ v7 true (p_ (Instr.indexAt 22 v9 (.int .i64 1)) h9) h9 fun v10 h10=>g_ v7 true (w_ G h10 (Instr.loadAt 28 v10) h10) h10 fun v11 h11=>g_ v7 true (c_ G 60 #[v8,v11] h11) h11 fun v12 h12=>
 bk P_ noHp noHp (bj v7 v12 (.bool false)) h12 fun v13 h13=>
 K .ret (u9 (u10 r 2 v0 3 v1 4 (.bool false) 6 v2 7 v3 5 v3 8 v4 9 v3 10 v5 11 v6) 12 v7 13 v7 14 v8 15 v9 16 v10 17 v11 18 v12 19 v13 4 v13) h13
theorem enter22:Ent 20 22 [.tmp 4] S22:=ent_ (m:=md22) (c:=(Tryz.f22.body.getD .skip)) (fun _ _ _ _=>by kernel_rfl) Tryz.func22 rfl rfl rfl
def md60:Nat->Hint
 |_=>mh false [] [] [] false
def S60:Prop:=
 o_ G (Instr.box 26 (r 0)) h fun v0 h0=>o_ G (Instr.box 28 (r 1)) h0 fun v1 h1=>o_ G (Instr.loadAt 26 v0) h1 fun v2 h2=>o_ G (Instr.loadAt 28 v1) h2 fun v3 h3=>
 c_ G 82 #[v2,v3] h3 fun v4 h4=>g_ v4 true (o_ G (Instr.fieldAt 26 v0 3) h4) h4 fun v5 h5=>g_ v4 true (o_ G (Instr.loadAt 22 v5) h5) h5 fun v6 h6=>g_ v4 true (o_ G (Instr.loadAt 28 v1) h6) h6 fun v7 h7=>g_ v4 true (c_ G 83 #[v6,v7] h7) h7 fun v8 h8=>g_ v4 true (opH P_ G (xEq .eql 3 (.tmp 0) (.const .nilFunc) v8 (.int .i64 0)) h8) h8 fun v9 h9=>
 opH P_ G (bj v4 v9 (.bool false)) h9 fun v10 h10=>
 K .ret (u4 (u10 r 2 v0 3 v1 4 (.bool false) 5 v2 6 v3 7 v4 8 v4 9 v5 10 v6 11 v7) 12 v8 13 v9 14 v10 4 v10) h10
theorem enter60:Ent 15 60 [.tmp 4] S60:=ent_ (m:=md60) (c:=(Tryz.f60.body.getD .skip)) (fun _ _ _ _=>by kernel_rfl) Tryz.func60 rfl rfl rfl
def md159:Nat->Hint
 |4=>mh false [0,1,0,7,15,0,63] [n_,m_,n_,n_,m_,m_,m_] (fs 7) false
 |_=>mh false [] [] [] false
def Py (G:Hp) (K:EK) (r:Rg) (h:Hp):Prop:=
 K .ret (upd r 4 (.int .i64 (-1))) h
def I9:Prop:=
 o_ G (binOp .add 3 (r 5) (.int .i64 1)) h fun v6 h6=>
 K .normal (u3 r 11 (r 5) 12 v6 5 v6) h6
def Ja:Prop:=
 p_ (Instr.fieldAt 26 (r 2) 4) h fun v7 h7=>
 w_ G h (Instr.loadAt 22 v7) h7 fun v8 h8=>
 p_ (Instr.indexAt 22 v8 (r 5)) h8 fun v9 h9=>
 w_ G h (Instr.loadAt 28 v9) h9 fun v10 h10=>
 w_ G h (Instr.loadAt 28 (r 3)) h10 fun v11 h11=>
 bk P_ G h (xEq .eql 28 (.tmp 0) (.tmp 0) v10 v11) h11 fun v12 h12=>
 (fun q=>cond v12
 (K .ret (u2 q 20 (r 5) 4 (r 5)) h12)
 (I9 G K q h12))
 (u7 r 13 v7 14 v8 15 (r 5) 16 v9 17 v10 18 v11 19 v12)
def Yc (r:Rg) (h:Hp) (K:EK):Prop:=
 o_ G (Instr.fieldAt 26 (r 2) 4) h fun v2 h2=>o_ G (Instr.loadAt 22 v2) h2 fun v3 h3=>o_ G (Builtin.len_ #[22] 3 #[v3]) h3 fun v4 h4=>o_ G (binOp .lss 3 (r 5) v4) h4 fun v5 h5=>
 cond v5
 (Ja G K (u5 r 6 (r 5) 7 v2 8 v3 9 v4 10 v5) h5)
 (K (.exit 0) (u5 r 6 (r 5) 7 v2 8 v3 9 v4 10 v5) h5)
def S159:Prop:=
 o_ G (Instr.box 26 (r 0)) h fun v0 h0=>o_ G (Instr.box 28 (r 1)) h0 fun v1 h1=>
 ci (Yc G) (u4 r 2 v0 3 v1 4 (.int .i64 0) 5 (.int .i64 0)) h1 (bn 0 (bv (Py G K) K))
theorem ar3:Ent 21 159 [.tmp 4] S159:=ent_ (m:=md159) (c:=(Tryz.f159.body.getD .skip)) (fun _ _ _ _=>by kernel_rfl) Tryz.func159 rfl rfl rfl
def md133:Nat->Hint
 |_=>mh false [] [] [] false
def S133:Prop:=
 o_ G (Instr.box 26 (r 0)) h fun v0 h0=>o_ G (Instr.box 28 (r 1)) h0 fun v1 h1=>o_ G (Instr.loadAt 26 v0) h1 fun v2 h2=>o_ G (Instr.loadAt 28 v1) h2 fun v3 h3=>
 c_ G 60 #[v2,v3] h3 fun v4 h4=>g_ v4 true (o_ G (Instr.loadAt 26 v0) h4) h4 fun v5 h5=>g_ v4 true (o_ G (Instr.loadAt 28 v1) h5) h5 fun v6 h6=>g_ v4 true (c_ G 159 #[v5,v6] h6) h6 fun v7 h7=>g_ v4 true (o_ G (binOp .lss 3 v7 (.int .i64 0)) h7) h7 fun v8 h8=>
 opH P_ G (bj v4 v8 (.bool false)) h8 fun v9 h9=>g_ v9 true (o_ G (Instr.loadAt 26 v0) h9) h9 fun v10 h10=>g_ v9 true (o_ G (Instr.loadAt 28 v1) h10) h10 fun v11 h11=>g_ v9 true (c_ G 84 #[v10,v11] h11) h11 fun v12 h12=>g_ v9 true (o_ G (Op.unary .not v12) h12) h12 fun v13 h13=>
 opH P_ G (bj v9 v13 (.bool false)) h13 fun v14 h14=>g_ v14 true (o_ G (Instr.loadAt 26 v0) h14) h14 fun v15 h15=>g_ v14 true (o_ G (Instr.loadAt 28 v1) h15) h15 fun v16 h16=>g_ v14 true (c_ G 85 #[v15,v16] h16) h16 fun v17 h17=>
 opH P_ G (bj v14 v17 (.bool false)) h17 fun v18 h18=>
 K .ret (u4 (u10 (u10 r 2 v0 3 v1 4 (.bool false) 5 v2 6 v3 7 v4 8 v4 9 v5 10 v6 11 v7) 12 v8 13 v9 14 v9 15 v10 16 v11 17 v12 18 v13 19 v14 20 v14 21 v15) 22 v16 23 v17 24 v18 4 v18) h18
theorem at4:Ent 25 133 [.tmp 4] S133:=ent_ (m:=md133) (c:=(Tryz.f133.body.getD .skip)) (fun _ _ _ _=>by kernel_rfl) Tryz.func133 rfl rfl rfl
def md81:Nat->Hint
 |_=>mh false [] [] [] false
def S81:Prop:=
 o_ G (Instr.box 26 (r 0)) h fun v0 h0=>o_ G (Instr.fieldAt 26 v0 0) h0 fun v1 h1=>o_ G (Instr.loadAt 3 v1) h1 fun v2 h2=>
 c_ G 98 #[v2,(.int .i64 1),(.int .i64 16)] h2 fun v3 h3=>g_ v3 true (o_ G (Instr.fieldAt 26 v0 1) h3) h3 fun v4 h4=>g_ v3 true (o_ G (Instr.loadAt 3 v4) h4) h4 fun v5 h5=>g_ v3 true (c_ G 98 #[v5,(.int .i64 1),(.int .i64 16)] h5) h5 fun v6 h6=>
 opH P_ G (bj v3 v6 (.bool false)) h6 fun v7 h7=>g_ v7 true (o_ G (Instr.fieldAt 26 v0 2) h7) h7 fun v8 h8=>g_ v7 true (o_ G (Instr.loadAt 3 v8) h8) h8 fun v9 h9=>g_ v7 true (c_ G 98 #[v9,(.int .i64 1),(.int .i64 8)] h9) h9 fun v10 h10=>
 opH P_ G (bj v7 v10 (.bool false)) h10 fun v11 h11=>g_ v11 true (o_ G (Instr.fieldAt 26 v0 7) h11) h11 fun v12 h12=>g_ v11 true (o_ G (Instr.loadAt 3 v12) h12) h12 fun v13 h13=>g_ v11 true (c_ G 98 #[v13,(.int .i64 1),(.int .i64 1000)] h13) h13 fun v14 h14=>
 opH P_ G (bj v11 v14 (.bool false)) h14 fun v15 h15=>g_ v15 true (o_ G (Instr.fieldAt 26 v0 8) h15) h15 fun v16 h16=>g_ v15 true (o_ G (Instr.loadAt 3 v16) h16) h16 fun v17 h17=>g_ v15 true (c_ G 98 #[v17,(.int .i64 1),(.int .i64 1000)] h17) h17 fun v18 h18=>
 opH P_ G (bj v15 v18 (.bool false)) h18 fun v19 h19=>g_ v19 true (o_ G (Instr.fieldAt 26 v0 9) h19) h19 fun v20 h20=>g_ v19 true (o_ G (Instr.loadAt 3 v20) h20) h20 fun v21 h21=>g_ v19 true (c_ G 98 #[v21,(.int .i64 1),(.int .i64 1000)] h21) h21 fun v22 h22=>
 opH P_ G (bj v19 v22 (.bool false)) h22 fun v23 h23=>g_ v23 true (o_ G (Instr.fieldAt 26 v0 10) h23) h23 fun v24 h24=>g_ v23 true (o_ G (Instr.loadAt 3 v24) h24) h24 fun v25 h25=>g_ v23 true (c_ G 98 #[v25,(.int .i64 1),(.int .i64 1000)] h25) h25 fun v26 h26=>
 opH P_ G (bj v23 v26 (.bool false)) h26 fun v27 h27=>g_ v27 true (o_ G (Instr.fieldAt 26 v0 11) h27) h27 fun v28 h28=>g_ v27 true (o_ G (Instr.loadAt 3 v28) h28) h28 fun v29 h29=>g_ v27 true (c_ G 98 #[v29,(.int .i64 1),(.int .i64 1000)] h29) h29 fun v30 h30=>
 opH P_ G (bj v27 v30 (.bool false)) h30 fun v31 h31=>g_ v31 true (o_ G (Instr.fieldAt 26 v0 13) h31) h31 fun v32 h32=>g_ v31 true (o_ G (Instr.loadAt 3 v32) h32) h32 fun v33 h33=>g_ v31 true (c_ G 98 #[v33,(.int .i64 1),(.int .i64 1000)] h33) h33 fun v34 h34=>
 opH P_ G (bj v31 v34 (.bool false)) h34 fun v35 h35=>g_ v35 true (o_ G (Instr.fieldAt 26 v0 12) h35) h35 fun v36 h36=>g_ v35 true (o_ G (Instr.loadAt 3 v36) h36) h36 fun v37 h37=>g_ v35 true (c_ G 98 #[v37,(.int .i64 1),(.int .i64 16)] h37) h37 fun v38 h38=>
 opH P_ G (bj v35 v38 (.bool false)) h38 fun v39 h39=>g_ v39 true (o_ G (Instr.fieldAt 26 v0 14) h39) h39 fun v40 h40=>g_ v39 true (o_ G (Instr.loadAt 3 v40) h40) h40 fun v41 h41=>g_ v39 true (c_ G 98 #[v41,(.int .i64 1),(.int .i64 1048576)] h41) h41 fun v42 h42=>
 opH P_ G (bj v39 v42 (.bool false)) h42 fun v43 h43=>
 K .ret (u6 (u10 (u10 (u10 (u10 (u10 r 1 v0 2 (.bool false) 3 v1 4 v2 5 v3 6 v3 7 v4 8 v5 9 v6 10 v7) 11 v7 12 v8 13 v9 14 v10 15 v11 16 v11 17 v12 18 v13 19 v14 20 v15) 21 v15 22 v16 23 v17 24 v18 25 v19 26 v19 27 v20 28 v21 29 v22 30 v23) 31 v23 32 v24 33 v25 34 v26 35 v27 36 v27 37 v28 38 v29 39 v30 40 v31) 41 v31 42 v32 43 v33 44 v34 45 v35 46 v35 47 v36 48 v37 49 v38 50 v39) 51 v39 52 v40 53 v41 54 v42 55 v43 2 v43) h43
theorem enter81:Ent 56 81 [.tmp 2] S81:=ent_ (m:=md81) (c:=(Tryz.f81.body.getD .skip)) (fun _ _ _ _=>by kernel_rfl) Tryz.func81 rfl rfl rfl
def md82:Nat->Hint
 |_=>mh false [] [] [] false
def S82:Prop:=
 o_ G (Instr.box 26 (r 0)) h fun v0 h0=>o_ G (Instr.box 28 (r 1)) h0 fun v1 h1=>o_ G (Instr.fieldAt 28 v1 0) h1 fun v2 h2=>o_ G (Instr.loadAt 3 v2) h2 fun v3 h3=>o_ G (binOp .geq 3 v3 (.int .i64 0)) h3 fun v4 h4=>g_ v4 true (o_ G (Instr.fieldAt 28 v1 1) h4) h4 fun v5 h5=>g_ v4 true (o_ G (Instr.loadAt 3 v5) h5) h5 fun v6 h6=>g_ v4 true (o_ G (binOp .geq 3 v6 (.int .i64 0)) h6) h6 fun v7 h7=>
 opH P_ G (bj v4 v7 (.bool false)) h7 fun v8 h8=>g_ v8 true (o_ G (Instr.fieldAt 28 v1 0) h8) h8 fun v9 h9=>g_ v8 true (o_ G (Instr.loadAt 3 v9) h9) h9 fun v10 h10=>g_ v8 true (o_ G (Instr.fieldAt 26 v0 0) h10) h10 fun v11 h11=>g_ v8 true (o_ G (Instr.loadAt 3 v11) h11) h11 fun v12 h12=>g_ v8 true (o_ G (binOp .lss 3 v10 v12) h12) h12 fun v13 h13=>
 opH P_ G (bj v8 v13 (.bool false)) h13 fun v14 h14=>g_ v14 true (o_ G (Instr.fieldAt 28 v1 1) h14) h14 fun v15 h15=>g_ v14 true (o_ G (Instr.loadAt 3 v15) h15) h15 fun v16 h16=>g_ v14 true (o_ G (Instr.fieldAt 26 v0 1) h16) h16 fun v17 h17=>g_ v14 true (o_ G (Instr.loadAt 3 v17) h17) h17 fun v18 h18=>g_ v14 true (o_ G (binOp .lss 3 v16 v18) h18) h18 fun v19 h19=>
 opH P_ G (bj v14 v19 (.bool false)) h19 fun v20 h20=>
 K .ret (u6 (u10 (u10 r 2 v0 3 v1 4 (.bool false) 5 v2 6 v3 7 v4 8 v4 9 v5 10 v6 11 v7) 12 v8 13 v8 14 v9 15 v10 16 v11 17 v12 18 v13 19 v14 20 v14 21 v15) 22 v16 23 v17 24 v18 25 v19 26 v20 4 v20) h20
theorem enter82:Ent 27 82 [.tmp 4] S82:=ent_ (m:=md82) (c:=(Tryz.f82.body.getD .skip)) (fun _ _ _ _=>by kernel_rfl) Tryz.func82 rfl rfl rfl
def md83:Nat->Hint
 |5=>mh false [0,0,3,7,0,31] [n_,n_,n_,m_,m_,m_] (fs 6) false
 |_=>mh false [] [] [] false
def Vs (G:Hp) (K:EK) (r:Rg) (h:Hp):Prop:=
 K .ret (u2 r 21 (r 5) 4 (r 5)) h
def Aq:Prop:=
 o_ G (binOp .add 3 (r 6) (.int .i64 1)) h fun v3 h3=>
 K .normal (u3 r 11 (r 6) 12 v3 6 v3) h3
def Mr:Prop:=
 p_ (Instr.indexAt 22 (r 0) (r 6)) h fun v4 h4=>
 w_ G h (Instr.loadAt 28 v4) h4 fun v5 h5=>
 w_ G h (Instr.loadAt 28 (r 3)) h5 fun v6 h6=>
 bk P_ G h (xEq .eql 28 (.tmp 0) (.tmp 0) v5 v6) h6 fun v7 h7=>
 cond v7
 (o_ G (binOp .add 3 (r 5) (.int .i64 1)) h7 fun v8 h8=>
 Aq G K (u9 r 13 (r 0) 14 (r 6) 15 v4 16 v5 17 v6 18 v7 19 (r 5) 20 v8 5 v8) h8)
 (Aq G K (u6 r 13 (r 0) 14 (r 6) 15 v4 16 v5 17 v6 18 v7) h7)
def az3 (r:Rg) (h:Hp) (K:EK):Prop:=
 o_ G (Builtin.len_ #[22] 3 #[(r 0)]) h fun v1 h1=>o_ G (binOp .lss 3 (r 6) v1) h1 fun v2 h2=>
 cond v2
 (Mr G K (u4 r 7 (r 6) 8 (r 0) 9 v1 10 v2) h2)
 (K (.exit 0) (u4 r 7 (r 6) 8 (r 0) 9 v1 10 v2) h2)
def S83:Prop:=
 o_ G (Instr.box 28 (r 1)) h fun v0 h0=>
 ci (az3 G) (u4 r 3 v0 4 (.int .i64 0) 5 (.int .i64 0) 6 (.int .i64 0)) h0 (bn 0 (bv (Vs G K) K))
theorem enter83:Ent 22 83 [.tmp 4] S83:=ent_ (m:=md83) (c:=(Tryz.f83.body.getD .skip)) (fun _ _ _ _=>by kernel_rfl) Tryz.func83 rfl rfl rfl
def md84:Nat->Hint
 |4=>mh false [0,1,0,7,15,31,0,127,255] [n_,m_,n_,n_,m_,e_,m_,e_,n_] [false,false,false,false,false,true,false,false,false] true
 |_=>mh false [] [] [] false
def Vr (G:Hp) (K:EK) (r:Rg) (h:Hp):Prop:=
 K .ret (upd r 4 (.bool false)) h
def Mp:Prop:=
 o_ G (binOp .add 3 (r 5) (.int .i64 1)) h fun v6 h6=>
 K .normal (u3 r 11 (r 5) 12 v6 5 v6) h6
def Mq:Prop:=
 ∃q7:Hp,q7.le h/\
 p_ (Instr.fieldAt 26 (r 2) 5) h fun v8 h8=>
 w_ G q7 (Instr.loadAt 23 v8) h8 fun v9 h9=>
 p_ (Instr.indexAt 23 v9 (r 5)) h9 fun v10 h10=>
 w_ G q7 (Instr.loadAt 30 v10) h10 fun v11 h11=>
 c_ G 40 #[v11] h11 fun v12 h12=>q7.le h12/\
 w_ G q7 (Instr.loadAt 28 (r 3)) h12 fun v13 h13=>
 c_ G 83 #[v12,v13] h13 fun v14 h14=>
 p_ (binOp .gtr 3 v14 (.int .i64 0)) h14 fun v15 h15=>
 (fun q=>cond v15
 (K .ret (upd q 4 (.bool true)) h15)
 (Mp G K q h15))
 (u9 r 13 v8 14 v9 15 (r 5) 16 v10 17 v11 18 v12 19 v13 20 v14 21 v15)
def az2 (r:Rg) (h:Hp) (K:EK):Prop:=
 o_ G (Instr.fieldAt 26 (r 2) 5) h fun v2 h2=>o_ G (Instr.loadAt 23 v2) h2 fun v3 h3=>o_ G (Builtin.len_ #[23] 3 #[v3]) h3 fun v4 h4=>o_ G (binOp .lss 3 (r 5) v4) h4 fun v5 h5=>
 cond v5
 (Mq G K (u5 r 6 (r 5) 7 v2 8 v3 9 v4 10 v5) h5)
 (K (.exit 0) (u5 r 6 (r 5) 7 v2 8 v3 9 v4 10 v5) h5)
def S84:Prop:=
 o_ G (Instr.box 26 (r 0)) h fun v0 h0=>o_ G (Instr.box 28 (r 1)) h0 fun v1 h1=>
 ci (az2 G) (u4 r 2 v0 3 v1 4 (.bool false) 5 (.int .i64 0)) h1 (bn 0 (bv (Vr G K) K))
theorem enter84:Ent 22 84 [.tmp 4] S84:=ent_ (m:=md84) (c:=(Tryz.f84.body.getD .skip)) (fun _ _ _ _=>by kernel_rfl) Tryz.func84 rfl rfl rfl
def md85:Nat->Hint
 |_=>mh false [] [] [] false
def S85:Prop:=
 o_ G (Instr.box 26 (r 0)) h fun v0 h0=>o_ G (Instr.box 28 (r 1)) h0 fun v1 h1=>o_ G (Instr.loadAt 26 v0) h1 fun v2 h2=>o_ G (Instr.fieldAt 28 v1 0) h2 fun v3 h3=>o_ G (Instr.loadAt 3 v3) h3 fun v4 h4=>o_ G (binOp .add 3 v4 (.int .i64 1)) h4 fun v5 h5=>o_ G (Instr.fieldAt 28 v1 1) h5 fun v6 h6=>o_ G (Instr.loadAt 3 v6) h6 fun v7 h7=>o_ G (Instr.build 28 #[(0,v5),(1,v7)]) h7 fun v8 h8=>
 c_ G 60 #[v2,v8] h8 fun v9 h9=>g_ v9 false (o_ G (Instr.loadAt 26 v0) h9) h9 fun v10 h10=>g_ v9 false (o_ G (Instr.fieldAt 28 v1 0) h10) h10 fun v11 h11=>g_ v9 false (o_ G (Instr.loadAt 3 v11) h11) h11 fun v12 h12=>g_ v9 false (o_ G (Instr.fieldAt 28 v1 1) h12) h12 fun v13 h13=>g_ v9 false (o_ G (Instr.loadAt 3 v13) h13) h13 fun v14 h14=>g_ v9 false (o_ G (binOp .add 3 v14 (.int .i64 1)) h14) h14 fun v15 h15=>g_ v9 false (o_ G (Instr.build 28 #[(0,v12),(1,v15)]) h15) h15 fun v16 h16=>g_ v9 false (c_ G 60 #[v10,v16] h16) h16 fun v17 h17=>
 opH P_ G (bj v9 (.bool true) v17) h17 fun v18 h18=>
 K .ret (u2 (u10 (u10 r 2 v0 3 v1 4 (.bool false) 5 v2 6 v3 7 v4 8 v5 9 v6 10 v7 11 v8) 12 v9 13 v9 14 v10 15 v11 16 v12 17 v13 18 v14 19 v15 20 v16 21 v17) 22 v18 4 v18) h18
theorem enter85:Ent 23 85 [.tmp 4] S85:=ent_ (m:=md85) (c:=(Tryz.f85.body.getD .skip)) (fun _ _ _ _=>by kernel_rfl) Tryz.func85 rfl rfl rfl
def md86:Nat->Hint
 |5=>⟨false,[0,1,3,7,7,23,7,119,247,503,1023,2047,4095,8191,16383,32767,16383,131071,262143,524287,1048575,16383,2113535,8388607,16777215],[.pureN,.pureN,.pureN,.pureM,.pureN,.pureM,.pureN,.pureN,.pureN,.pureM,.eff,.pureN,.pureN,.pureN,.pureN,.pureM,.pureN,.pureN,.pureN,.pureM,.pureM,.pureN,.pureM,.pureN,.pureN],[.pureN,.pureN,.pureN,.pureM,.pureN,.pureM,.pureN,.pureN,.pureN,.pureM,.eff,.pureN,.pureN,.pureN,.pureN,.late,.pureN,.pureN,.pureN,.late,.late,.pureN,.late,.pureN,.pureN],[false,false,false,false,false,false,false,false,false,false,false,false,false,false,false,false,false,false,false,false,false,false,false,false,false],false⟩
 |10=>mh false [0,1,0,7,15,31,0,64,0,448,960,1984,4095] [n_,m_,n_,n_,n_,m_,n_,m_,n_,n_,n_,m_,m_] (fs 13) false
 |23=>mh false [0,0,3,7,0,0,48,112,255] [n_,n_,n_,m_,n_,n_,n_,m_,m_] (fs 9) false
 |_=>mh false [] [] [] false
def az0 (G:Hp) (K:EK) (r:Rg) (h:Hp):Prop:=
 K .ret (upd r 2 (.bool true)) h
def Mn:Prop:=
 o_ G (binOp .add 3 (r 6) (.int .i64 1)) h fun v5 h5=>
 K .normal (u3 r 73 (r 6) 74 v5 6 v5) h5
def Bc:Prop:=
 o_ G (binOp .add 3 (r 7) (.int .i64 1)) h fun v11 h11=>
 K .normal (u3 r 84 (r 7) 85 v11 7 v11) h11
def Dl:Prop:=
 p_ (Instr.indexAt 168 (r 3) (r 7)) h fun v12 h12=>
 w_ G h (Instr.loadAt 3 v12) h12 fun v13 h13=>
 p_ (Instr.indexAt 168 (r 3) (r 6)) h13 fun v14 h14=>
 w_ G h (Instr.loadAt 3 v14) h14 fun v15 h15=>
 bk P_ G h (xEq .eql 3 (.tmp 0) (.tmp 0) v13 v15) h15 fun v16 h16=>
 (fun q=>cond v16
 (K .ret (upd q 2 (.bool false)) h16)
 (Bc G K q h16))
 (u9 r 86 (r 3) 87 (r 7) 88 v12 89 v13 90 (r 3) 91 (r 6) 92 v14 93 v15 94 v16)
def El (r:Rg) (h:Hp) (K:EK):Prop:=
 o_ G (binOp .lss 3 (r 7) (r 6)) h fun v10 h10=>
 cond v10
 (Dl G K (u3 r 81 (r 7) 82 (r 6) 83 v10) h10)
 (K (.exit 6) (u3 r 81 (r 7) 82 (r 6) 83 v10) h10)
def Mm:Prop:=
 ci (El G) (upd r 7 (.int .i64 0)) h (bn 6 (bn 5 (bv (Mn G K) K)))
def Mo:Prop:=
 o_ G (Instr.indexAt 168 (r 3) (r 6)) h fun v6 h6=>o_ G (Instr.loadAt 3 v6) h6 fun v7 h7=>
 c_ G 98 #[v7,(.int .i64 1),(.int .i64 1000000000)] h7 fun v8 h8=>o_ G (Op.unary .not v8) h8 fun v9 h9=>
 (fun q=>cond v9
 (K .ret (upd q 2 (.bool false)) h9)
 (Mm G K q h9))
 (u6 r 75 (r 3) 76 (r 6) 77 v6 78 v7 79 v8 80 v9)
def ay9 (r:Rg) (h:Hp) (K:EK):Prop:=
 o_ G (Builtin.len_ #[168] 3 #[(r 3)]) h fun v3 h3=>o_ G (binOp .lss 3 (r 6) v3) h3 fun v4 h4=>
 cond v4
 (Mo G K (u4 r 69 (r 6) 70 (r 3) 71 v3 72 v4) h4)
 (K (.exit 4) (u4 r 69 (r 6) 70 (r 3) 71 v3 72 v4) h4)
def az1:Prop:=
 ci (ay9 G) (upd r 6 (.int .i64 0)) h (bn 4 (bv (az0 G K) K))
def Vq:Prop:=
 o_ G (Builtin.len_ #[168] 3 #[(r 3)]) h fun v1 h1=>o_ G (binOp .gtr 3 v1 (.int .i64 512)) h1 fun v2 h2=>
 cond v2
 (K .ret (u4 r 66 (r 3) 67 v1 68 v2 2 (.bool false)) h2)
 (az1 G K (u3 r 66 (r 3) 67 v1 68 v2) h2)
def zo:Prop:=
 o_ G (binOp .add 3 (r 4) (.int .i64 1)) h fun v21 h21=>
 K .normal (u3 r 13 (r 4) 14 v21 4 v21) h21
def Fk:Prop:=
 o_ G (Instr.fieldAt 26 (r 1) 6) h fun v44 h44=>o_ G (Instr.loadAt 24 v44) h44 fun v45 h45=>o_ G (Instr.indexAt 24 v45 (r 4)) h45 fun v46 h46=>o_ G (Instr.fieldAt 234 v46 1) h46 fun v47 h47=>o_ G (Instr.loadAt 168 v47) h47 fun v48 h48=>o_ G (Builtin.append_ #[168,168] 168 #[(r 3),v48]) h48 fun v49 h49=>
 zo G K (u9 r 58 (r 3) 59 v44 60 v45 61 (r 4) 62 v46 63 v47 64 v48 65 v49 3 v49) h49
def xv:Prop:=
 o_ G (binOp .add 3 (r 5) (.int .i64 1)) h fun v51 h51=>
 K .normal (u3 r 43 (r 5) 44 v51 5 v51) h51
def xx:Prop:=
 p_ (Instr.fieldAt 26 (r 1) 6) h fun v52 h52=>
 w_ G h (Instr.loadAt 24 v52) h52 fun v53 h53=>
 p_ (Instr.indexAt 24 v53 (r 5)) h53 fun v54 h54=>
 p_ (Instr.fieldAt 234 v54 0) h54 fun v55 h55=>
 w_ G h (Instr.loadAt 28 v55) h55 fun v56 h56=>
 p_ (Instr.fieldAt 26 (r 1) 6) h56 fun v57 h57=>
 w_ G h (Instr.loadAt 24 v57) h57 fun v58 h58=>
 p_ (Instr.indexAt 24 v58 (r 4)) h58 fun v59 h59=>
 p_ (Instr.fieldAt 234 v59 0) h59 fun v60 h60=>
 w_ G h (Instr.loadAt 28 v60) h60 fun v61 h61=>
 bk P_ G h (xEq .eql 28 (.tmp 0) (.tmp 0) v56 v61) h61 fun v62 h62=>
 (fun q=>cond v62
 (K .ret (upd q 2 (.bool false)) h62)
 (xv G K q h62))
 (u3 (u10 r 45 v52 46 v53 47 (r 5) 48 v54 49 v55 50 v56 51 v57 52 v58 53 (r 4) 54 v59) 55 v60 56 v61 57 v62)
def zn (r:Rg) (h:Hp) (K:EK):Prop:=
 o_ G (binOp .lss 3 (r 5) (r 4)) h fun v50 h50=>
 cond v50
 (xx G K (u3 r 40 (r 5) 41 (r 4) 42 v50) h50)
 (K (.exit 2) (u3 r 40 (r 5) 41 (r 4) 42 v50) h50)
def Fl:Prop:=
 ci (zn G) (upd r 5 (.int .i64 0)) h (bn 2 (bv (Fk G K) (bn 1 (bv (zo G K) K))))
def Fm:Prop:=
 p_ (binOp .gtr 3 (r 4) (.int .i64 256)) h fun v22 h22=>g_ v22 false (w_ G h (Instr.loadAt 26 (r 1)) h22) h22 fun v23 h23=>g_ v22 false (p_ (Instr.fieldAt 26 (r 1) 6) h23) h23 fun v24 h24=>g_ v22 false (w_ G h (Instr.loadAt 24 v24) h24) h24 fun v25 h25=>g_ v22 false (fun K1=>K1 (r 4) h25) h25 fun v26 h26=>g_ v22 false (p_ (Instr.indexAt 24 v25 v26) h26) h26 fun v27 h27=>g_ v22 false (p_ (Instr.fieldAt 234 v27 0) h27) h27 fun v28 h28=>g_ v22 false (w_ G h (Instr.loadAt 28 v28) h28) h28 fun v29 h29=>g_ v22 false (c_ G 133 #[v23,v29] h29) h29 fun v30 h30=>g_ v22 false (p_ (Op.unary .not v30) h30) h30 fun v31 h31=>
 bk P_ noHp noHp (bj v22 (.bool true) v31) h31 fun v32 h32=>g_ v32 false (p_ (Instr.fieldAt 26 (r 1) 6) h32) h32 fun v33 h33=>g_ v32 false (w_ G h33 (Instr.loadAt 24 v33) h33) h33 fun v34 h34=>g_ v32 false (fun K1=>K1 (r 4) h34) h34 fun v35 h35=>g_ v32 false (p_ (Instr.indexAt 24 v34 v35) h35) h35 fun v36 h36=>g_ v32 false (p_ (Instr.fieldAt 234 v36 1) h36) h36 fun v37 h37=>g_ v32 false (w_ G h37 (Instr.loadAt 168 v37) h37) h37 fun v38 h38=>g_ v32 false (w_ G h38 (Builtin.len_ #[168] 3 #[v38]) h38) h38 fun v39 h39=>g_ v32 false (p_ (Instr.fieldAt 26 (r 1) 2) h39) h39 fun v40 h40=>g_ v32 false (w_ G h40 (Instr.loadAt 3 v40) h40) h40 fun v41 h41=>g_ v32 false (p_ (binOp .gtr 3 v39 v41) h41) h41 fun v42 h42=>
 bk P_ noHp noHp (bj v32 (.bool true) v42) h42 fun v43 h43=>
 (fun q=>cond v43
 (K .ret (upd q 2 (.bool false)) h43)
 (Fl G K q h43))
 (u5 (u10 (u10 r 15 (r 4) 16 v22 17 v22 18 v23 19 v24 20 v25 21 v26 22 v27 23 v28 24 v29) 25 v30 26 v31 27 v32 28 v32 29 v33 30 v34 31 v35 32 v36 33 v37 34 v38) 35 v39 36 v40 37 v41 38 v42 39 v43)
def X3 (r:Rg) (h:Hp) (K:EK):Prop:=
 o_ G (Instr.fieldAt 26 (r 1) 6) h fun v17 h17=>o_ G (Instr.loadAt 24 v17) h17 fun v18 h18=>o_ G (Builtin.len_ #[24] 3 #[v18]) h18 fun v19 h19=>o_ G (binOp .lss 3 (r 4) v19) h19 fun v20 h20=>
 (fun q=>cond v20
 (Fm G K q h20)
 (K (.exit 0) q h20))
 (u5 r 8 (r 4) 9 v17 10 v18 11 v19 12 v20)
def S86:Prop:=
 o_ G (Instr.box 26 (r 0)) h fun v0 h0=>
 ci (X3 G) (u4 r 1 v0 2 (.bool false) 3 (.slice none 0 0) 4 (.int .i64 0)) h0 (bn 0 (bv (Vq G K) K))
theorem enter86:Ent 95 86 [.tmp 2] S86:=ent_ (m:=md86) (c:=(Tryz.f86.body.getD .skip)) (fun _ _ _ _=>by kernel_rfl) Tryz.func86 rfl rfl rfl
def md98:Nat->Hint
 |_=>mh false [] [] [] false
def S98:Prop:=
 o_ G (binOp .geq 3 (r 0) (r 1)) h fun v0 h0=>g_ v0 true (fun K1=>K1 (r 0) h0) h0 fun v1 h1=>g_ v0 true (fun K1=>K1 (r 2) h1) h1 fun v2 h2=>g_ v0 true (o_ G (binOp .leq 3 v1 v2) h2) h2 fun v3 h3=>
 opH P_ G (bj v0 v3 (.bool false)) h3 fun v4 h4=>
 K .ret (u10 r 6 (.bool false) 7 (r 0) 8 (r 1) 9 v0 10 v0 11 v1 12 v2 13 v3 14 v4 6 v4) h4
theorem enter98:Ent 15 98 [.tmp 6] S98:=ent_ (m:=md98) (c:=(Tryz.f98.body.getD .skip)) (fun _ _ _ _=>by kernel_rfl) Tryz.func98 rfl rfl rfl
end
def bRpA:=jq bC (jq (jq (jq @Bool.and_true (jq @Bool.true_and @wh)) (jq @ud (jq @Xq @Bu))) (jq (jq @Ei (jq @Eh @Eg)) (jq (jq @xj @ld3) (jq @ln22 @true_and))))
abbrev Cell:=Int × Int
structure Pose where
 x:Int
 y:Int
 d:Bool
 deriving DecidableEq
structure Raw where
 x:Int
 y:Int
 a:Option Addr
 n:Nat
 c:Nat
structure Conf where
 w:Int
 h:Int
 ht:Int
 bl:List Cell
 po:List Cell
 ro:List Pose
 st:List (Cell × List Int)
 un:Int
 ac:Int
 sp:Int
 tu:Int
 ho:Int
 qu:Int
 re:Int
 bu:Int
 back:Bool
def dl:Cod Cell:=⟨2,fun x=>[.int .i64 x.1,.int .i64 x.2],fun _=>rfl,fun _ v hv=>by simp at hv;rcases hv with rfl|rfl<;>rfl⟩
def yo:Cod Pose:=⟨3,fun p=>[.int .i64 p.x,.int .i64 p.y,.bool p.d],fun _=>rfl,fun _ v hv=>by simp at hv;rcases hv with rfl|rfl|rfl<;>rfl⟩
def icC:Cod Int:=⟨1,fun x=>[.int .i64 x],fun _=>rfl,fun _ v hv=>by simp at hv;rcases hv with rfl;rfl⟩
def bcC:Cod Bool:=⟨1,fun x=>[.bool x],fun _=>rfl,fun _ v hv=>by simp at hv;rcases hv with rfl;rfl⟩
def rawC:Cod Raw:=⟨3,fun s=>[.int .i64 s.x,.int .i64 s.y,.slice s.a s.n s.c],fun _=>rfl,fun _ v hv=>by simp at hv;rcases hv with rfl|rfl|rfl<;>rfl⟩
abbrev vf (c:Cell):Value := .agg #[c.1,c.2]
abbrev kz (p:Pose):Value := .agg #[p.x,p.y,.bool p.d]
structure CA (G h:Hp) (C:Conf) (ab:Option Addr) (cb:Nat) (ap:Option Addr) (cp:Nat) (ar:Option Addr) (cr:Nat) (az:Option Addr) (cs:Nat):Prop where
 bl:Sees dl G h (.slice ab C.bl.length cb) C.bl
 po:Sees dl G h (.slice ap C.po.length cp) C.po
 ro:Sees yo G h (.slice ar C.ro.length cr) C.ro
 st:∃raw:List Raw,Sees rawC G h (.slice az C.st.length cs) raw/\∀(i:Nat) (r:Raw) (s:Cell × List Int),raw[i]?=some r->C.st[i]?=some s->(r.x,r.y)=s.1/\r.n=s.2.length/\Sees icC G h (.slice r.a s.2.length r.c) s.2
abbrev Tf (C:Conf) (ab:Option Addr) (cb:Nat) (ap:Option Addr) (cp:Nat) (ar:Option Addr) (cr:Nat) (az:Option Addr) (cs:Nat):Value:=
 .agg #[C.w,C.h,C.ht,.slice ab C.bl.length cb,.slice ap C.po.length cp,.slice ar C.ro.length cr,.slice az C.st.length cs,C.un,C.ac,C.sp,C.tu,C.ho,C.qu,C.re,C.bu,.bool C.back]
def CV (G h:Hp) (v:Value) (C:Conf):Prop:=∃ab cb ap cp ar cr az cs,v=Tf C ab cb ap cp ar cr az cs/\CA G h C ab cb ap cp ar cr az cs
theorem CA.up {G h h':Hp} {C:Conf} {ab:Option Addr} {cb:Nat} {ap:Option Addr} {cp:Nat} {ar:Option Addr} {cr:Nat} {az:Option Addr} {cs:Nat} (c:CA G h C ab cb ap cp ar cr az cs) (l:h.le h') (d:Dis G h'):CA G h' C ab cb ap cp ar cr az cs:=by
 obtain ⟨c1,c2,c3,raw,c4,c5⟩:=c
 exact ⟨c1.up l d,c2.up l d,c3.up l d,raw,c4.up l d,fun i r s h1 h2=>let ⟨a,b,c⟩:=c5 i r s h1 h2;⟨a,b,c.up l d⟩⟩
theorem CV.up {G h h':Hp} {v:Value} {C:Conf} (c:CV G h v C) (l:h.le h') (d:Dis G h'):CV G h' v C:=by
 obtain ⟨ab,cb,ap,cp,ar,cr,az,cs,e,c⟩:=c
 exact ⟨ab,cb,ap,cp,ar,cr,az,cs,e,c.up l d⟩
theorem CA.cv {G h:Hp} {C:Conf} {ab:Option Addr} {cb:Nat} {ap:Option Addr} {cp:Nat} {ar:Option Addr} {cr:Nat} {az:Option Addr} {cs:Nat} (c:CA G h C ab cb ap cp ar cr az cs):CV G h (Tf C ab cb ap cp ar cr az cs) C:=⟨ab,cb,ap,cp,ar,cr,az,cs,rfl,c⟩
def ax (n a b:Int):Bool:=decide (n>=a)&&decide (n<=b)
def inB (C:Conf) (c:Cell):Bool:=decide (c.1>=0)&&(decide (c.2>=0)&&(decide (c.1<C.w)&&decide (c.2<C.h)))
def pq (C:Conf) (c:Cell):Bool:=inB C c&&(C.bl.count c==0)
def wr (x:Int):Int:=IntKind.i64.wrap x
def east (p:Pose):Cell:=if p.d then (p.x,wr (p.y+1))else (wr (p.x+1),p.y)
def bw (p:Pose):List Cell:=[(p.x,p.y),east p]
def fq (C:Conf) (p:Pose):Bool:=pq C (p.x,p.y)&&pq C (east p)
def lg (C:Conf) (c:Cell):Bool:=pq C (wr (c.1+1),c.2)||pq C (c.1,wr (c.2+1))
def rf (C:Conf) (c:Cell):Bool:=C.ro.any fun p=>decide (((bw p).count c:Int)>0)
def Ha (C:Conf) (c:Cell):Int:=if c∈C.po then (C.po.idxOf c:Int)else -1
def ru (C:Conf) (c:Cell):Bool:=pq C c&&(decide (Ha C c<0)&&(!rf C c&&lg C c))
theorem iq {G h:Hp} {n a b:Int}:al P_ G 98 #[n,a,b] h (fun u h'=>u = .bool (ax n a b)/\h'=h):=by
 refine quietly (enter98 (by simp) ?_)
 unfold S98
 simp only [bRpA]
 unfold ax
 cases hc:decide (n>=a)with
 |false=>simp only [bRpA,hc];exact ⟨rfl,Hp.le.refl h⟩
 |true=>simp only [bRpA,hc];exact Hp.le.refl h
theorem Oq {G h:Hp} {v:Value} {C:Conf} {c:Cell} (hv:CV G h v C):al P_ G 82 #[v,vf c] h (fun u h'=>u = .bool (inB C c)/\h'=h):=by
 obtain ⟨ab,cb,ap,cp,ar,cr,az,cs,rfl,ca⟩:=hv
 refine quietly (enter82 (by simp) ?_)
 unfold S82
 simp only [bRpA]
 intro x hx gx y hy gy
 have l:=(di (o := .cells #[C.w,C.h,C.ht,.slice ab C.bl.length cb,.slice ap C.po.length cp,.slice ar C.ro.length cr,.slice az C.st.length cs,C.un,C.ac,C.sp,C.tu,C.ho,C.qu,C.re,C.bu,.bool C.back] 26 (0,0)) hx).trans (di (o := .cells #[c.1,c.2] 28 (0,0)) hy)
 have exy:=jd hy
 unfold inB
 cases hc:decide (c.1>=0)with
 |false=>simp only [bRpA,hc];exact ⟨rfl,l⟩
 |true=>
 simp only [bRpA,hc]
 cases hc2:decide (c.2>=0)with
 |false=>simp only [bRpA,hc2];exact ⟨rfl,l⟩
 |true=>
 simp only [bRpA,hc2,aq exy]
 cases hc3:decide (c.1<C.w)with
 |false=>simp only [bRpA,hc3];exact ⟨rfl,l⟩
 |true=>
 simp only [bRpA,hc3,aq exy]
 exact l
theorem cget {G h:Hp} {b o i:Nat} {x:Cell} (e:∀j,j<dl.n->af G h ⟨b,o+i*dl.n+j,none⟩=(dl.enc x)[j]?):
 af G h ⟨b,o+i*2,none⟩=some (.int .i64 x.1)/\af G h ⟨b,o+i*2+1,none⟩=some (.int .i64 x.2):=⟨e 0 (by decide),e 1 (by decide)⟩
theorem pget {G h:Hp} {b o i:Nat} {x:Pose} (e:∀j,j<yo.n->af G h ⟨b,o+i*yo.n+j,none⟩=(yo.enc x)[j]?):
 af G h ⟨b,o+i*3,none⟩=some (.int .i64 x.x)/\af G h ⟨b,o+i*3+1,none⟩=some (.int .i64 x.y)/\af G h ⟨b,o+i*3+2,none⟩=some (.bool x.d):=⟨e 0 (by decide),e 1 (by decide),e 2 (by decide)⟩
theorem zi (x y:Cell):(x.1==y.1&&x.2==y.2)=(x==y):=rfl
theorem Sees.cell {G h:Hp} {sa:Option Addr} {cap:Nat} {L:List Cell} (s:Sees dl G h (.slice sa L.length cap) L) {i:Nat} {x:Cell} (hx:L[i]?=some x):
 ∃b o,sa=some ⟨b,o,none⟩/\af G h ⟨b,o+i*2,none⟩=some (.int .i64 x.1)/\af G h ⟨b,o+i*2+1,none⟩=some (.int .i64 x.2):=by
 obtain ⟨b,o,c,e1,e2⟩:=s.get hx
 simp only [Value.slice.injEq]at e1
 exact ⟨b,o,e1.1,cget e2⟩
theorem Sees.pose {G h:Hp} {sa:Option Addr} {cap:Nat} {L:List Pose} (s:Sees yo G h (.slice sa L.length cap) L) {i:Nat} {x:Pose} (hx:L[i]?=some x):
 ∃b o,sa=some ⟨b,o,none⟩/\af G h ⟨b,o+i*3,none⟩=some (.int .i64 x.x)/\af G h ⟨b,o+i*3+1,none⟩=some (.int .i64 x.y)/\af G h ⟨b,o+i*3+2,none⟩=some (.bool x.d):=by
 obtain ⟨b,o,c,e1,e2⟩:=s.get hx
 simp only [Value.slice.injEq]at e1
 exact ⟨b,o,e1.1,pget e2⟩
theorem qo {G h:Hp} {v:Value} {L:List Cell} {c:Cell} (hv:Sees dl G h v L) (hL:L.length<=100000000000000):al P_ G 83 #[v,vf c] h (fun u h'=>u = .int .i64 (L.count c)/\h'=h):=by
 obtain ⟨sa,cap,rfl⟩:=hv.len
 refine al.assume fun d=>quietly (enter83 (by simp) ?_)
 unfold S83
 simp only [bRpA]
 intro x hx gx
 have l:=di (o := .cells #[c.1,c.2] 28 (0,0)) hx
 have hs:=hv.up l (d.set gx)
 have hxx:(h.set x (.cells #[c.1,c.2] 28 (0,0))) x=some (.cells #[c.1,c.2] 28 (0,0)):=ag
 generalize h.set x (.cells #[c.1,c.2] 28 (0,0))=h2 at*
 have cx:∀k,af G h2 ⟨x,k,none⟩=_:=fun k=>aj (ai hxx)
 refine b8 (fun m r h3=>∃i:Nat,m=L.length-i/\i<=L.length/\r 0 = .slice sa L.length cap/\r 3 = .pointer (some ⟨x,0,none⟩)/\r 5 = .int .i64 ((L.take i).count c)/\r 6 = .int .i64 i/\h3=h2) ?_
  (m:=L.length) ⟨0,rfl,Nat.zero_le _,by simp (disch:=decide) only [bRpA],by simp (disch:=decide) only [bRpA],by simp (disch:=decide) only [bRpA]<;>rfl,by simp only [bRpA]<;>rfl,rfl⟩
 rintro m r h3 ⟨i,rfl,hi,g0,g3,g5,g6,rfl⟩ X HX
 unfold az3
 simp only [bRpA,g0,g6]
 refine bm (fun hlt=>?_) (fun hge=>?_)
 . have hlt':i<L.length:=by omega
   obtain ⟨y,hy⟩:∃x,L[i]?=some x:=⟨_,List.getElem?_eq_getElem hlt'⟩
   obtain ⟨b,o,rfl,y0,y1⟩:=Sees.cell hs hy
   have htk:L.take (i+1)=L.take i++[y]:=by rw [List.take_add_one,hy];rfl
   have hcnt:((L.take i).count c:Int)<=i:=by have:=List.count_le_length (a:=c) (l:=L.take i);rw [List.length_take]at this;omega
   unfold Mr
   simp (disch:=decide) only [bRpA,g0,g6,g3,sn (Int.natCast_nonneg i) hlt,y0,y1,cx,zi]
   cases hb:(y==c)with
   |true=>
    simp (disch:=first|decide|omega) only [bRpA,g5]
    unfold Aq
    simp (disch:=first|decide|omega) only [bRpA,g6]
    refine HX (L.length-(i+1)) _ _ (by omega) ⟨i+1,rfl,hlt',by simp (disch:=decide) only [bRpA,g0],by simp (disch:=decide) only [bRpA,g3],?_,by simp only [bRpA]<;>rfl,rfl⟩
    simp (disch:=decide) only [bRpA]
    rw [htk,List.count_append,List.count_singleton,hb]
    rfl
   |false=>
    simp only [bRpA]
    unfold Aq
    simp (disch:=first|decide|omega) only [bRpA,g6]
    refine HX (L.length-(i+1)) _ _ (by omega) ⟨i+1,rfl,hlt',by simp (disch:=decide) only [bRpA,g0],by simp (disch:=decide) only [bRpA,g3],?_,by simp only [bRpA]<;>rfl,rfl⟩
    simp (disch:=decide) only [bRpA,g5]
    rw [htk,List.count_append,List.count_singleton,hb]
    rfl
 . obtain rfl:i=L.length:=by omega
   rw [List.take_of_length_le (Nat.le_refl _)]at g5
   show Vs _ _ _ _
   unfold Vs
   simp (disch:=decide) only [bRpA,g5]
   exact l
end Go.Proofs.YtfflipnhffknnaaGreatDoor
end
section
namespace Go.Proofs.YtfflipnhffknnaaGreatDoor
open Go Go.HL Go.Proofs.Resv Go.Proofs.Srch
def bRtK:=jq bC (jq (jq (jq @kv @cf187) (jq @Xp (jq @fa173_1 @ao5))) (jq (jq @ao4 @ld3) (jq @ld3p (jq @ju @ik))))
def KR (G h:Hp) (kp:Nat) (U A V:Int):Prop:=∀j,j<3->af G h ⟨kp,j,none⟩=[Value.int .i64 U,.int .i64 A,.int .i64 V][j]?
structure KB (U A V:Int):Prop where
 u1:1<=U
 u2:U<=1000
 a1:1<=A
 a2:A<=1000
 v1:1<=V
 v2:V<=1000
theorem Ve {a:Int} (ha:1<=a):∀(n:Nat) (v:Int),v<=1000->0<=brk a n v/\brk a n v<=n*1000
 |0,v,_=>by simp [brk]
 |n+1,v,h=>by
  unfold brk
  split
  . have:=Ve ha n (v-a) (by omega);omega
  . omega
theorem brk_neg {a:Int}:∀(n:Nat) {v:Int},v<=0->brk a n v=0
 |0,v,_=>rfl
 |n+1,v,h=>by unfold brk;rw [if_neg (by omega)]
theorem Tq {a s:Int} (ha:1<=a) (hs:s<=1000):0<=Bv a s/\Bv a s<=1000000:=by
 unfold Bv
 have:=Ve ha s.toNat (s-a) (by omega)
 omega
theorem minE {a b:Int}:(if b<a then b else a)=min a b:=by split<;>omega
theorem maxE {a b:Int}:(if b>a then b else a)=max a b:=by split<;>omega
theorem min2p {P:Program} {G h:Hp} {a b:Int} {K:Value->Prop}:pw P G h (Builtin.min_ #[3,3] 3 #[a,b]) K=K (.int .i64 (min a b)):=by rw [<- minE];rfl
theorem max2p {P:Program} {G h:Hp} {a b:Int} {K:Value->Prop}:pw P G h (Builtin.max_ #[3,3] 3 #[a,b]) K=K (.int .i64 (max a b)):=by rw [<- maxE];rfl
theorem max2w {P:Program} {G h:Hp} {a b:Int} {K:VK}:wpH P G (Builtin.max_ #[3,3] 3 #[a,b]) h K=K (.int .i64 (max a b)) h:=by rw [<- maxE];rfl
theorem min3w {P:Program} {G h:Hp} {a b c:Int} {K:VK}:wpH P G (Builtin.min_ #[3,3,3] 3 #[a,b,c]) h K=K (.int .i64 (min (min a b) c)) h:=by rw [<- minE,<- minE];rfl
theorem Vf {G h:Hp} {kp:Nat} {U A V q:Int} (kr:KR G h kp U A V) (kb:KB U A V) (h0:0<=q) (h1:q<=V):
 al P_ G 187 #[.pointer (some ⟨kp,0,none⟩),q] h (fun v h'=>v = .int .i64 (Bv A q)/\h'=h):=by
 have c1:af G h ⟨kp,1,none⟩=some (.int .i64 A):=kr 1 (by decide)
 have c2:af G h ⟨kp,2,none⟩=some (.int .i64 V):=kr 2 (by decide)
 obtain ⟨ku1,ku2,ka1,ka2,kv1,kv2⟩:=kb
 refine quietly (aq5 (by simp) ?_)
 unfold S187
 simp only [bRtK,c1]
 rw [i8 (show ¬A<1 by omega)]
 simp only [bRtK]
 unfold X7
 simp (disch:=first|decide|omega) only [bRtK,c1,c2,min2p,max2p]
 rw [show max 0 (min q V)=q by omega]
 have hbd:=Tq ka1 (show q<=1000 by omega)
 refine b8 (fun m r h'=>h'=h/\r 0 = .pointer (some ⟨kp,0,none⟩)/\∃s v:Int,r 5 = .int .i64 s/\r 6 = .int .i64 v/\v.toNat=m/\v<=1000 /\ -1000<=v/\0<=s/\∃n:Nat,v<=n/\s+brk A n v=Bv A q) ?_ (m:=(q-A).toNat)
  ⟨rfl,by simp (disch:=decide) only [bRtK],0,q-A,by simp (disch:=decide) only [bRtK],by simp only [bRtK],rfl,by omega,by omega,by omega,q.toNat,by omega,by unfold Bv;omega⟩
 rintro m r h' ⟨rfl,g0,s,v,g5,g6,rfl,hv,hv2,hs,n,hn,hsum⟩ X hX
 unfold X5
 simp only [bRtK,g6]
 by_cases hp:v>0
 . rw [je hp]
   obtain ⟨n,rfl⟩:∃k,n=k+1:=⟨n-1,by omega⟩
   unfold brk at hsum
   rw [if_pos hp]at hsum
   have hb:=Ve ka1 n (v-A) (by omega)
   simp only [bRtK]
   unfold I4
   simp (disch:=first|decide|omega) only [bRtK,g5,g6]
   unfold I3
   simp (disch:=first|decide|omega) only [bRtK,g0,g6,c1]
   refine hX (v-A).toNat _ _ (by omega) ⟨rfl,by simp (disch:=decide) only [bRtK,g0],s+v,v-A,by simp (disch:=decide) only [bRtK],by simp only [bRtK],rfl,by omega,by omega,by omega,n,by omega,by omega⟩
 . rw [i8 hp]
   rw [brk_neg n (by omega)]at hsum
   simp only [bRtK]
   unfold X6
   simp (disch:=decide) only [bRtK,g5]
   exact ⟨by rw [<- hsum];simp,Hp.le.refl _⟩
theorem aa7 {G h:Hp} {kp:Nat} {U A V x s v:Int} (kr:KR G h kp U A V) (kb:KB U A V) (hx1:1<=x) (hx2:x<=100000) (hs:0<=s) (hs2:s<=1000) (hv1:1<=v) (hv2:v<=V):
 al P_ G 170 #[.pointer (some ⟨kp,0,none⟩),x,s,v] h (fun u h'=>u = .int .i64 (xi A x s v)/\h'=h):=by
 have c1:af G h ⟨kp,1,none⟩=some (.int .i64 A):=kr 1 (by decide)
 have kb':=kb
 obtain ⟨ku1,ku2,ka1,ka2,kv1,kv2⟩:=kb
 refine quietly (aq7 (by simp) ?_)
 unfold S170
 simp (disch:=first|decide|omega) only [bRtK,c1,min3w]
 refine b8 (fun m r h'=>h'=h/\r 0 = .pointer (some ⟨kp,0,none⟩)/\r 1 = .int .i64 x/\∃q:Int,r 9 = .int .i64 q/\q.toNat=m/\q<=V/\1<=q/\∃n:Nat,q<=n/\dq A x n q=xi A x s v) ?_ (m:=(min (min (s+A) v) x).toNat)
  ⟨rfl,by simp (disch:=decide) only [bRtK],by simp (disch:=decide) only [bRtK],min (min (s+A) v) x,by simp only [bRtK],rfl,by omega,by omega,(min (min (s+A) v) x).toNat,by omega,rfl⟩
 rintro m r h' ⟨rfl,g0,g1,q,g9,rfl,hq,hq1,n,hn,hd⟩ X hX
 unfold X9
 simp only [bRtK,g0,g1,g9]
 obtain ⟨n,rfl⟩:∃k,n=k+1:=⟨n-1,by omega⟩
 unfold dq at hd
 by_cases hp:q>1
 . rw [je hp]
   simp (disch:=first|decide|omega) only [bRtK]
   refine (Vf kr kb' (by omega) hq).mono ?_
   rintro _ _ ⟨rfl,rfl⟩
   have hbd:=Tq ka1 (show q<=1000 by omega)
   simp only [bRtK]
   refine bm (fun hb=>?_) (fun hb=>?_)
   . rw [if_pos ⟨hp,hb⟩]at hd
     unfold I7
     simp (disch:=first|decide|omega) only [bRtK,g9]
     refine hX (q-1).toNat _ _ (by omega) ⟨rfl,by simp (disch:=decide) only [bRtK,g0],by simp (disch:=decide) only [bRtK,g1],q-1,by simp only [bRtK],rfl,by omega,by omega,n,by omega,hd⟩
   . rw [if_neg (by omega)]at hd
     unfold Pq
     simp (disch:=decide) only [bRtK,g9]
     exact ⟨by rw [hd],Hp.le.refl _⟩
 . rw [i8 hp]
   rw [if_neg (by omega)]at hd
   simp only [bRtK]
   unfold Pq
   simp (disch:=decide) only [bRtK,g9]
   exact ⟨by rw [hd],Hp.le.refl _⟩
def mx:=jq bC (jq (jq (jq @cf170 @fa173_2) (jq @ld3 @ld4)) (jq (jq @ld50 @ju) (jq @l8 @jj)))
def KH (a:Hp) (kp:Nat) (U A V:Int):Prop:=∃l e,a kp=some (.cells l e (0,0))/\∀j,j<3->l[j]?=[Value.int .i64 U,.int .i64 A,.int .i64 V][j]?
theorem KH.kr {G a h:Hp} {kp:Nat} {U A V:Int} (k:KH a kp U A V) (l:a.le h):KR G h kp U A V:=by
 obtain ⟨cs,e,h1,h2⟩:=k
 intro j hj
 rw [aj (ai (l _ _ h1))]
 rw [Array.getElem?_toList];exact h2 j hj
abbrev plA (p:Int):Array Value:=#[p]
def Yf (G:Hp) (y:Value) (Y:List Int->Hp->Prop):Prop:=∀(L:List Int) (m:Int) (a q h:Hp),L.length<=16000->Y L a->Sep [a,q] h->Dis G h->
 opH P_ G (ig y (plA m)) h (fun v h'=>∃a',v = .bool true/\Sep [a',q] h'/\Dis G h'/\Y (L++[m]) a')
theorem Qj {G h a q:Hp} {y:Value} {Y:List Int->Hp->Prop} {kb fb sb pb eb kp:Nat} {U A V e:Int}
 (yl:Yf G y Y) (yk:∀L a,Y L a->KH a kp U A V) (kbd:KB U A V) (ya:Y [] a)
 (s:Sep [a,noHp.set sb (.cells #[(0:Int)] 3 (0,0)),noHp.set pb (.cells #[(0:Int)] 3 (0,0)),q] h)
 (h1:q kb=some (.cells #[.pointer (some ⟨kp,0,none⟩)] 50 (0,0))) (h2:q fb=some (.cells #[.bool false] 4 (0,0))) (h3:q eb=some (.cells #[e] 3 (0,0))) (he:0<=e) (he2:e<=16000):
 al P_ G 169 #[y,.pointer (some ⟨kb,0,none⟩),.pointer (some ⟨fb,0,none⟩),.pointer (some ⟨sb,0,none⟩),.pointer (some ⟨pb,0,none⟩),.pointer (some ⟨eb,0,none⟩)] h
  (fun _ h'=>∃a',Sep [a',q] h'/\Dis G h'/\Y (prof A V e e.toNat 0 0) a'):=by
 obtain ⟨W,hW⟩:∃W,W=prof A V e e.toNat 0 0:=⟨_,rfl⟩
 rw [<- hW]
 refine al.assume fun d=>aq8 (by simp) ?_
 have kb':=kbd
 obtain ⟨ku1,ku2,ka1,ka2,kv1,kv2⟩:=kbd
 have ck:af G h ⟨kb,0,none⟩=some (.pointer (some ⟨kp,0,none⟩)):=by rw [aj (ai (s.at 3 rfl h1))];rfl
 have cf:af G h ⟨fb,0,none⟩=some (.bool false):=by rw [aj (ai (s.at 3 rfl h2))];rfl
 have c2:af G h ⟨kp,2,none⟩=some (.int .i64 V):=(yk _ _ ya).kr (s.in 0 rfl) 2 (by decide)
 unfold S169
 simp only [mx,ck,cf,c2]
 unfold Pr
 refine b8 (fun m r h'=>∃(a':Hp) (M:List Int) (p sp:Int),m=(e-p).toNat/\r 0=y/\r 1 = .pointer (some ⟨kb,0,none⟩)/\r 2 = .pointer (some ⟨fb,0,none⟩)/\r 3 = .pointer (some ⟨sb,0,none⟩)/\r 4 = .pointer (some ⟨pb,0,none⟩)/\r 5 = .pointer (some ⟨eb,0,none⟩)/\r 7 = .int .i64 V/\
  Y M a'/\Sep [a',noHp.set sb (.cells #[sp] 3 (0,0)),noHp.set pb (.cells #[p] 3 (0,0)),q] h'/\Dis G h'/\0<=p/\0<=sp/\sp<=V/\p<=e/\∃n:Nat,e-p<=n/\M++prof A V e n p sp=W) ?_ (m:=(e-0).toNat)
  ⟨a,[],0,0,rfl,by simp (disch:=decide) only [mx],by simp (disch:=decide) only [mx],by simp (disch:=decide) only [mx],by simp (disch:=decide) only [mx],by simp (disch:=decide) only [mx],by simp (disch:=decide) only [mx],by simp (disch:=decide) only [mx],ya,s,d,by omega,by omega,by omega,by omega,e.toNat,by omega,hW.symm⟩
 rintro m r h' ⟨a',M,p,sp,rfl,g0,g1,g2,g3,g4,g5,g7,ya',s',d',hp0,hsp0,hspV,hpe,n,hn,hprof⟩ X hX
 have cp:af G h' ⟨pb,0,none⟩=some (.int .i64 p):=by rw [aj (ai (s'.at 2 rfl ag))];rfl
 have cs:af G h' ⟨sb,0,none⟩=some (.int .i64 sp):=by rw [aj (ai (s'.at 1 rfl ag))];rfl
 have ce:af G h' ⟨eb,0,none⟩=some (.int .i64 e):=by rw [aj (ai (s'.at 3 rfl h3))];rfl
 have ck':af G h' ⟨kb,0,none⟩=some (.pointer (some ⟨kp,0,none⟩)):=by rw [aj (ai (s'.at 3 rfl h1))];rfl
 unfold Ya
 simp only [mx,g4,g5,cp,ce]
 by_cases hlt:p<e
 . rw [je hlt]
   simp only [mx]
   unfold I8
   simp (disch:=first|decide|omega) only [mx,g1,g5,g4,g3,g7,ck',ce,cp,cs]
   refine (aa7 ((yk _ _ ya').kr (s'.in 0 rfl)) kb' (x:=e-p) (s:=sp) (v:=V) (by omega) (by omega) hsp0 (by omega) (by omega) (by omega)).mono ?_
   rintro _ h' ⟨rfl,rfl⟩
   have hnx:=next_bd ka1 (show 1<=e-p by omega) hsp0 kv1
   obtain ⟨n,rfl⟩:∃k,n=k+1:=⟨n-1,by omega⟩
   unfold prof at hprof
   rw [if_pos hlt]at hprof
   generalize xi A (e-p) sp V=x at*
   have hsb:h' sb=some (.cells [Value.int .i64 sp].toArray 3 (0,0)):=s'.at 1 rfl ag
   rw [bz sz3 (v := .int .i64 x) rfl hsb (by simp)]
   try simp only [mx,List.set_cons_zero]
   have s1:=(s'.pick 1 rfl rfl).put (o := .cells #[x] 3 (0,0)) ag
   rw [set_set]at s1
   have d1:Dis G (h'.set sb (.cells #[x] 3 (0,0))):=d'.set (d' _ _ hsb)
   generalize Hp.set h' sb _=h4 at s1 d1 ⊢
   have cf4:af G h4 ⟨fb,0,none⟩=some (.bool false):=by rw [aj (ai (s1.at 3 rfl h2))];rfl
   simp only [mx,g2,cf4]
   unfold B4
   have cp4:af G h4 ⟨pb,0,none⟩=some (.int .i64 p):=by rw [aj (ai (s1.at 2 rfl ag))];rfl
   have cs4:af G h4 ⟨sb,0,none⟩=some (.int .i64 x):=by rw [aj (ai (s1.at 0 rfl ag))];rfl
   have hpb:h4 pb=some (.cells [Value.int .i64 p].toArray 3 (0,0)):=s1.at 2 rfl ag
   simp (disch:=first|decide|omega) only [mx,g3,g4,cp4,cs4]
   rw [bz sz3 (v := .int .i64 (p+x)) rfl hpb (by simp)]
   try simp only [mx,List.set_cons_zero]
   have s2:=(s1.pick 2 rfl rfl).put (o := .cells #[.int .i64 (p+x)] 3 (0,0)) ag
   rw [set_set]at s2
   have d2:Dis G (h4.set pb (.cells #[.int .i64 (p+x)] 3 (0,0))):=d1.set (d1 _ _ hpb)
   generalize Hp.set h4 pb _=h5 at s2 d2 ⊢
   have cp5:af G h5 ⟨pb,0,none⟩=some (.int .i64 (p+x)):=by rw [aj (ai (s2.at 0 rfl ag))];rfl
   try simp only [mx,g4,cp5,g0]
   obtain ⟨Q,s3,sQ⟩:=rp (s2.pick 2 rfl rfl).swap
   obtain ⟨Q,s3,sQ⟩:∃b,Sep [a',b] h5/\Sep [noHp.set pb (.cells #[.int .i64 (p+x)] 3 (0,0)),noHp.set sb (.cells #[x] 3 (0,0)),q] b:=by
    obtain ⟨b,t1,t2⟩:=rp (s2.sel (L':=[noHp.set pb (.cells #[.int .i64 (p+x)] 3 (0,0)),noHp.set sb (.cells #[x] 3 (0,0)),q,a']) [0,1,3,2] (by decide) rfl)
    exact ⟨b,t1.swap,t2⟩
   refine jk (fun v h6 H=>?_) (yl M (p+x) a' Q h5 (by have e1:=congrArg List.length hprof;have e2:=G9 (a:=A) (v:=V) (e:=e) e.toNat 0 0;rw [hW]at e1;simp only [List.length_append]at e1;omega) ya' s3 d2)
   obtain ⟨a6,rfl,s6,d6,z6⟩:=H
   have s7:Sep [a6,noHp.set pb (.cells #[.int .i64 (p+x)] 3 (0,0)),noHp.set sb (.cells #[x] 3 (0,0)),q] h6:=by
    have:=s6.split sQ
    simpa using this
   simp only [mx]
   refine hX (e-(p+x)).toNat _ _ (by omega) ⟨a6,M++[p+x],p+x,x,rfl,by simp (disch:=decide) only [mx,g0],by simp (disch:=decide) only [mx,g1],by simp (disch:=decide) only [mx,g2],by simp (disch:=decide) only [mx,g3],by simp (disch:=decide) only [mx,g4],by simp (disch:=decide) only [mx,g5],by simp (disch:=decide) only [mx,g7],by simpa using z6,s7.sel [0,2,1,3] (by decide) rfl,d6,by omega,by omega,by omega,by omega,n,by omega,?_⟩
   rw [<- hprof]
   simp
 . rw [i8 hlt]
   simp only [mx]
   have hz:prof A V e n p sp=[]:=by
    cases n with
    |zero=>rfl
    |succ n=>unfold prof;rw [if_neg hlt]
   rw [hz,List.append_nil]at hprof
   exact ⟨a',s'.sel [0,3] (by decide) rfl,d',by rw [<- hprof];exact ya'⟩
def Ir:=jq bC (jq (jq (jq @vg (jq @gc @ae2)) (jq (jq @px @cf152) (jq @ao7 @ao6))) (jq (jq (jq @Ok @ld261p) (jq @ld3p @ld50p)) (jq (jq @ik @l8) (jq @jj @true_and))))
theorem T8 {G h:Hp} {kp:Nat} {p s e:Int}:al P_ G 152 #[.pointer (some ⟨kp,0,none⟩),p,s,e,.bool false] h (fun u h'=>∃b1 b2 b3 b4 b5,
 u = .func (.func 169) #[] #[.pointer (some ⟨b1,0,none⟩),.pointer (some ⟨b2,0,none⟩),.pointer (some ⟨b3,0,none⟩),.pointer (some ⟨b4,0,none⟩),.pointer (some ⟨b5,0,none⟩)]/\
 Sep [noHp.set b3 (.cells #[s] 3 (0,0)),noHp.set b4 (.cells #[p] 3 (0,0)),noHp.set b1 (.cells #[.pointer (some ⟨kp,0,none⟩)] 50 (0,0)),noHp.set b2 (.cells #[.bool false] 4 (0,0)),noHp.set b5 (.cells #[e] 3 (0,0)),h] h'/\Dis G h'):=by
 refine al.assume fun d=>ar9 (by simp) ?_
 unfold S152
 simp only [Ir]
 intro x1 hx1 gx1 x2 hx2 gx2 x3 hx3 gx3 x4 hx4 gx4 x5 hx5 gx5
 have s1:=(Sep.one (h:=h)).new (o := .cells #[.pointer (some ⟨kp,0,none⟩)] 50 (0,0)) hx1
 have s2:=s1.new (o := .cells #[p] 3 (0,0)) hx2
 have s3:=s2.new (o := .cells #[s] 3 (0,0)) hx3
 have s4:=s3.new (o := .cells #[e] 3 (0,0)) hx4
 have s5:=s4.new (o := .cells #[.bool false] 4 (0,0)) hx5
 exact ⟨x1,x5,x3,x2,x4,rfl,s5.sel [2,3,4,0,1,5] (by decide) rfl,((((d.set gx1).set gx2).set gx3).set gx4).set gx5⟩
theorem aa3 {G:Hp} {a b c e f y:Value} {h:Hp} {K:VK}:opE P_ G (ig (.func (.func 169) #[] #[a,b,c,e,f]) #[y]) h K=al P_ G 169 #[y,a,b,c,e,f] h K:=by kernel_rfl
def KYi (kp o rb l:Nat) (ob:Obj) (l0:List Value) (pb:Hp) (L:List Int) (b:Hp):Prop:=∃ip v,Slc icC 3 ip v L/\Sep [noHp.set kp (.cells (l0.set (o+3) v).toArray 173 (0,0)),ip,pb,noHp.set rb (.cells #[.pointer (some ⟨kp,o,none⟩)] 261 (0,0)),noHp.set l ob] b
theorem eoint8:fg P_ 3 icC.n 8:=eo3
theorem N3 {G:Hp} {y:Value} {kp o rb l:Nat} {oo:Option Exit->Obj} {l0:List Value} {pb:Hp} {r:Rg} (gl:G l=none) (ho:∀e,gm (oo e)=false) (hlen:o+3<l0.length) (g2:r 2 = .pointer (some ⟨rb,0,none⟩))
 (hy:∀(args:Array Value) (h1:Hp) (K1:Value->Hp->Prop),args.size=1->h1 l=some (oo none)->
  P0 G (setR 23 #[12] args r) h1 (fun e r2 h2=>e = .normal/\h2 l=some (oo none)/\∀ob,gm ob=false->Pz G r2 (h2.set l ob) (fun e _ h3=>h3 l=some ob/\match e with
   | .normal=>K1 (.bool true) (h3.set l (oo none))
   | .panic _=>False
   | .outgrown=>False
   |e=>K1 (.bool false) (h3.set l (oo (some e)))))->
  opH P_ G (ig y args) h1 K1):
 Yf G y (KYi kp o rb l (oo none) l0 pb):=by
 rintro L p b q h hL ⟨ip,v,sl,sb⟩ s d
 have s1:Sep [q,noHp.set kp (.cells (l0.set (o+3) v).toArray 173 (0,0)),ip,pb,noHp.set rb (.cells #[.pointer (some ⟨kp,o,none⟩)] 261 (0,0)),noHp.set l (oo none)] h:=by
  have:=s.swap.split sb
  simpa using this
 refine hy (plA p) h _ rfl (s1.at 5 rfl ag) ?_
 rw [Wg (by decide)]
 unfold P0
 refine ⟨rfl,s1.at 5 rfl ag,fun ob hob=>?_⟩
 have s2:=(s1.pick 5 rfl rfl).put (o:=ob) ag
 rw [set_set]at s2
 have d2:Dis G (h.set l ob):=d.set gl
 generalize Hp.set h l ob=h2 at s2 d2 ⊢
 obtain ⟨sa,cap,rfl,hcap⟩:=sl.len (by decide)
 obtain ⟨Q,s3,sQ⟩:=D1 (s2.sel (L':=[noHp.set rb (.cells #[.pointer (some ⟨kp,o,none⟩)] 261 (0,0)),noHp.set kp (.cells (l0.set (o+3) (.slice sa L.length cap)).toArray 173 (0,0)),ip,pb,noHp.set l ob,q]) [5,2,3,4,0,1] (by decide) rfl)
 have cr:af G Q ⟨rb,0,none⟩=some (.pointer (some ⟨kp,o,none⟩)):=by rw [aj (ai (sQ.at 0 rfl ag))];rfl
 have ck:af G Q ⟨kp,o+3,none⟩=some (.slice sa L.length cap):=by
  rw [aj (ai (sQ.at 1 rfl ag))]
  simp [hlen]
 unfold Pz
 refine ⟨Q,s3.in 0 rfl,?_⟩
 simp (disch:=decide) only [Ir,g2,cr,ck]
 intro x hx gx
 have s4:=s3.past (o := .cells #[p] 3 (0,0)) hx
 have d4:=d2.set (o := .cells #[p] 3 (0,0)) gx
 have hxs:(h2.set x (.cells #[p] 3 (0,0))) x=some (.cells #[p] 3 (0,0)):=ag
 generalize Hp.set h2 x _=h4 at s4 d4 hxs ⊢
 refine dm icC (by decide) (L:=L) (M:=[p]) Gg eoint8 (by decide) (by decide) (s4.pick 1 rfl rfl) d4 sl (Sees.row hxs (by simp [icC,Cod.rows]) (by simp)) (by simp;omega) ?_
 intro v' ip' h5 sl' s5 d5
 refine ⟨s5.in 1 rfl,?_⟩
 have s6:Sep [noHp.set rb (.cells #[.pointer (some ⟨kp,o,none⟩)] 261 (0,0)),noHp.set kp (.cells (l0.set (o+3) (.slice sa L.length cap)).toArray 173 (0,0)),pb,noHp.set l ob,q,ip'] h5:=
  ((s5.pick 1 rfl rfl).open sQ).sel [0,1,3,4,5,2] (by decide) rfl
 obtain ⟨sa',cap',rfl,hcap'⟩:=sl'.len (by decide)
 have hk5:h5 kp=some (.cells (l0.set (o+3) (.slice sa L.length cap)).toArray 173 (0,0)):=s6.at 1 rfl ag
 try simp (disch:=first|decide|omega) only [Ir,Nat.reduceAdd,Nat.reduceMul]
 rw [bz sz168 rfl hk5 (by simpa using hlen)]
 have s7:=(s6.pick 1 rfl rfl).put (o := .cells ((l0.set (o+3) (.slice sa L.length cap)).set (o+3) (.slice sa' (L++[p]).length cap')).toArray 173 (0,0)) ag
 rw [set_set,List.set_set]at s7
 rw [List.set_set]
 have d7:=d5.set (o := .cells (l0.set (o+3) (.slice sa' (L++[p]).length cap')).toArray 173 (0,0)) (d5 _ _ hk5)
 generalize Hp.set h5 kp _=h7 at s7 d7 ⊢
 try simp (disch:=first|decide|omega) only [Ir,Nat.reduceAdd,Nat.reduceMul]
 have hl7:h7 l=some ob:=s7.at 3 rfl ag
 refine ⟨hl7,?_⟩
 have s8:=(s7.pick 3 rfl rfl).put (o:=oo none) ag
 rw [set_set]at s8
 obtain ⟨b',t1,t2⟩:=Sep.pack [_,_,_,_,_] (s8.sel (L':=[noHp.set kp (.cells (l0.set (o+3) (.slice sa' (L++[p]).length cap')).toArray 173 (0,0)),ip',pb,noHp.set rb (.cells #[.pointer (some ⟨kp,o,none⟩)] 261 (0,0)),noHp.set l (oo none),q]) [1,5,3,2,0,4] (by decide) rfl)
 exact ⟨b',t1,d7.set gl,ip',_,sl',t2⟩
theorem KYi.kh {kp o rb l:Nat} {ob:Obj} {l0:List Value} {pb b:Hp} {L:List Int} {U A V:Int} (k:KYi kp o rb l ob l0 pb L b) (ho:3<=o) (h:∀j,j<3->l0[j]?=[Value.int .i64 U,.int .i64 A,.int .i64 V][j]?):KH b kp U A V:=by
 obtain ⟨ip,v,_,s⟩:=k
 refine ⟨_,_,s.at 0 rfl ag,fun j hj=>?_⟩
 rw [List.getElem?_toArray,List.getElem?_set_ne (by omega)]
 exact h j hj
theorem N4 {G h q pb:Hp} {kb nb rb kp o:Nat} {l0:List Value} {U A V n:Int} (hl0:∀j,j<3->l0[j]?=[Value.int .i64 U,.int .i64 A,.int .i64 V][j]?) (ho:3<=o) (hlen:o+3<l0.length) (h3:l0[o+3]?=some (.slice none 0 0)) (kbd:KB U A V) (n1:1<=n) (n2:n<=16)
 (s:Sep [noHp.set kp (.cells l0.toArray 173 (0,0)),pb,noHp.set rb (.cells #[.pointer (some ⟨kp,o,none⟩)] 261 (0,0)),q] h) (h1:q kb=some (.cells #[.pointer (some ⟨kp,0,none⟩)] 50 (0,0))) (h2:q nb=some (.cells #[n] 3 (0,0))):
 al P_ G 151 #[.pointer (some ⟨kb,0,none⟩),.pointer (some ⟨nb,0,none⟩),.pointer (some ⟨rb,0,none⟩)] h (fun v h'=>v = .tuple #[]/\∃ip v',Slc icC 3 ip v' (ls U A V n)/\
  Sep [noHp.set kp (.cells (l0.set (o+3) v').toArray 173 (0,0)),ip,pb,noHp.set rb (.cells #[.pointer (some ⟨kp,o,none⟩)] 261 (0,0)),q] h'/\Dis G h'):=by
 refine al.assume fun d=>as0 (by simp) ?_
 have hnU:1*1<=n*U:=Int.mul_le_mul n1 kbd.u1 (by omega) (by omega)
 have hnU2:n*U<=16*1000:=Int.mul_le_mul n2 kbd.u2 (by have:=kbd.u1;omega) (by omega)
 have c1:af G h ⟨kb,0,none⟩=some (.pointer (some ⟨kp,0,none⟩)):=by rw [aj (ai (s.at 3 rfl h1))];rfl
 have c2:af G h ⟨nb,0,none⟩=some (.int .i64 n):=by rw [aj (ai (s.at 3 rfl h2))];rfl
 have c3:af G h ⟨kp,0,none⟩=some (.int .i64 U):=by rw [aj (ai (s.at 0 rfl ag))];exact hl0 0 (by decide)
 unfold S151
 simp (disch:=first|decide|omega) only [Ir,c1,c2,c3]
 refine T8.mono ?_
 rintro _ h4 ⟨b1,b2,b3,b4,b5,rfl,s4,d4⟩
 intro y l oo hl gl hoo hy
 rw [aa3]
 have yl:=N3 (kp:=kp) (o:=o) (rb:=rb) (l0:=l0) (pb:=pb) gl hoo hlen (by simp (disch:=decide) only [Ir]) hy
 have hself:l0.set (o+3) (.slice none 0 0)=l0:=by
  apply List.ext_getElem?
  intro i
  by_cases hi:o+3=i
  . subst hi;rw [List.getElem?_set_self hlen,h3]
  . rw [List.getElem?_set_ne hi]
 have s5:Sep [noHp.set l (oo none),noHp.set b3 (.cells #[(0:Int)] 3 (0,0)),noHp.set b4 (.cells #[(0:Int)] 3 (0,0)),noHp.set b1 (.cells #[.pointer (some ⟨kp,0,none⟩)] 50 (0,0)),noHp.set b2 (.cells #[.bool false] 4 (0,0)),noHp.set b5 (.cells #[.int .i64 (n*U)] 3 (0,0)),
  noHp.set kp (.cells l0.toArray 173 (0,0)),pb,noHp.set rb (.cells #[.pointer (some ⟨kp,o,none⟩)] 261 (0,0)),q] (h4.set l (oo none)):=
  (((s4.pick 5 rfl rfl).open s).new (o:=oo none) hl).sel [0,5,6,7,8,9,1,2,3,4] (by decide) rfl
 have d5:Dis G (h4.set l (oo none)):=d4.set gl
 obtain ⟨a,s6,sa⟩:=Sep.pack [_,_,_,_,_] (s5.none.sel (L':=[noHp.set kp (.cells l0.toArray 173 (0,0)),noHp,pb,noHp.set rb (.cells #[.pointer (some ⟨kp,o,none⟩)] 261 (0,0)),noHp.set l (oo none),noHp.set b1 (.cells #[.pointer (some ⟨kp,0,none⟩)] 50 (0,0)),noHp.set b2 (.cells #[.bool false] 4 (0,0)),noHp.set b5 (.cells #[.int .i64 (n*U)] 3 (0,0)),q,noHp.set b3 (.cells #[(0:Int)] 3 (0,0)),noHp.set b4 (.cells #[(0:Int)] 3 (0,0))]) [7,0,8,9,1,4,5,6,10,2,3] (by decide) rfl)
 obtain ⟨Q,s7,sQ⟩:=Sep.pack [_,_,_,_] (s6.sel (L':=[noHp.set b1 (.cells #[.pointer (some ⟨kp,0,none⟩)] 50 (0,0)),noHp.set b2 (.cells #[.bool false] 4 (0,0)),noHp.set b5 (.cells #[.int .i64 (n*U)] 3 (0,0)),q,a,noHp.set b3 (.cells #[(0:Int)] 3 (0,0)),noHp.set b4 (.cells #[(0:Int)] 3 (0,0))]) [1,2,3,4,0,5,6] (by decide) rfl)
 refine (Qj (kp:=kp) yl (fun L a h=>h.kh ho hl0) kbd (a:=a) (q:=Q) ⟨noHp,.slice none 0 0,Slc.nil,by rw [hself];exact sa⟩ (s7.sel [1,2,3,0] (by decide) rfl) (sQ.at 0 rfl ag) (sQ.at 1 rfl ag) (sQ.at 2 rfl ag) (by omega) (by omega)).mono ?_
 rintro _ h8 ⟨a',s8,d8,ip,v',sl,sa'⟩
 have hpl:prof A V (n*U) (n*U).toNat 0 0=ls U A V n:=by unfold ls;rw [if_pos ⟨n1,n2⟩]
 rw [hpl]at sl
 have s9:Sep [noHp.set kp (.cells (l0.set (o+3) v').toArray 173 (0,0)),ip,pb,noHp.set rb (.cells #[.pointer (some ⟨kp,o,none⟩)] 261 (0,0)),q,noHp.set l (oo none)] h8:=
  (((s8.open sa').pick 5 rfl rfl).open sQ).sel [4,5,6,7,3,8] (by decide) rfl
 obtain ⟨h9,s10,t10⟩:=Sep.pack [_,_,_,_,_] s9
 refine ⟨h9,s10.in 0 rfl,?_,.inl ⟨s10.at 1 rfl ag,?_⟩⟩
 . rcases s10.apart (b:=noHp.set l (oo none)) (by simp) l with e|e
   . exact e
   . rw [ag]at e;cases e
 try simp only [Ir]
 exact ⟨ip,v',sl,t10,fun b o e=>d8 b o (s10.in 0 rfl _ _ e)⟩
def jy:=jq bC (jq (jq (jq (jq @al261 @and_true) (jq @Tu (jq @kv @px))) (jq (jq @cf123 (jq @cf150 @Xp)) (jq @fa170_0 (jq @fa170_1 @fa173_0)))) (jq (jq (jq @ao3 (jq @Hk @ld261)) (jq @ld3 (jq @ld3p @ld50))) (jq (jq @ld50p (jq @Rq @ju)) (jq @ik (jq @jt @true_and)))))
abbrev RunE:=Bool × Option Addr × Nat × Nat
def runC:Cod RunE:=⟨4,fun x=>[.int .u32 (if x.1=true then 1 else 0),.int .i32 0,.int .u32 0,.slice x.2.1 x.2.2.1 x.2.2.2],fun _=>rfl,fun _ v hv=>by simp at hv;rcases hv with rfl|rfl|rfl|rfl<;>rfl⟩
def my (U A V:Int) (R:List RunE):List Value := .int .i64 U :: .int .i64 A :: .int .i64 V::runC.rows R
def KP (a:Hp) (kp:Nat) (U A V:Int):Prop:=KB U A V/\∃(R:List RunE) (pb:Hp),R.length=17/\Sep [noHp.set kp (.cells (my U A V R).toArray 173 (0,0)),pb] a/\
 ∀(i:Nat) (x:RunE),R[i]?=some x->(x.1=true->Slc icC 3 pb (.slice x.2.1 x.2.2.1 x.2.2.2) (ls U A V i))/\(x.1=false->x.2=(none,0,0))
theorem kcell {U A V:Int} {R:List RunE} {i j:Nat} {x:RunE} (h:R[i]?=some x) (hj:j<4):(my U A V R)[i*4+3+j]?=(runC.enc x)[j]?:=by
 unfold my
 rw [show i*4+3+j=(i*4+j)+1+1+1 by omega,List.getElem?_cons_succ,List.getElem?_cons_succ,List.getElem?_cons_succ]
 have:=runC.rows_get (t:=[]) (j:=j) h hj
 rw [List.append_nil]at this
 exact this
theorem kdone {U A V:Int} {R:List RunE} {i:Nat} {x:RunE} (h:R[i]?=some x) {s:Option Addr} {n c:Nat}:
 ((((my U A V R).set (i*4+3+1) (.int .i32 1)).set (i*4+3+3) (.slice s n c)).set (i*4+3) (.int .u32 1)).set (i*4+3+1) (.int .i32 0)=my U A V (R.set i (true,s,n,c)):=by
 have hil:i<R.length:=(List.getElem?_eq_some_iff.1 h).1
 have c2:(runC.rows R)[i*4+2]?=some (.int .u32 0):=by
  have:=runC.rows_get (t:=[]) (j:=2) h (by decide)
  rw [List.append_nil]at this
  exact this
 have hrl:(runC.rows R).length=R.length*4:=by rw [runC.rows_length];rfl
 have hp:=runC.rows_put (t:=[]) (x:=((true,s,n,c):RunE)) hil
 rw [List.append_nil,List.append_nil]at hp
 unfold my
 simp only [show i*4+3+1=(i*4+1)+1+1+1 by omega,show i*4+3+3=(i*4+3)+1+1+1 by omega,show i*4+3=(i*4)+1+1+1 by omega,List.set_cons_succ]
 rw [<- hp]
 simp only [List.cons.injEq,true_and]
 have e:putL (runC.rows R) (i*runC.n) (runC.enc (true,s,n,c))=((((runC.rows R).set (i*4) (.int .u32 1)).set (i*4+1) (.int .i32 0)).set (i*4+1+1) (.int .u32 0)).set (i*4+1+1+1) (.slice s n c):=rfl
 rw [e]
 apply List.ext_getElem?
 intro j
 simp only [List.getElem?_set,List.length_set]
 rw [hrl]
 repeat' split
 all_goals first
  |rfl
  |(exfalso;omega)
  |(rw [<- ‹i*4+1+1=j›];exact c2)
theorem un17:P_.underlying 171=some (.array 17 170):=by kernel_rfl
theorem szrun:(P_.info? 170).map (·.size)=some 4:=by kernel_rfl
theorem Re {G h a:Hp} {R:List Hp} {kp:Nat} {U A V n:Int} (k:KP a kp U A V) (s:Sep (a::R) h) (hn : -9223372036854775808<=n/\n<=9223372036854775807):
 al P_ G 123 #[.pointer (some ⟨kp,0,none⟩),n] h (fun v h'=>∃a' sa cap,v = .slice sa (ls U A V n).length cap/\KP a' kp U A V/\Sep (a'::R) h'/\Dis G h'):=by
 obtain ⟨kbd,L,pb,hL,sp,hr⟩:=id k
 have kbd':=kbd
 obtain ⟨ku1,ku2,ka1,ka2,kv1,kv2⟩:=kbd
 refine al.assume fun d=>au1 (by simp) ?_
 unfold S123
 simp only [jy]
 intro x hx gx y hy gy
 have hxy:x≠y:=jd hy
 have s1:=(s.open sp).new (o := .cells #[.pointer (some ⟨kp,0,none⟩)] 50 (0,0)) hx
 have s2:=s1.new (o := .cells #[n] 3 (0,0)) hy
 have d2:=(d.set (o := .cells #[.pointer (some ⟨kp,0,none⟩)] 50 (0,0)) gx).set (o := .cells #[n] 3 (0,0)) gy
 generalize Hp.set (Hp.set h x _) y _=h2 at s2 d2 ⊢
 have cx:af G h2 ⟨x,0,none⟩=some (.pointer (some ⟨kp,0,none⟩)):=by rw [aj (ai (s2.at 1 rfl ag))];rfl
 have cy:af G h2 ⟨y,0,none⟩=some (.int .i64 n):=by rw [aj (ai (s2.at 0 rfl ag))];rfl
 have c0:af G h2 ⟨kp,0,none⟩=some (.int .i64 U):=by rw [aj (ai (s2.at 2 rfl ag))];rfl
 simp only [jy,cx,cy,c0,i8 (show ¬U<1 by omega)]
 have out:¬(1<=n/\n<=16)->∃a' sa cap,(.slice none 0 0:Value) = .slice sa (ls U A V n).length cap/\KP a' kp U A V/\Sep (a'::R) h2/\Dis G h2:=fun hno=>by
  have e:ls U A V n=[]:=by unfold ls;rw [if_neg hno]
  rw [e]
  obtain ⟨a',t1,t2⟩:=Sep.pack [_,_] (s2.drop.drop)
  exact ⟨a',none,0,rfl,⟨kbd',L,pb,hL,t2,hr⟩,t1,d2⟩
 by_cases h1:n<1
 . simp only [jy,je h1,dw]
   exact out (by omega)
 by_cases h16:n>16
 . simp only [jy,cy,i8 h1,je h16]
   exact out (by omega)
 simp only [jy,cy,i8 h1,i8 h16]
 unfold Y5
 simp (disch:=decide) only [jy,cx,cy,Ho un17 szrun (show 0<=n by omega) (show n<(17:Nat)by omega)]
 intro z hz gz
 have s3:=s2.new (o := .cells #[.pointer (some ⟨kp,n.toNat*4+3,none⟩)] 261 (0,0)) hz
 have d3:=d2.set (o := .cells #[.pointer (some ⟨kp,n.toNat*4+3,none⟩)] 261 (0,0)) gz
 rw [show 3+n.toNat*4=n.toNat*4+3 by omega]
 rw [bz sz261 rfl ag (by simp),set_set]
 try simp only [jy,List.set_cons_zero]
 generalize Hp.set h2 z _=h3 at s3 d3 ⊢
 have cz:af G h3 ⟨z,0,none⟩=some (.pointer (some ⟨kp,n.toNat*4+3,none⟩)):=by rw [aj (ai (s3.at 0 rfl ag))];rfl
 try simp (disch:=first|decide|omega) only [jy,Nat.reduceAdd,Nat.reduceMul,cz]
 obtain ⟨e,he⟩:∃e,L[n.toNat]?=some e:=⟨_,List.getElem?_eq_getElem (by omega)⟩
 obtain ⟨r1,r2⟩:=hr _ _ he
 have hni:((n.toNat:Nat):Int)=n:=by omega
 have hkp:h3 kp=some (.cells (my U A V L).toArray 173 (0,0)):=s3.at 3 rfl ag
 cases hd:e.1 with
 |true=>
  have sl:=r1 hd
  rw [hni]at sl
  refine (On.aa5 hkp (by rw [kcell he (j:=0) (by decide)];simp [runC,hd])).mono ?_
  rintro _ h3 ⟨rfl,rfl⟩
  have c3:af G h3 ⟨kp,n.toNat*4+3+3,none⟩=some (.slice e.2.1 e.2.2.1 e.2.2.2):=by
   rw [aj (ai hkp)]
   exact kcell he (j:=3) (by decide)
  try simp only [jy,cz,c3]
  obtain ⟨sa,cap,e2,_⟩:=sl.len (by decide)
  obtain ⟨a',t1,t2⟩:=Sep.pack [_,_] (s3.drop.drop.drop)
  exact ⟨a',sa,cap,e2,⟨kbd',L,pb,hL,t2,hr⟩,t1,d3⟩
 |false=>
  have sl:=r2 hd
  obtain ⟨q,s4,sq⟩:=Sep.rest [_,_,_] ((s3.pick 3 rfl rfl).pick 4 rfl rfl).swap
  have hcell:∀j,j<4->(my U A V L)[n.toNat*4+3+j]?=(runC.enc e)[j]?:=fun j hj=>kcell he hj
  have hlen:(my U A V L).length=71:=by unfold my;simp only [List.length_cons];rw [runC.rows_length,hL];rfl
  have c0':=hcell 0 (by decide)
  have c1':=hcell 1 (by decide)
  have c3':=hcell 3 (by decide)
  have s5:=s4.put (o := .cells ((my U A V L).set (n.toNat*4+3+1) (.int .i32 1)).toArray 173 (0,0)) ag
  rw [set_set]at s5
  have hpl:=(N4 (G:=G) (kp:=kp) (o:=n.toNat*4+3) (l0:=(my U A V L).set (n.toNat*4+3+1) (.int .i32 1)) (n:=n) (fun j hj=>by rw [List.getElem?_set_ne (by omega)];unfold my;rcases (show j=0\/j=1\/j=2 by omega)with rfl|rfl|rfl<;>rfl) (by omega) (by rw [List.length_set,hlen];omega)
   (by rw [List.getElem?_set_ne (by omega),c3'];simp [runC,sl]) kbd' (by omega) (by omega) s5 (sq.at 1 rfl ag) (sq.at 0 rfl ag))
  refine (On.Um (Q:=fun l' h'=>∃ip v',l'=((my U A V L).set (n.toNat*4+3+1) (.int .i32 1)).set (n.toNat*4+3+3) v'/\Slc icC 3 ip v' (ls U A V n)/\Sep [noHp.set kp (.cells l'.toArray 173 (0,0)),ip,pb,noHp.set z (.cells #[.pointer (some ⟨kp,n.toNat*4+3,none⟩)] 261 (0,0)),q] h'/\Dis G h')
   hkp (by rw [c0'];simp [runC,hd]) (by rw [c1'];rfl) (fun args w=>by kernel_rfl) (hpl.mono ?_)).mono ?_
  . rintro _ h' ⟨rfl,ip,v',sl',s6,d6⟩
    refine ⟨rfl,_,s6.at 0 rfl ag,?_,?_,ip,v',rfl,sl',s6,d6⟩
    . rw [List.getElem?_set_ne (by omega),List.getElem?_set_ne (by omega),c0'];simp [runC,hd]
    . rw [List.getElem?_set_ne (by omega),List.getElem?_set_self (by rw [hlen];omega)]
  . rintro _ h4 ⟨rfl,l',h1,⟨ip,v',rfl,sl',s6,d6⟩,hk1,rfl⟩
    obtain ⟨sa,cap,rfl,hcap⟩:=sl'.len (by decide)
    rw [kdone he]
    have s7:=s6.put (o := .cells (my U A V (L.set n.toNat (true,sa,(ls U A V n).length,cap))).toArray 173 (0,0)) ag
    rw [set_set]at s7
    have d7:=d6.set (o := .cells (my U A V (L.set n.toNat (true,sa,(ls U A V n).length,cap))).toArray 173 (0,0)) (d6 _ _ hk1)
    generalize Hp.set h1 kp _=h7 at s7 d7 ⊢
    have cz7:af G h7 ⟨z,0,none⟩=some (.pointer (some ⟨kp,n.toNat*4+3,none⟩)):=by rw [aj (ai (s7.at 3 rfl ag))];rfl
    have he7:(L.set n.toNat (true,sa,(ls U A V n).length,cap))[n.toNat]?=some (true,sa,(ls U A V n).length,cap):=by rw [List.getElem?_set_self (by omega)]
    have c37:af G h7 ⟨kp,n.toNat*4+3+3,none⟩=some (.slice sa (ls U A V n).length cap):=by
     rw [aj (ai (s7.at 0 rfl ag))]
     exact kcell he7 (j:=3) (by decide)
    try simp only [jy,cz7,c37]
    have s8:=Sep.unrest [_,_,_,_] s7 sq
    obtain ⟨pb',s9,t9⟩:=Sep.pack [_,_] (((s8.pick 1 rfl rfl).pick 2 rfl rfl).swap)
    obtain ⟨a',s10,t10⟩:=Sep.pack [_,_] s9.swap
    refine ⟨a',sa,cap,rfl,⟨kbd',_,pb',by rw [List.length_set];exact hL,t10,fun i u hu=>?_⟩,s10.swap.drop.swap.drop.swap.drop,d7⟩
    by_cases hi:n.toNat=i
    . subst hi
      rw [he7]at hu
      cases hu
      refine ⟨fun _=>?_,fun h=>by cases h⟩
      rw [hni]
      exact sl'.le (t9.in 0 rfl)
    . rw [List.getElem?_set_ne hi]at hu
      obtain ⟨q1,q2⟩:=hr i u hu
      exact ⟨fun h=>(q1 h).le (t9.in 1 rfl),q2⟩
theorem Zo {G h a:Hp} {R:List Hp} {kp:Nat} {U A V n:Int} (k:KP a kp U A V) (s:Sep (a::R) h) (hn : -9223372036854775808<=n/\n<=9223372036854775807):
 al P_ G 72 #[.pointer (some ⟨kp,0,none⟩),n] h (fun v h'=>v = .int .i64 (Gh U A V n)/\∃a',KP a' kp U A V/\Sep (a'::R) h'/\Dis G h'):=by
 refine enter72 (by simp) ?_
 unfold S72
 simp only [jy]
 refine (Re k s hn).mono ?_
 rintro _ h1 ⟨a',sa,cap,rfl,k',s',d'⟩
 simp only [jy]
 exact ⟨rfl,a',k',s',d'⟩
def Ry (U A V:Int):List RunE:=List.replicate 17 (false,none,0,0)
theorem bdkin {G h:Hp} {U A V:Int} {K:VK}:wpH P_ G (Instr.build 173 #[(0,.int .i64 U),(1,.int .i64 A),(2,.int .i64 V)]) h K=K (.agg (my U A V (Ry U A V)).toArray) h:=by kernel_rfl
theorem Ru {G h:Hp} {U A V:Int}:al P_ G 29 #[U,A,V] h (fun v h'=>
 (KB U A V/\∃a kp,v = .tuple #[.pointer (some ⟨kp,0,none⟩),(0:Int)]/\KP a kp U A V/\Sep [a,h] h'/\Dis G h')\/(¬KB U A V/\v = .tuple #[.pointer none,(1:Int)]/\h'=h)):=by
 refine al.assume fun d=>enter29 (by simp) ?_
 unfold S29
 simp only [jy]
 refine b8 (fun m r h'=>∃i:Nat,m=3-i/\i<=3/\h'=h/\r 0 = .int .i64 U/\r 1 = .int .i64 A/\r 2 = .int .i64 V/\r 13 = .agg #[U,A,V]/\r 14 = .int .i64 i/\∀j x,j<i->[U,A,V][j]?=some x->1<=x/\x<=1000) ?_ (m:=3)
  ⟨0,rfl,by omega,rfl,by simp (disch:=decide) only [jy],by simp (disch:=decide) only [jy],by simp (disch:=decide) only [jy],by simp (disch:=decide) only [jy],by simp only [jy];rfl,fun j x hj=>by omega⟩
 rintro m r h' ⟨i,rfl,hi,rfl,g0,g1,g2,g13,g14,hall⟩ X hX
 unfold aD2
 simp only [jy,g14]
 by_cases h3:i<3
 . rw [je (show (i:Int)<3 by omega)]
   simp only [jy]
   obtain ⟨x,hx⟩:∃x,[U,A,V][i]?=some x:=⟨_,List.getElem?_eq_getElem (by simpa using h3)⟩
   have hix:∀(K:Value->Hp->Prop),wpH P_ G (Instr.index 155 (.agg #[U,A,V]) (.int .i64 (i:Int))) h' K=K x h':=by
    intro K
    rcases (show i=0\/i=1\/i=2 by omega)with rfl|rfl|rfl<;>cases hx<;>kernel_rfl
   have hno:¬(1<=x/\x<=1000)->¬KB U A V:=fun hno kb=>by
    obtain ⟨q1,q2,q3,q4,q5,q6⟩:=kb
    rcases (show i=0\/i=1\/i=2 by omega)with rfl|rfl|rfl<;>cases hx<;>omega
   unfold Nj
   simp (disch:=decide) only [jy,g13,g14,hix]
   by_cases hx1:x<1
   . rw [je hx1]
     simp only [jy,dw]
     exact .inr (hno (by omega))
   . rw [i8 hx1]
     simp only [jy]
     by_cases hx2:x>1000
     . rw [je hx2]
       simp only [jy]
       exact .inr (hno (by omega))
     . rw [i8 hx2]
       simp only [jy]
       unfold Ni
       simp (disch:=first|decide|omega) only [jy,g14]
       refine hX (3-(i+1)) _ _ (by omega) ⟨i+1,rfl,h3,rfl,by simp (disch:=decide) only [jy,g0],by simp (disch:=decide) only [jy,g1],by simp (disch:=decide) only [jy,g2],by simp (disch:=decide) only [jy,g13],by simp only [jy];rfl,fun j y hj hy=>?_⟩
       rcases (show j<i\/j=i by omega)with hj|rfl
       . exact hall j y hj hy
       . rw [hx]at hy;cases hy;omega
 . obtain rfl:i=3:=by omega
   rw [i8 (show ¬((3:Nat):Int)<3 by omega)]
   have kb:KB U A V:=by
    have a0:=hall 0 U (by omega) rfl
    have a1:=hall 1 A (by omega) rfl
    have a2:=hall 2 V (by omega) rfl
    exact ⟨a0.1,a0.2,a1.1,a1.2,a2.1,a2.2⟩
   simp only [jy]
   unfold aD3
   simp (disch:=decide) only [jy,g0,g1,g2,bdkin]
   intro x hx gx
   refine .inl ⟨kb,noHp.set x (.cells (my U A V (Ry U A V)).toArray 173 (0,0)),x,rfl,⟨kb,Ry U A V,noHp,by simp [Ry],Sep.one.none.swap,fun i e he=>?_⟩,Sep.one.new hx,d.set gx⟩
   have:e=(false,none,0,0):=by
    unfold Ry at he
    rw [List.getElem?_replicate]at he
    split at he
    . exact (Option.some.inj he).symm
    . cases he
   subst this
   exact ⟨fun h=>(by cases h),fun _=>rfl⟩
end Go.Proofs.YtfflipnhffknnaaGreatDoor
end
section
namespace Go.Proofs.YtfflipnhffknnaaGreatDoor
open Go Go.HL
def bRpB:=jq bC (jq (jq (jq (jq (jq @Bool.and_true @Bool.true_and) (jq @Ip @Df)) (jq (jq @Ik @cf159) (jq @cf40 (jq @cf60 @cf82)))) (jq (jq (jq @cf83 @cf84) (jq @cf85 @Xq)) (jq (jq @H7 @O4) (jq @O3 (jq @H6 @Xa))))) (jq (jq (jq (jq @Eh @Eg) (jq @wd @H4)) (jq (jq @ld22 @W0) (jq @ld23 (jq @ld23p @ld26)))) (jq (jq (jq @Hj @ld28) (jq @xj (jq @ld3 @ld30))) (jq (jq @tw @ld4) (jq @ln22 (jq @ln23 @true_and))))))
theorem boxed {G h h1:Hp} {x:Nat} {o:Obj} (e:h.set x o=h1) (hx:h x=none) (d:Dis G h) (gx:G x=none):h.le h1/\Dis G h1/\h1 x=some o:=by
 subst e
 exact ⟨di hx,d.set gx,ag⟩
theorem sd {G h:Hp} {v:Value} {C:Conf} {c:Cell} (hv:CV G h v C) (hL:C.bl.length<=100000000000000):al P_ G 60 #[v,vf c] h (fun u h'=>u = .bool (pq C c)/\h'=h):=by
 have hv0:=hv
 obtain ⟨ab,cb,ap,cp,ar,cr,az,cs,rfl,ca⟩:=hv
 refine al.assume fun d=>quietly (enter60 (by simp) ?_)
 unfold S60
 simp only [bRpB]
 intro x hx gx
 generalize e1:Hp.set h x _=h1
 obtain ⟨l1,d1,b1⟩:=boxed e1 hx d gx
 intro y hy gy
 generalize e2:Hp.set h1 y _=h2
 obtain ⟨l2,d2,b2⟩:=boxed e2 hy d1 gy
 have cx:∀k,af G h2 ⟨x,k,none⟩=_:=fun k=>aj (ai (l2 _ _ b1))
 have cy:∀k,af G h2 ⟨y,k,none⟩=_:=fun k=>aj (ai b2)
 have ca2:=ca.up (l1.trans l2) d2
 try simp only [bRpB,cx,cy]
 refine (Oq ca2.cv).mono ?_
 rintro _ _ ⟨rfl,rfl⟩
 unfold pq
 cases hc:inB C c with
 |false=>simp only [bRpB,hc];exact ⟨rfl,l1.trans l2⟩
 |true=>
 simp only [bRpB,hc,cx,cy]
 refine (qo ca2.bl hL).mono ?_
 rintro _ _ ⟨rfl,rfl⟩
 simp only [bRpB]
 refine ⟨?_,l1.trans l2⟩
 congr 1
 rw [Bool.eq_iff_iff]
 simp
theorem Uf {G h:Hp} {v:Value} {C:Conf} {c:Cell} (hv:CV G h v C) (hL:C.po.length<=100000000000000):al P_ G 159 #[v,vf c] h (fun u h'=>u = .int .i64 (Ha C c)/\h'=h):=by
 obtain ⟨ab,cb,ap,cp,ar,cr,az,cs,rfl,ca⟩:=hv
 refine al.assume fun d=>quietly (ar3 (by simp) ?_)
 unfold S159
 simp only [bRpB]
 intro x hx gx
 generalize e1:Hp.set h x _=h1
 obtain ⟨l1,d1,b1⟩:=boxed e1 hx d gx
 intro y hy gy
 generalize e2:Hp.set h1 y _=h2
 obtain ⟨l2,d2,b2⟩:=boxed e2 hy d1 gy
 have cx:∀k,af G h2 ⟨x,k,none⟩=_:=fun k=>aj (ai (l2 _ _ b1))
 have cy:∀k,af G h2 ⟨y,k,none⟩=_:=fun k=>aj (ai b2)
 have ca2:=ca.up (l1.trans l2) d2
 refine b8 (fun m r h3=>∃i:Nat,m=C.po.length-i/\i<=C.po.length/\r 2 = .pointer (some ⟨x,0,none⟩)/\r 3 = .pointer (some ⟨y,0,none⟩)/\r 5 = .int .i64 i/\c∉C.po.take i/\h3=h2) ?_
  (m:=C.po.length) ⟨0,rfl,Nat.zero_le _,by simp (disch:=decide) only [bRpB],by simp (disch:=decide) only [bRpB],by simp only [bRpB]<;>rfl,by simp,rfl⟩
 rintro m r h3 ⟨i,rfl,hi,g2,g3,g5,hni,rfl⟩ X HX
 unfold Yc
 simp only [bRpB,g2,g5,cx]
 refine bm (fun hlt=>?_) (fun hge=>?_)
 . have hlt':i<C.po.length:=by omega
   obtain ⟨z,hz⟩:∃x,C.po[i]?=some x:=⟨_,List.getElem?_eq_getElem hlt'⟩
   obtain ⟨b,o,rfl,y0,y1⟩:=Sees.cell ca2.po hz
   have htk:C.po.take (i+1)=C.po.take i++[z]:=by rw [List.take_add_one,hz];rfl
   unfold Ja
   simp (disch:=decide) only [bRpB,g2,g5,g3,cx,cy,sn (Int.natCast_nonneg i) hlt,y0,y1,zi]
   cases hb:(z==c)with
   |true=>
    simp only [bRpB,g5]
    have hzc:z=c:=by simpa using hb
    subst hzc
    refine ⟨?_,l1.trans l2⟩
    have hm:z∈C.po:=List.mem_of_getElem? hz
    unfold Ha
    rw [if_pos hm]
    congr 1
    have h1:C.po=C.po.take i++z::C.po.drop (i+1):=by
     have:=List.getElem?_eq_some_iff.1 hz
     conv=>lhs;rw [<- List.take_append_drop i C.po,List.drop_eq_getElem_cons hlt',this.2]
    rw [h1,List.idxOf_append,if_neg hni,List.idxOf_cons_self,List.length_take]
    omega
   |false=>
    simp only [bRpB]
    unfold I9
    simp (disch:=first|decide|omega) only [bRpB,g5]
    refine HX (C.po.length-(i+1)) _ _ (by omega) ⟨i+1,rfl,hlt',by simp (disch:=decide) only [bRpB,g2],by simp (disch:=decide) only [bRpB,g3],by simp only [bRpB]<;>rfl,?_,rfl⟩
    rw [htk,List.mem_append,List.mem_singleton]
    rintro (h|rfl)
    . exact hni h
    . simp at hb
 . obtain rfl:i=C.po.length:=by omega
   rw [List.take_of_length_le (Nat.le_refl _)]at hni
   show Py _ _ _ _
   unfold Py
   simp only [bRpB]
   refine ⟨?_,l1.trans l2⟩
   unfold Ha
   rw [if_neg hni]
theorem yj {G h:Hp} {p:Pose}:al P_ G 40 #[kz p] h (fun u h'=>∃b,u = .slice (some ⟨b,0,none⟩) 2 2/\h b=none/\G b=none/\h'=h.set b (.cells #[p.x,p.y,(east p).1,(east p).2] 28 (0,0))):=by
 refine al.assume fun d=>al.less (enter40 (by simp) (R:=fun u h'=>∃b,u = .slice (some ⟨b,0,none⟩) 2 2/\h b=none/\G b=none/\(h.set b (.cells #[p.x,p.y,(east p).1,(east p).2] 28 (0,0))).le h') ?_) ?_
 rotate_left
 . rintro v h' ⟨b,e,h1,h2,h3⟩
   exact ⟨_,h3,b,e,h1,h2,rfl⟩
 unfold S40
 simp only [bRpB]
 intro x hx gx
 generalize e1:Hp.set h x _=h1
 obtain ⟨l1,d1,b1⟩:=boxed e1 hx d gx
 have cx:∀k,af G h1 ⟨x,k,none⟩=_:=fun k=>aj (ai b1)
 try simp (disch:=first|decide|omega) only [bRpB,Nat.reduceAdd,Nat.reduceMul,cx]
 unfold east wr
 cases hd:p.d with
 |true=>
  try simp only [bRpB,cx]
  intro b hb gb
  exact ⟨b,rfl,l1.none hb,gb,l1.both⟩
 |false=>
  try simp only [bRpB,cx]
  unfold aB7
  simp (disch:=decide) only [bRpB,cx]
  intro b hb gb
  exact ⟨b,rfl,l1.none hb,gb,l1.both⟩
theorem Ui {G h:Hp} {v:Value} {C:Conf} {p:Pose} (hv:CV G h v C) (hL:C.bl.length<=100000000000000):al P_ G 22 #[v,kz p] h (fun u h'=>u = .bool (fq C p)/\h'=h):=by
 obtain ⟨ab,cb,ap,cp,ar,cr,az,cs,rfl,ca⟩:=hv
 refine al.assume fun d=>quietly (enter22 (by simp) ?_)
 unfold S22
 simp only [bRpB]
 intro x hx gx
 generalize e1:Hp.set h x _=h1
 obtain ⟨l1,d1,b1⟩:=boxed e1 hx d gx
 intro y hy gy
 generalize e2:Hp.set h1 y _=h2
 obtain ⟨l2,d2,b2⟩:=boxed e2 hy d1 gy
 have cy:∀k,af G h2 ⟨y,k,none⟩=_:=fun k=>aj (ai b2)
 try simp (disch:=first|decide|omega) only [bRpB,Nat.reduceAdd,Nat.reduceMul,cy]
 refine yj.mono ?_
 rintro _ _ ⟨b,rfl,hb,gb,rfl⟩
 generalize e3:Hp.set h2 b _=h3
 obtain ⟨l3,d3,b3⟩:=boxed e3 hb d2 gb
 have L:=(l1.trans l2).trans l3
 have cx:∀k,af G h3 ⟨x,k,none⟩=_:=fun k=>aj (ai (l3 _ _ (l2 _ _ b1)))
 have cb3:∀k,af G h3 ⟨b,k,none⟩=_:=fun k=>aj (ai b3)
 have ca3:=ca.up L d3
 try simp only [bRpB,cx,cb3,sn (by decide:(0:Int)<=0) (by decide:(0:Int)<(2:Nat)),Int.toNat_zero,Nat.zero_mul]
 refine (sd (c:=(p.x,p.y)) ca3.cv hL).mono ?_
 rintro _ _ ⟨rfl,rfl⟩
 unfold fq
 cases hc:pq C (p.x,p.y)with
 |false=>simp only [bRpB,hc];exact ⟨rfl,L⟩
 |true=>
 try simp only [bRpB,Nat.reduceAdd,cx,cb3,sn (by decide:(0:Int)<=1) (by decide:(1:Int)<(2:Nat)),Int.toNat_one,Nat.one_mul]
 refine (sd (c:=east p) ca3.cv hL).mono ?_
 rintro _ _ ⟨rfl,rfl⟩
 try simp only [bRpB]
 first|exact L|exact ⟨by simp,L⟩
theorem Ct {G h:Hp} {v:Value} {C:Conf} {c:Cell} (hv:CV G h v C) (hL:C.bl.length<=100000000000000):al P_ G 85 #[v,vf c] h (fun u h'=>u = .bool (lg C c)/\h'=h):=by
 obtain ⟨ab,cb,ap,cp,ar,cr,az,cs,rfl,ca⟩:=hv
 refine al.assume fun d=>quietly (enter85 (by simp) ?_)
 unfold S85
 simp only [bRpB]
 intro x hx gx
 generalize e1:Hp.set h x _=h1
 obtain ⟨l1,d1,b1⟩:=boxed e1 hx d gx
 intro y hy gy
 generalize e2:Hp.set h1 y _=h2
 obtain ⟨l2,d2,b2⟩:=boxed e2 hy d1 gy
 have L:=l1.trans l2
 have cx:∀k,af G h2 ⟨x,k,none⟩=_:=fun k=>aj (ai (l2 _ _ b1))
 have cy:∀k,af G h2 ⟨y,k,none⟩=_:=fun k=>aj (ai b2)
 have ca2:=ca.up L d2
 try simp only [bRpB,cx,cy]
 refine (sd (c:=(IntKind.i64.wrap (c.1+1),c.2)) ca2.cv hL).mono ?_
 rintro _ _ ⟨rfl,rfl⟩
 unfold lg wr
 cases hc:pq C (IntKind.i64.wrap (c.1+1),c.2)with
 |true=>simp only [bRpB,hc];first|exact L|exact ⟨rfl,L⟩
 |false=>
 try simp only [bRpB,cx,cy]
 refine (sd (c:=(c.1,IntKind.i64.wrap (c.2+1))) ca2.cv hL).mono ?_
 rintro _ _ ⟨rfl,rfl⟩
 try simp (disch:=first|decide|omega) only [bRpB,Nat.reduceAdd,Nat.reduceMul]
 first|exact L|exact ⟨by simp,L⟩
theorem G3 {G h:Hp} {v:Value} {C:Conf} {c:Cell} (hv:CV G h v C) (hL:C.ro.length<=100000000000000):al P_ G 84 #[v,vf c] h (fun u h'=>u = .bool (rf C c)/\h'=h):=by
 obtain ⟨ab,cb,ap,cp,ar,cr,az,cs,rfl,ca⟩:=hv
 refine al.assume fun d=>quietly (enter84 (by simp) ?_)
 unfold S84
 simp only [bRpB]
 intro x hx gx
 generalize e1:Hp.set h x _=h1
 obtain ⟨l1,d1,b1⟩:=boxed e1 hx d gx
 intro y hy gy
 generalize e2:Hp.set h1 y _=h2
 obtain ⟨l2,d2,b2⟩:=boxed e2 hy d1 gy
 have L:=l1.trans l2
 have b1':=l2 _ _ b1
 have ca2:=ca.up L d2
 refine b8 (fun m r h3=>∃i:Nat,m=C.ro.length-i/\i<=C.ro.length/\r 2 = .pointer (some ⟨x,0,none⟩)/\r 3 = .pointer (some ⟨y,0,none⟩)/\r 5 = .int .i64 i/\((C.ro.take i).any fun p=>decide (((bw p).count c:Int)>0))=false/\h2.le h3/\Dis G h3) ?_
  (m:=C.ro.length) ⟨0,rfl,Nat.zero_le _,by simp (disch:=decide) only [bRpB],by simp (disch:=decide) only [bRpB],by simp only [bRpB]<;>rfl,by simp,Hp.le.refl _,d2⟩
 rintro m r h3 ⟨i,rfl,hi,g2,g3,g5,hni,l3,d3⟩ X HX
 have cx:∀k,af G h3 ⟨x,k,none⟩=_:=fun k=>aj (ai (l3 _ _ b1'))
 unfold az2
 simp only [bRpB,g2,g5,cx]
 refine bm (fun hlt=>?_) (fun hge=>?_)
 . have hlt':i<C.ro.length:=by omega
   obtain ⟨z,hz⟩:∃x,C.ro[i]?=some x:=⟨_,List.getElem?_eq_getElem hlt'⟩
   have ca3:=ca2.up l3 d3
   obtain ⟨b,o,rfl,y0,y1,y2⟩:=Sees.pose ca3.ro hz
   have htk:C.ro.take (i+1)=C.ro.take i++[z]:=by rw [List.take_add_one,hz];rfl
   unfold Mq
   refine ⟨h3,Hp.le.refl _,?_⟩
   simp (disch:=decide) only [bRpB,g2,g5,g3,cx,ix23p (Int.natCast_nonneg i) hlt,y0,y1,y2]
   refine (yj (p:=z)).mono ?_
   rintro _ _ ⟨b',rfl,hb,gb,rfl⟩
   generalize e4:Hp.set h3 b' _=h4
   obtain ⟨l4,d4,b4⟩:=boxed e4 hb d3 gb
   have cy:∀k,af G h3 ⟨y,k,none⟩=_:=fun k=>aj (ai (l3 _ _ b2))
   refine ⟨l4,?_⟩
   try simp only [bRpB,g3,cy]
   refine (qo (L:=bw z) (c:=c) (Sees.row b4 rfl (Nat.le_refl _)) (by simp [bw])).mono ?_
   rintro _ _ ⟨rfl,rfl⟩
   try simp only [bRpB]
   cases hb:decide (((bw z).count c:Int)>0)with
   |true=>
    try simp only [bRpB,hb]
    refine ⟨?_,(L.trans l3).trans l4⟩
    unfold rf
    congr 1
    symm
    rw [List.any_eq_true]
    exact ⟨z,List.mem_of_getElem? hz,hb⟩
   |false=>
    try simp only [bRpB,hb]
    unfold Mp
    simp (disch:=first|decide|omega) only [bRpB,g5]
    refine HX (C.ro.length-(i+1)) _ _ (by omega) ⟨i+1,rfl,hlt',by simp (disch:=decide) only [bRpB,g2],by simp (disch:=decide) only [bRpB,g3],by simp only [bRpB]<;>rfl,?_,l3.trans l4,d4⟩
    rw [htk,List.any_append,hni]
    simp only [List.any_cons,List.any_nil,hb]
    rfl
 . obtain rfl:i=C.ro.length:=by omega
   rw [List.take_of_length_le (Nat.le_refl _)]at hni
   show Vr _ _ _ _
   unfold Vr
   simp only [bRpB]
   refine ⟨?_,L.trans l3⟩
   unfold rf
   rw [hni]
theorem Kf {G h:Hp} {v:Value} {C:Conf} {c:Cell} (hv:CV G h v C) (hL:C.bl.length<=100000000000000) (hP:C.po.length<=100000000000000) (hR:C.ro.length<=100000000000000):al P_ G 133 #[v,vf c] h (fun u h'=>u = .bool (ru C c)/\h'=h):=by
 obtain ⟨ab,cb,ap,cp,ar,cr,az,cs,rfl,ca⟩:=hv
 refine al.assume fun d=>quietly (at4 (by simp) ?_)
 unfold S133
 simp only [bRpB]
 intro x hx gx
 generalize e1:Hp.set h x _=h1
 obtain ⟨l1,d1,b1⟩:=boxed e1 hx d gx
 intro y hy gy
 generalize e2:Hp.set h1 y _=h2
 obtain ⟨l2,d2,b2⟩:=boxed e2 hy d1 gy
 have L:=l1.trans l2
 have cx:∀k,af G h2 ⟨x,k,none⟩=_:=fun k=>aj (ai (l2 _ _ b1))
 have cy:∀k,af G h2 ⟨y,k,none⟩=_:=fun k=>aj (ai b2)
 have ca2:=ca.up L d2
 unfold ru
 try simp only [bRpB,cx,cy]
 refine (sd ca2.cv hL).mono ?_
 rintro _ _ ⟨rfl,rfl⟩
 cases hc:pq C c with
 |false=>simp only [bRpB,hc];exact ⟨by simp,L⟩
 |true=>
 try simp only [bRpB,cx,cy]
 refine (Uf ca2.cv hP).mono ?_
 rintro _ _ ⟨rfl,rfl⟩
 try simp only [bRpB]
 cases hc2:decide (Ha C c<0)with
 |false=>simp only [bRpB,hc2];exact ⟨by simp,L⟩
 |true=>
 try simp only [bRpB,cx,cy]
 refine (G3 ca2.cv hR).mono ?_
 rintro _ _ ⟨rfl,rfl⟩
 try simp only [bRpB]
 cases hc3:rf C c with
 |true=>simp only [bRpB,hc3];exact ⟨by simp,L⟩
 |false=>
 try simp only [bRpB,cx,cy]
 refine (Ct ca2.cv hL).mono ?_
 rintro _ _ ⟨rfl,rfl⟩
 try simp only [bRpB]
 first|exact L|exact ⟨by simp,L⟩
def bRpC:=jq bC (jq (jq (jq (jq @Bool.and_true (jq @Bool.true_and @kv)) (jq @cf98 (jq @Xq @H8))) (jq (jq @Bu (jq @Ei @F7)) (jq @F6 (jq @Xd @Xc)))) (jq (jq (jq @F5 (jq @an5 @W9)) (jq @H5 (jq @O2 @O1))) (jq (jq @ld24p (jq @xj @ld3)) (jq @ld3p (jq @Rq @true_and)))))
def qc (C:Conf):Bool:=ax C.w 1 16&&(ax C.h 1 16&&(ax C.ht 1 8&&(ax C.un 1 1000&&(ax C.ac 1 1000&&(ax C.sp 1 1000&&(ax C.tu 1 1000&&(ax C.ho 1 1000&&(ax C.re 1 1000&&(ax C.qu 1 16&&(ax C.bu 1 1048576))))))))))
theorem N9 {G h:Hp} {v:Value} {C:Conf} (hv:CV G h v C):al P_ G 81 #[v] h (fun u h'=>u = .bool (qc C)/\h'=h):=by
 obtain ⟨ab,cb,ap,cp,ar,cr,az,cs,rfl,ca⟩:=hv
 refine al.assume fun d=>quietly (enter81 (by simp) ?_)
 unfold S81
 simp only [bRpC]
 intro x hx gx
 generalize e1:Hp.set h x _=h1
 obtain ⟨l1,d1,b1⟩:=boxed e1 hx d gx
 have cx:∀k,af G h1 ⟨x,k,none⟩=_:=fun k=>aj (ai b1)
 unfold qc
 try simp (disch:=first|decide|omega) only [bRpC,Nat.reduceAdd,Nat.reduceMul,cx]
 refine (iq (n:=C.w) (a:=1) (b:=16)).mono ?_
 rintro _ _ ⟨rfl,rfl⟩
 cases hc0:ax C.w 1 16 with
 |false=>try simp only [bRpC,hc0];exact ⟨by simp,l1⟩
 |true=>
 try simp only [bRpC,cx]
 refine (iq (n:=C.h) (a:=1) (b:=16)).mono ?_
 rintro _ _ ⟨rfl,rfl⟩
 cases hc1:ax C.h 1 16 with
 |false=>try simp only [bRpC,hc1];exact ⟨by simp,l1⟩
 |true=>
 try simp only [bRpC,cx]
 refine (iq (n:=C.ht) (a:=1) (b:=8)).mono ?_
 rintro _ _ ⟨rfl,rfl⟩
 cases hc2:ax C.ht 1 8 with
 |false=>try simp only [bRpC,hc2];exact ⟨by simp,l1⟩
 |true=>
 try simp only [bRpC,cx]
 refine (iq (n:=C.un) (a:=1) (b:=1000)).mono ?_
 rintro _ _ ⟨rfl,rfl⟩
 cases hc3:ax C.un 1 1000 with
 |false=>try simp only [bRpC,hc3];exact ⟨by simp,l1⟩
 |true=>
 try simp only [bRpC,cx]
 refine (iq (n:=C.ac) (a:=1) (b:=1000)).mono ?_
 rintro _ _ ⟨rfl,rfl⟩
 cases hc4:ax C.ac 1 1000 with
 |false=>try simp only [bRpC,hc4];exact ⟨by simp,l1⟩
 |true=>
 try simp only [bRpC,cx]
 refine (iq (n:=C.sp) (a:=1) (b:=1000)).mono ?_
 rintro _ _ ⟨rfl,rfl⟩
 cases hc5:ax C.sp 1 1000 with
 |false=>try simp only [bRpC,hc5];exact ⟨by simp,l1⟩
 |true=>
 try simp only [bRpC,cx]
 refine (iq (n:=C.tu) (a:=1) (b:=1000)).mono ?_
 rintro _ _ ⟨rfl,rfl⟩
 cases hc6:ax C.tu 1 1000 with
 |false=>try simp only [bRpC,hc6];exact ⟨by simp,l1⟩
 |true=>
 try simp only [bRpC,cx]
 refine (iq (n:=C.ho) (a:=1) (b:=1000)).mono ?_
 rintro _ _ ⟨rfl,rfl⟩
 cases hc7:ax C.ho 1 1000 with
 |false=>try simp only [bRpC,hc7];exact ⟨by simp,l1⟩
 |true=>
 try simp only [bRpC,cx]
 refine (iq (n:=C.re) (a:=1) (b:=1000)).mono ?_
 rintro _ _ ⟨rfl,rfl⟩
 cases hc8:ax C.re 1 1000 with
 |false=>try simp only [bRpC,hc8];exact ⟨by simp,l1⟩
 |true=>
 try simp only [bRpC,cx]
 refine (iq (n:=C.qu) (a:=1) (b:=16)).mono ?_
 rintro _ _ ⟨rfl,rfl⟩
 cases hc9:ax C.qu 1 16 with
 |false=>try simp only [bRpC,hc9];exact ⟨by simp,l1⟩
 |true=>
 try simp only [bRpC,cx]
 refine (iq (n:=C.bu) (a:=1) (b:=1048576)).mono ?_
 rintro _ _ ⟨rfl,rfl⟩
 try simp only [bRpC]
 first|exact l1|exact ⟨by simp,l1⟩
theorem icget {G h:Hp} {b o i:Nat} {x:Int} (e:∀j,j<icC.n->af G h ⟨b,o+i*icC.n+j,none⟩=(icC.enc x)[j]?):af G h ⟨b,o+i*1,none⟩=some (.int .i64 x):=e 0 (by decide)
theorem Sees.int {G h:Hp} {sa:Option Addr} {n cap:Nat} {L:List Int} (s:Sees icC G h (.slice sa n cap) L) {i:Nat} {x:Int} (hx:L[i]?=some x):
 ∃b o,sa=some ⟨b,o,none⟩/\af G h ⟨b,o+i,none⟩=some (.int .i64 x):=by
 obtain ⟨b,o,c,e1,e2⟩:=s.get hx
 simp only [Value.slice.injEq]at e1
 have:=icget e2
 rw [Nat.mul_one]at this
 exact ⟨b,o,e1.1,this⟩
theorem CA.stk {G h:Hp} {C:Conf} {ab:Option Addr} {cb:Nat} {ap:Option Addr} {cp:Nat} {ar:Option Addr} {cr:Nat} {az:Option Addr} {cs:Nat} (ca:CA G h C ab cb ap cp ar cr az cs) {i:Nat} {s:Cell × List Int} (hs:C.st[i]?=some s):
 ∃b o a c,az=some ⟨b,o,none⟩/\af G h ⟨b,o+i*3,none⟩=some (.int .i64 s.1.1)/\af G h ⟨b,o+i*3+1,none⟩=some (.int .i64 s.1.2)/\af G h ⟨b,o+i*3+2,none⟩=some (.slice a s.2.length c)/\Sees icC G h (.slice a s.2.length c) s.2:=by
 obtain ⟨raw,h1,h2⟩:=ca.st
 obtain ⟨sa,cp2,e⟩:=h1.len
 have hl:C.st.length=raw.length:=by simp only [Value.slice.injEq]at e;exact e.2.1
 have hi:i<raw.length:=by rw [<- hl];exact (List.getElem?_eq_some_iff.1 hs).1
 have hr:raw[i]?=some raw[i]:=List.getElem?_eq_getElem hi
 obtain ⟨k1,k2,k3⟩:=h2 i _ s hr hs
 obtain ⟨b,o,c,e1,e2⟩:=h1.get hr
 simp only [Value.slice.injEq]at e1
 have z0:=e2 0 (by decide)
 have z1:=e2 1 (by decide)
 have z2:=e2 2 (by decide)
 simp only [rawC,Nat.add_zero,List.getElem?_cons_zero,List.getElem?_cons_succ]at z0 z1 z2
 refine ⟨b,o,_,_,e1.1,?_,?_,?_,k3⟩
 . rw [z0,<- k1]
 . rw [z1,<- k1]
 . rw [z2,k2]
structure V6 (C:Conf):Prop where
 few:C.st.length<=257
 each:∀s∈C.st,ru C s.1=true/\(s.2.length:Int)<=C.ht
 apart:(C.st.map Prod.fst).Nodup
 most:(C.st.flatMap Prod.snd).length<=512
 nums:∀b∈C.st.flatMap Prod.snd,ax b 1 1000000000=true
 once:(C.st.flatMap Prod.snd).Nodup
theorem ax1 {G h:Hp} {C:Conf} {ab:Option Addr} {cb:Nat} {ap:Option Addr} {cp:Nat} {ar:Option Addr} {cr:Nat} {az:Option Addr} {cs:Nat} (ca:CA G h C ab cb ap cp ar cr az cs) {x:Nat}
 (cx:∀k,af G h ⟨x,k,none⟩=[Value.int .i64 C.w,.int .i64 C.h,.int .i64 C.ht,.slice ab C.bl.length cb,.slice ap C.po.length cp,.slice ar C.ro.length cr,.slice az C.st.length cs,.int .i64 C.un,.int .i64 C.ac,.int .i64 C.sp,.int .i64 C.tu,.int .i64 C.ho,.int .i64 C.qu,.int .i64 C.re,.int .i64 C.bu,.bool C.back][k]?)
 {i:Nat} {s:Cell × List Int} (hs:C.st[i]?=some s) (hi:i<1000) {KK:EK} (r:Rg) (g1:r 1 = .pointer (some ⟨x,0,none⟩)) (g4:r 4 = .int .i64 i) (g5:r 5 = .int .i64 0)
 (H1:s.1∉(C.st.take i).map Prod.fst->∀r':Rg,r' 1=r 1->r' 3=r 3->r' 4=r 4->KK (.exit 2) r' h)
 (H2:s.1∈(C.st.take i).map Prod.fst->∀r':Rg,r' 2 = .bool false->KK .ret r' h):ci (zn G) r h KK:=by
 have hil:i<C.st.length:=(List.getElem?_eq_some_iff.1 hs).1
 obtain ⟨b,o,a,c,e1,z0,z1,z2,z3⟩:=ca.stk hs
 refine b8 (fun m r2 h3=>∃k:Nat,m=i-k/\k<=i/\r2 1=r 1/\r2 3=r 3/\r2 4=r 4/\r2 5 = .int .i64 k/\h3=h/\s.1∉(C.st.take k).map Prod.fst) ?_
  (m:=i) ⟨0,rfl,Nat.zero_le _,rfl,rfl,rfl,by rw [g5];rfl,rfl,by simp⟩
 rintro m r2 h3 ⟨k,rfl,hk,k1,k3,k4,k5,rfl,hn⟩ X HX
 rw [g1]at k1
 rw [g4]at k4
 unfold zn
 simp only [bRpC,k4,k5]
 refine bm (fun hlt=>?_) (fun hge=>?_)
 . have hlt':k<i:=by omega
   obtain ⟨t,ht⟩:∃x,C.st[k]?=some x:=⟨_,List.getElem?_eq_getElem (by omega)⟩
   obtain ⟨b',o',a',c',e1',y0,y1,y2,y3⟩:=ca.stk ht
   subst e1
   cases e1'
   have htk:C.st.take (k+1)=C.st.take k++[t]:=by rw [List.take_add_one,ht];rfl
   unfold xx
   simp (disch:=decide) only [bRpC,k1,k4,k5,cx,R0 (Int.natCast_nonneg k) (show (k:Int)<C.st.length by omega),R0 (Int.natCast_nonneg i) (show (i:Int)<C.st.length by omega),z0,z1,y0,y1,zi]
   cases hb:(t.1==s.1)with
   |true=>
    try simp only [bRpC]
    refine H2 ?_ _ (by simp only [bRpC])
    have:t.1=s.1:=by simpa using hb
    rw [<- this]
    exact List.mem_map_of_mem (f:=Prod.fst) (List.mem_of_getElem? (i:=k) (by rw [List.getElem?_take,if_pos hlt',ht]))
   |false=>
    try simp only [bRpC]
    unfold xv
    simp (disch:=first|decide|omega) only [bRpC,k5]
    refine HX (i-(k+1)) _ _ (by omega) ⟨k+1,rfl,hlt',by simp (disch:=decide) only [bRpC,k1,g1],by simp (disch:=decide) only [bRpC,k3],by simp (disch:=decide) only [bRpC,k4,g4],by simp only [bRpC]<;>rfl,rfl,?_⟩
    rw [htk,List.map_append,List.mem_append]
    rintro (q|q)
    . exact hn q
    . simp at q
      rw [q]at hb
      simp at hb
 . obtain rfl:k=i:=by omega
   exact H1 hn _ (by simp (disch:=decide) only [bRpC,k1,g1]) (by simp (disch:=decide) only [bRpC,k3]) (by simp (disch:=decide) only [bRpC,k4,g4])
theorem eoint:fg P_ 3 icC.n 8:=⟨by kernel_rfl,by kernel_rfl,by kernel_rfl⟩
theorem ax0 {G h:Hp} {v:Value} {L:List Int} (sv:Sees icC G h v L) {i:Nat} {y:Int} (hy:L[i]?=some y) (hi:i<100000) {KK:EK} (r:Rg) (g3:r 3=v) (g6:r 6 = .int .i64 i) (g7:r 7 = .int .i64 0)
 (H1:y∉L.take i->∀r':Rg,r' 3=r 3->r' 6=r 6->KK (.exit 6) r' h)
 (H2:y∈L.take i->∀r':Rg,r' 2 = .bool false->KK .ret r' h):ci (El G) r h KK:=by
 have hil:i<L.length:=(List.getElem?_eq_some_iff.1 hy).1
 obtain ⟨sa,cap,rfl⟩:=sv.len
 obtain ⟨b,o,e1,z0⟩:=Sees.int sv hy
 refine b8 (fun m r2 h3=>∃k:Nat,m=i-k/\k<=i/\r2 3=r 3/\r2 6=r 6/\r2 7 = .int .i64 k/\h3=h/\y∉L.take k) ?_
  (m:=i) ⟨0,rfl,Nat.zero_le _,rfl,rfl,by rw [g7];rfl,rfl,by simp⟩
 rintro m r2 h3 ⟨k,rfl,hk,k3,k6,k7,rfl,hn⟩ X HX
 rw [g3]at k3
 rw [g6]at k6
 subst e1
 unfold El
 simp only [bRpC,k6,k7]
 refine bm (fun hlt=>?_) (fun hge=>?_)
 . have hlt':k<i:=by omega
   obtain ⟨t,ht⟩:∃x,L[k]?=some x:=⟨_,List.getElem?_eq_getElem (by omega)⟩
   obtain ⟨b',o',e1',y0⟩:=Sees.int sv ht
   cases e1'
   have htk:L.take (k+1)=L.take k++[t]:=by rw [List.take_add_one,ht];rfl
   unfold Dl
   simp (disch:=decide) only [bRpC,k3,k6,k7,Uu (Int.natCast_nonneg k) (show (k:Int)<L.length by omega),Uu (Int.natCast_nonneg i) (show (i:Int)<L.length by omega),Nat.mul_one,z0,y0]
   cases hb:(t==y)with
   |true=>
    try simp only [bRpC]
    refine H2 ?_ _ (by simp only [bRpC])
    have:t=y:=by simpa using hb
    rw [<- this]
    exact List.mem_of_getElem? (i:=k) (by rw [List.getElem?_take,if_pos hlt',ht])
   |false=>
    try simp only [bRpC]
    unfold Bc
    simp (disch:=first|decide|omega) only [bRpC,k7]
    refine HX (i-(k+1)) _ _ (by omega) ⟨k+1,rfl,hlt',by simp (disch:=decide) only [bRpC,k3,g3],by simp (disch:=decide) only [bRpC,k6,g6],by simp only [bRpC]<;>rfl,rfl,?_⟩
    rw [htk,List.mem_append]
    rintro (q|q)
    . exact hn q
    . simp at q
      rw [q]at hb
      simp at hb
 . obtain rfl:k=i:=by omega
   exact H1 hn _ (by simp (disch:=decide) only [bRpC,k3,g3]) (by simp (disch:=decide) only [bRpC,k6,g6])
theorem fj {α:Type} {L:List α} {i:Nat} {x:α} (hx:L[i]?=some x):L.take (i+1)=L.take i++[x]:=by rw [List.take_add_one,hx];rfl
theorem xd {α:Type} {L:List α} {i:Nat} {x:α} (hx:L[i]?=some x) (h1:(L.take i).Nodup) (h2:x∉L.take i):(L.take (i+1)).Nodup:=by
 rw [fj hx]
 exact List.nodup_append.2 ⟨h1,by simp,fun a ha b hb=>by simp at hb;subst hb;exact fun e=>h2 (e▸ha)⟩
theorem ut {α:Type} {L:List α} {i:Nat} {x:α} (hx:L[i]?=some x) (h2:x∈L.take i):¬L.Nodup:=by
 intro h
 have:(L.take (i+1)).Nodup:=h.sublist (List.take_sublist _ _)
 rw [fj hx]at this
 exact (List.nodup_append.1 this).2.2 x h2 x (by simp) rfl
theorem aw9 {G h:Hp} {v:Value} {L:List Int} (sv:Sees icC G h v L) (hL:L.length<=10000) (R:Bool->Prop) {h0:Hp} (h0l:h0.le h) (r:Rg) (g3:r 3=v)
 (H1:L.length<=512->(∀b∈L,ax b 1 1000000000=true)->L.Nodup->R true) (H2:L.length>512\/(∃b∈L,ax b 1 1000000000=false)\/¬L.Nodup->R false):
 Vq G (retK P_ G [.tmp 2] fun u h'=>(∃b,u = .bool b/\R b)/\h0.le h') r h:=by
 obtain ⟨sa,cap,hve⟩:=sv.len
 unfold Vq
 simp only [bRpC,g3,hve]
 by_cases hlen:L.length<=512
 rotate_left
 . have e:decide ((L.length:Int)>512)=true:=by rw [decide_eq_true_iff];omega
   simp only [bRpC,e]
   exact ⟨⟨_,rfl,H2 (.inl (by omega))⟩,h0l⟩
 have e:decide ((L.length:Int)>512)=false:=by rw [decide_eq_false_iff_not];omega
 simp only [bRpC,e]
 unfold az1
 refine b8 (fun m r2 h3=>∃i:Nat,m=L.length-i/\i<=L.length/\r2 3=v/\r2 6 = .int .i64 i/\h3=h/\(∀b∈L.take i,ax b 1 1000000000=true)/\(L.take i).Nodup) ?_
  (m:=L.length) ⟨0,rfl,Nat.zero_le _,by simp (disch:=decide) only [bRpC,g3,hve],by simp only [bRpC]<;>rfl,rfl,by simp,by simp⟩
 rintro m r2 h3 ⟨i,rfl,hi,k3,k6,rfl,hw,hnd⟩ X HX
 unfold ay9
 simp only [bRpC,k3,hve,k6]
 refine bm (fun hlt=>?_) (fun hge=>?_)
 rotate_left
 . obtain rfl:i=L.length:=by omega
   rw [List.take_of_length_le (Nat.le_refl _)]at hw hnd
   try simp (disch:=first|decide|omega) only [bRpC,Nat.reduceAdd,Nat.reduceMul]
   unfold az0
   simp only [bRpC]
   exact ⟨⟨_,rfl,H1 hlen hw hnd⟩,h0l⟩
 have hlt':i<L.length:=by omega
 obtain ⟨y,hy⟩:∃x,L[i]?=some x:=⟨_,List.getElem?_eq_getElem hlt'⟩
 rw [hve]at sv
 obtain ⟨b,o,rfl,z0⟩:=Sees.int sv hy
 unfold Mo
 simp (disch:=decide) only [bRpC,k3,hve,k6,R1 (Int.natCast_nonneg i) (show (i:Int)<L.length by omega),Nat.mul_one,z0]
 refine (iq (n:=y) (a:=1) (b:=1000000000)).mono ?_
 rintro _ _ ⟨rfl,rfl⟩
 cases hb:ax y 1 1000000000 with
 |false=>
  try simp only [bRpC]
  exact ⟨⟨_,rfl,H2 (.inr (.inl ⟨y,List.mem_of_getElem? hy,hb⟩))⟩,h0l⟩
 |true=>
  try simp only [bRpC]
  unfold Mm
  refine ax0 sv hy (by omega) _ (by simp (disch:=decide) only [bRpC,k3,hve]) (by simp (disch:=decide) only [bRpC,k6]) (by simp only [bRpC]) (fun hn r' j3 j6=>?_) (fun hm r' j2=>?_)
  . simp only [jo,if_true,gc,iy]
    unfold Mn
    have j6':r' 6 = .int .i64 i:=j6.trans (by simp (disch:=decide) only [bRpC,k6])
    simp (disch:=first|decide|omega) only [bRpC,j6']
    refine HX (L.length-(i+1)) _ _ (by omega) ⟨i+1,rfl,hlt',?_,by simp only [bRpC]<;>rfl,rfl,?_,xd hy hnd hn⟩
    . simp (disch:=decide) only [bRpC,j3,k3]
    . rw [fj hy]
      intro c hc
      rcases List.mem_append.1 hc with hc|hc
      . exact hw c hc
      . simp at hc;rw [hc];exact hb
  . simp only [bRpC,j2]
    exact ⟨⟨_,rfl,H2 (.inr (.inr (ut hy hm)))⟩,h0l⟩
def bRpD:=jq bC (jq (jq (jq (jq @Df @cf133) (jq @H8 @Xf)) (jq (jq @So @fa26_2p) (jq @U6 @W9))) (jq (jq (jq @Hk @Ok) (jq @ld24 @ld24p)) (jq (jq @Hj @xj) (jq @ld3p (jq @ln168p @ln24)))))
theorem am9 {C:Conf} {L:List (Cell × List Int)} (h:∀s∈L,(s.2.length:Int)<=C.ht) (ht:C.ht<=8):(L.flatMap Prod.snd).length<=8*L.length:=by
 induction L with
 |nil=>simp
 |cons s L ih=>
  have h1:=h s (.head _)
  have h2:=ih fun t ht=>h t (.tail _ ht)
  rw [List.flatMap_cons,List.length_append,List.length_cons]
  omega
theorem af0 {G h:Hp} {v:Value} {C:Conf} (hv:CV G h v C) (ht:C.ht<=8) (hL:C.bl.length<=100000000000000) (hP:C.po.length<=100000000000000) (hR:C.ro.length<=100000000000000):
 al P_ G 86 #[v] h (fun u h'=>(∃b,u = .bool b/\(b=true↔V6 C))/\h'=h):=by
 obtain ⟨ab,cb,ap,cp,ar,cr,az,cs,rfl,ca⟩:=hv
 refine al.assume fun d=>quietly (enter86 (by simp) ?_)
 unfold S86
 simp only [bRpD]
 intro x hx gx
 generalize e1:Hp.set h x _=h1
 obtain ⟨l1,d1,b1⟩:=boxed e1 hx d gx
 refine b8 (fun m r h3=>∃(i:Nat) (lp:Hp) (v3:Value),m=C.st.length-i/\i<=C.st.length/\i<=257/\r 1 = .pointer (some ⟨x,0,none⟩)/\r 3=v3/\r 4 = .int .i64 i/\
  (∀s∈C.st.take i,ru C s.1=true/\(s.2.length:Int)<=C.ht)/\((C.st.take i).map Prod.fst).Nodup/\Slc icC 3 lp v3 ((C.st.take i).flatMap Prod.snd)/\Sep [lp,h1] h3/\Dis G h3) ?_
  (m:=C.st.length) ⟨0,noHp,_,rfl,Nat.zero_le _,Nat.zero_le _,by simp (disch:=decide) only [bRpD],by simp (disch:=decide) only [bRpD]<;>rfl,by simp only [bRpD]<;>rfl,by simp,by simp,Slc.nil,Sep.one.none,d1⟩
 rintro m r h3 ⟨i,lp,v3,rfl,hi,hi2,g1,g3,g4,hok,hnd,o3,s3,d3⟩ X HX
 have l3:h1.le h3:=s3.in 1 rfl
 have cx:∀k,af G h3 ⟨x,k,none⟩=_:=fun k=>aj (ai (l3 _ _ b1))
 have ca3:=ca.up (l1.trans l3) d3
 have hfl:=am9 (C:=C) (fun s hs=>(hok s hs).2) ht
 rw [List.length_take,Nat.min_eq_left hi]at hfl
 unfold X3
 simp only [bRpD,g1,g4,cx]
 refine bm (fun hlt=>?_) (fun hge=>?_)
 rotate_left
 . obtain rfl:i=C.st.length:=by omega
   rw [List.take_of_length_le (Nat.le_refl _)]at hok hnd o3 hfl
   try simp (disch:=first|decide|omega) only [bRpD,Nat.reduceAdd,Nat.reduceMul]
   refine aw9 (v:=v3) (o3.sees (by decide) s3.hd) (by omega) (fun b=>b=true↔V6 C) (l1.trans l3) _ (by simp (disch:=decide) only [bRpD,g3]) (fun h1 h2 h3=>?_) (fun hbad=>?_)
   . exact ⟨fun _=>⟨hi2,hok,hnd,h1,h2,h3⟩,fun _=>rfl⟩
   . refine ⟨fun e=>absurd e (by decide),fun B=>?_⟩
     exfalso
     rcases hbad with hb|⟨b,hb1,hb2⟩|hb
     . have:=B.most;omega
     . have:=B.nums b hb1;rw [hb2]at this;cases this
     . exact hb B.once
 have hlt':i<C.st.length:=by omega
 obtain ⟨s,hs⟩:∃x,C.st[i]?=some x:=⟨_,List.getElem?_eq_getElem hlt'⟩
 have hsm:s∈C.st:=List.mem_of_getElem? hs
 obtain ⟨b,o,a,c,rfl,z0,z1,z2,z3⟩:=ca3.stk hs
 have no:∀{P:Prop},¬P->(false=true↔P):=fun h=>⟨fun e=>absurd e (by decide),fun p=>(h p).elim⟩
 unfold Fm
 by_cases h257:i<257
 rotate_left
 . have e:decide ((i:Int)>256)=true:=by rw [decide_eq_true_iff];omega
   simp (disch:=decide) only [bRpD,g4,e]
   exact ⟨⟨_,rfl,no fun B=>by have:=B.few;omega⟩,l1.trans l3⟩
 have e:decide ((i:Int)>256)=false:=by rw [decide_eq_false_iff_not];omega
 simp (disch:=decide) only [bRpD,g4,e,g1,cx,R0 (Int.natCast_nonneg i) hlt,z0,z1,z2]
 refine (Kf (c:=s.1) ca3.cv hL hP hR).mono ?_
 rintro _ _ ⟨rfl,rfl⟩
 cases hst:ru C s.1 with
 |false=>
  try simp only [bRpD]
  exact ⟨⟨_,rfl,no fun B=>by have:=(B.each s hsm).1;rw [hst]at this;cases this⟩,l1.trans l3⟩
 |true=>
 try simp only [bRpD,g1,cx,R0 (Int.natCast_nonneg i) hlt,z2]
 by_cases hlen:(s.2.length:Int)<=C.ht
 rotate_left
 . have e:decide ((s.2.length:Int)>C.ht)=true:=by rw [decide_eq_true_iff];omega
   simp only [bRpD,e]
   exact ⟨⟨_,rfl,no fun B=>hlen (B.each s hsm).2⟩,l1.trans l3⟩
 have e:decide ((s.2.length:Int)>C.ht)=false:=by rw [decide_eq_false_iff_not];omega
 simp only [bRpD,e]
 unfold Fl
 refine ax1 ca3 cx hs (by omega) _ (by simp (disch:=decide) only [bRpD,g1]) (by simp (disch:=decide) only [bRpD,g4]) (by simp only [bRpD]) (fun hn r' j1 j3 j4=>?_) (fun hm r' j2=>?_)
 . simp only [jo,if_true,gc,iy]
   have j1':r' 1 = .pointer (some ⟨x,0,none⟩):=j1.trans (by simp (disch:=decide) only [bRpD,g1])
   have j3':r' 3=v3:=j3.trans (by simp (disch:=decide) only [bRpD,g3])
   have j4':r' 4 = .int .i64 i:=j4.trans (by simp (disch:=decide) only [bRpD,g4])
   unfold Fk
   simp only [bRpD,j1',j3',j4',cx,ix24 (Int.natCast_nonneg i) hlt,z2]
   refine dm icC (by decide) Gg eoint (by decide) (by decide) s3 d3 o3 z3 (by omega) fun v' a' h' o' s' d'=>?_
   unfold zo
   simp (disch:=first|decide|omega) only [bRpD,j4']
   refine HX (C.st.length-(i+1)) _ _ (by omega) ⟨i+1,a',v',rfl,hlt',by omega,by simp (disch:=decide) only [bRpD,j1'],by simp (disch:=decide) only [bRpD],by simp only [bRpD]<;>rfl,?_,?_,?_,s',d'⟩
   . rw [fj hs]
     intro t ht'
     rcases List.mem_append.1 ht' with q|q
     . exact hok t q
     . simp at q;rw [q];exact ⟨hst,hlen⟩
   . rw [fj hs,List.map_append]
     exact List.nodup_append.2 ⟨hnd,by simp,fun p hp q hq=>by simp at hq;subst hq;exact fun e=>hn (e▸hp)⟩
   . rw [fj hs,List.flatMap_append]
     simpa using o'
 . simp only [bRpD,j2]
   refine ⟨⟨_,rfl,no fun B=>?_⟩,l1.trans l3⟩
   refine ut (L:=C.st.map Prod.fst) (i:=i) (x:=s.1) (by rw [List.getElem?_map,hs];rfl) ?_ B.apart
   rw [<- List.map_take]
   exact hm
def bRpE:=jq bC (jq (jq (jq (jq @kv (jq @Df @cf22)) (jq (jq @cf40 @cf81) (jq @cf82 @cf83))) (jq (jq @cf84 (jq @cf85 @cf86)) (jq (jq @H7 @O5) (jq @O4 @O3)))) (jq (jq (jq @H6 (jq @Xa @ld22)) (jq (jq @W0 @ld23) (jq @ld23p @ld26))) (jq (jq @Hj (jq @ld28 @xj)) (jq (jq @ld30 @tw) (jq @ln22 @ln23)))))
structure Zk (C:Conf):Prop where
 nums:qc C=true
 po8:C.po.length<=8
 ro8:C.ro.length<=8
 bl256:C.bl.length<=256
 blk:∀c∈C.bl,inB C c=true/\C.bl.count c<=1/\C.po.count c=0
 prt:∀c∈C.po,inB C c=true/\C.po.count c<=1/\rf C c=false/\lg C c=true
 fit:∀p∈C.ro,fq C p=true
 once:∀c∈C.ro.flatMap bw,(C.ro.flatMap bw).count c<=1
 bins:V6 C
theorem may_bl {G h:Hp} {C:Conf} {ab:Option Addr} {cb:Nat} {ap:Option Addr} {cp:Nat} {ar:Option Addr} {cr:Nat} {az:Option Addr} {cs:Nat} (ca:CA G h C ab cb ap cp ar cr az cs) {x:Nat}
 (cx:∀k,af G h ⟨x,k,none⟩=[Value.int .i64 C.w,.int .i64 C.h,.int .i64 C.ht,.slice ab C.bl.length cb,.slice ap C.po.length cp,.slice ar C.ro.length cr,.slice az C.st.length cs,.int .i64 C.un,.int .i64 C.ac,.int .i64 C.sp,.int .i64 C.tu,.int .i64 C.ho,.int .i64 C.qu,.int .i64 C.re,.int .i64 C.bu,.bool C.back][k]?) {KK:EK} (hL:C.bl.length<=256) (hP:C.po.length<=8) (r:Rg) (g1:r 1 = .pointer (some ⟨x,0,none⟩)) (g3:r 3 = .int .i64 0)
 (H1:(∀c∈C.bl,inB C c=true/\C.bl.count c<=1/\C.po.count c=0)->∀r':Rg,r' 1=r 1->KK (.exit 0) r' h)
 (H2:(∃c∈C.bl,¬(inB C c=true/\C.bl.count c<=1/\C.po.count c=0))->∀r':Rg,r' 2 = .bool false->KK .ret r' h):ci (Pl G) r h KK:=by
 refine b8 (fun m r2 h3=>∃i:Nat,m=C.bl.length-i/\i<=C.bl.length/\r2 1=r 1/\r2 3 = .int .i64 i/\h3=h/\(∀c∈C.bl.take i,inB C c=true/\C.bl.count c<=1/\C.po.count c=0)) ?_
  (m:=C.bl.length) ⟨0,rfl,Nat.zero_le _,rfl,by rw [g3];rfl,rfl,by simp⟩
 rintro m r2 h3 ⟨i,rfl,hi,k1,k3,rfl,hw⟩ X HX
 rw [g1]at k1
 unfold Pl
 simp only [bRpE,k1,cx,k3]
 refine bm (fun hlt=>?_) (fun hge=>?_)
 rotate_left
 . obtain rfl:i=C.bl.length:=by omega
   rw [List.take_of_length_le (Nat.le_refl _)]at hw
   exact H1 hw _ (by simp (disch:=decide) only [bRpE,k1,g1])
 have hlt':i<C.bl.length:=by omega
 obtain ⟨y,hy⟩:∃x,C.bl[i]?=some x:=⟨_,List.getElem?_eq_getElem hlt'⟩
 have hym:y∈C.bl:=List.mem_of_getElem? hy
 obtain ⟨b,o,rfl,z0,z1⟩:=Sees.cell ca.bl hy
 unfold Fq
 simp (disch:=decide) only [bRpE,k1,cx,k3,sn (Int.natCast_nonneg i) hlt,z0,z1]
 refine (Oq (c:=y) ca.cv).mono ?_
 rintro _ _ ⟨rfl,rfl⟩
 cases h1:inB C y with
 |false=>
  try simp only [bRpE]
  exact H2 ⟨y,hym,fun q=>by rw [h1]at q;exact absurd q.1 (by decide)⟩ _ (by simp only [bRpE])
 |true=>
 try simp only [bRpE,k1,cx,k3,sn (Int.natCast_nonneg i) hlt,z0,z1]
 refine (qo (c:=y) ca.bl (by omega)).mono ?_
 rintro _ _ ⟨rfl,rfl⟩
 try simp only [bRpE]
 by_cases h2:C.bl.count y<=1
 rotate_left
 . have e:decide ((C.bl.count y:Int)>1)=true:=by rw [decide_eq_true_iff];omega
   simp only [bRpE,e]
   exact H2 ⟨y,hym,fun q=>h2 q.2.1⟩ _ (by simp only [bRpE])
 have e:decide ((C.bl.count y:Int)>1)=false:=by rw [decide_eq_false_iff_not];omega
 try simp only [bRpE,e,k1,cx,k3,sn (Int.natCast_nonneg i) hlt,z0,z1]
 refine (qo (c:=y) ca.po (by omega)).mono ?_
 rintro _ _ ⟨rfl,rfl⟩
 try simp only [bRpE]
 by_cases h3:C.po.count y=0
 rotate_left
 . have e:decide ((C.po.count y:Int)>0)=true:=by rw [decide_eq_true_iff];omega
   simp only [bRpE,e]
   exact H2 ⟨y,hym,fun q=>h3 q.2.2⟩ _ (by simp only [bRpE])
 have e:decide ((C.po.count y:Int)>0)=false:=by rw [decide_eq_false_iff_not];omega
 simp only [bRpE,e]
 unfold Fp
 simp (disch:=first|decide|omega) only [bRpE,k3]
 refine HX (C.bl.length-(i+1)) _ _ (by omega) ⟨i+1,rfl,hlt',by simp (disch:=decide) only [bRpE,k1,g1],by simp only [bRpE]<;>rfl,rfl,?_⟩
 rw [fj hy]
 intro c hc
 rcases List.mem_append.1 hc with q|q
 . exact hw c q
 . simp at q;rw [q];exact ⟨h1,h2,h3⟩
theorem may_po {G h:Hp} {C:Conf} {ab:Option Addr} {cb:Nat} {ap:Option Addr} {cp:Nat} {ar:Option Addr} {cr:Nat} {az:Option Addr} {cs:Nat} (ca:CA G h C ab cb ap cp ar cr az cs) {x:Nat}
 (cx:∀k,af G h ⟨x,k,none⟩=[Value.int .i64 C.w,.int .i64 C.h,.int .i64 C.ht,.slice ab C.bl.length cb,.slice ap C.po.length cp,.slice ar C.ro.length cr,.slice az C.st.length cs,.int .i64 C.un,.int .i64 C.ac,.int .i64 C.sp,.int .i64 C.tu,.int .i64 C.ho,.int .i64 C.qu,.int .i64 C.re,.int .i64 C.bu,.bool C.back][k]?) {KK:EK} (hL:C.bl.length<=256) (hP:C.po.length<=8) (hR:C.ro.length<=8) (r:Rg) (g1:r 1 = .pointer (some ⟨x,0,none⟩)) (g4:r 4 = .int .i64 0)
 (H1:(∀c∈C.po,inB C c=true/\C.po.count c<=1/\rf C c=false/\lg C c=true)->∀r':Rg,r' 1=r 1->KK (.exit 2) r' h)
 (H2:(∃c∈C.po,¬(inB C c=true/\C.po.count c<=1/\rf C c=false/\lg C c=true))->∀r':Rg,r' 2 = .bool false->KK .ret r' h):ci (Pm G) r h KK:=by
 refine b8 (fun m r2 h3=>∃i:Nat,m=C.po.length-i/\i<=C.po.length/\r2 1=r 1/\r2 4 = .int .i64 i/\h3=h/\(∀c∈C.po.take i,inB C c=true/\C.po.count c<=1/\rf C c=false/\lg C c=true)) ?_
  (m:=C.po.length) ⟨0,rfl,Nat.zero_le _,rfl,by rw [g4];rfl,rfl,by simp⟩
 rintro m r2 h3 ⟨i,rfl,hi,k1,k4,rfl,hw⟩ X HX
 rw [g1]at k1
 unfold Pm
 simp only [bRpE,k1,cx,k4]
 refine bm (fun hlt=>?_) (fun hge=>?_)
 rotate_left
 . obtain rfl:i=C.po.length:=by omega
   rw [List.take_of_length_le (Nat.le_refl _)]at hw
   exact H1 hw _ (by simp (disch:=decide) only [bRpE,k1,g1])
 have hlt':i<C.po.length:=by omega
 obtain ⟨y,hy⟩:∃x,C.po[i]?=some x:=⟨_,List.getElem?_eq_getElem hlt'⟩
 have hym:y∈C.po:=List.mem_of_getElem? hy
 obtain ⟨b,o,rfl,z0,z1⟩:=Sees.cell ca.po hy
 unfold Fs
 simp (disch:=decide) only [bRpE,k1,cx,k4,sn (Int.natCast_nonneg i) hlt,z0,z1]
 refine (Oq (c:=y) ca.cv).mono ?_
 rintro _ _ ⟨rfl,rfl⟩
 cases h1:inB C y with
 |false=>
  try simp only [bRpE]
  exact H2 ⟨y,hym,fun q=>by rw [h1]at q;exact absurd q.1 (by decide)⟩ _ (by simp only [bRpE])
 |true=>
 try simp only [bRpE,k1,cx,k4,sn (Int.natCast_nonneg i) hlt,z0,z1]
 refine (qo (c:=y) ca.po (by omega)).mono ?_
 rintro _ _ ⟨rfl,rfl⟩
 try simp only [bRpE]
 by_cases h2:C.po.count y<=1
 rotate_left
 . have e:decide ((C.po.count y:Int)>1)=true:=by rw [decide_eq_true_iff];omega
   simp only [bRpE,e]
   exact H2 ⟨y,hym,fun q=>h2 q.2.1⟩ _ (by simp only [bRpE])
 have e:decide ((C.po.count y:Int)>1)=false:=by rw [decide_eq_false_iff_not];omega
 try simp only [bRpE,e,k1,cx,k4,sn (Int.natCast_nonneg i) hlt,z0,z1]
 refine (G3 (c:=y) ca.cv (by omega)).mono ?_
 rintro _ _ ⟨rfl,rfl⟩
 cases h3:rf C y with
 |true=>
  try simp only [bRpE]
  exact H2 ⟨y,hym,fun q=>by rw [h3]at q;exact absurd q.2.2.1 (by decide)⟩ _ (by simp only [bRpE])
 |false=>
 try simp only [bRpE,k1,cx,k4,sn (Int.natCast_nonneg i) hlt,z0,z1]
 refine (Ct (c:=y) ca.cv (by omega)).mono ?_
 rintro _ _ ⟨rfl,rfl⟩
 cases h4:lg C y with
 |false=>
  try simp only [bRpE]
  exact H2 ⟨y,hym,fun q=>by rw [h4]at q;exact absurd q.2.2.2 (by decide)⟩ _ (by simp only [bRpE])
 |true=>
 try simp only [bRpE]
 unfold Fr
 simp (disch:=first|decide|omega) only [bRpE,k4]
 refine HX (C.po.length-(i+1)) _ _ (by omega) ⟨i+1,rfl,hlt',by simp (disch:=decide) only [bRpE,k1,g1],by simp only [bRpE]<;>rfl,rfl,?_⟩
 rw [fj hy]
 intro c hc
 rcases List.mem_append.1 hc with q|q
 . exact hw c q
 . simp at q;rw [q];exact ⟨h1,h2,h3,h4⟩
theorem eocell:fg P_ 28 dl.n 16:=⟨by kernel_rfl,by kernel_rfl,by kernel_rfl⟩
theorem Hy (L:List Pose):(L.flatMap bw).length=2*L.length:=by
 induction L with
 |nil=>rfl
 |cons p L ih=>rw [List.flatMap_cons,List.length_append,ih,List.length_cons];simp [bw];omega
theorem may_ro {G h0:Hp} {C:Conf} {ab:Option Addr} {cb:Nat} {ap:Option Addr} {cp:Nat} {ar:Option Addr} {cr:Nat} {az:Option Addr} {cs:Nat} (ca:CA G h0 C ab cb ap cp ar cr az cs) {x:Nat} (d0:Dis G h0)
 (bx:h0 x=some (.cells #[C.w,C.h,C.ht,.slice ab C.bl.length cb,.slice ap C.po.length cp,.slice ar C.ro.length cr,.slice az C.st.length cs,C.un,C.ac,C.sp,C.tu,C.ho,C.qu,C.re,C.bu,.bool C.back] 26 (0,0)))
 {KK:EK} (hL:C.bl.length<=256) (hR:C.ro.length<=8) (r:Rg) (g1:r 1 = .pointer (some ⟨x,0,none⟩)) (g5:r 5 = .slice none 0 0) (g6:r 6 = .int .i64 0)
 (H1:(∀p∈C.ro,fq C p=true)->∀(r':Rg) h' lp,r' 1=r 1->h0.le h'->Dis G h'->lp.le h'->Slc dl 28 lp (r' 5) (C.ro.flatMap bw)->KK (.exit 4) r' h')
 (H2:(∃p∈C.ro,fq C p=false)->∀(r':Rg) h',h0.le h'->r' 2 = .bool false->KK .ret r' h'):ci (Vx G) r h0 KK:=by
 refine b8 (fun m r2 h3=>∃(i:Nat) (lp:Hp),m=C.ro.length-i/\i<=C.ro.length/\r2 1=r 1/\r2 6 = .int .i64 i/\(∀p∈C.ro.take i,fq C p=true)/\Slc dl 28 lp (r2 5) ((C.ro.take i).flatMap bw)/\Sep [lp,h0] h3/\Dis G h3) ?_
  (m:=C.ro.length) ⟨0,noHp,rfl,Nat.zero_le _,rfl,by rw [g6];rfl,by simp,by rw [g5];exact Slc.nil,Sep.one.none,d0⟩
 rintro m r2 h3 ⟨i,lp,rfl,hi,k1,k6,hw,o3,s3,d3⟩ X HX
 rw [g1]at k1
 have l3:h0.le h3:=s3.in 1 rfl
 have cx:∀k,af G h3 ⟨x,k,none⟩=_:=fun k=>aj (ai (l3 _ _ bx))
 have ca3:=ca.up l3 d3
 unfold Vx
 simp only [bRpE,k1,cx,k6]
 refine bm (fun hlt=>?_) (fun hge=>?_)
 rotate_left
 . obtain rfl:i=C.ro.length:=by omega
   rw [List.take_of_length_le (Nat.le_refl _)]at hw o3
   exact H1 hw _ _ lp (by simp (disch:=decide) only [bRpE,k1,g1]) l3 d3 s3.hd (by simp (disch:=decide) only [bRpE];exact o3)
 have hlt':i<C.ro.length:=by omega
 obtain ⟨y,hy⟩:∃x,C.ro[i]?=some x:=⟨_,List.getElem?_eq_getElem hlt'⟩
 have hym:y∈C.ro:=List.mem_of_getElem? hy
 obtain ⟨b,o,rfl,z0,z1,z2⟩:=Sees.pose ca3.ro hy
 unfold I0
 simp (disch:=decide) only [bRpE,k1,cx,k6,ix23p (Int.natCast_nonneg i) hlt,z0,z1,z2]
 refine (Ui (p:=y) ca3.cv (by omega)).mono ?_
 rintro _ h3 ⟨rfl,rfl⟩
 cases h1:fq C y with
 |false=>
  try simp only [bRpE]
  exact H2 ⟨y,hym,h1⟩ _ _ l3 (by simp only [bRpE])
 |true=>
 try simp only [bRpE]
 unfold Iy
 simp (disch:=decide) only [bRpE,k1,cx,k6,ix23 (Int.natCast_nonneg i) hlt,z0,z1,z2]
 refine (yj (p:=y)).mono ?_
 rintro _ _ ⟨b',rfl,hb,gb,rfl⟩
 generalize e4:Hp.set h3 b' _=h4
 obtain ⟨l4,d4,b4⟩:=boxed e4 hb d3 gb
 have hlen:=Hy (C.ro.take i)
 rw [List.length_take]at hlen
 have s4:Sep [lp,h0] h4:=s3.le l4
 try simp (disch:=first|decide|omega) only [bRpE,Nat.reduceAdd,Nat.reduceMul]
 refine dm dl (by decide) un22 eocell (by decide) (by decide) (M:=bw y) s4 d4 o3 (Sees.row b4 rfl (Nat.le_refl _)) (by rw [hlen,show (bw y).length=2 from rfl];omega) fun v' a' h' o' s' d'=>?_
 unfold Iz
 simp (disch:=first|decide|omega) only [bRpE,k6]
 refine HX (C.ro.length-(i+1)) _ _ (by omega) ⟨i+1,a',rfl,hlt',by simp (disch:=decide) only [bRpE,k1,g1],by simp only [bRpE]<;>rfl,?_,?_,s',d'⟩
 . rw [fj hy]
   intro c hc
   rcases List.mem_append.1 hc with q|q
   . exact hw c q
   . simp at q;rw [q];exact h1
 . simp (disch:=decide) only [bRpE]
   rw [fj hy,List.flatMap_append]
   simpa using o'
theorem ak9 {G h:Hp} {L:List Cell} {v:Value} (sv:Sees dl G h v L) (hL:L.length<=1000) {KK:EK} (r:Rg) (g5:r 5=v) (g7:r 7 = .int .i64 0)
 (H1:(∀c∈L,L.count c<=1)->∀r':Rg,r' 1=r 1->KK (.exit 6) r' h)
 (H2:(∃c∈L,¬L.count c<=1)->∀r':Rg,r' 2 = .bool false->KK .ret r' h):ci (Vy G) r h KK:=by
 obtain ⟨sa,cap,rfl⟩:=sv.len
 refine b8 (fun m r2 h3=>∃i:Nat,m=L.length-i/\i<=L.length/\r2 1=r 1/\r2 5=r 5/\r2 7 = .int .i64 i/\h3=h/\(∀c∈L.take i,L.count c<=1)) ?_
  (m:=L.length) ⟨0,rfl,Nat.zero_le _,rfl,rfl,by rw [g7];rfl,rfl,by simp⟩
 rintro m r2 h3 ⟨i,rfl,hi,k1,k5,k7,rfl,hw⟩ X HX
 rw [g5]at k5
 unfold Vy
 simp only [bRpE,k5,k7]
 refine bm (fun hlt=>?_) (fun hge=>?_)
 rotate_left
 . obtain rfl:i=L.length:=by omega
   rw [List.take_of_length_le (Nat.le_refl _)]at hw
   exact H1 hw _ (by simp (disch:=decide) only [bRpE,k1])
 have hlt':i<L.length:=by omega
 obtain ⟨y,hy⟩:∃x,L[i]?=some x:=⟨_,List.getElem?_eq_getElem hlt'⟩
 obtain ⟨b,o,rfl,z0,z1⟩:=Sees.cell sv hy
 unfold M7
 simp (disch:=decide) only [bRpE,k5,k7,ix22 (Int.natCast_nonneg i) hlt,z0,z1]
 refine (qo (c:=y) sv (by omega)).mono ?_
 rintro _ _ ⟨rfl,rfl⟩
 try simp only [bRpE]
 by_cases h2:L.count y<=1
 rotate_left
 . have e:decide ((L.count y:Int)>1)=true:=by rw [decide_eq_true_iff];omega
   simp only [bRpE,e]
   exact H2 ⟨y,List.mem_of_getElem? hy,h2⟩ _ (by simp only [bRpE])
 have e:decide ((L.count y:Int)>1)=false:=by rw [decide_eq_false_iff_not];omega
 simp only [bRpE,e]
 unfold M6
 simp (disch:=first|decide|omega) only [bRpE,k7]
 refine HX (L.length-(i+1)) _ _ (by omega) ⟨i+1,rfl,hlt',by simp (disch:=decide) only [bRpE,k1],by simp (disch:=decide) only [bRpE,k5,g5],by simp only [bRpE]<;>rfl,rfl,?_⟩
 rw [fj hy]
 intro c hc
 rcases List.mem_append.1 hc with q|q
 . exact hw c q
 . simp at q;rw [q];exact h2
theorem Z4 {G h:Hp} {v:Value} {C:Conf} (hv:CV G h v C):
 al P_ G 38 #[v] h (fun u h'=>(∃b,u = .bool b/\(b=true↔Zk C))/\h'=h):=by
 obtain ⟨ab,cb,ap,cp,ar,cr,az,cs,rfl,ca⟩:=hv
 refine al.assume fun d=>quietly (enter38 (by simp) ?_)
 unfold S38
 simp only [bRpE]
 intro x hx gx
 generalize e1:Hp.set h x _=h1
 obtain ⟨l1,d1,b1⟩:=boxed e1 hx d gx
 have cx:∀k,af G h1 ⟨x,k,none⟩=_:=fun k=>aj (ai b1)
 have ca1:=ca.up l1 d1
 have no:∀{P:Prop},¬P->(false=true↔P):=fun h=>⟨fun e=>absurd e (by decide),fun p=>(h p).elim⟩
 try simp (disch:=first|decide|omega) only [bRpE,Nat.reduceAdd,Nat.reduceMul,cx]
 refine (N9 ca1.cv).mono ?_
 rintro _ _ ⟨rfl,rfl⟩
 cases hn:qc C with
 |false=>
  try simp only [bRpE]
  exact ⟨⟨_,rfl,no fun M=>by have:=M.nums;rw [hn]at this;cases this⟩,l1⟩
 |true=>
 have hht:C.ht<=8:=by
  unfold qc ax at hn
  simp only [Bool.and_eq_true,decide_eq_true_eq]at hn
  exact hn.2.2.1.2
 try simp only [bRpE,cx]
 by_cases hP:C.po.length<=8
 rotate_left
 . have e:decide ((C.po.length:Int)>8)=true:=by rw [decide_eq_true_iff];omega
   simp only [bRpE,e]
   exact ⟨⟨_,rfl,no fun M=>hP M.po8⟩,l1⟩
 have e:decide ((C.po.length:Int)>8)=false:=by rw [decide_eq_false_iff_not];omega
 try simp only [bRpE,e,cx]
 by_cases hR:C.ro.length<=8
 rotate_left
 . have e:decide ((C.ro.length:Int)>8)=true:=by rw [decide_eq_true_iff];omega
   simp only [bRpE,e]
   exact ⟨⟨_,rfl,no fun M=>hR M.ro8⟩,l1⟩
 have e:decide ((C.ro.length:Int)>8)=false:=by rw [decide_eq_false_iff_not];omega
 try simp only [bRpE,e,cx]
 by_cases hL:C.bl.length<=256
 rotate_left
 . have e:decide ((C.bl.length:Int)>256)=true:=by rw [decide_eq_true_iff];omega
   simp only [bRpE,e]
   exact ⟨⟨_,rfl,no fun M=>hL M.bl256⟩,l1⟩
 have e:decide ((C.bl.length:Int)>256)=false:=by rw [decide_eq_false_iff_not];omega
 simp only [bRpE,e]
 unfold aC2
 refine may_bl ca1 cx hL hP _ (by simp (disch:=decide) only [bRpE]) (by simp only [bRpE]) (fun hbl r' j1=>?_) (fun ⟨c,hc,hbad⟩ r' j2=>?_)
 rotate_left
 . simp only [bRpE,j2]
   exact ⟨⟨_,rfl,no fun M=>hbad (M.blk c hc)⟩,l1⟩
 simp only [jo,if_true,gc,iy]
 have j1':r' 1 = .pointer (some ⟨x,0,none⟩):=j1.trans (by simp (disch:=decide) only [bRpE])
 unfold aC1
 refine may_po ca1 cx hL hP hR _ (by simp (disch:=decide) only [bRpE,j1']) (by simp only [bRpE]) (fun hpo r'' j1=>?_) (fun ⟨c,hc,hbad⟩ r' j2=>?_)
 rotate_left
 . simp only [bRpE,j2]
   exact ⟨⟨_,rfl,no fun M=>hbad (M.prt c hc)⟩,l1⟩
 simp only [jo,if_true,gc,iy]
 have j1'':r'' 1 = .pointer (some ⟨x,0,none⟩):=j1.trans (by simp (disch:=decide) only [bRpE,j1'])
 unfold aC0
 refine may_ro ca1 d1 b1 hL hR _ (by simp (disch:=decide) only [bRpE,j1'']) (by simp (disch:=decide) only [bRpE]) (by simp only [bRpE]) (fun hro r3 h3 lp j1 l3 d3 llp o3=>?_) (fun ⟨p,hp,hbad⟩ r3 h3 l3 j2=>?_)
 rotate_left
 . simp only [bRpE,j2]
   exact ⟨⟨_,rfl,no fun M=>by have:=M.fit p hp;rw [hbad]at this;cases this⟩,l1.trans l3⟩
 simp only [jo,if_true,gc,iy]
 have j31:r3 1 = .pointer (some ⟨x,0,none⟩):=j1.trans (by simp (disch:=decide) only [bRpE,j1''])
 unfold aB9
 refine ak9 (o3.sees (by decide) llp) (by rw [Hy];omega) _ (by simp (disch:=decide) only [bRpE]) (by simp only [bRpE]) (fun hon r4 j1=>?_) (fun ⟨c,hc,hbad⟩ r4 j2=>?_)
 rotate_left
 . simp only [bRpE,j2]
   exact ⟨⟨_,rfl,no fun M=>hbad (M.once c hc)⟩,l1.trans l3⟩
 simp only [jo,if_true,gc,iy]
 have j41:r4 1 = .pointer (some ⟨x,0,none⟩):=j1.trans (by simp (disch:=decide) only [bRpE,j31])
 have cx3:∀k,af G h3 ⟨x,k,none⟩=_:=fun k=>aj (ai (l3 _ _ b1))
 unfold aB8
 simp only [bRpE,j41,cx3]
 refine (af0 (ca1.up l3 d3).cv hht (by omega) (by omega) (by omega)).mono ?_
 rintro _ h3 ⟨⟨b,rfl,hb⟩,rfl⟩
 try simp (disch:=first|decide|omega) only [bRpE,Nat.reduceAdd,Nat.reduceMul]
 exact ⟨⟨_,rfl,hb.trans ⟨fun B=>⟨hn,hP,hR,hL,hbl,hpo,hro,hon,B⟩,fun M=>M.bins⟩⟩,l1.trans l3⟩
section
variable (G:Hp) (K:EK) (r:Rg) (h:Hp)
def md25:Nat->Hint
 |_=>mh false [] [] [] false
def Es (G:Hp) (K:EK) (r:Rg) (h:Hp):Prop:=
 K .ret (u2 r 14 (r 5) 4 (r 5)) h
def S25:Prop:=
 o_ G (binOp .rem 3 (r 0) (r 1)) h fun v0 h0=>o_ G (binOp .lss 3 v0 (.int .i64 0)) h0 fun v1 h1=>
 cond v1
 (o_ G (binOp .add 3 v0 (r 1)) h1 fun v2 h2=>
 Es G K (upd (u10 r 4 (.int .i64 0) 6 (r 0) 7 (r 1) 8 v0 5 v0 9 v0 10 v1 11 v0 12 (r 1) 13 v2) 5 v2) h2)
 (Es G K (u7 r 4 (.int .i64 0) 6 (r 0) 7 (r 1) 8 v0 5 v0 9 v0 10 v1) h1)
theorem Xt:Ent 15 25 [.tmp 4] S25:=ent_ (m:=md25) (c:=(Tryz.f25.body.getD .skip)) (fun _ _ _ _=>by kernel_rfl) Tryz.func25 rfl rfl rfl
def md37:Nat->Hint
 |_=>mh false [] [] [] false
def aC3 (G:Hp) (K:EK) (r:Rg) (h:Hp):Prop:=
 K .ret (u3 r 9 (r 4) 2 (r 4) 3 (.int .i64 0)) h
def S37:Prop:=
 o_ G (Instr.box 26 (r 0)) h fun v0 h0=>o_ G (Instr.loadAt 26 v0) h0 fun v1 h1=>
 c_ G 80 #[v1] h1 fun v2 h2=>
 opH P_ G (xEq .eql 68 (.tmp 0) (.const .nilFunc) v2 (.pointer none)) h2 fun v3 h3=>
 (fun q=>cond v3
 (K .ret (u2 q 2 (.pointer none) 3 (.int .i64 5)) h3)
 (aC3 G K q h3))
 (u8 r 1 v0 2 (.pointer none) 3 (.int .i64 0) 5 v1 6 v2 4 v2 7 v2 8 v3)
theorem enter37:Ent 10 37 [.tmp 2,.tmp 3] S37:=ent_ (m:=md37) (c:=(Tryz.f37.body.getD .skip)) (fun _ _ _ _=>by kernel_rfl) Tryz.func37 rfl rfl rfl
def md155:Nat->Hint
 |3=>mh false [0,1,3,0,0,16,48,112,248,511,1023,2047,4095] [n_,n_,m_,n_,n_,n_,n_,m_,n_,n_,n_,n_,.store] (fs 13) false
 |4=>mh false [0,1,3,0,0,16,48,112,248,511,1023,2047,4095] [n_,n_,m_,n_,n_,n_,n_,m_,n_,n_,n_,n_,.store] (fs 13) false
 |_=>mh false [] [] [] false
def Ye:Prop:=
 p_ (Instr.fieldAt 30 (r 5) 0) h fun v8 h8=>
 p_ (Instr.fieldAt 28 v8 0) h8 fun v9 h9=>
 w_ G h (Instr.loadAt 3 v9) h9 fun v10 h10=>
 p_ (Instr.indexAt 245 (.pointer (some ⟨0,0,none⟩)) (r 2)) h10 fun v11 h11=>
 p_ (Instr.fieldAt 28 v11 0) h11 fun v12 h12=>
 w_ G h (Instr.loadAt 3 v12) h12 fun v13 h13=>
 p_ (binOp .mul 3 (r 3) v13) h13 fun v14 h14=>
 p_ (binOp .add 3 v10 v14) h14 fun v15 h15=>
 p_ (Instr.fieldAt 30 (r 5) 0) h15 fun v16 h16=>
 p_ (Instr.fieldAt 28 v16 0) h16 fun v17 h17=>
 opH P_ G (su (Instr.storeAt 3 v17 v15)) h17 fun v18 h18=>
 p_ (Instr.fieldAt 30 (r 5) 0) h18 fun v19 h19=>
 p_ (Instr.fieldAt 28 v19 1) h19 fun v20 h20=>
 w_ G h18 (Instr.loadAt 3 v20) h20 fun v21 h21=>
 p_ (Instr.indexAt 245 (.pointer (some ⟨0,0,none⟩)) (r 2)) h21 fun v22 h22=>
 p_ (Instr.fieldAt 28 v22 1) h22 fun v23 h23=>
 w_ G h18 (Instr.loadAt 3 v23) h23 fun v24 h24=>
 p_ (binOp .mul 3 (r 3) v24) h24 fun v25 h25=>
 p_ (binOp .add 3 v21 v25) h25 fun v26 h26=>
 p_ (Instr.fieldAt 30 (r 5) 0) h26 fun v27 h27=>
 p_ (Instr.fieldAt 28 v27 1) h27 fun v28 h28=>
 opH P_ G (su (Instr.storeAt 3 v28 v26)) h28 fun v29 h29=>o_ G (Instr.loadAt 30 (r 5)) h29 fun v30 h30=>
 opH P_ G (su (Instr.storeAt 30 (r 8) v30)) h30 fun v31 h31=>
 K .ret (u6 (u10 (u10 r 19 v8 20 v9 21 v10 22 (r 3) 23 (r 2) 24 v11 25 v12 26 v13 27 v14 28 v15) 29 v16 30 v17 31 v19 32 v20 33 v21 34 (r 3) 35 (r 2) 36 v22 37 v23 38 v24) 39 v25 40 v26 41 v27 42 v28 43 v30 9 (.bool true)) h31
def S155:Prop:=
 o_ G (Instr.box 30 (r 1)) h fun v0 h0=>o_ G (Instr.alloc 30 true (.tuple #[])) h0 fun v1 h1=>
 c_ G 129 #[(r 3),(.int .i64 0),(.int .i64 16)] h1 fun v2 h2=>o_ G (Op.unary .not v2) h2 fun v3 h3=>g_ v3 false (fun K1=>K1 (r 2) h3) h3 fun v4 h4=>g_ v3 false (c_ G 129 #[v4,(.int .i64 0),(.int .i64 3)] h4) h4 fun v5 h5=>g_ v3 false (o_ G (Op.unary .not v5) h5) h5 fun v6 h6=>
 opH P_ G (bj v3 (.bool true) v6) h6 fun v7 h7=>
 cond v7
 (o_ G (Instr.build 30 #[]) h7 fun v32 h32=>
 opH P_ G (su (Instr.storeAt 30 v1 v32)) h32 fun v33 h33=>
 K .ret (u3 (u10 r 5 v0 8 v1 9 (.bool false) 10 (r 3) 11 v2 12 v3 13 v3 14 v4 15 v5 16 v6) 17 v7 18 v32 9 (.bool false)) h33)
 (Ye G K (upd (u10 r 5 v0 8 v1 9 (.bool false) 10 (r 3) 11 v2 12 v3 13 v3 14 v4 15 v5 16 v6) 17 v7) h7)
theorem ar7:Ent 44 155 [.cell 8 30,.tmp 9] S155:=ent_ (m:=md155) (c:=(Tryz.f155.body.getD .skip)) (fun _ _ _ _=>by kernel_rfl) Tryz.func155 rfl rfl rfl
def md89:Nat->Hint
 |_=>mh false [] [] [] false
def Pi:Prop:=
 o_ G (Instr.fieldAt 30 (r 3) 0) h fun v7 h7=>o_ G (Instr.loadAt 28 v7) h7 fun v8 h8=>o_ G (Instr.fieldAt 30 (r 3) 0) h8 fun v9 h9=>o_ G (Instr.fieldAt 28 v9 0) h9 fun v10 h10=>o_ G (Instr.loadAt 3 v10) h10 fun v11 h11=>o_ G (Instr.fieldAt 28 (r 5) 0) h11 fun v12 h12=>o_ G (Instr.loadAt 3 v12) h12 fun v13 h13=>o_ G (binOp .add 3 v11 v13) h13 fun v14 h14=>o_ G (Instr.fieldAt 30 (r 3) 0) h14 fun v15 h15=>o_ G (Instr.fieldAt 28 v15 1) h15 fun v16 h16=>o_ G (Instr.loadAt 3 v16) h16 fun v17 h17=>o_ G (Instr.fieldAt 28 (r 5) 1) h17 fun v18 h18=>o_ G (Instr.loadAt 3 v18) h18 fun v19 h19=>o_ G (binOp .add 3 v17 v19) h19 fun v20 h20=>o_ G (Instr.build 28 #[(0,v14),(1,v20)]) h20 fun v21 h21=>o_ G (Instr.buildSlice 22 2 #[(0,v8),(1,v21)]) h21 fun v22 h22=>
 K .ret (u7 (u10 r 12 v7 13 v8 14 v9 15 v10 16 v11 17 v12 18 v13 19 v14 20 v15 21 v16) 22 v17 23 v18 24 v19 25 v20 26 v21 27 v22 4 v22) h22
def S89:Prop:=
 o_ G (Instr.box 30 (r 1)) h fun v0 h0=>o_ G (Instr.indexAt 245 (.pointer (some ⟨0,0,none⟩)) (.int .i64 1)) h0 fun v1 h1=>o_ G (Instr.loadAt 28 v1) h1 fun v2 h2=>o_ G (Instr.alloc 28 true (.tuple #[])) h2 fun v3 h3=>
 opH P_ G (su (Instr.storeAt 28 v3 v2)) h3 fun v4 h4=>o_ G (Instr.fieldAt 30 v0 1) h4 fun v5 h5=>o_ G (Instr.loadAt 4 v5) h5 fun v6 h6=>
 cond v6
 (o_ G (Instr.indexAt 245 (.pointer (some ⟨0,0,none⟩)) (.int .i64 2)) h6 fun v23 h23=>o_ G (Instr.loadAt 28 v23) h23 fun v24 h24=>
 opH P_ G (su (Instr.storeAt 28 v3 v24)) h24 fun v25 h25=>
 Pi G K (u9 r 3 v0 4 (.slice none 0 0) 6 v1 7 v2 5 v3 8 v5 9 v6 10 v23 11 v24) h25)
 (Pi G K (u7 r 3 v0 4 (.slice none 0 0) 6 v1 7 v2 5 v3 8 v5 9 v6) h6)
theorem enter89:Ent 28 89 [.tmp 4] S89:=ent_ (m:=md89) (c:=(Tryz.f89.body.getD .skip)) (fun _ _ _ _=>by kernel_rfl) Tryz.func89 rfl rfl rfl
def md61:Nat->Hint
 |_=>mh false [] [] [] false
def S61:Prop:=
 o_ G (Instr.box 30 (r 1)) h fun v0 h0=>o_ G (Instr.loadAt 30 v0) h0 fun v1 h1=>
 c_ G 89 #[(r 0),v1] h1 fun v2 h2=>o_ G (Instr.indexAt 22 v2 (.int .i64 0)) h2 fun v3 h3=>o_ G (Instr.loadAt 28 v3) h3 fun v4 h4=>
 c_ G 62 #[(r 0),v4] h4 fun v5 h5=>g_ v5 true (fun K1=>K1 (r 0) h5) h5 fun v6 h6=>g_ v5 true (fun K1=>K1 v2 h6) h6 fun v7 h7=>g_ v5 true (o_ G (Instr.indexAt 22 v7 (.int .i64 1)) h7) h7 fun v8 h8=>g_ v5 true (o_ G (Instr.loadAt 28 v8) h8) h8 fun v9 h9=>g_ v5 true (c_ G 62 #[v6,v9] h9) h9 fun v10 h10=>
 opH P_ G (bj v5 v10 (.bool false)) h10 fun v11 h11=>
 K .ret (u9 (u10 r 3 v0 4 (.bool false) 6 (r 0) 7 v1 8 v2 5 v2 9 (r 0) 10 v2 11 v3 12 v4) 13 v5 14 v5 15 v6 16 v7 17 v8 18 v9 19 v10 20 v11 4 v11) h11
theorem enter61:Ent 21 61 [.tmp 4] S61:=ent_ (m:=md61) (c:=(Tryz.f61.body.getD .skip)) (fun _ _ _ _=>by kernel_rfl) Tryz.func61 rfl rfl rfl
def md149:Nat->Hint
 |_=>mh false [] [] [] false
def S149:Prop:=
 o_ G (Instr.box 68 (r 0)) h fun v0 h0=>o_ G (Instr.box 30 (r 1)) h0 fun v1 h1=>
 K .ret (u5 r 2 v0 3 v1 4 .nilFunc 5 (.func (.func 165) #[] #[v0,v1]) 4 (.func (.func 165) #[] #[v0,v1])) h1
theorem as1:Ent 6 149 [.tmp 4] S149:=ent_ (m:=md149) (c:=(Tryz.f149.body.getD .skip)) (fun _ _ _ _=>by kernel_rfl) Tryz.func149 rfl rfl rfl
def md78:Nat->Hint
 |_=>mh false [] [] [] false
def S78:Prop:=
 o_ G (Instr.box 48 (r 1)) h fun v0 h0=>o_ G (Instr.loadAt 48 v0) h0 fun v1 h1=>
 c_ G 127 #[(r 0),v1] h1 fun v2 h2=>o_ G (Instr.extract v2 0) h2 fun v3 h3=>o_ G (Instr.extract v2 1) h3 fun v4 h4=>
 K .ret (u2 (u10 r 3 v0 4 (.bool false) 8 (r 0) 9 v1 10 v2 7 v2 11 v3 12 v4 5 v3 6 v4) 13 v4 4 v4) h4
theorem enter78:Ent 14 78 [.tmp 4] S78:=ent_ (m:=md78) (c:=(Tryz.f78.body.getD .skip)) (fun _ _ _ _=>by kernel_rfl) Tryz.func78 rfl rfl rfl
def md74:Nat->Hint
 |_=>mh false [] [] [] false
def S74:Prop:=
 o_ G (Instr.box 26 (r 0)) h fun v0 h0=>o_ G (Instr.loadAt 26 v0) h0 fun v1 h1=>
 c_ G 80 #[v1] h1 fun v2 h2=>
 opH P_ G (xEq .neq 68 (.tmp 0) (.const .nilFunc) v2 (.pointer none)) h2 fun v3 h3=>
 K .ret (u6 r 1 v0 2 (.bool false) 3 v1 4 v2 5 v3 2 v3) h3
theorem enter74:Ent 6 74 [.tmp 2] S74:=ent_ (m:=md74) (c:=(Tryz.f74.body.getD .skip)) (fun _ _ _ _=>by kernel_rfl) Tryz.func74 rfl rfl rfl
def md62:Nat->Hint
 |_=>mh false [] [] [] false
def S62:Prop:=
 o_ G (Instr.box 28 (r 1)) h fun v0 h0=>o_ G (Instr.loadAt 28 v0) h0 fun v1 h1=>
 c_ G 88 #[(r 0),v1] h1 fun v2 h2=>o_ G (binOp .geq 3 v2 (.int .i64 0)) h2 fun v3 h3=>g_ v3 true (fun K1=>K1 (r 0) h3) h3 fun v4 h4=>g_ v3 true (opH P_ G (xNil v4) h4) h4 fun v5 h5=>g_ v3 true (o_ G (Instr.fieldAt 215 v5 2) h5) h5 fun v6 h6=>g_ v3 true (o_ G (Instr.loadAt 168 v6) h6) h6 fun v7 h7=>g_ v3 true (fun K1=>K1 v2 h7) h7 fun v8 h8=>g_ v3 true (o_ G (Instr.indexAt 168 v7 v8) h8) h8 fun v9 h9=>g_ v3 true (o_ G (Instr.loadAt 3 v9) h9) h9 fun v10 h10=>g_ v3 true (opH P_ G (xEq .neq 3 (.tmp 0) (.const .nilFunc) v10 (.int .i64 (-1))) h10) h10 fun v11 h11=>
 opH P_ G (bj v3 v11 (.bool false)) h11 fun v12 h12=>
 K .ret (u9 (u10 r 3 v0 4 (.bool false) 6 (r 0) 7 v1 8 v2 5 v2 9 v2 10 v3 11 v3 12 v4) 13 v5 14 v6 15 v7 16 v8 17 v9 18 v10 19 v11 20 v12 4 v12) h12
theorem enter62:Ent 21 62 [.tmp 4] S62:=ent_ (m:=md62) (c:=(Tryz.f62.body.getD .skip)) (fun _ _ _ _=>by kernel_rfl) Tryz.func62 rfl rfl rfl
def md158:Nat->Hint
 |_=>mh false [] [] [] false
def S158:Prop:=
 o_ G (Instr.box 28 (r 1)) h fun v0 h0=>o_ G (Instr.loadAt 28 v0) h0 fun v1 h1=>
 c_ G 88 #[(r 0),v1] h1 fun v2 h2=>o_ G (binOp .geq 3 v2 (.int .i64 0)) h2 fun v3 h3=>g_ v3 true (fun K1=>K1 (r 0) h3) h3 fun v4 h4=>g_ v3 true (opH P_ G (xNil v4) h4) h4 fun v5 h5=>g_ v3 true (o_ G (Instr.fieldAt 215 v5 2) h5) h5 fun v6 h6=>g_ v3 true (o_ G (Instr.loadAt 168 v6) h6) h6 fun v7 h7=>g_ v3 true (fun K1=>K1 v2 h7) h7 fun v8 h8=>g_ v3 true (o_ G (Instr.indexAt 168 v7 v8) h8) h8 fun v9 h9=>g_ v3 true (o_ G (Instr.loadAt 3 v9) h9) h9 fun v10 h10=>g_ v3 true (opH P_ G (xEq .eql 3 (.tmp 0) (.const .nilFunc) v10 (.int .i64 0)) h10) h10 fun v11 h11=>
 opH P_ G (bj v3 v11 (.bool false)) h11 fun v12 h12=>
 K .ret (u9 (u10 r 3 v0 4 (.bool false) 6 (r 0) 7 v1 8 v2 5 v2 9 v2 10 v3 11 v3 12 v4) 13 v5 14 v6 15 v7 16 v8 17 v9 18 v10 19 v11 20 v12 4 v12) h12
theorem ar4:Ent 21 158 [.tmp 4] S158:=ent_ (m:=md158) (c:=(Tryz.f158.body.getD .skip)) (fun _ _ _ _=>by kernel_rfl) Tryz.func158 rfl rfl rfl
def md88:Nat->Hint
 |1=>⟨false,[0,1,3,7,15,7,39,103,231,487,1023,2047,4095,8191,16383,32767,16383,81919,212991,475135,999423,2097151,4194303,8388607],[.pureN,.pureM,.pureN,.pureN,.pureM,.pureN,.pureN,.pureN,.pureM,.pureN,.eff,.pureN,.pureN,.pureN,.pureN,.pureM,.pureN,.pureN,.pureN,.pureM,.pureN,.eff,.pureN,.pureN],[.pureN,.pureM,.pureN,.pureN,.pureM,.pureN,.pureN,.pureN,.pureM,.pureN,.eff,.pureN,.pureN,.pureN,.pureN,.late,.pureN,.pureN,.pureN,.late,.pureN,.eff,.pureN,.pureN],[false,false,false,false,false,false,false,false,false,false,false,false,false,false,false,false,false,false,false,false,false,false,false,false],false⟩
 |3=>mh false [0,1,0,4,12,28,63,0,128,511,1023] [n_,m_,n_,n_,n_,m_,n_,n_,m_,n_,n_] (fs 11) false
 |_=>mh false [] [] [] false
def ay8:Prop:=
 p_ (Instr.fieldAt 28 (r 3) 1) h fun v22 h22=>
 w_ G h (Instr.loadAt 3 v22) h22 fun v23 h23=>
 bk P_ noHp noHp (xNil (r 0)) h23 fun v24 h24=>
 p_ (Instr.fieldAt 215 v24 0) h24 fun v25 h25=>
 w_ G h (Instr.loadAt 3 v25) h25 fun v26 h26=>
 p_ (binOp .mul 3 v23 v26) h26 fun v27 h27=>
 p_ (Instr.fieldAt 28 (r 3) 0) h27 fun v28 h28=>
 w_ G h (Instr.loadAt 3 v28) h28 fun v29 h29=>
 p_ (binOp .add 3 v27 v29) h29 fun v30 h30=>
 K .ret (upd (u10 r 29 v22 30 v23 31 (r 0) 32 v24 33 v25 34 v26 35 v27 36 v28 37 v29 38 v30) 4 v30) h30
def S88:Prop:=
 o_ G (Instr.box 28 (r 1)) h fun v0 h0=>
 bk P_ G h0 (xEq .eql 68 (.tmp 0) (.const .nilFunc) (r 0) (.pointer none)) h0 fun v1 h1=>g_ v1 false (p_ (Instr.fieldAt 28 v0 0) h1) h1 fun v2 h2=>g_ v1 false (w_ G h0 (Instr.loadAt 3 v2) h2) h2 fun v3 h3=>g_ v1 false (fun K1=>K1 (r 0) h3) h3 fun v4 h4=>g_ v1 false (bk P_ noHp noHp (xNil v4) h4) h4 fun v5 h5=>g_ v1 false (p_ (Instr.fieldAt 215 v5 0) h5) h5 fun v6 h6=>g_ v1 false (w_ G h0 (Instr.loadAt 3 v6) h6) h6 fun v7 h7=>g_ v1 false (p_ (binOp .sub 3 v7 (.int .i64 1)) h7) h7 fun v8 h8=>g_ v1 false (c_ G 129 #[v3,(.int .i64 0),v8] h8) h8 fun v9 h9=>g_ v1 false (p_ (Op.unary .not v9) h9) h9 fun v10 h10=>
 bk P_ noHp noHp (bj v1 (.bool true) v10) h10 fun v11 h11=>g_ v11 false (p_ (Instr.fieldAt 28 v0 1) h11) h11 fun v12 h12=>g_ v11 false (w_ G h12 (Instr.loadAt 3 v12) h12) h12 fun v13 h13=>g_ v11 false (fun K1=>K1 (r 0) h13) h13 fun v14 h14=>g_ v11 false (bk P_ noHp noHp (xNil v14) h14) h14 fun v15 h15=>g_ v11 false (p_ (Instr.fieldAt 215 v15 1) h15) h15 fun v16 h16=>g_ v11 false (w_ G h16 (Instr.loadAt 3 v16) h16) h16 fun v17 h17=>g_ v11 false (p_ (binOp .sub 3 v17 (.int .i64 1)) h17) h17 fun v18 h18=>g_ v11 false (c_ G 129 #[v13,(.int .i64 0),v18] h18) h18 fun v19 h19=>g_ v11 false (p_ (Op.unary .not v19) h19) h19 fun v20 h20=>
 bk P_ noHp noHp (bj v11 (.bool true) v20) h20 fun v21 h21=>
 (fun q=>cond v21
 (K .ret (upd q 4 (.int .i64 (-1))) h21)
 (ay8 G K q h21))
 (u6 (u10 (u10 r 3 v0 4 (.int .i64 0) 5 (r 0) 6 v1 7 v1 8 v2 9 v3 10 v4 11 v5 12 v6) 13 v7 14 v8 15 v9 16 v10 17 v11 18 v11 19 v12 20 v13 21 v14 22 v15) 23 v16 24 v17 25 v18 26 v19 27 v20 28 v21)
theorem enter88:Ent 39 88 [.tmp 4] S88:=ent_ (m:=md88) (c:=(Tryz.f88.body.getD .skip)) (fun _ _ _ _=>by kernel_rfl) Tryz.func88 rfl rfl rfl
def md80:Nat->Hint
 |_=>mh false [] [] [] false
def az5 (G:Hp) (K:EK) (r:Rg) (h:Hp):Prop:=
 K .ret (u2 r 68 (r 5) 2 (r 5)) h
def az6:Prop:=
 o_ G (Instr.loadAt 26 (r 1)) h fun v29 h29=>
 c_ G 130 #[v29] h29 fun v30 h30=>o_ G (Instr.extract v30 0) h30 fun v31 h31=>o_ G (Instr.extract v30 1) h31 fun v32 h32=>o_ G (Op.unary .not v32) h32 fun v33 h33=>g_ v33 false (fun K1=>K1 v31 h33) h33 fun v34 h34=>g_ v33 false (o_ G (Instr.fieldAt 26 (r 1) 5) h34) h34 fun v35 h35=>g_ v33 false (o_ G (Instr.loadAt 23 v35) h35) h35 fun v36 h36=>g_ v33 false (c_ G 131 #[v34,v36] h36) h36 fun v37 h37=>g_ v33 false (o_ G (Op.unary .not v37) h37) h37 fun v38 h38=>
 opH P_ G (bj v33 (.bool true) v38) h38 fun v39 h39=>g_ v39 false (fun K1=>K1 v31 h39) h39 fun v40 h40=>g_ v39 false (o_ G (Instr.fieldAt 26 (r 1) 6) h40) h40 fun v41 h41=>g_ v39 false (o_ G (Instr.loadAt 24 v41) h41) h41 fun v42 h42=>g_ v39 false (o_ G (Instr.fieldAt 26 (r 1) 2) h42) h42 fun v43 h43=>g_ v39 false (o_ G (Instr.loadAt 3 v43) h43) h43 fun v44 h44=>g_ v39 false (c_ G 132 #[v40,v42,v44] h44) h44 fun v45 h45=>g_ v39 false (o_ G (Op.unary .not v45) h45) h45 fun v46 h46=>
 opH P_ G (bj v39 (.bool true) v46) h46 fun v47 h47=>
 (fun q=>cond v47
 (K .ret (upd q 2 (.pointer none)) h47)
 (az5 G K q h47))
 (u5 (u10 (u10 r 46 v29 47 v30 45 v30 48 v31 49 v32 5 v31 6 v32 50 v32 51 v33 52 v33) 53 v34 54 v35 55 v36 56 v37 57 v38 58 v39 59 v39 60 v40 61 v41 62 v42) 63 v43 64 v44 65 v45 66 v46 67 v47)
def az7:Prop:=
 o_ G (Instr.fieldAt 26 (r 1) 2) h fun v15 h15=>o_ G (Instr.loadAt 3 v15) h15 fun v16 h16=>
 c_ G 129 #[v16,(.int .i64 1),(.int .i64 8)] h16 fun v17 h17=>o_ G (Op.unary .not v17) h17 fun v18 h18=>g_ v18 false (o_ G (Instr.fieldAt 26 (r 1) 12) h18) h18 fun v19 h19=>g_ v18 false (o_ G (Instr.loadAt 3 v19) h19) h19 fun v20 h20=>g_ v18 false (c_ G 129 #[v20,(.int .i64 1),(.int .i64 16)] h20) h20 fun v21 h21=>g_ v18 false (o_ G (Op.unary .not v21) h21) h21 fun v22 h22=>
 opH P_ G (bj v18 (.bool true) v22) h22 fun v23 h23=>g_ v23 false (o_ G (Instr.fieldAt 26 (r 1) 14) h23) h23 fun v24 h24=>g_ v23 false (o_ G (Instr.loadAt 3 v24) h24) h24 fun v25 h25=>g_ v23 false (c_ G 129 #[v25,(.int .i64 1),(.int .i64 1048576)] h25) h25 fun v26 h26=>g_ v23 false (o_ G (Op.unary .not v26) h26) h26 fun v27 h27=>
 opH P_ G (bj v23 (.bool true) v27) h27 fun v28 h28=>
 (fun q=>cond v28
 (K .ret (upd q 2 (.pointer none)) h28)
 (az6 G K q h28))
 (u6 (u10 r 29 v15 30 v16 31 v17 32 v18 33 v18 34 v19 35 v20 36 v21 37 v22 38 v23) 39 v23 40 v24 41 v25 42 v26 43 v27 44 v28)
def Ms:Prop:=
 o_ G (binOp .add 3 (r 21) (.int .i64 1)) h fun v49 h49=>
 K .normal (u2 r 28 v49 21 v49) h49
def Mt:Prop:=
 o_ G (Instr.indexAt 168 (r 19) (r 21)) h fun v50 h50=>o_ G (Instr.loadAt 3 v50) h50 fun v51 h51=>
 c_ G 129 #[v51,(.int .i64 1),(.int .i64 1000)] h51 fun v52 h52=>o_ G (Op.unary .not v52) h52 fun v53 h53=>
 (fun q=>cond v53
 (K .ret (upd q 2 (.pointer none)) h53)
 (Ms G K q h53))
 (u6 r 23 v50 24 v51 4 v51 25 v51 26 v52 27 v53)
def az4 (r:Rg) (h:Hp) (K:EK):Prop:=
 o_ G (binOp .lss 3 (r 21) (r 20)) h fun v48 h48=>
 cond v48
 (Mt G K (upd r 22 v48) h48)
 (K (.exit 0) (upd r 22 v48) h48)
def S80:Prop:=
 o_ G (Instr.box 26 (r 0)) h fun v0 h0=>o_ G (Instr.fieldAt 26 v0 7) h0 fun v1 h1=>o_ G (Instr.loadAt 3 v1) h1 fun v2 h2=>o_ G (Instr.fieldAt 26 v0 8) h2 fun v3 h3=>o_ G (Instr.loadAt 3 v3) h3 fun v4 h4=>o_ G (Instr.fieldAt 26 v0 9) h4 fun v5 h5=>o_ G (Instr.loadAt 3 v5) h5 fun v6 h6=>o_ G (Instr.fieldAt 26 v0 10) h6 fun v7 h7=>o_ G (Instr.loadAt 3 v7) h7 fun v8 h8=>o_ G (Instr.fieldAt 26 v0 11) h8 fun v9 h9=>o_ G (Instr.loadAt 3 v9) h9 fun v10 h10=>o_ G (Instr.fieldAt 26 v0 13) h10 fun v11 h11=>o_ G (Instr.loadAt 3 v11) h11 fun v12 h12=>o_ G (Instr.buildSlice 168 6 #[(0,v2),(1,v4),(2,v6),(3,v8),(4,v10),(5,v12)]) h12 fun v13 h13=>o_ G (Builtin.len_ #[168] 3 #[v13]) h13 fun v14 h14=>
 ci (az4 G) (u7 (u10 r 1 v0 2 (.pointer none) 7 v1 8 v2 9 v3 10 v4 11 v5 12 v6 13 v7 14 v8) 15 v9 16 v10 17 v11 18 v12 19 v13 20 v14 21 (.int .i64 0)) h14 (bn 0 (bv (az7 G K) K))
theorem enter80:Ent 69 80 [.tmp 2] S80:=ent_ (m:=md80) (c:=(Tryz.f80.body.getD .skip)) (fun _ _ _ _=>by kernel_rfl) Tryz.func80 rfl rfl rfl
def md129:Nat->Hint
 |_=>mh false [] [] [] false
def S129:Prop:=
 o_ G (binOp .geq 3 (r 0) (r 1)) h fun v0 h0=>g_ v0 true (fun K1=>K1 (r 0) h0) h0 fun v1 h1=>g_ v0 true (fun K1=>K1 (r 2) h1) h1 fun v2 h2=>g_ v0 true (o_ G (binOp .leq 3 v1 v2) h2) h2 fun v3 h3=>
 opH P_ G (bj v0 v3 (.bool false)) h3 fun v4 h4=>
 K .ret (u10 r 6 (.bool false) 7 (r 0) 8 (r 1) 9 v0 10 v0 11 v1 12 v2 13 v3 14 v4 6 v4) h4
theorem at8:Ent 15 129 [.tmp 6] S129:=ent_ (m:=md129) (c:=(Tryz.f129.body.getD .skip)) (fun _ _ _ _=>by kernel_rfl) Tryz.func129 rfl rfl rfl
def md165:Nat->Hint
 |_=>mh false [] [] [] false
def Ps:Prop:=
 o_ G (Instr.loadAt 30 (r 2)) h fun v8 h8=>o_ G (Instr.fieldAt 30 (r 2) 0) h8 fun v9 h9=>o_ G (Instr.loadAt 28 v9) h9 fun v10 h10=>o_ G (Instr.fieldAt 30 (r 2) 1) h10 fun v11 h11=>o_ G (Instr.loadAt 4 v11) h11 fun v12 h12=>o_ G (Op.unary .not v12) h12 fun v13 h13=>o_ G (Instr.build 30 #[(0,v10),(1,v13)]) h13 fun v14 h14=>o_ G (Instr.build 48 #[(0,(.int .i64 2)),(3,v8),(4,v14)]) h14 fun v15 h15=>o_ G (Instr.alloc 48 true (.tuple #[])) h15 fun v16 h16=>
 opH P_ G (su (Instr.storeAt 48 v16 v15)) h16 fun v17 h17=>o_ G (Instr.loadAt 68 (r 1)) h17 fun v18 h18=>o_ G (Instr.loadAt 48 v16) h18 fun v19 h19=>
 c_ G 78 #[v18,v19] h19 fun v20 h20=>
 cond v20
 (o_ G (Instr.loadAt 178 (r 3)) h20 fun v21 h21=>o_ G (Instr.loadAt 48 v16) h21 fun v22 h22=>
 opH P_ G (ig v21 #[v22]) h22 fun v23 h23=>
 K .normal (u5 (u10 r 18 v8 19 v9 20 v10 21 v11 22 v12 23 v13 24 v14 25 v15 5 v16 26 v18) 27 v19 28 v20 29 v21 30 v22 31 v23) h23)
 (K .normal (u2 (u10 r 18 v8 19 v9 20 v10 21 v11 22 v12 23 v13 24 v14 25 v15 5 v16 26 v18) 27 v19 28 v20) h20)
def Pu (r:Rg) (h:Hp) (K:EK):Prop:=
 o_ G (Instr.alloc 48 true (.tuple #[])) h fun v24 h24=>
 opH P_ G (su (Instr.storeAt 48 v24 (r 13))) h24 fun v25 h25=>
 K .normal (upd r 4 v24) h25
def Pt (r:Rg) (h:Hp) (K:EK):Prop:=
 o_ G (Instr.loadAt 178 (r 3)) h fun v26 h26=>o_ G (Instr.loadAt 48 (r 4)) h26 fun v27 h27=>
 opH P_ G (ig v26 #[v27]) h27 fun v28 h28=>o_ G (Op.unary .not v28) h28 fun v29 h29=>
 cond v29
 (K .ret (u4 r 14 v26 15 v27 16 v28 17 v29) h29)
 (K .normal (u4 r 14 v26 15 v27 16 v28 17 v29) h29)
def Yb:Prop:=
 o_ G (Instr.loadAt 68 (r 1)) h fun v5 h5=>o_ G (Instr.loadAt 30 (r 2)) h5 fun v6 h6=>
 c_ G 166 #[v5,v6] h6 fun v7 h7=>
 J9 P_ G 1 (Pu G) (Pt G) (setR 32 #[13]) v7 (u3 r 10 v5 11 v6 12 v7) h7 (bn 0 (bv (Ps G K) K))
def S165:Prop:=
 o_ G (Instr.box 178 (r 0)) h fun v0 h0=>o_ G (Instr.loadAt 68 (r 1)) h0 fun v1 h1=>o_ G (Instr.loadAt 30 (r 2)) h1 fun v2 h2=>
 c_ G 61 #[v1,v2] h2 fun v3 h3=>o_ G (Op.unary .not v3) h3 fun v4 h4=>
 cond v4
 (K .ret (u5 r 3 v0 6 v1 7 v2 8 v3 9 v4) h4)
 (Yb G K (u5 r 3 v0 6 v1 7 v2 8 v3 9 v4) h4)
theorem ar2:Ent 32 165 [] S165:=ent_ (m:=md165) (c:=(Tryz.f165.body.getD .skip)) (fun _ _ _ _=>by kernel_rfl) Tryz.func165 rfl rfl rfl
def md166:Nat->Hint
 |_=>mh false [] [] [] false
def S166:Prop:=
 o_ G (Instr.box 68 (r 0)) h fun v0 h0=>o_ G (Instr.box 30 (r 1)) h0 fun v1 h1=>
 K .ret (u5 r 2 v0 3 v1 4 .nilFunc 5 (.func (.func 182) #[] #[v0,v1]) 4 (.func (.func 182) #[] #[v0,v1])) h1
theorem aq9:Ent 6 166 [.tmp 4] S166:=ent_ (m:=md166) (c:=(Tryz.f166.body.getD .skip)) (fun _ _ _ _=>by kernel_rfl) Tryz.func166 rfl rfl rfl
def md127:Nat->Hint
 |17=>mh false [0,0,2,6,14,30,62,30,254,510,31,2047] [n_,n_,m_,n_,n_,n_,m_,m_,m_,n_,n_,n_] (fs 12) false
 |26=>mh false [0,0,2,0,8,24,0,64,192,448,1016,2046,1,8191] [n_,n_,m_,n_,n_,m_,n_,n_,m_,n_,n_,m_,n_,n_] (fs 14) false
 |29=>mh false [0,0,2,7,0,16,0,64,240,15,1023] [n_,n_,m_,e_,n_,m_,n_,m_,m_,n_,n_] [false,false,false,true,false,false,false,false,false,false,false] true
 |_=>mh false [] [] [] false
def As (G:Hp) (K:EK) (r:Rg) (h:Hp):Prop:=
 K .ret (u2 r 4 (.slice none 0 0) 5 (.bool false)) h
def P7:Prop:=
 p_ (Instr.fieldAt 48 (r 3) 2) h fun v24 h24=>
 w_ G h (Instr.loadAt 3 v24) h24 fun v25 h25=>
 p_ (binOp .geq 3 v25 (.int .i64 1)) h25 fun v26 h26=>g_ v26 true (p_ (Instr.fieldAt 48 (r 3) 4) h26) h26 fun v27 h27=>g_ v26 true (w_ G h (Instr.loadAt 30 v27) h27) h27 fun v28 h28=>g_ v26 true (w_ G h (Instr.loadAt 30 (r 7)) h28) h28 fun v29 h29=>g_ v26 true (bk P_ G h (xEq .eql 30 (.tmp 0) (.tmp 0) v28 v29) h29) h29 fun v30 h30=>
 bk P_ noHp noHp (bj v26 v30 (.bool false)) h30 fun v31 h31=>
 K .ret (u2 (u10 r 68 (r 6) 69 v24 70 v25 71 v26 72 v26 73 v27 74 v28 75 v29 76 v30 77 v31) 4 (r 6) 5 v31) h31
def Ju:Prop:=
 o_ G (binOp .add 3 (r 8) (.int .i64 1)) h fun v35 h35=>
 K .normal (u3 r 42 (r 8) 43 v35 8 v35) h35
def Jt:Prop:=
 o_ G (Instr.loadAt 30 (r 9)) h fun v51 h51=>
 c_ G 89 #[(r 0),v51] h51 fun v52 h52=>o_ G (Builtin.append_ #[22,22] 22 #[(r 6),v52]) h52 fun v53 h53=>o_ G (Instr.loadAt 30 (r 9)) h53 fun v54 h54=>
 opH P_ G (su (Instr.storeAt 30 (r 7) v54)) h54 fun v55 h55=>
 Ju G K (u7 r 62 (r 6) 63 (r 0) 64 v51 65 v52 66 v53 6 v53 67 v54) h55
def Jv:Prop:=
 o_ G (Instr.fieldAt 48 (r 3) 3) h fun v36 h36=>o_ G (Instr.loadAt 30 v36) h36 fun v37 h37=>o_ G (Instr.fieldAt 48 (r 3) 1) h37 fun v38 h38=>o_ G (Instr.loadAt 3 v38) h38 fun v39 h39=>
 c_ G 155 #[(r 0),v37,v39,(r 8)] h39 fun v40 h40=>o_ G (Instr.extract v40 0) h40 fun v41 h41=>o_ G (Instr.extract v40 1) h41 fun v42 h42=>o_ G (Instr.alloc 30 true (.tuple #[])) h42 fun v43 h43=>
 opH P_ G (su (Instr.storeAt 30 v43 v41)) h43 fun v44 h44=>o_ G (Op.unary .not v42) h44 fun v45 h45=>g_ v45 false (fun K1=>K1 (r 0) h45) h45 fun v46 h46=>g_ v45 false (o_ G (Instr.loadAt 30 v43) h46) h46 fun v47 h47=>g_ v45 false (c_ G 61 #[v46,v47] h47) h47 fun v48 h48=>g_ v45 false (o_ G (Op.unary .not v48) h48) h48 fun v49 h49=>
 opH P_ G (bj v45 (.bool true) v49) h49 fun v50 h50=>
 (fun q=>cond v50
 (K .ret (u2 q 4 (.slice none 0 0) 5 (.bool false)) h50)
 (Jt G K q h50))
 (u10 (u10 r 45 (r 0) 46 v36 47 v37 48 v38 49 v39 50 (r 8) 51 v40 44 v40 52 v41 53 v42) 9 v43 10 v42 54 v42 55 v45 56 v45 57 v46 58 v47 59 v48 60 v49 61 v50)
def P5 (r:Rg) (h:Hp) (K:EK):Prop:=
 o_ G (Instr.fieldAt 48 (r 3) 2) h fun v32 h32=>o_ G (Instr.loadAt 3 v32) h32 fun v33 h33=>o_ G (binOp .leq 3 (r 8) v33) h33 fun v34 h34=>
 cond v34
 (Jv G K (u4 r 38 (r 8) 39 v32 40 v33 41 v34) h34)
 (K (.exit 1) (u4 r 38 (r 8) 39 v32 40 v33 41 v34) h34)
def P6:Prop:=
 p_ (Instr.fieldAt 48 (r 3) 4) h fun v62 h62=>
 w_ G h (Instr.loadAt 30 v62) h62 fun v63 h63=>
 p_ (Instr.fieldAt 48 (r 3) 3) h63 fun v64 h64=>
 p_ (Instr.fieldAt 30 v64 0) h64 fun v65 h65=>
 w_ G h (Instr.loadAt 28 v65) h65 fun v66 h66=>
 p_ (Instr.fieldAt 48 (r 3) 3) h66 fun v67 h67=>
 p_ (Instr.fieldAt 30 v67 1) h67 fun v68 h68=>
 w_ G h (Instr.loadAt 4 v68) h68 fun v69 h69=>
 p_ (Op.unary .not v69) h69 fun v70 h70=>
 p_ (Instr.build 30 #[(0,v66),(1,v70)]) h70 fun v71 h71=>
 bk P_ G h (xEq .eql 30 (.tmp 0) (.tmp 0) v63 v71) h71 fun v72 h72=>
 K .ret (u4 (u10 r 95 (r 11) 96 v62 97 v63 98 v64 99 v65 100 v66 101 v67 102 v68 103 v69 104 v70) 105 v71 106 v72 4 (r 11) 5 v72) h72
def Dt:Prop:=
 o_ G (binOp .add 3 (r 86) (.int .i64 1)) h fun v74 h74=>
 K .normal (u2 r 94 v74 86 v74) h74
def Du:Prop:=
 o_ G (Instr.indexAt 22 (r 84) (r 86)) h fun v75 h75=>o_ G (Instr.loadAt 28 v75) h75 fun v76 h76=>o_ G (Instr.alloc 28 true (.tuple #[])) h76 fun v77 h77=>
 opH P_ G (su (Instr.storeAt 28 v77 v76)) h77 fun v78 h78=>o_ G (Instr.loadAt 28 v77) h78 fun v79 h79=>
 c_ G 62 #[(r 0),v79] h79 fun v80 h80=>o_ G (Op.unary .not v80) h80 fun v81 h81=>
 (fun q=>cond v81
 (K .ret (u2 q 4 (.slice none 0 0) 5 (.bool false)) h81)
 (Dt G K q h81))
 (u7 r 88 v75 89 v76 13 v77 90 (r 0) 91 v79 92 v80 93 v81)
def Jw (r:Rg) (h:Hp) (K:EK):Prop:=
 o_ G (binOp .lss 3 (r 86) (r 85)) h fun v73 h73=>
 cond v73
 (Du G K (upd r 87 v73) h73)
 (K (.exit 3) (upd r 87 v73) h73)
def zt:Prop:=
 cond (r 107)
 (∃q83:Hp,q83.le h/\
 p_ (Instr.fieldAt 48 (r 3) 3) h fun v84 h84=>
 w_ G q83 (Instr.loadAt 30 v84) h84 fun v85 h85=>
 c_ G 89 #[(r 0),v85] h85 fun v86 h86=>q83.le h86/\
 p_ (Instr.fieldAt 48 (r 3) 4) h86 fun v87 h87=>
 w_ G q83 (Instr.loadAt 30 v87) h87 fun v88 h88=>
 p_ (Instr.fieldAt 48 (r 3) 3) h88 fun v89 h89=>
 w_ G q83 (Instr.loadAt 30 v89) h89 fun v90 h90=>
 bk P_ G q83 (xEq .eql 30 (.tmp 0) (.tmp 0) v88 v90) h90 fun v91 h91=>
 K .ret (upd (u10 r 110 (r 0) 111 v84 112 v85 113 v86 114 v87 115 v88 116 v89 117 v90 118 v91 4 v86) 5 v91) h91)
 (As G K r h)
def P8:Prop:=
 o_ G (Instr.fieldAt 48 (r 3) 0) h fun v17 h17=>o_ G (Instr.loadAt 3 v17) h17 fun v18 h18=>
 opH P_ G (xEq .eql 3 (.tmp 0) (.const .nilFunc) v18 (.int .i64 1)) h18 fun v19 h19=>
 cond v19
 (o_ G (Instr.fieldAt 48 (r 3) 3) h19 fun v20 h20=>o_ G (Instr.loadAt 30 v20) h20 fun v21 h21=>o_ G (Instr.alloc 30 true (.tuple #[])) h21 fun v22 h22=>
 opH P_ G (su (Instr.storeAt 30 v22 v21)) h22 fun v23 h23=>
 ci (P5 G) (u9 r 32 v17 33 v18 35 v19 34 v19 6 (.slice none 0 0) 36 v20 37 v21 7 v22 8 (.int .i64 0)) h23 (bn 1 (bv (P7 G K) (bn 0 (bv (As G K) K)))))
 (opH P_ G (xEq .eql 3 (.tmp 0) (.const .nilFunc) v18 (.int .i64 2)) h19 fun v56 h56=>
 cond v56
 (o_ G (Instr.fieldAt 48 (r 3) 3) h56 fun v57 h57=>o_ G (Instr.fieldAt 30 v57 0) h57 fun v58 h58=>o_ G (Instr.loadAt 28 v58) h58 fun v59 h59=>
 c_ G 156 #[v59] h59 fun v60 h60=>o_ G (Builtin.len_ #[22] 3 #[v60]) h60 fun v61 h61=>
 ci (Jw G) (u4 (u10 r 32 v17 33 v18 35 v19 34 v19 79 v56 78 v56 80 v57 81 v58 82 v59 83 v60) 11 v60 84 v60 85 v61 86 (.int .i64 0)) h61 (bn 3 (bv (P6 G K) (bn 0 (bv (As G K) K)))))
 (opH P_ G (xEq .eql 3 (.tmp 0) (.const .nilFunc) v18 (.int .i64 3)) h56 fun v82 h82=>
 cond v82
 (zt G K (u8 r 32 v17 33 v18 35 v19 34 v19 79 v56 78 v56 108 v82 107 v82) h82)
 (opH P_ G (xEq .eql 3 (.tmp 0) (.const .nilFunc) v18 (.int .i64 4)) h82 fun v92 h92=>
 zt G K (u10 r 32 v17 33 v18 35 v19 34 v19 79 v56 78 v56 108 v82 107 v82 109 v92 107 v92) h92)))
def Y4:Prop:=
 o_ G (Instr.fieldAt 48 (r 3) 0) h fun v5 h5=>o_ G (Instr.loadAt 3 v5) h5 fun v6 h6=>
 opH P_ G (xEq .neq 3 (.tmp 0) (.const .nilFunc) v6 (.int .i64 1)) h6 fun v7 h7=>g_ v7 true (o_ G (Instr.fieldAt 48 (r 3) 1) h7) h7 fun v8 h8=>g_ v7 true (o_ G (Instr.loadAt 3 v8) h8) h8 fun v9 h9=>g_ v7 true (opH P_ G (xEq .neq 3 (.tmp 0) (.const .nilFunc) v9 (.int .i64 0)) h9) h9 fun v10 h10=>g_ v7 true (fun K1=>K1 v10 h10) h10 fun v11 h11=>g_ v11 false (o_ G (Instr.fieldAt 48 (r 3) 2) h11) h11 fun v12 h12=>g_ v11 false (o_ G (Instr.loadAt 3 v12) h12) h12 fun v13 h13=>g_ v11 false (opH P_ G (xEq .neq 3 (.tmp 0) (.const .nilFunc) v13 (.int .i64 0)) h13) h13 fun v14 h14=>g_ v7 true (opH P_ G (bj v11 (.bool true) v14) h14) h14 fun v15 h15=>
 opH P_ G (bj v7 v15 (.bool false)) h15 fun v16 h16=>
 (fun q=>cond v16
 (K .ret (u2 q 4 (.slice none 0 0) 5 (.bool false)) h16)
 (P8 G K q h16))
 (u3 (u10 r 19 v5 20 v6 21 v7 22 v7 23 v8 24 v9 25 v10 26 v11 27 v12 28 v13) 29 v14 30 v15 31 v16)
def S127:Prop:=
 o_ G (Instr.box 48 (r 1)) h fun v0 h0=>o_ G (Instr.fieldAt 48 v0 3) h0 fun v1 h1=>o_ G (Instr.loadAt 30 v1) h1 fun v2 h2=>
 c_ G 61 #[(r 0),v2] h2 fun v3 h3=>o_ G (Op.unary .not v3) h3 fun v4 h4=>
 (fun q=>cond v4
 (K .ret (u2 q 4 (.slice none 0 0) 5 (.bool false)) h4)
 (Y4 G K q h4))
 (u8 r 3 v0 4 (.slice none 0 0) 5 (.bool false) 14 (r 0) 15 v1 16 v2 17 v3 18 v4)
theorem at9:Ent 119 127 [.tmp 4,.tmp 5] S127:=ent_ (m:=md127) (c:=(Tryz.f127.body.getD .skip)) (fun _ _ _ _=>by kernel_rfl) Tryz.func127 rfl rfl rfl
def md130:Nat->Hint
 |3=>mh false [0,1,0,4,0,16,0,64,240,496,1023,2047,4095] [n_,m_,n_,m_,n_,m_,n_,m_,n_,e_,n_,.alloc,n_] [false,false,false,false,false,false,false,false,false,true,false,false,false] true
 |5=>⟨false,[0,1,3,0,8,31,63,0],[.pureN,.pureM,.eff,.pureN,.pureM,.eff,.pureM,.pureN],[.pureN,.pureM,.eff,.pureN,.pureM,.eff,.late,.pureN],[false,false,true,false,false,false,false,false],true⟩
 |14=>mh false [0,1,3,7,0,0,0,64,192,480,992,2047,4095] [n_,n_,n_,m_,n_,n_,n_,m_,m_,n_,n_,n_,.store] (fs 13) false
 |_=>mh false [] [] [] false
def Y2 (G:Hp) (K:EK) (r:Rg) (h:Hp):Prop:=
 K .ret (u3 r 104 (r 4) 2 (r 4) 3 (.bool true)) h
def wq:Prop:=
 o_ G (binOp .add 3 (r 61) (.int .i64 1)) h fun v53 h53=>
 K .normal (u2 r 103 v53 61 v53) h53
def Jr:Prop:=
 o_ G (Instr.indexAt 90 (r 5) (r 8)) h fun v66 h66=>
 opH P_ G (su (Instr.storeAt 4 v66 (.bool true))) h66 fun v67 h67=>
 opH P_ G (xNil (r 4)) h67 fun v68 h68=>o_ G (Instr.fieldAt 215 v68 2) h68 fun v69 h69=>o_ G (Instr.loadAt 168 v69) h69 fun v70 h70=>o_ G (Instr.indexAt 168 v70 (r 8)) h70 fun v71 h71=>
 opH P_ G (su (Instr.storeAt 3 v71 (.int .i64 (-1)))) h71 fun v72 h72=>o_ G (Instr.fieldAt 26 (r 1) 3) h72 fun v73 h73=>o_ G (Instr.loadAt 22 v73) h73 fun v74 h74=>o_ G (Builtin.len_ #[22] 3 #[v74]) h74 fun v75 h75=>o_ G (binOp .geq 3 (r 6) v75) h75 fun v76 h76=>
 cond v76
 (bk P_ noHp noHp (xNil (r 4)) h76 fun v77 h77=>
 p_ (Instr.fieldAt 215 v77 2) h77 fun v78 h78=>
 w_ G h76 (Instr.loadAt 168 v78) h78 fun v79 h79=>
 p_ (Instr.fieldAt 26 (r 1) 3) h79 fun v80 h80=>
 w_ G h76 (Instr.loadAt 22 v80) h80 fun v81 h81=>
 w_ G h76 (Builtin.len_ #[22] 3 #[v81]) h81 fun v82 h82=>
 p_ (binOp .sub 3 (r 6) v82) h82 fun v83 h83=>
 p_ (binOp .add 3 v83 (.int .i64 1)) h83 fun v84 h84=>
 p_ (Instr.indexAt 168 v79 (r 8)) h84 fun v85 h85=>
 opH P_ G (su (Instr.storeAt 3 v85 v84)) h85 fun v86 h86=>
 wq G K (u6 (u10 (u10 r 77 (r 5) 78 (r 8) 79 v66 80 (r 4) 81 v68 82 v69 83 v70 84 (r 8) 85 v71 86 (r 6)) 87 v73 88 v74 89 v75 90 v76 91 (r 4) 92 v77 93 v78 94 v79 95 (r 8) 96 (r 6)) 97 v80 98 v81 99 v82 100 v83 101 v84 102 v85) h86)
 (wq G K (u4 (u10 r 77 (r 5) 78 (r 8) 79 v66 80 (r 4) 81 v68 82 v69 83 v70 84 (r 8) 85 v71 86 (r 6)) 87 v73 88 v74 89 v75 90 v76) h76)
def Js:Prop:=
 o_ G (Instr.indexAt 22 (r 59) (r 61)) h fun v54 h54=>o_ G (Instr.loadAt 28 v54) h54 fun v55 h55=>o_ G (Instr.alloc 28 true (.tuple #[])) h55 fun v56 h56=>
 opH P_ G (su (Instr.storeAt 28 v56 v55)) h56 fun v57 h57=>o_ G (Instr.loadAt 28 v56) h57 fun v58 h58=>
 c_ G 88 #[(r 4),v58] h58 fun v59 h59=>o_ G (binOp .lss 3 v59 (.int .i64 0)) h59 fun v60 h60=>g_ v60 false (fun K1=>K1 (r 5) h60) h60 fun v61 h61=>g_ v60 false (fun K1=>K1 v59 h61) h61 fun v62 h62=>g_ v60 false (o_ G (Instr.indexAt 90 v61 v62) h62) h62 fun v63 h63=>g_ v60 false (o_ G (Instr.loadAt 4 v63) h63) h63 fun v64 h64=>
 opH P_ G (bj v60 (.bool true) v64) h64 fun v65 h65=>
 (fun q=>cond v65
 (K .ret (u2 q 2 (.pointer none) 3 (.bool false)) h65)
 (Jr G K q h65))
 (u7 (u10 r 63 (r 61) 64 v54 65 v55 7 v56 6 (r 61) 66 (r 4) 67 v58 68 v59 8 v59 69 v59) 70 v60 71 v60 72 v61 73 v62 74 v63 75 v64 76 v65)
def P4 (r:Rg) (h:Hp) (K:EK):Prop:=
 o_ G (binOp .lss 3 (r 61) (r 60)) h fun v52 h52=>
 cond v52
 (Js G K (upd r 62 v52) h52)
 (K (.exit 0) (upd r 62 v52) h52)
def Y3:Prop:=
 ∃q25:Hp,q25.le h/\
 p_ (Instr.fieldAt 26 (r 1) 0) h fun v26 h26=>
 w_ G q25 (Instr.loadAt 3 v26) h26 fun v27 h27=>
 p_ (Instr.fieldAt 26 (r 1) 1) h27 fun v28 h28=>
 w_ G q25 (Instr.loadAt 3 v28) h28 fun v29 h29=>
 p_ (Instr.fieldAt 26 (r 1) 0) h29 fun v30 h30=>
 w_ G q25 (Instr.loadAt 3 v30) h30 fun v31 h31=>
 p_ (Instr.fieldAt 26 (r 1) 1) h31 fun v32 h32=>
 w_ G q25 (Instr.loadAt 3 v32) h32 fun v33 h33=>
 p_ (binOp .mul 3 v31 v33) h33 fun v34 h34=>o_ G (Instr.makeSlice 168 v34 v34) h34 fun v35 h35=>q25.le h35/\
 p_ (Instr.build 215 #[(0,v27),(1,v29),(2,v35)]) h35 fun v36 h36=>o_ G (Instr.box 215 v36) h36 fun v37 h37=>o_ G (Instr.fieldAt 26 (r 1) 0) h37 fun v38 h38=>o_ G (Instr.loadAt 3 v38) h38 fun v39 h39=>o_ G (Instr.fieldAt 26 (r 1) 1) h39 fun v40 h40=>o_ G (Instr.loadAt 3 v40) h40 fun v41 h41=>o_ G (binOp .mul 3 v39 v41) h41 fun v42 h42=>o_ G (Instr.makeSlice 90 v42 v42) h42 fun v43 h43=>
 ∃q44:Hp,q44.le h43/\
 p_ (Instr.fieldAt 26 (r 1) 3) h43 fun v45 h45=>
 w_ G q44 (Instr.loadAt 22 v45) h45 fun v46 h46=>
 c_ G 157 #[v46] h46 fun v47 h47=>q44.le h47/\
 p_ (Instr.fieldAt 26 (r 1) 4) h47 fun v48 h48=>
 w_ G q44 (Instr.loadAt 22 v48) h48 fun v49 h49=>o_ G (Builtin.append_ #[22,22] 22 #[v47,v49]) h49 fun v50 h50=>
 w_ G h50 (Builtin.len_ #[22] 3 #[v50]) h50 fun v51 h51=>
 ci (P4 G) (u8 (u10 (u10 r 36 v26 37 v27 38 v28 39 v29 40 v30 41 v31 42 v32 43 v33 44 v34 45 v35) 46 v36 47 v37 4 v37 48 v38 49 v39 50 v40 51 v41 52 v42 53 v43 5 v43) 54 v45 55 v46 56 v47 57 v48 58 v49 59 v50 60 v51 61 (.int .i64 0)) h51 (bn 0 (bv (Y2 G K) K))
def S130:Prop:=
 o_ G (Instr.box 26 (r 0)) h fun v0 h0=>o_ G (Instr.fieldAt 26 v0 0) h0 fun v1 h1=>o_ G (Instr.loadAt 3 v1) h1 fun v2 h2=>
 c_ G 129 #[v2,(.int .i64 1),(.int .i64 16)] h2 fun v3 h3=>o_ G (Op.unary .not v3) h3 fun v4 h4=>g_ v4 false (o_ G (Instr.fieldAt 26 v0 1) h4) h4 fun v5 h5=>g_ v4 false (o_ G (Instr.loadAt 3 v5) h5) h5 fun v6 h6=>g_ v4 false (c_ G 129 #[v6,(.int .i64 1),(.int .i64 16)] h6) h6 fun v7 h7=>g_ v4 false (o_ G (Op.unary .not v7) h7) h7 fun v8 h8=>
 opH P_ G (bj v4 (.bool true) v8) h8 fun v9 h9=>g_ v9 false (o_ G (Instr.fieldAt 26 v0 4) h9) h9 fun v10 h10=>g_ v9 false (o_ G (Instr.loadAt 22 v10) h10) h10 fun v11 h11=>g_ v9 false (o_ G (Builtin.len_ #[22] 3 #[v11]) h11) h11 fun v12 h12=>g_ v9 false (o_ G (binOp .gtr 3 v12 (.int .i64 8)) h12) h12 fun v13 h13=>
 opH P_ G (bj v9 (.bool true) v13) h13 fun v14 h14=>g_ v14 false (o_ G (Instr.fieldAt 26 v0 3) h14) h14 fun v15 h15=>g_ v14 false (o_ G (Instr.loadAt 22 v15) h15) h15 fun v16 h16=>g_ v14 false (o_ G (Builtin.len_ #[22] 3 #[v16]) h16) h16 fun v17 h17=>g_ v14 false (o_ G (Instr.fieldAt 26 v0 0) h17) h17 fun v18 h18=>g_ v14 false (o_ G (Instr.loadAt 3 v18) h18) h18 fun v19 h19=>g_ v14 false (o_ G (Instr.fieldAt 26 v0 1) h19) h19 fun v20 h20=>g_ v14 false (o_ G (Instr.loadAt 3 v20) h20) h20 fun v21 h21=>g_ v14 false (o_ G (binOp .mul 3 v19 v21) h21) h21 fun v22 h22=>g_ v14 false (o_ G (binOp .gtr 3 v17 v22) h22) h22 fun v23 h23=>
 opH P_ G (bj v14 (.bool true) v23) h23 fun v24 h24=>
 (fun q=>cond v24
 (K .ret (u2 q 2 (.pointer none) 3 (.bool false)) h24)
 (Y3 G K q h24))
 (u10 (u10 (u10 r 1 v0 2 (.pointer none) 3 (.bool false) 9 v1 10 v2 11 v3 12 v4 13 v4 14 v5 15 v6) 16 v7 17 v8 18 v9 19 v9 20 v10 21 v11 22 v12 23 v13 24 v14 25 v14) 26 v15 27 v16 28 v17 29 v18 30 v19 31 v20 32 v21 33 v22 34 v23 35 v24)
theorem at7:Ent 105 130 [.tmp 2,.tmp 3] S130:=ent_ (m:=md130) (c:=(Tryz.f130.body.getD .skip)) (fun _ _ _ _=>by kernel_rfl) Tryz.func130 rfl rfl rfl
def md131:Nat->Hint
 |6=>mh false [0,0,2,6,14,31,0,0,128,384,896,1984,4095,8191,0,32767] [n_,n_,n_,n_,m_,n_,n_,n_,n_,n_,m_,n_,n_,n_,.alloc,.store] (fs 16) false
 |_=>mh false [] [] [] false
def Yz (G:Hp) (K:EK) (r:Rg) (h:Hp):Prop:=
 K .ret (upd r 4 (.bool true)) h
def Jo:Prop:=
 o_ G (binOp .add 3 (r 81) (.int .i64 1)) h fun v13 h13=>
 K .normal (u2 r 124 v13 81 v13) h13
def zr:Prop:=
 o_ G (binOp .add 3 (r 93) (.int .i64 1)) h fun v25 h25=>
 K .normal (u2 r 123 v25 93 v25) h25
def zq:Prop:=
 o_ G (Instr.indexAt 90 (r 7) (r 12)) h fun v43 h43=>
 opH P_ G (su (Instr.storeAt 4 v43 (.bool true))) h43 fun v44 h44=>
 opH P_ G (xNil (r 0)) h44 fun v45 h45=>o_ G (Instr.fieldAt 215 v45 2) h45 fun v46 h46=>o_ G (Instr.loadAt 168 v46) h46 fun v47 h47=>o_ G (Instr.indexAt 168 v47 (r 12)) h47 fun v48 h48=>
 opH P_ G (su (Instr.storeAt 3 v48 (.int .i64 (-2)))) h48 fun v49 h49=>
 zr G K (u9 r 114 (r 7) 115 (r 12) 116 v43 117 (r 0) 118 v45 119 v46 120 v47 121 (r 12) 122 v48) h49
def Bl:Prop:=
 o_ G (Instr.indexAt 22 (r 91) (r 93)) h fun v26 h26=>o_ G (Instr.loadAt 28 v26) h26 fun v27 h27=>o_ G (Instr.alloc 28 true (.tuple #[])) h27 fun v28 h28=>
 opH P_ G (su (Instr.storeAt 28 v28 v27)) h28 fun v29 h29=>o_ G (Instr.loadAt 28 v28) h29 fun v30 h30=>
 c_ G 88 #[(r 0),v30] h30 fun v31 h31=>o_ G (Instr.indexAt 90 (r 7) v31) h31 fun v32 h32=>o_ G (Instr.loadAt 4 v32) h32 fun v33 h33=>g_ v33 false (fun K1=>K1 (r 0) h33) h33 fun v34 h34=>g_ v33 false (opH P_ G (xNil v34) h34) h34 fun v35 h35=>g_ v33 false (o_ G (Instr.fieldAt 215 v35 2) h35) h35 fun v36 h36=>g_ v33 false (o_ G (Instr.loadAt 168 v36) h36) h36 fun v37 h37=>g_ v33 false (fun K1=>K1 v31 h37) h37 fun v38 h38=>g_ v33 false (o_ G (Instr.indexAt 168 v37 v38) h38) h38 fun v39 h39=>g_ v33 false (o_ G (Instr.loadAt 3 v39) h39) h39 fun v40 h40=>g_ v33 false (o_ G (binOp .gtr 3 v40 (.int .i64 0)) h40) h40 fun v41 h41=>
 opH P_ G (bj v33 (.bool true) v41) h41 fun v42 h42=>
 (fun q=>cond v42
 (K .ret (upd q 4 (.bool false)) h42)
 (zq G K q h42))
 (upd (u10 (u10 r 95 v26 96 v27 11 v28 97 (r 0) 98 v30 99 v31 12 v31 100 (r 7) 101 v31 102 v32) 103 v33 104 v33 105 v34 106 v35 107 v36 108 v37 109 v38 110 v39 111 v40 112 v41) 113 v42)
def Cb (r:Rg) (h:Hp) (K:EK):Prop:=
 o_ G (binOp .lss 3 (r 93) (r 92)) h fun v24 h24=>
 cond v24
 (Bl G K (upd r 94 v24) h24)
 (K (.exit 4) (upd r 94 v24) h24)
def Jn:Prop:=
 o_ G (Instr.loadAt 30 (r 9)) h fun v21 h21=>
 c_ G 89 #[(r 0),v21] h21 fun v22 h22=>o_ G (Builtin.len_ #[22] 3 #[v22]) h22 fun v23 h23=>
 ci (Cb G) (u5 r 89 (r 0) 90 v21 91 v22 92 v23 93 (.int .i64 0)) h23 (bn 4 (bn 3 (bv (Jo G K) K)))
def Jp:Prop:=
 o_ G (Instr.indexAt 23 (r 79) (r 81)) h fun v14 h14=>o_ G (Instr.loadAt 30 v14) h14 fun v15 h15=>o_ G (Instr.alloc 30 true (.tuple #[])) h15 fun v16 h16=>
 opH P_ G (su (Instr.storeAt 30 v16 v15)) h16 fun v17 h17=>o_ G (Instr.loadAt 30 v16) h17 fun v18 h18=>
 c_ G 61 #[(r 0),v18] h18 fun v19 h19=>o_ G (Op.unary .not v19) h19 fun v20 h20=>
 (fun q=>cond v20
 (K .ret (upd q 4 (.bool false)) h20)
 (Jn G K q h20))
 (u7 r 83 v14 84 v15 9 v16 85 (r 0) 86 v18 87 v19 88 v20)
def Yy (r:Rg) (h:Hp) (K:EK):Prop:=
 o_ G (binOp .lss 3 (r 81) (r 80)) h fun v12 h12=>
 cond v12
 (Jp G K (upd r 82 v12) h12)
 (K (.exit 2) (upd r 82 v12) h12)
def Y0:Prop:=
 opH P_ G (xNil (r 0)) h fun v6 h6=>o_ G (Instr.fieldAt 215 v6 2) h6 fun v7 h7=>o_ G (Instr.loadAt 168 v7) h7 fun v8 h8=>o_ G (Builtin.len_ #[168] 3 #[v8]) h8 fun v9 h9=>o_ G (Instr.makeSlice 90 v9 v9) h9 fun v10 h10=>o_ G (Builtin.len_ #[23] 3 #[(r 1)]) h10 fun v11 h11=>
 ci (Yy G) (u10 r 73 (r 0) 74 v6 75 v7 76 v8 77 v9 78 v10 7 v10 79 (r 1) 80 v11 81 (.int .i64 0)) h11 (bn 2 (bv (Yz G K) K))
def rl:Prop:=
 o_ G (binOp .add 3 (r 21) (.int .i64 1)) h fun v51 h51=>
 K .normal (u2 r 72 v51 21 v51) h51
def Dq:Prop:=
 opH P_ G (xNil (r 0)) h fun v86 h86=>o_ G (Instr.fieldAt 215 v86 2) h86 fun v87 h87=>o_ G (Instr.loadAt 168 v87) h87 fun v88 h88=>o_ G (Instr.indexAt 168 v88 (r 5)) h88 fun v89 h89=>
 opH P_ G (su (Instr.storeAt 3 v89 (.int .i64 (-2)))) h89 fun v90 h90=>
 rl G K (u6 r 66 (r 0) 67 v86 68 v87 69 v88 70 (r 5) 71 v89) h90
def Dr:Prop:=
 opH P_ G (xNil (r 0)) h fun v80 h80=>o_ G (Instr.fieldAt 215 v80 2) h80 fun v81 h81=>o_ G (Instr.loadAt 168 v81) h81 fun v82 h82=>o_ G (Instr.indexAt 168 v82 (r 5)) h82 fun v83 h83=>o_ G (Instr.loadAt 3 v83) h83 fun v84 h84=>o_ G (binOp .gtr 3 v84 (.int .i64 0)) h84 fun v85 h85=>
 (fun q=>cond v85
 (K .ret (upd q 4 (.bool false)) h85)
 (Dq G K q h85))
 (u8 r 58 (r 0) 59 v80 60 v81 61 v82 62 (r 5) 63 v83 64 v84 65 v85)
def Ds:Prop:=
 bk P_ noHp noHp (xNil (r 0)) h fun v52 h52=>
 p_ (Instr.fieldAt 215 v52 0) h52 fun v53 h53=>
 w_ G h (Instr.loadAt 3 v53) h53 fun v54 h54=>
 p_ (binOp .rem 3 (r 21) v54) h54 fun v55 h55=>
 bk P_ noHp noHp (xNil (r 0)) h55 fun v56 h56=>
 p_ (Instr.fieldAt 215 v56 0) h56 fun v57 h57=>
 w_ G h (Instr.loadAt 3 v57) h57 fun v58 h58=>
 p_ (binOp .quo 3 (r 21) v58) h58 fun v59 h59=>
 p_ (Instr.build 28 #[(0,v55),(1,v59)]) h59 fun v60 h60=>
 p_ (Instr.build 30 #[(0,v60)]) h60 fun v61 h61=>o_ G (Instr.alloc 30 true (.tuple #[])) h61 fun v62 h62=>
 opH P_ G (su (Instr.storeAt 30 v62 v61)) h62 fun v63 h63=>
 opH P_ G (xNil (r 0)) h63 fun v64 h64=>o_ G (Instr.fieldAt 215 v64 2) h64 fun v65 h65=>o_ G (Instr.loadAt 168 v65) h65 fun v66 h66=>o_ G (Instr.indexAt 168 v66 (r 21)) h66 fun v67 h67=>o_ G (Instr.loadAt 3 v67) h67 fun v68 h68=>
 opH P_ G (xEq .eql 3 (.tmp 0) (.const .nilFunc) v68 (.int .i64 (-1))) h68 fun v69 h69=>g_ v69 false (fun K1=>K1 (r 0) h69) h69 fun v70 h70=>g_ v69 false (o_ G (Instr.loadAt 30 v62) h70) h70 fun v71 h71=>g_ v69 false (c_ G 61 #[v70,v71] h71) h71 fun v72 h72=>
 opH P_ G (bj v69 (.bool true) v72) h72 fun v73 h73=>g_ v73 false (fun K1=>K1 (r 0) h73) h73 fun v74 h74=>g_ v73 false (o_ G (Instr.fieldAt 30 v62 0) h74) h74 fun v75 h75=>g_ v73 false (o_ G (Instr.loadAt 28 v75) h75) h75 fun v76 h76=>g_ v73 false (o_ G (Instr.build 30 #[(0,v76),(1,(.bool true))]) h76) h76 fun v77 h77=>g_ v73 false (c_ G 61 #[v74,v77] h77) h77 fun v78 h78=>
 opH P_ G (bj v73 (.bool true) v78) h78 fun v79 h79=>
 (fun q=>cond v79
 (rl G K q h79)
 (Dr G K q h79))
 (u7 (u10 (u10 (u10 r 23 (r 21) 5 (r 21) 24 (r 21) 25 (r 0) 26 v52 27 v53 28 v54 29 v55 30 (r 21) 31 (r 0)) 32 v56 33 v57 34 v58 35 v59 36 v60 37 v61 6 v62 38 (r 0) 39 v64 40 v65) 41 v66 42 (r 21) 43 v67 44 v68 45 v69 46 v69 47 v70 48 v71 49 v72 50 v73) 51 v73 52 v74 53 v75 54 v76 55 v77 56 v78 57 v79)
def Jq (r:Rg) (h:Hp) (K:EK):Prop:=
 o_ G (binOp .lss 3 (r 21) (r 20)) h fun v50 h50=>
 cond v50
 (Ds G K (upd r 22 v50) h50)
 (K (.exit 0) (upd r 22 v50) h50)
def Y1:Prop:=
 opH P_ G (xNil (r 0)) h fun v2 h2=>o_ G (Instr.fieldAt 215 v2 2) h2 fun v3 h3=>o_ G (Instr.loadAt 168 v3) h3 fun v4 h4=>o_ G (Builtin.len_ #[168] 3 #[v4]) h4 fun v5 h5=>
 ci (Jq G) (u6 r 16 (r 0) 17 v2 18 v3 19 v4 20 v5 21 (.int .i64 0)) h5 (bn 0 (bv (Y0 G K) K))
def S131:Prop:=
 o_ G (Builtin.len_ #[23] 3 #[(r 1)]) h fun v0 h0=>o_ G (binOp .gtr 3 v0 (.int .i64 8)) h0 fun v1 h1=>
 (fun q=>cond v1
 (K .ret (upd q 4 (.bool false)) h1)
 (Y1 G K q h1))
 (u4 r 4 (.bool false) 13 (r 1) 14 v0 15 v1)
theorem at6:Ent 125 131 [.tmp 4] S131:=ent_ (m:=md131) (c:=(Tryz.f131.body.getD .skip)) (fun _ _ _ _=>by kernel_rfl) Tryz.func131 rfl rfl rfl
def md132:Nat->Hint
 |_=>mh false [] [] [] false
def Yx (G:Hp) (K:EK) (r:Rg) (h:Hp):Prop:=
 K .ret (upd r 6 (.bool true)) h
def Jl:Prop:=
 o_ G (binOp .add 3 (r 22) (.int .i64 1)) h fun v8 h8=>
 K .normal (u2 r 77 v8 22 v8) h8
def Bj:Prop:=
 o_ G (binOp .add 3 (r 56) (.int .i64 1)) h fun v40 h40=>
 K .normal (u2 r 76 v40 56 v40) h40
def Bi:Prop:=
 opH P_ G (su (Instr.mapUpdate 269 (r 8) (r 12) (.int .i64 1))) h fun v54 h54=>
 Bj G K (u2 r 74 (r 8) 75 (r 12)) h54
def Bk:Prop:=
 o_ G (Instr.indexAt 168 (r 54) (r 56)) h fun v41 h41=>o_ G (Instr.loadAt 3 v41) h41 fun v42 h42=>
 c_ G 129 #[v42,(.int .i64 1),(.int .i64 1000000000)] h42 fun v43 h43=>o_ G (Op.unary .not v43) h43 fun v44 h44=>g_ v44 false (fun K1=>K1 (r 8) h44) h44 fun v45 h45=>g_ v44 false (fun K1=>K1 v42 h45) h45 fun v46 h46=>g_ v44 false (o_ G (Instr.lookup 269 v45 v46 false) h46) h46 fun v47 h47=>g_ v44 false (o_ G (binOp .gtr 3 v47 (.int .i64 0)) h47) h47 fun v48 h48=>
 opH P_ G (bj v44 (.bool true) v48) h48 fun v49 h49=>g_ v49 false (fun K1=>K1 (r 8) h49) h49 fun v50 h50=>g_ v49 false (o_ G (Builtin.len_ #[269] 3 #[v50]) h50) h50 fun v51 h51=>g_ v49 false (opH P_ G (xEq .eql 3 (.tmp 0) (.const .nilFunc) v51 (.int .i64 512)) h51) h51 fun v52 h52=>
 opH P_ G (bj v49 (.bool true) v52) h52 fun v53 h53=>
 (fun q=>cond v53
 (K .ret (upd q 6 (.bool false)) h53)
 (Bi G K q h53))
 (u7 (u10 r 58 v41 59 v42 12 v42 60 v42 61 v43 62 v44 63 v44 64 v45 65 v46 66 v47) 67 v48 68 v49 69 v49 70 v50 71 v51 72 v52 73 v53)
def Ca (r:Rg) (h:Hp) (K:EK):Prop:=
 o_ G (binOp .lss 3 (r 56) (r 55)) h fun v39 h39=>
 cond v39
 (Bk G K (upd r 57 v39) h39)
 (K (.exit 2) (upd r 57 v39) h39)
def Jk:Prop:=
 o_ G (Instr.fieldAt 234 (r 10) 0) h fun v31 h31=>o_ G (Instr.loadAt 28 v31) h31 fun v32 h32=>
 c_ G 88 #[(r 0),v32] h32 fun v33 h33=>o_ G (Instr.indexAt 90 (r 7) v33) h33 fun v34 h34=>
 opH P_ G (su (Instr.storeAt 4 v34 (.bool true))) h34 fun v35 h35=>o_ G (Instr.fieldAt 234 (r 10) 1) h35 fun v36 h36=>o_ G (Instr.loadAt 168 v36) h36 fun v37 h37=>o_ G (Builtin.len_ #[168] 3 #[v37]) h37 fun v38 h38=>
 ci (Ca G) (u10 r 47 (r 7) 48 (r 0) 49 v31 50 v32 51 v33 52 v34 53 v36 54 v37 55 v38 56 (.int .i64 0)) h38 (bn 2 (bn 1 (bv (Jl G K) K)))
def Jm:Prop:=
 o_ G (Instr.indexAt 24 (r 20) (r 22)) h fun v9 h9=>o_ G (Instr.loadAt 234 v9) h9 fun v10 h10=>o_ G (Instr.alloc 234 true (.tuple #[])) h10 fun v11 h11=>
 opH P_ G (su (Instr.storeAt 234 v11 v10)) h11 fun v12 h12=>o_ G (Instr.fieldAt 234 v11 0) h12 fun v13 h13=>o_ G (Instr.loadAt 28 v13) h13 fun v14 h14=>
 c_ G 158 #[(r 0),v14] h14 fun v15 h15=>o_ G (Op.unary .not v15) h15 fun v16 h16=>g_ v16 false (fun K1=>K1 (r 7) h16) h16 fun v17 h17=>g_ v16 false (fun K1=>K1 (r 0) h17) h17 fun v18 h18=>g_ v16 false (o_ G (Instr.fieldAt 234 v11 0) h18) h18 fun v19 h19=>g_ v16 false (o_ G (Instr.loadAt 28 v19) h19) h19 fun v20 h20=>g_ v16 false (c_ G 88 #[v18,v20] h20) h20 fun v21 h21=>g_ v16 false (o_ G (Instr.indexAt 90 v17 v21) h21) h21 fun v22 h22=>g_ v16 false (o_ G (Instr.loadAt 4 v22) h22) h22 fun v23 h23=>
 opH P_ G (bj v16 (.bool true) v23) h23 fun v24 h24=>g_ v24 false (o_ G (Instr.fieldAt 234 v11 1) h24) h24 fun v25 h25=>g_ v24 false (o_ G (Instr.loadAt 168 v25) h25) h25 fun v26 h26=>g_ v24 false (o_ G (Builtin.len_ #[168] 3 #[v26]) h26) h26 fun v27 h27=>g_ v24 false (fun K1=>K1 (r 2) h27) h27 fun v28 h28=>g_ v24 false (o_ G (binOp .gtr 3 v27 v28) h28) h28 fun v29 h29=>
 opH P_ G (bj v24 (.bool true) v29) h29 fun v30 h30=>
 (fun q=>cond v30
 (K .ret (upd q 6 (.bool false)) h30)
 (Jk G K q h30))
 (u4 (u10 (u10 r 24 v9 25 v10 10 v11 26 (r 0) 27 v13 28 v14 29 v15 30 v16 31 v16 32 v17) 33 v18 34 v19 35 v20 36 v21 37 v22 38 v23 39 v24 40 v24 41 v25 42 v26) 43 v27 44 v28 45 v29 46 v30)
def Yw (r:Rg) (h:Hp) (K:EK):Prop:=
 o_ G (binOp .lss 3 (r 22) (r 21)) h fun v7 h7=>
 cond v7
 (Jm G K (upd r 23 v7) h7)
 (K (.exit 0) (upd r 23 v7) h7)
def S132:Prop:=
 opH P_ G (xNil (r 0)) h fun v0 h0=>o_ G (Instr.fieldAt 215 v0 2) h0 fun v1 h1=>o_ G (Instr.loadAt 168 v1) h1 fun v2 h2=>o_ G (Builtin.len_ #[168] 3 #[v2]) h2 fun v3 h3=>o_ G (Instr.makeSlice 90 v3 v3) h3 fun v4 h4=>o_ G (Instr.makeMap 269 none) h4 fun v5 h5=>o_ G (Builtin.len_ #[24] 3 #[(r 1)]) h5 fun v6 h6=>
 ci (Yw G) (u3 (u10 r 6 (.bool false) 13 (r 0) 14 v0 15 v1 16 v2 17 v3 18 v4 7 v4 19 v5 8 v5) 20 (r 1) 21 v6 22 (.int .i64 0)) h6 (bn 0 (bv (Yx G K) K))
theorem at5:Ent 78 132 [.tmp 6] S132:=ent_ (m:=md132) (c:=(Tryz.f132.body.getD .skip)) (fun _ _ _ _=>by kernel_rfl) Tryz.func132 rfl rfl rfl
def md182:Nat->Hint
 |_=>mh false [] [] [] false
def B3:Prop:=
 o_ G (binOp .add 3 (r 8) (.int .i64 1)) h fun v1 h1=>
 K .normal (u2 r 37 v1 8 v1) h1
def Bf:Prop:=
 o_ G (binOp .add 3 (r 5) (.int .i64 1)) h fun v2 h2=>
 K .normal (u3 r 11 (r 5) 12 v2 5 v2) h2
def Be:Prop:=
 o_ G (Instr.loadAt 30 (r 2)) h fun v16 h16=>o_ G (Instr.loadAt 30 (r 6)) h16 fun v17 h17=>o_ G (Instr.build 48 #[(0,(.int .i64 1)),(1,(r 4)),(2,(r 5)),(3,v16),(4,v17)]) h17 fun v18 h18=>
 opH P_ G (ig (r 0) #[v18]) h18 fun v19 h19=>o_ G (Op.unary .not v19) h19 fun v20 h20=>
 (fun q=>cond v20
 (K .ret q h20)
 (Bf G K q h20))
 (u8 r 29 (r 0) 30 (r 4) 31 (r 5) 32 v16 33 v17 34 v18 35 v19 36 v20)
def I5 (r:Rg) (h:Hp) (K:EK):Prop:=
 o_ G (Instr.loadAt 68 (r 1)) h fun v3 h3=>o_ G (Instr.loadAt 30 (r 2)) h3 fun v4 h4=>
 c_ G 155 #[v3,v4,(r 4),(r 5)] h4 fun v5 h5=>o_ G (Instr.extract v5 0) h5 fun v6 h6=>o_ G (Instr.extract v5 1) h6 fun v7 h7=>o_ G (Instr.alloc 30 true (.tuple #[])) h7 fun v8 h8=>
 opH P_ G (su (Instr.storeAt 30 v8 v6)) h8 fun v9 h9=>o_ G (Op.unary .not v7) h9 fun v10 h10=>g_ v10 false (o_ G (Instr.loadAt 68 (r 1)) h10) h10 fun v11 h11=>g_ v10 false (o_ G (Instr.loadAt 30 v8) h11) h11 fun v12 h12=>g_ v10 false (c_ G 61 #[v11,v12] h12) h12 fun v13 h13=>g_ v10 false (o_ G (Op.unary .not v13) h13) h13 fun v14 h14=>
 opH P_ G (bj v10 (.bool true) v14) h14 fun v15 h15=>
 (fun q=>cond v15
 (K (.exit 1) q h15)
 (Be G K q h15))
 (u8 (u10 r 14 v3 15 v4 16 (r 4) 17 (r 5) 18 v5 13 v5 19 v6 20 v7 6 v8 7 v7) 21 v7 22 v10 23 v10 24 v11 25 v12 26 v13 27 v14 28 v15)
def I6:Prop:=
 ci (I5 G) (u3 r 10 (r 8) 4 (r 8) 5 (.int .i64 1)) h (bn 2 (bn 1 (bv (B3 G K) K)))
def X8 (r:Rg) (h:Hp) (K:EK):Prop:=
 o_ G (binOp .lss 3 (r 8) (.int .i64 4)) h fun v0 h0=>
 cond v0
 (I6 G K (upd r 9 v0) h0)
 (K (.exit 0) (upd r 9 v0) h0)
def S182:Prop:=
 ci (X8 G) (upd r 8 (.int .i64 0)) h (bn 0 (qa K))
theorem aq6:Ent 38 182 [] S182:=ent_ (m:=md182) (c:=(Tryz.f182.body.getD .skip)) (fun _ _ _ _=>by kernel_rfl) Tryz.func182 rfl rfl rfl
def md156:Nat->Hint
 |_=>mh false [] [] [] false
def S156:Prop:=
 o_ G (Instr.box 28 (r 0)) h fun v0 h0=>o_ G (Instr.loadAt 28 v0) h0 fun v1 h1=>o_ G (Instr.fieldAt 28 v0 0) h1 fun v2 h2=>o_ G (Instr.loadAt 3 v2) h2 fun v3 h3=>o_ G (binOp .add 3 v3 (.int .i64 1)) h3 fun v4 h4=>o_ G (Instr.fieldAt 28 v0 1) h4 fun v5 h5=>o_ G (Instr.loadAt 3 v5) h5 fun v6 h6=>o_ G (Instr.build 28 #[(0,v4),(1,v6)]) h6 fun v7 h7=>o_ G (Instr.fieldAt 28 v0 0) h7 fun v8 h8=>o_ G (Instr.loadAt 3 v8) h8 fun v9 h9=>o_ G (Instr.fieldAt 28 v0 1) h9 fun v10 h10=>o_ G (Instr.loadAt 3 v10) h10 fun v11 h11=>o_ G (binOp .add 3 v11 (.int .i64 1)) h11 fun v12 h12=>o_ G (Instr.build 28 #[(0,v9),(1,v12)]) h12 fun v13 h13=>o_ G (Instr.fieldAt 28 v0 0) h13 fun v14 h14=>o_ G (Instr.loadAt 3 v14) h14 fun v15 h15=>o_ G (binOp .add 3 v15 (.int .i64 1)) h15 fun v16 h16=>o_ G (Instr.fieldAt 28 v0 1) h16 fun v17 h17=>o_ G (Instr.loadAt 3 v17) h17 fun v18 h18=>o_ G (binOp .add 3 v18 (.int .i64 1)) h18 fun v19 h19=>o_ G (Instr.build 28 #[(0,v16),(1,v19)]) h19 fun v20 h20=>o_ G (Instr.buildSlice 22 4 #[(0,v1),(1,v7),(2,v13),(3,v20)]) h20 fun v21 h21=>
 K .ret (u4 (u10 (u10 r 1 v0 2 (.slice none 0 0) 3 v1 4 v2 5 v3 6 v4 7 v5 8 v6 9 v7 10 v8) 11 v9 12 v10 13 v11 14 v12 15 v13 16 v14 17 v15 18 v16 19 v17 20 v18) 21 v19 22 v20 23 v21 2 v21) h21
theorem ar6:Ent 24 156 [.tmp 2] S156:=ent_ (m:=md156) (c:=(Tryz.f156.body.getD .skip)) (fun _ _ _ _=>by kernel_rfl) Tryz.func156 rfl rfl rfl
def md157:Nat->Hint
 |_=>mh false [] [] [] false
def Yd:Prop:=
 o_ G (Builtin.len_ #[22] 3 #[(r 0)]) h fun v2 h2=>o_ G (Instr.makeSlice 22 v2 v2) h2 fun v3 h3=>o_ G (Builtin.copy_ #[22,22] 3 #[v3,(r 0)]) h3 fun v4 h4=>
 K .ret (u9 r 7 (r 0) 8 v2 9 v3 3 v3 10 v3 11 (r 0) 12 v4 13 v3 2 v3) h4
def S157:Prop:=
 o_ G (Builtin.len_ #[22] 3 #[(r 0)]) h fun v0 h0=>
 opH P_ G (xEq .eql 3 (.tmp 0) (.const .nilFunc) v0 (.int .i64 0)) h0 fun v1 h1=>
 (fun q=>cond v1
 (K .ret (upd q 2 (.slice none 0 0)) h1)
 (Yd G K q h1))
 (u4 r 2 (.slice none 0 0) 4 (r 0) 5 v0 6 v1)
theorem ar5:Ent 14 157 [.tmp 2] S157:=ent_ (m:=md157) (c:=(Tryz.f157.body.getD .skip)) (fun _ _ _ _=>by kernel_rfl) Tryz.func157 rfl rfl rfl
end
end Go.Proofs.YtfflipnhffknnaaGreatDoor
end

/- Texts of the proof, one behind the other. -/
import Derived.Test.YtfflipnhffknnaaGreatDoorM2
import Derived.Test.YtfflipnhffknnaaGreatDoorM3
import Derived.Test.YtfflipnhffknnaaGreatDoorM1
import Derived.Test.YtfflipnhffknnaaGreatDoorH3
import Derived.Test.YtfflipnhffknnaaGreatDoorH4
import Derived.Test.YtfflipnhffknnaaGreatDoorHZ
set_option linter.unusedSimpArgs false
set_option linter.unusedVariables false
set_option maxRecDepth 100000
set_option linter.unusedSectionVars false
set_option maxHeartbeats 8000000
set_option linter.defProp false
section
namespace Go.Proofs.YtfflipnhffknnaaGreatDoor
open Go Go.HL Go.Proofs.Resv Go.Proofs.Srch
def bRtL:=jq bC (jq (jq (jq (jq @Uz @Sh) (jq @J9 @cf72)) (jq (jq @Ej @ac5) (jq @Ei @Pt))) (jq (jq (jq @Bl @Bk) (jq @Fu @R2)) (jq (jq @T2 @ld3) (jq @ld3p (jq @Ty @Lj)))))
def gj (C:Conf) (m:Move):Int:=if m.k=1 then Dc C.un C.ac C.sp m.n else if m.k=2 then C.tu else if m.k=3∨m.k=4 then C.ho else 0

theorem Fj {G h a:Hp} {R:List Hp} {v:Value} {C:Conf} {kp:Nat} {m:Move} (hv:CV G h v C) (k:KP a kp C.un C.ac C.sp) (s:Sep (a::R) h) (hn:Bd m.n):
   aj P_ G 30 #[v,.pointer (some ⟨kp,0,none⟩),A5 m] h (fun u h'=>u = .int .i64 (gj C m)∧∃a',KP a' kp C.un C.ac C.sp∧Sep (a'::R) h'∧Dis G h'):=by
 obtain ⟨ab,cb,ap,cp,ar,cr,az,cs,rfl,ca⟩:=hv
 refine aj.assume fun d=>enter30 (by simp) ?_
 unfold S30
 simp only [bRtL]
 intro x hx gx y hy gy
 have s1:=((s.new (o := .cells #[.int .i64 C.w,.int .i64 C.h,.int .i64 C.ht,.slice ab C.bl.length cb,.slice ap C.po.length cp,.slice ar C.ro.length cr,.slice az C.st.length cs,.int .i64 C.un,.int .i64 C.ac,.int .i64 C.sp,.int .i64 C.tu,.int .i64 C.ho,.int .i64 C.qu,.int .i64 C.re,.int .i64 C.bu,.bool C.back] 26 (0,0)) hx).new (o:=oc m) hy)
 have d1:=(d.set (o := .cells #[.int .i64 C.w,.int .i64 C.h,.int .i64 C.ht,.slice ab C.bl.length cb,.slice ap C.po.length cp,.slice ar C.ro.length cr,.slice az C.st.length cs,.int .i64 C.un,.int .i64 C.ac,.int .i64 C.sp,.int .i64 C.tu,.int .i64 C.ho,.int .i64 C.qu,.int .i64 C.re,.int .i64 C.bu,.bool C.back] 26 (0,0)) gx).set (o:=oc m) gy
 generalize Hp.set (Hp.set h x _) y _=h1 at s1 d1 ⊢
 have cx:∀k,aa G h1 ⟨x,k,none⟩=_:=fun k=>ai (ag (s1.at 1 rfl af))
 have cy:∀k,aa G h1 ⟨y,k,none⟩=_:=fun k=>ai (ag (s1.at 0 rfl af))
 have out:∀u:Int,u=gj C m→(Value.int .i64 u = .int .i64 (gj C m)∧∃a',KP a' kp C.un C.ac C.sp∧Sep (a'::R) h1∧Dis G h1):=fun u e=>⟨by rw [e],a,k,s1.drop.drop,d1⟩
 try simp (disch:=first|decide|omega) only [bRtL,Nat.reduceAdd,Nat.reduceMul,cy]
 by_cases h1:m.k=1
 · rw [show (m.k==1)=true by simpa using h1]
   try simp only [bRtL,cy]
   refine (Wu k (s1.drop.drop) hn).mono ?_
   rintro _ h2 ⟨rfl,a',k',s2,d2⟩
   try simp (disch:=first|decide|omega) only [bRtL,Nat.reduceAdd,Nat.reduceMul]
   exact ⟨by unfold gj;rw [if_pos h1],a',k',s2,d2⟩
 · rw [show (m.k==1)=false by simpa using h1]
   try simp only [bRtL,cy]
   by_cases h2:m.k=2
   · rw [show (m.k==2)=true by simpa using h2]
     try simp only [bRtL,cx]
     exact out _ (by unfold gj;rw [if_neg h1,if_pos h2])
   · rw [show (m.k==2)=false by simpa using h2]
     try simp only [bRtL,cy]
     by_cases h3:m.k=3
     · rw [show (m.k==3)=true by simpa using h3]
       try simp only [bRtL]
       unfold M6
       try simp (disch:=decide) only [bRtL,cx]
       exact out _ (by unfold gj;rw [if_neg h1,if_neg h2,if_pos (.inl h3)])
     · rw [show (m.k==3)=false by simpa using h3]
       try simp only [bRtL]
       unfold M6
       by_cases h4:m.k=4
       · rw [show (m.k==4)=true by simpa using h4]
         try simp (disch:=decide) only [bRtL,cx]
         exact out _ (by unfold gj;rw [if_neg h1,if_neg h2,if_pos (.inr h4)])
       · rw [show (m.k==4)=false by simpa using h4]
         try simp (disch:=decide) only [bRtL]
         unfold as3
         try simp only [bRtL]
         exact out _ (by unfold gj;rw [if_neg h1,if_neg h2,if_neg (by omega)])

def ju:Cod Sp:=⟨2,fun x=>[.int .i64 x.1,.int .i64 x.2],fun _=>rfl,fun _ v hv=>by simp at hv;rcases hv with rfl|rfl<;>rfl⟩
theorem eospan:fe P_ 151 ju.n 16:=eo151

theorem Sees.span {G h:Hp} {sa:Option Addr} {cap n:Nat} {L:List Sp} (s:Sees ju G h (.slice sa n cap) L) {i:Nat} {x:Sp} (hx:L[i]?=some x):
   ∃b o,sa=some ⟨b,o,none⟩∧aa G h ⟨b,o+i*2,none⟩=some (.int .i64 x.1)∧aa G h ⟨b,o+i*2+1,none⟩=some (.int .i64 x.2):=by
 obtain ⟨s',cap',e,_,hc⟩:=s
 cases e
 rcases hc with rfl|⟨b,o,rfl,hc⟩
 · simp at hx
 · exact ⟨b,o,rfl,hc i x hx 0 (by decide),hc i x hx 1 (by decide)⟩

theorem both_at {A B:List Sp} {i j:Nat} {x y:Sp} (hx:A[i]?=some x) (hy:B[j]?=some y):nw (A.drop i) (B.drop j)=capB x y++(if x.2<y.2 then nw (A.drop (i+1)) (B.drop j)else nw (A.drop i) (B.drop (j+1))):=by
 obtain ⟨hi,rfl⟩:=List.getElem?_eq_some_iff.1 hx
 obtain ⟨hj,rfl⟩:=List.getElem?_eq_some_iff.1 hy
 rw [List.drop_eq_getElem_cons hi,List.drop_eq_getElem_cons hj,nw,← List.drop_eq_getElem_cons hi,← List.drop_eq_getElem_cons hj]

theorem Cy {G h:Hp} {va vb:Value} {A B:List Sp} (sA:Sees ju G h va A) (sB:Sees ju G h vb B) (hlen:A.length+B.length≤1000000000):
   aj P_ G 146 #[va,vb] h (fun u h'=>∃ip,Slc ju 151 ip u (nw A B)∧Sep [ip,h] h'∧Dis G h'):=by
 obtain ⟨a1,c1,rfl,_⟩:=id sA
 obtain ⟨a2,c2,rfl,_⟩:=id sB
 obtain ⟨W,hW⟩:∃W,W=nw A B:=⟨_,rfl⟩
 rw [← hW]
 have hWl:W.length≤1000000000:=by have:=Bq _ A B (Nat.le_refl _);rw [hW];omega
 refine aj.assume fun d=>ag6 (by simp) ?_
 unfold S146
 refine bv (fun m r h'=>∃(i j:Nat) (ip:Hp) (O:List Sp) (v:Value),m=(A.length-i)+(B.length-j)∧i≤A.length∧j≤B.length∧r 0 = .slice a1 A.length c1∧r 1 = .slice a2 B.length c2∧r 5=v∧r 6 = .int .i64 i∧r 7 = .int .i64 j∧
   Slc ju 151 ip v O∧Sep [ip,h] h'∧Dis G h'∧O++nw (A.drop i) (B.drop j)=W) ?_ (m:=A.length+B.length)
   ⟨0,0,noHp,[],.slice none 0 0,rfl,by omega,by omega,by simp (disch:=decide) only [bRtL],by simp (disch:=decide) only [bRtL],by simp (disch:=decide) only [bRtL],by simp (disch:=decide) only [bRtL];rfl,by simp only [bRtL];rfl,Slc.nil,Sep.one.none,d,by simp [hW]⟩
 rintro m r h' ⟨i,j,ip,O,v,rfl,hi,hj,g0,g1,g5,g6,g7,sl,s,d',hO⟩ X hX
 unfold Vh
 simp only [bRtL,g0,g1,g6,g7]
 have fin:nw (A.drop i) (B.drop j)=[]→∀(r':Rg),r' 5=v→Em G (retK P_ G [.tmp 4] fun u h'=>∃ip,Slc ju 151 ip u W∧Sep [ip,h] h'∧Dis G h') r' h':=fun e r' g=>by
   unfold Em
   try simp only [bRtL,g]
   rw [e,List.append_nil]at hO
   rw [← hO]
   exact ⟨ip,sl,s,d'⟩
 by_cases hi2:i<A.length
 · rw [gv (show (i:Int)<(A.length:Int)by omega)]
   simp only [bRtL,g1,g7]
   by_cases hj2:j<B.length
   · rw [gv (show (j:Int)<(B.length:Int)by omega)]
     simp only [bRtL]
     obtain ⟨x,hx⟩:∃x,A[i]?=some x:=⟨_,List.getElem?_eq_getElem hi2⟩
     obtain ⟨y,hy⟩:∃y,B[j]?=some y:=⟨_,List.getElem?_eq_getElem hj2⟩
     rw [both_at hx hy]at hO
     obtain ⟨b1,o1,rfl,x1,x2⟩:=Sees.span (sA.up (s.in 1 rfl) d') hx
     obtain ⟨b2,o2,rfl,y1,y2⟩:=Sees.span (sB.up (s.in 1 rfl) d') hy
     unfold G7
     simp -implicitDefEqProofs (maxSteps:=2000000) (disch:=first|decide|with_reducible exact Nat.ne_of_beq_eq_false rfl|exact au|exact am|omega|rfl|(simp;done)|fail) only [bRtL,g0,g1,g6,g7,Cm (Int.natCast_nonneg i) (show (i:Int)<(A.length:Int)by omega),Cm (Int.natCast_nonneg j) (show (j:Int)<(B.length:Int)by omega),x1,x2,y1,y2,max2p,min2p]
     intro z hz gz
     have s1:=s.past (o := .cells #[.int .i64 (max x.1 y.1),.int .i64 (min x.2 y.2)] 151 (0,0)) hz
     have d1:=d'.set (o := .cells #[.int .i64 (max x.1 y.1),.int .i64 (min x.2 y.2)] 151 (0,0)) gz
     have hzs:(h'.set z (.cells #[.int .i64 (max x.1 y.1),.int .i64 (min x.2 y.2)] 151 (0,0))) z=some (.cells #[.int .i64 (max x.1 y.1),.int .i64 (min x.2 y.2)] 151 (0,0)):=af
     have k4:∀(r':Rg) (h4 ip':Hp) (v':Value),r' 0=r 0→r' 1=r 1→r' 6=r 6→r' 7=r 7→r' 5=v'→Slc ju 151 ip' v' (O++capB x y)→Sep [ip',h] h4→Dis G h4→
         ul G (bq X (bh 0 (bq (Em G (retK P_ G [.tmp 4] fun u h'=>∃ip,Slc ju 151 ip u W∧Sep [ip,h] h'∧Dis G h')) (retK P_ G [.tmp 4] fun u h'=>∃ip,Slc ju 151 ip u W∧Sep [ip,h] h'∧Dis G h')))) r' h4:=by
       intro r' h4 ip' v' e0 e1 e6 e7 e5 sl' s4 d4
       obtain ⟨q1,p1,f1,u1,u2⟩:=Sees.span (sA.up (s4.in 1 rfl) d4) hx
       obtain ⟨q2,p2,f2,w1,w2⟩:=Sees.span (sB.up (s4.in 1 rfl) d4) hy
       cases f1
       cases f2
       rw [g0]at e0;rw [g1]at e1;rw [g6]at e6;rw [g7]at e7
       unfold ul
       simp (disch:=first|decide|omega) only [bRtL,e0,e1,e6,e7,Cm (Int.natCast_nonneg i) (show (i:Int)<(A.length:Int)by omega),Cm (Int.natCast_nonneg j) (show (j:Int)<(B.length:Int)by omega),u2,w2]
       refine ax (fun hlt=>?_) (fun hge=>?_)
       · rw [if_pos hlt]at hO
         try simp (disch:=first|decide|omega) only [bRtL,Nat.reduceAdd,Nat.reduceMul,e6]
         refine hX ((A.length-(i+1))+(B.length-j)) _ _ (by omega) ⟨i+1,j,ip',O++capB x y,v',rfl,by omega,by omega,by simp (disch:=decide) only [bRtL,e0],by simp (disch:=decide) only [bRtL,e1],by simp (disch:=decide) only [bRtL,e5],by simp only [bRtL];rfl,by simp (disch:=decide) only [bRtL,e7],sl',s4,d4,by rw [List.append_assoc];exact hO⟩
       · rw [if_neg hge]at hO
         try simp (disch:=first|decide|omega) only [bRtL,Nat.reduceAdd,Nat.reduceMul,e7]
         refine hX ((A.length-i)+(B.length-(j+1))) _ _ (by omega) ⟨i,j+1,ip',O++capB x y,v',rfl,by omega,by omega,by simp (disch:=decide) only [bRtL,e0],by simp (disch:=decide) only [bRtL,e1],by simp (disch:=decide) only [bRtL,e5],by simp (disch:=decide) only [bRtL,e6],by simp only [bRtL];rfl,sl',s4,d4,by rw [List.append_assoc];exact hO⟩
     generalize Hp.set h' z _=h3 at s1 d1 hzs ⊢
     refine ax (fun hlt=>?_) (fun hge=>?_)
     · intro q hq gq
       have s2:=s1.past (o := .cells #[.int .i64 (max x.1 y.1),.int .i64 (min x.2 y.2)] 151 (0,0)) hq
       have d2:=d1.set (o := .cells #[.int .i64 (max x.1 y.1),.int .i64 (min x.2 y.2)] 151 (0,0)) gq
       have hqs:(h3.set q (.cells #[.int .i64 (max x.1 y.1),.int .i64 (min x.2 y.2)] 151 (0,0))) q=some (.cells #[.int .i64 (max x.1 y.1),.int .i64 (min x.2 y.2)] 151 (0,0)):=af
       generalize Hp.set h3 q _=h4 at s2 d2 hqs ⊢
       rw [g5]
       have hcap:capB x y=[(max x.1 y.1,min x.2 y.2)]:=by unfold capB;rw [if_pos hlt]
       have hOl:O.length+1≤1000000000:=by
         have:=congrArg List.length hO
         rw [hcap]at this
         simp only [List.length_append,List.length_cons]at this
         omega
       refine nl ju (by decide) (M:=[(max x.1 y.1,min x.2 y.2)]) S6 eospan (by decide) s2 d2 sl (Sees.row hqs (by simp [ju,Cod.rows]) (by simp)) (by simp only [List.length_cons,List.length_nil];omega) ?_
       intro v' ip' h5 sl' s5 d5
       refine k4 _ h5 ip' v' (by simp (disch:=decide) only [bRtL]) (by simp (disch:=decide) only [bRtL]) (by simp (disch:=decide) only [bRtL]) (by simp (disch:=decide) only [bRtL]) (by simp only [bRtL]) (by rw [hcap];exact sl') s5 d5
     · have hcap:capB x y=[]:=by unfold capB;rw [if_neg hge]
       refine k4 _ h3 ip v (by simp (disch:=decide) only [bRtL]) (by simp (disch:=decide) only [bRtL]) (by simp (disch:=decide) only [bRtL]) (by simp (disch:=decide) only [bRtL]) (by simp (disch:=decide) only [bRtL,g5]) (by rw [hcap,List.append_nil];exact sl) s1 d1
   · have hj3:j=B.length:=by omega
     rw [im (show ¬(j:Int)<(B.length:Int)by omega)]
     simp only [bRtL]
     exact fin (by rw [hj3,List.drop_length];cases A.drop i<;>simp [nw]) _ (by simp (disch:=decide) only [bRtL,g5])
 · have hi3:i=A.length:=by omega
   rw [im (show ¬(i:Int)<(A.length:Int)by omega)]
   simp only [bRtL]
   exact fin (by rw [hi3,List.drop_length];simp [nw]) _ (by simp (disch:=decide) only [bRtL,g5])
end Go.Proofs.YtfflipnhffknnaaGreatDoor
end

section
namespace Go.Proofs.YtfflipnhffknnaaGreatDoor
open Go Go.HL
section
variable (G:Hp) (K:EK) (r:Rg) (h:Hp)
def md24:Nat→Hint
 |_=>mh false [] [] [] false
def as9:Prop:=
 o_ G (Instr.makeSlice 98 (r 0) (r 0)) h fun v4 h4=>
 o_ G (Instr.build 124 #[(0,v4)]) h4 fun v5 h5=>
 o_ G (Instr.box 124 v5) h5 fun v6 h6=>
 K .ret (u6 r 10 (r 0) 11 v4 12 v5 13 v6 2 v6 3 (.int .i64 0)) h6
def S24:Prop:=
 o_ G (binOp .lss 3 (r 0) (.int .i64 1)) h fun v0 h0=>
 g_ v0 false (fun K1=>K1 (r 0) h0) h0 fun v1 h1=>
 g_ v0 false (o_ G (binOp .gtr 3 v1 (.int .i64 256)) h1) h1 fun v2 h2=>
 opH P_ G (bf v0 (.bool true) v2) h2 fun v3 h3=>
 (fun q=>cond v3
 (K .ret (u2 q 2 (.pointer none) 3 (.int .i64 1)) h3)
 (as9 G K q h3))
 (u8 r 2 (.pointer none) 3 (.int .i64 0) 4 (r 0) 5 v0 6 v0 7 v1 8 v2 9 v3)
theorem enter24:Ent 14 24 [.tmp 2,.tmp 3] S24:=ent_ (m:=md24) (c:=(Tryz.f24.body.getD .skip)) (fun _ _ _ _=>by kernel_rfl) Tryz.func24 rfl rfl rfl

def md50:Nat→Hint
 |_=>mh false [] [] [] false
def aq6 (G:Hp) (K:EK) (r:Rg) (h:Hp):Prop:=
 K .ret (upd r 6 (.int .i64 0)) h
def Ky:Prop:=
 o_ G (binOp .add 3 (r 67) (.int .i64 1)) h fun v8 h8=>
 K .normal (u2 r 80 v8 67 v8) h8
def Kz:Prop:=
 o_ G (Instr.indexAt 71 (r 65) (r 67)) h fun v9 h9=>
 o_ G (Instr.loadAt 75 v9) h9 fun v10 h10=>
 o_ G (Instr.alloc 75 true (.tuple #[])) h10 fun v11 h11=>
 opH P_ G (su (Instr.storeAt 75 v11 v10)) h11 fun v12 h12=>
 o_ G (Instr.fieldAt 75 v11 0) h12 fun v13 h13=>
 o_ G (Instr.loadAt 3 v13) h13 fun v14 h14=>
 o_ G (Instr.fieldAt 75 v11 1) h14 fun v15 h15=>
 o_ G (Instr.loadAt 3 v15) h15 fun v16 h16=>
 o_ G (Instr.fieldAt 75 v11 2) h16 fun v17 h17=>
 o_ G (Instr.loadAt 3 v17) h17 fun v18 h18=>
 c_ G 105 #[(r 0),(r 1),v14,v16,v18] h18 fun v19 h19=>
 Ky G K (u2 (u10 r 69 v9 70 v10 12 v11 71 (r 0) 72 (r 1) 73 v13 74 v14 75 v15 76 v16 77 v17) 78 v18 79 v19) h19
def aq5 (r:Rg) (h:Hp) (K:EK):Prop:=
 o_ G (binOp .lss 3 (r 67) (r 66)) h fun v7 h7=>
 cond v7
 (Kz G K (upd r 68 v7) h7)
 (K (.exit 4) (upd r 68 v7) h7)
def aq7:Prop:=
 o_ G (Builtin.len_ #[71] 3 #[(r 2)]) h fun v6 h6=>
 bz (aq5 G) (u3 r 65 (r 2) 66 v6 67 (.int .i64 0)) h6 (bh 4 (bq (aq6 G K) K))
def Gp:Prop:=
 o_ G (binOp .add 3 (r 50) (.int .i64 1)) h fun v21 h21=>
 K .normal (u2 r 64 v21 50 v21) h21
def Kx:Prop:=
 o_ G (Instr.indexAt 71 (r 48) (r 50)) h fun v22 h22=>
 o_ G (Instr.loadAt 75 v22) h22 fun v23 h23=>
 o_ G (Instr.alloc 75 true (.tuple #[])) h23 fun v24 h24=>
 opH P_ G (su (Instr.storeAt 75 v24 v23)) h24 fun v25 h25=>
 o_ G (Instr.fieldAt 75 v24 0) h25 fun v26 h26=>
 o_ G (Instr.loadAt 3 v26) h26 fun v27 h27=>
 o_ G (Instr.fieldAt 75 v24 1) h27 fun v28 h28=>
 o_ G (Instr.loadAt 3 v28) h28 fun v29 h29=>
 o_ G (Instr.fieldAt 75 v24 2) h29 fun v30 h30=>
 o_ G (Instr.loadAt 3 v30) h30 fun v31 h31=>
 c_ G 104 #[(r 0),(r 1),v27,v29,v31] h31 fun v32 h32=>
 o_ G (Op.unary .not v32) h32 fun v33 h33=>
 (fun q=>cond v33
 (K .ret (upd q 6 (.int .i64 18)) h33)
 (Gp G K q h33))
 (u3 (u10 r 52 v22 53 v23 10 v24 54 (r 0) 55 (r 1) 56 v26 57 v27 58 v28 59 v29 60 v30) 61 v31 62 v32 63 v33)
def aq4 (r:Rg) (h:Hp) (K:EK):Prop:=
 o_ G (binOp .lss 3 (r 50) (r 49)) h fun v20 h20=>
 cond v20
 (Kx G K (upd r 51 v20) h20)
 (K (.exit 2) (upd r 51 v20) h20)
def aq8:Prop:=
 o_ G (Builtin.len_ #[71] 3 #[(r 2)]) h fun v5 h5=>
 bz (aq4 G) (u3 r 48 (r 2) 49 v5 50 (.int .i64 0)) h5 (bh 2 (bq (aq7 G K) K))
def xf:Prop:=
 o_ G (binOp .add 3 (r 21) (.int .i64 1)) h fun v35 h35=>
 K .normal (u2 r 47 v35 21 v35) h35
def D5:Prop:=
 o_ G (Instr.indexAt 71 (r 19) (r 21)) h fun v36 h36=>
 o_ G (Instr.loadAt 75 v36) h36 fun v37 h37=>
 o_ G (Instr.alloc 75 true (.tuple #[])) h37 fun v38 h38=>
 opH P_ G (su (Instr.storeAt 75 v38 v37)) h38 fun v39 h39=>
 o_ G (Instr.fieldAt 75 v38 0) h39 fun v40 h40=>
 o_ G (Instr.loadAt 3 v40) h40 fun v41 h41=>
 c_ G 103 #[(r 0),v41] h41 fun v42 h42=>
 o_ G (Op.unary .not v42) h42 fun v43 h43=>
 g_ v43 false (o_ G (Instr.fieldAt 75 v38 1) h43) h43 fun v44 h44=>
 g_ v43 false (o_ G (Instr.loadAt 3 v44) h44) h44 fun v45 h45=>
 g_ v43 false (o_ G (binOp .lss 3 v45 (.int .i64 0)) h45) h45 fun v46 h46=>
 opH P_ G (bf v43 (.bool true) v46) h46 fun v47 h47=>
 g_ v47 false (o_ G (Instr.fieldAt 75 v38 1) h47) h47 fun v48 h48=>
 g_ v47 false (o_ G (Instr.loadAt 3 v48) h48) h48 fun v49 h49=>
 g_ v47 false (o_ G (Instr.fieldAt 75 v38 2) h49) h49 fun v50 h50=>
 g_ v47 false (o_ G (Instr.loadAt 3 v50) h50) h50 fun v51 h51=>
 g_ v47 false (o_ G (binOp .geq 3 v49 v51) h51) h51 fun v52 h52=>
 opH P_ G (bf v47 (.bool true) v52) h52 fun v53 h53=>
 g_ v53 false (o_ G (Instr.fieldAt 75 v38 2) h53) h53 fun v54 h54=>
 g_ v53 false (o_ G (Instr.loadAt 3 v54) h54) h54 fun v55 h55=>
 g_ v53 false (o_ G (binOp .gtr 3 v55 (.int .i64 4611686018427387904)) h55) h55 fun v56 h56=>
 opH P_ G (bf v53 (.bool true) v56) h56 fun v57 h57=>
 (fun q=>cond v57
 (K .ret (upd q 6 (.int .i64 1)) h57)
 (xf G K q h57))
 (u5 (u10 (u10 r 23 v36 24 v37 8 v38 25 (r 0) 26 v40 27 v41 28 v42 29 v43 30 v43 31 v44) 32 v45 33 v46 34 v47 35 v47 36 v48 37 v49 38 v50 39 v51 40 v52 41 v53) 42 v53 43 v54 44 v55 45 v56 46 v57)
def U2 (r:Rg) (h:Hp) (K:EK):Prop:=
 o_ G (binOp .lss 3 (r 21) (r 20)) h fun v34 h34=>
 cond v34
 (D5 G K (upd r 22 v34) h34)
 (K (.exit 0) (upd r 22 v34) h34)
def aq9:Prop:=
 o_ G (Builtin.len_ #[71] 3 #[(r 2)]) h fun v4 h4=>
 bz (U2 G) (u3 r 19 (r 2) 20 v4 21 (.int .i64 0)) h4 (bh 0 (bq (aq8 G K) K))
def S50:Prop:=
 opH P_ G (xEq .eql 34 (.tmp 0) (.const .nilFunc) (r 0) (.pointer none)) h fun v0 h0=>
 g_ v0 false (fun K1=>K1 (r 1) h0) h0 fun v1 h1=>
 g_ v0 false (o_ G (binOp .lss 3 v1 (.int .i64 0)) h1) h1 fun v2 h2=>
 opH P_ G (bf v0 (.bool true) v2) h2 fun v3 h3=>
 (fun q=>cond v3
 (K .ret (upd q 6 (.int .i64 1)) h3)
 (aq9 G K q h3))
 (u7 r 6 (.int .i64 0) 13 (r 0) 14 v0 15 v0 16 v1 17 v2 18 v3)
theorem enter50:Ent 81 50 [.tmp 6] S50:=ent_ (m:=md50) (c:=(Tryz.f50.body.getD .skip)) (fun _ _ _ _=>by kernel_rfl) Tryz.func50 rfl rfl rfl

def md145:Nat→Hint
 |_=>mh false [] [] [] false
def S145:Prop:=
 o_ G (Instr.box 34 (r 0)) h fun v0 h0=>
 o_ G (Instr.box 3 (r 1)) h0 fun v1 h1=>
 o_ G (Instr.box 3 (r 2)) h1 fun v2 h2=>
 K .ret (u6 r 3 v0 4 v1 5 v2 6 .nilFunc 7 (.func (.func 164) #[] #[v0,v1,v2]) 6 (.func (.func 164) #[] #[v0,v1,v2])) h2
theorem ag7:Ent 8 145 [.tmp 6] S145:=ent_ (m:=md145) (c:=(Tryz.f145.body.getD .skip)) (fun _ _ _ _=>by kernel_rfl) Tryz.func145 rfl rfl rfl

def md26:Nat→Hint
 |_=>mh false [] [] [] false
def as8:Prop:=
 opH P_ G (xNil (r 0)) h fun v1 h1=>
 o_ G (Instr.fieldAt 124 v1 0) h1 fun v2 h2=>
 o_ G (Instr.loadAt 98 v2) h2 fun v3 h3=>
 o_ G (Builtin.len_ #[98] 3 #[v3]) h3 fun v4 h4=>
 K .ret (u6 r 5 (r 0) 6 v1 7 v2 8 v3 9 v4 2 v4) h4
def S26:Prop:=
 opH P_ G (xEq .eql 34 (.tmp 0) (.const .nilFunc) (r 0) (.pointer none)) h fun v0 h0=>
 cond v0
 (K .ret (u4 r 2 (.int .i64 0) 3 (r 0) 4 v0 2 (.int .i64 0)) h0)
 (as8 G K (u3 r 2 (.int .i64 0) 3 (r 0) 4 v0) h0)
theorem enter26:Ent 10 26 [.tmp 2] S26:=ent_ (m:=md26) (c:=(Tryz.f26.body.getD .skip)) (fun _ _ _ _=>by kernel_rfl) Tryz.func26 rfl rfl rfl

def md103:Nat→Hint
 |_=>mh false [] [] [] false
def S103:Prop:=
 opH P_ G (xEq .neq 34 (.tmp 0) (.const .nilFunc) (r 0) (.pointer none)) h fun v0 h0=>
 g_ v0 true (fun K1=>K1 (r 1) h0) h0 fun v1 h1=>
 g_ v0 true (o_ G (binOp .geq 3 v1 (.int .i64 0)) h1) h1 fun v2 h2=>
 opH P_ G (bf v0 v2 (.bool false)) h2 fun v3 h3=>
 g_ v3 true (fun K1=>K1 (r 1) h3) h3 fun v4 h4=>
 g_ v3 true (fun K1=>K1 (r 0) h4) h4 fun v5 h5=>
 g_ v3 true (opH P_ G (xNil v5) h5) h5 fun v6 h6=>
 g_ v3 true (o_ G (Instr.fieldAt 124 v6 0) h6) h6 fun v7 h7=>
 g_ v3 true (o_ G (Instr.loadAt 98 v7) h7) h7 fun v8 h8=>
 g_ v3 true (o_ G (Builtin.len_ #[98] 3 #[v8]) h8) h8 fun v9 h9=>
 g_ v3 true (o_ G (binOp .lss 3 v4 v9) h9) h9 fun v10 h10=>
 opH P_ G (bf v3 v10 (.bool false)) h10 fun v11 h11=>
 K .ret (u7 (u10 r 4 (.bool false) 5 (r 0) 6 v0 7 v0 8 v1 9 v2 10 v3 11 v3 12 v4 13 v5) 14 v6 15 v7 16 v8 17 v9 18 v10 19 v11 4 v11) h11
theorem al4:Ent 20 103 [.tmp 4] S103:=ent_ (m:=md103) (c:=(Tryz.f103.body.getD .skip)) (fun _ _ _ _=>by kernel_rfl) Tryz.func103 rfl rfl rfl

def md104:Nat→Hint
 |_=>mh false [] [] [] false
def Nw (G:Hp) (K:EK) (r:Rg) (h:Hp):Prop:=
 K .ret (upd r 10 (.bool true)) h
def Ao:Prop:=
 o_ G (binOp .add 3 (r 21) (.int .i64 1)) h fun v7 h7=>
 K .normal (u2 r 41 v7 21 v7) h7
def Ig:Prop:=
 o_ G (Instr.indexAt 99 (r 19) (r 21)) h fun v8 h8=>
 o_ G (Instr.loadAt 203 v8) h8 fun v9 h9=>
 o_ G (Instr.alloc 203 true (.tuple #[])) h9 fun v10 h10=>
 opH P_ G (su (Instr.storeAt 203 v10 v9)) h10 fun v11 h11=>
 o_ G (Instr.fieldAt 203 v10 2) h11 fun v12 h12=>
 o_ G (Instr.loadAt 3 v12) h12 fun v13 h13=>
 opH P_ G (xEq .neq 3 (.tmp 0) (.tmp 0) v13 (r 1)) h13 fun v14 h14=>
 g_ v14 true (o_ G (Instr.fieldAt 203 v10 0) h14) h14 fun v15 h15=>
 g_ v14 true (o_ G (Instr.loadAt 3 v15) h15) h15 fun v16 h16=>
 g_ v14 true (fun K1=>K1 (r 4) h16) h16 fun v17 h17=>
 g_ v14 true (o_ G (binOp .lss 3 v16 v17) h17) h17 fun v18 h18=>
 opH P_ G (bf v14 v18 (.bool false)) h18 fun v19 h19=>
 g_ v19 true (fun K1=>K1 (r 3) h19) h19 fun v20 h20=>
 g_ v19 true (o_ G (Instr.fieldAt 203 v10 1) h20) h20 fun v21 h21=>
 g_ v19 true (o_ G (Instr.loadAt 3 v21) h21) h21 fun v22 h22=>
 g_ v19 true (o_ G (binOp .lss 3 v20 v22) h22) h22 fun v23 h23=>
 opH P_ G (bf v19 v23 (.bool false)) h23 fun v24 h24=>
 (fun q=>cond v24
 (K .ret (upd q 10 (.bool false)) h24)
 (Ao G K q h24))
 (u9 (u10 r 23 v8 24 v9 12 v10 25 v12 26 v13 27 (r 1) 28 v14 29 v14 30 v15 31 v16) 32 v17 33 v18 34 v19 35 v19 36 v20 37 v21 38 v22 39 v23 40 v24)
def Wo (r:Rg) (h:Hp) (K:EK):Prop:=
 o_ G (binOp .lss 3 (r 21) (r 20)) h fun v6 h6=>
 cond v6
 (Ig G K (upd r 22 v6) h6)
 (K (.exit 0) (upd r 22 v6) h6)
def S104:Prop:=
 opH P_ G (xNil (r 0)) h fun v0 h0=>
 o_ G (Instr.fieldAt 124 v0 0) h0 fun v1 h1=>
 o_ G (Instr.loadAt 98 v1) h1 fun v2 h2=>
 o_ G (Instr.indexAt 98 v2 (r 2)) h2 fun v3 h3=>
 o_ G (Instr.loadAt 99 v3) h3 fun v4 h4=>
 o_ G (Builtin.len_ #[99] 3 #[v4]) h4 fun v5 h5=>
 bz (Wo G) (u10 r 10 (.bool false) 13 (r 0) 14 v0 15 v1 16 v2 17 (r 2) 18 v3 19 v4 20 v5 21 (.int .i64 0)) h5 (bh 0 (bq (Nw G K) K))
theorem al3:Ent 42 104 [.tmp 10] S104:=ent_ (m:=md104) (c:=(Tryz.f104.body.getD .skip)) (fun _ _ _ _=>by kernel_rfl) Tryz.func104 rfl rfl rfl

def md105:Nat→Hint
 |5=>mh false [0,0,2,7,0,0,32,112,15,511] [n_,n_,m_,n_,n_,n_,m_,n_,n_,n_] (fs 10) false
 |9=>mh false [0,1,3,7,0,0,0,0,0,0,896,1920,4064,8191,16383] [n_,n_,n_,m_,n_,n_,n_,n_,n_,n_,n_,.alloc,e_,n_,.store] [false,false,false,false,false,false,false,false,false,false,false,false,true,false,false] true
 |_=>mh false [] [] [] false
def Wn:Prop:=
 opH P_ G (callFunc 142 #[(r 10),(r 3),(.func (.func 143) #[] #[])]) h fun v6 h6=>
 o_ G (Instr.extract v6 0) h6 fun v7 h7=>
 o_ G (Instr.extract v6 1) h7 fun v8 h8=>
 ∃q9:Hp,q9.le h8∧
 bo P_ noHp noHp (xNil (r 0)) h8 fun v10 h10=>
 p_ (Instr.fieldAt 124 v10 0) h10 fun v11 h11=>
 w_ G q9 (Instr.loadAt 98 v11) h11 fun v12 h12=>
 p_ (Instr.build 203 #[(0,(r 3)),(1,(r 4)),(2,(r 1))]) h12 fun v13 h13=>
 o_ G (Instr.buildSlice 99 1 #[(0,v13)]) h13 fun v14 h14=>
 c_ G 144 #[(r 10),v7,v14] h14 fun v15 h15=>q9.le h15∧
 p_ (Instr.indexAt 98 v12 (r 2)) h15 fun v16 h16=>
 opH P_ G (su (Instr.storeAt 99 v16 v15)) h16 fun v17 h17=>
 K .normal (u2 (u10 (u10 r 57 (r 10) 58 (r 3) 59 v6 56 v6 60 v7 61 v8 13 v7 14 v8 62 (r 0) 63 v10) 64 v11 65 v12 66 (r 2) 67 (r 10) 68 v7 69 (r 3) 70 (r 4) 71 (r 1) 72 v13 73 v14) 74 v15 75 v16) h17
def us:Prop:=
 o_ G (binOp .add 3 (r 23) (.int .i64 1)) h fun v19 h19=>
 K .normal (u2 r 55 v19 23 v19) h19
def Am:Prop:=
 o_ G (Instr.loadAt 203 (r 12)) h fun v37 h37=>
 o_ G (Instr.buildSlice 99 1 #[(0,v37)]) h37 fun v38 h38=>
 o_ G (Builtin.append_ #[99,99] 99 #[(r 10),v38]) h38 fun v39 h39=>
 us G K (u5 r 51 (r 10) 52 v37 53 v38 54 v39 10 v39) h39
def Ie:Prop:=
 o_ G (Instr.indexAt 99 (r 21) (r 23)) h fun v20 h20=>
 o_ G (Instr.loadAt 203 v20) h20 fun v21 h21=>
 o_ G (Instr.alloc 203 true (.tuple #[])) h21 fun v22 h22=>
 opH P_ G (su (Instr.storeAt 203 v22 v21)) h22 fun v23 h23=>
 o_ G (Instr.fieldAt 203 v22 2) h23 fun v24 h24=>
 o_ G (Instr.loadAt 3 v24) h24 fun v25 h25=>
 opH P_ G (xEq .eql 3 (.tmp 0) (.tmp 0) v25 (r 1)) h25 fun v26 h26=>
 g_ v26 true (o_ G (Instr.fieldAt 203 v22 0) h26) h26 fun v27 h27=>
 g_ v26 true (o_ G (Instr.loadAt 3 v27) h27) h27 fun v28 h28=>
 g_ v26 true (fun K1=>K1 (r 4) h28) h28 fun v29 h29=>
 g_ v26 true (o_ G (binOp .leq 3 v28 v29) h29) h29 fun v30 h30=>
 opH P_ G (bf v26 v30 (.bool false)) h30 fun v31 h31=>
 g_ v31 true (fun K1=>K1 (r 3) h31) h31 fun v32 h32=>
 g_ v31 true (o_ G (Instr.fieldAt 203 v22 1) h32) h32 fun v33 h33=>
 g_ v31 true (o_ G (Instr.loadAt 3 v33) h33) h33 fun v34 h34=>
 g_ v31 true (o_ G (binOp .leq 3 v32 v34) h34) h34 fun v35 h35=>
 opH P_ G (bf v31 v35 (.bool false)) h35 fun v36 h36=>
 cond v36
 (p_ (Instr.fieldAt 203 v22 0) h36 fun v40 h40=>
 w_ G h36 (Instr.loadAt 3 v40) h40 fun v41 h41=>
 p_ (Builtin.min_ #[3,3] 3 #[(r 3),v41]) h41 fun v42 h42=>
 p_ (Instr.fieldAt 203 v22 1) h42 fun v43 h43=>
 w_ G h36 (Instr.loadAt 3 v43) h43 fun v44 h44=>
 p_ (Builtin.max_ #[3,3] 3 #[(r 4),v44]) h44 fun v45 h45=>
 us G K (u9 (u10 (u10 r 25 v20 26 v21 12 v22 27 v24 28 v25 29 (r 1) 30 v26 31 v26 32 v27 33 v28) 34 v29 35 v30 36 v31 37 v31 38 v32 39 v33 40 v34 41 v35 42 v36 43 (r 3)) 44 v40 45 v41 46 v42 47 (r 4) 48 v43 49 v44 50 v45 3 v42 4 v45) h45)
 (Am G K (u9 (u10 r 25 v20 26 v21 12 v22 27 v24 28 v25 29 (r 1) 30 v26 31 v26 32 v27 33 v28) 34 v29 35 v30 36 v31 37 v31 38 v32 39 v33 40 v34 41 v35 42 v36) h36)
def Wm (r:Rg) (h:Hp) (K:EK):Prop:=
 o_ G (binOp .lss 3 (r 23) (r 22)) h fun v18 h18=>
 cond v18
 (Ie G K (upd r 24 v18) h18)
 (K (.exit 0) (upd r 24 v18) h18)
def S105:Prop:=
 opH P_ G (xNil (r 0)) h fun v0 h0=>
 o_ G (Instr.fieldAt 124 v0 0) h0 fun v1 h1=>
 o_ G (Instr.loadAt 98 v1) h1 fun v2 h2=>
 o_ G (Instr.indexAt 98 v2 (r 2)) h2 fun v3 h3=>
 o_ G (Instr.loadAt 99 v3) h3 fun v4 h4=>
 o_ G (Builtin.len_ #[99] 3 #[v4]) h4 fun v5 h5=>
 bz (Wm G) (u10 r 10 (.slice none 0 0) 15 (r 0) 16 v0 17 v1 18 v2 19 (r 2) 20 v3 21 v4 22 v5 23 (.int .i64 0)) h5 (bh 0 (bq (Wn G K) (rt K)))
theorem al2:Ent 76 105 [] S105:=ent_ (m:=md105) (c:=(Tryz.f105.body.getD .skip)) (fun _ _ _ _=>by kernel_rfl) Tryz.func105 rfl rfl rfl

def md106:Nat→Hint
 |_=>mh false [] [] [] false
def Wl:Prop:=
 o_ G (Builtin.len_ #[99] 3 #[(r 0)]) h fun v2 h2=>
 o_ G (Instr.makeSlice 99 v2 v2) h2 fun v3 h3=>
 o_ G (Builtin.copy_ #[99,99] 3 #[v3,(r 0)]) h3 fun v4 h4=>
 K .ret (u9 r 7 (r 0) 8 v2 9 v3 3 v3 10 v3 11 (r 0) 12 v4 13 v3 2 v3) h4
def S106:Prop:=
 o_ G (Builtin.len_ #[99] 3 #[(r 0)]) h fun v0 h0=>
 opH P_ G (xEq .eql 3 (.tmp 0) (.const .nilFunc) v0 (.int .i64 0)) h0 fun v1 h1=>
 (fun q=>cond v1
 (K .ret (upd q 2 (.slice none 0 0)) h1)
 (Wl G K q h1))
 (u4 r 2 (.slice none 0 0) 4 (r 0) 5 v0 6 v1)
theorem al1:Ent 14 106 [.tmp 2] S106:=ent_ (m:=md106) (c:=(Tryz.f106.body.getD .skip)) (fun _ _ _ _=>by kernel_rfl) Tryz.func106 rfl rfl rfl

def md164:Nat→Hint
 |2=>mh false [0,1,3,7,0,31,63,127,0] [m_,n_,n_,m_,m_,n_,m_,m_,n_] (fs 9) false
 |_=>mh false [] [] [] false
def Ng:Prop:=
 o_ G (binOp .lss 3 (r 5) (.int .i64 4611686018427387904)) h fun v12 h12=>
 cond v12
 (opH P_ G (fy (r 0) #[(r 5),(.int .i64 4611686018427387904)]) h12 fun v13 h13=>
 K .normal (u5 r 43 (r 5) 44 v12 45 (r 0) 46 (r 5) 47 v13) h13)
 (K .normal (u2 r 43 (r 5) 44 v12) h12)
def pf:Prop:=
 o_ G (binOp .add 3 (r 20) (.int .i64 1)) h fun v15 h15=>
 K .normal (u2 r 42 v15 20 v15) h15
def ra:Prop:=
 o_ G (Instr.fieldAt 203 (r 7) 1) h fun v34 h34=>
 o_ G (Instr.loadAt 3 v34) h34 fun v35 h35=>
 pf G K (u3 r 40 v34 41 v35 5 v35) h35
def Ac:Prop:=
 o_ G (Instr.fieldAt 203 (r 7) 0) h fun v24 h24=>
 o_ G (Instr.loadAt 3 v24) h24 fun v25 h25=>
 o_ G (binOp .gtr 3 v25 (r 5)) h25 fun v26 h26=>
 g_ v26 true (fun K1=>K1 (r 0) h26) h26 fun v27 h27=>
 g_ v26 true (fun K1=>K1 (r 5) h27) h27 fun v28 h28=>
 g_ v26 true (o_ G (Instr.fieldAt 203 (r 7) 0) h28) h28 fun v29 h29=>
 g_ v26 true (o_ G (Instr.loadAt 3 v29) h29) h29 fun v30 h30=>
 g_ v26 true (opH P_ G (fy v27 #[v28,v30]) h30) h30 fun v31 h31=>
 g_ v26 true (o_ G (Op.unary .not v31) h31) h31 fun v32 h32=>
 opH P_ G (bf v26 v32 (.bool false)) h32 fun v33 h33=>
 (fun q=>cond v33
 (K .ret q h33)
 (ra G K q h33))
 (u2 (u10 r 28 v24 29 v25 30 (r 5) 31 v26 32 v26 33 v27 34 v28 35 v29 36 v30 37 v31) 38 v32 39 v33)
def Ad:Prop:=
 o_ G (Instr.indexAt 99 (r 18) (r 20)) h fun v16 h16=>
 o_ G (Instr.loadAt 203 v16) h16 fun v17 h17=>
 o_ G (Instr.alloc 203 true (.tuple #[])) h17 fun v18 h18=>
 opH P_ G (su (Instr.storeAt 203 v18 v17)) h18 fun v19 h19=>
 o_ G (Instr.fieldAt 203 v18 2) h19 fun v20 h20=>
 o_ G (Instr.loadAt 3 v20) h20 fun v21 h21=>
 o_ G (Instr.loadAt 3 (r 3)) h21 fun v22 h22=>
 opH P_ G (xEq .eql 3 (.tmp 0) (.tmp 0) v21 v22) h22 fun v23 h23=>
 (fun q=>cond v23
 (pf G K q h23)
 (Ac G K q h23))
 (u7 r 22 v16 23 v17 7 v18 24 v20 25 v21 26 v22 27 v23)
def Nf (r:Rg) (h:Hp) (K:EK):Prop:=
 o_ G (binOp .lss 3 (r 20) (r 19)) h fun v14 h14=>
 cond v14
 (Ad G K (upd r 21 v14) h14)
 (K (.exit 0) (upd r 21 v14) h14)
def Nh:Prop:=
 w_ G h (Instr.loadAt 34 (r 1)) h fun v4 h4=>
 bo P_ noHp noHp (xNil v4) h4 fun v5 h5=>
 p_ (Instr.fieldAt 124 v5 0) h5 fun v6 h6=>
 w_ G h (Instr.loadAt 98 v6) h6 fun v7 h7=>
 w_ G h (Instr.loadAt 3 (r 2)) h7 fun v8 h8=>
 p_ (Instr.indexAt 98 v7 v8) h8 fun v9 h9=>
 w_ G h (Instr.loadAt 99 v9) h9 fun v10 h10=>
 w_ G h (Builtin.len_ #[99] 3 #[v10]) h10 fun v11 h11=>
 bz (Nf G) (u10 r 5 (.int .i64 0) 12 v4 13 v5 14 v6 15 v7 16 v8 17 v9 18 v10 19 v11 20 (.int .i64 0)) h11 (bh 0 (bq (Ng G K) (rt K)))
def S164:Prop:=
 o_ G (Instr.loadAt 34 (r 1)) h fun v0 h0=>
 o_ G (Instr.loadAt 3 (r 2)) h0 fun v1 h1=>
 c_ G 103 #[v0,v1] h1 fun v2 h2=>
 o_ G (Op.unary .not v2) h2 fun v3 h3=>
 cond v3
 (K .ret (u4 r 8 v0 9 v1 10 v2 11 v3) h3)
 (Nh G K (u4 r 8 v0 9 v1 10 v2 11 v3) h3)
theorem P0:Ent 48 164 [] S164:=ent_ (m:=md164) (c:=(Tryz.f164.body.getD .skip)) (fun _ _ _ _=>by kernel_rfl) Tryz.func164 rfl rfl rfl

def md77:Nat→Hint
 |_=>mh false [] [] [] false
def ap2:Prop:=
 o_ G (Instr.indexAt 110 (r 5) (.int .i64 0)) h fun v9 h9=>
 o_ G (Instr.loadAt 3 v9) h9 fun v10 h10=>
 o_ G (Instr.indexAt 110 (r 5) (.int .i64 1)) h10 fun v11 h11=>
 o_ G (Instr.loadAt 3 v11) h11 fun v12 h12=>
 o_ G (binOp .add 3 v10 v12) h12 fun v13 h13=>
 K .ret (u6 r 15 v9 16 v10 17 v11 18 v12 19 v13 4 v13) h13
def S77:Prop:=
 c_ G 126 #[(r 0),(r 1)] h fun v0 h0=>
 o_ G (Instr.alloc 110 true (.tuple #[])) h0 fun v1 h1=>
 opH P_ G (su (Instr.storeAt 110 v1 v0)) h1 fun v2 h2=>
 o_ G (Instr.indexAt 110 v1 (.int .i64 0)) h2 fun v3 h3=>
 o_ G (Instr.loadAt 3 v3) h3 fun v4 h4=>
 o_ G (Instr.indexAt 110 v1 (.int .i64 1)) h4 fun v5 h5=>
 o_ G (Instr.loadAt 3 v5) h5 fun v6 h6=>
 o_ G (binOp .sub 3 (.int .i64 4611686018427387904) v6) h6 fun v7 h7=>
 o_ G (binOp .gtr 3 v4 v7) h7 fun v8 h8=>
 (fun q=>cond v8
 (K .ret (upd q 4 (.int .i64 4611686018427387904)) h8)
 (ap2 G K q h8))
 (upd (u10 r 4 (.int .i64 0) 6 (r 0) 7 (r 1) 8 v0 5 v1 9 v3 10 v4 11 v5 12 v6 13 v7) 14 v8)
theorem enter77:Ent 20 77 [.tmp 4] S77:=ent_ (m:=md77) (c:=(Tryz.f77.body.getD .skip)) (fun _ _ _ _=>by kernel_rfl) Tryz.func77 rfl rfl rfl

def md142:Nat→Hint
 |_=>mh false [] [] [] false
def Vl:Prop:=
 o_ G (binOp .lss 3 (r 9) (r 8)) h fun v1 h1=>
 g_ v1 true (fun K1=>K1 (r 2) h1) h1 fun v2 h2=>
 g_ v1 true (fun K1=>K1 (r 0) h2) h2 fun v3 h3=>
 g_ v1 true (fun K1=>K1 (r 9) h3) h3 fun v4 h4=>
 g_ v1 true (o_ G (Instr.indexAt 99 v3 v4) h4) h4 fun v5 h5=>
 g_ v1 true (o_ G (Instr.loadAt 203 v5) h5) h5 fun v6 h6=>
 g_ v1 true (fun K1=>K1 (r 1) h6) h6 fun v7 h7=>
 g_ v1 true (opH P_ G (fy v2 #[v6,v7]) h7) h7 fun v8 h8=>
 g_ v1 true (opH P_ G (xEq .eql 3 (.tmp 0) (.const .nilFunc) v8 (.int .i64 0)) h8) h8 fun v9 h9=>
 opH P_ G (bf v1 v9 (.bool false)) h9 fun v10 h10=>
 K .ret (u6 (u10 r 35 (r 9) 36 (r 9) 37 (r 8) 38 v1 39 v1 40 v2 41 v3 42 v4 43 v5 44 v6) 45 v7 46 v8 47 v9 48 v10 6 (r 9) 7 v10) h10
def G8:Prop:=
 o_ G (binOp .add 3 (r 9) (r 10)) h fun v12 h12=>
 o_ G (convert 3 272 v12) h12 fun v13 h13=>
 o_ G (binOp .shr 272 v13 (.int .u64 1)) h13 fun v14 h14=>
 o_ G (convert 272 3 v14) h14 fun v15 h15=>
 o_ G (Instr.indexAt 99 (r 0) v15) h15 fun v16 h16=>
 o_ G (Instr.loadAt 203 v16) h16 fun v17 h17=>
 opH P_ G (fy (r 2) #[v17,(r 1)]) h17 fun v18 h18=>
 o_ G (binOp .lss 3 v18 (.int .i64 0)) h18 fun v19 h19=>
 cond v19
 (o_ G (binOp .add 3 v15 (.int .i64 1)) h19 fun v20 h20=>
 K .normal (u8 (u10 r 18 (r 9) 19 (r 10) 20 v12 21 v13 22 v14 23 v15 11 v15 24 (r 2) 25 (r 0) 26 v15) 27 v16 28 v17 29 (r 1) 30 v18 31 v19 32 v15 33 v20 9 v20) h20)
 (K .normal (u7 (u10 r 18 (r 9) 19 (r 10) 20 v12 21 v13 22 v14 23 v15 11 v15 24 (r 2) 25 (r 0) 26 v15) 27 v16 28 v17 29 (r 1) 30 v18 31 v19 34 v15 10 v15) h19)
def Vk (r:Rg) (h:Hp) (K:EK):Prop:=
 o_ G (binOp .lss 3 (r 9) (r 10)) h fun v11 h11=>
 cond v11
 (G8 G K (u3 r 15 (r 9) 16 (r 10) 17 v11) h11)
 (K (.exit 0) (u3 r 15 (r 9) 16 (r 10) 17 v11) h11)
def S142:Prop:=
 o_ G (Builtin.len_ #[99] 3 #[(r 0)]) h fun v0 h0=>
 bz (Vk G) (u8 r 6 (.int .i64 0) 7 (.bool false) 12 (r 0) 13 v0 8 v0 14 v0 9 (.int .i64 0) 10 v0) h0 (bh 0 (bq (Vl G K) K))
theorem ah0:Ent 49 142 [.tmp 6,.tmp 7] S142:=ent_ (m:=md142) (c:=(Tryz.f142.body.getD .skip)) (fun _ _ _ _=>by kernel_rfl) Tryz.func142 rfl rfl rfl

def md143:Nat→Hint
 |_=>mh false [] [] [] false
def S143:Prop:=
 o_ G (Instr.box 203 (r 0)) h fun v0 h0=>
 o_ G (Instr.fieldAt 203 v0 0) h0 fun v1 h1=>
 o_ G (Instr.loadAt 3 v1) h1 fun v2 h2=>
 o_ G (binOp .sub 3 v2 (r 1)) h2 fun v3 h3=>
 K .ret (u7 r 2 v0 4 (.int .i64 0) 5 v1 6 v2 7 (r 1) 8 v3 4 v3) h3
theorem ag9:Ent 9 143 [.tmp 4] S143:=ent_ (m:=md143) (c:=(Tryz.f143.body.getD .skip)) (fun _ _ _ _=>by kernel_rfl) Tryz.func143 rfl rfl rfl

def md144:Nat→Hint
 |11=>mh false [0,0,0,6,15,0,0,96,255] [n_,n_,n_,n_,n_,n_,n_,n_,e_] (fs 9) false
 |15=>mh false [0,0,0,6,15,0,0,96,255] [n_,n_,n_,n_,n_,n_,n_,n_,e_] (fs 9) false
 |_=>mh false [] [] [] false
def S144_k4:Prop:=
 o_ G (Instr.sliceAt 99 (r 0) (some (r 8)) none none) h fun v14 h14=>
 o_ G (Builtin.copy_ #[99,99] 3 #[v14,(r 2)]) h14 fun v15 h15=>
 o_ G (Instr.sliceAt 99 (r 0) (some (r 1)) none none) h15 fun v16 h16=>
 c_ G 163 #[v16,(r 7)] h16 fun v17 h17=>
 K .ret (u2 (u10 r 84 (r 0) 85 (r 8) 86 v14 87 (r 2) 88 v15 89 (r 0) 90 (r 1) 91 v16 92 (r 7) 93 v17) 94 (r 0) 6 (r 0)) h17
def Vi:Prop:=
 o_ G (binOp .add 3 (r 8) (r 7)) h fun v8 h8=>
 o_ G (Instr.sliceAt 99 (r 0) none (some v8) none) h8 fun v9 h9=>
 o_ G (binOp .add 3 (r 1) (r 7)) h9 fun v10 h10=>
 o_ G (Instr.sliceAt 99 v9 (some v10) none none) h10 fun v11 h11=>
 opH P_ G (callFunc 162 #[(r 2),v11]) h11 fun v12 h12=>
 o_ G (Op.unary .not v12) h12 fun v13 h13=>
 cond v13
 (p_ (binOp .add 3 (r 1) (r 7)) h13 fun v18 h18=>
 p_ (Instr.sliceAt 99 v9 (some v18) none none) h18 fun v19 h19=>
 p_ (Instr.sliceAt 99 v9 (some (r 1)) none none) h19 fun v20 h20=>
 o_ G (Builtin.copy_ #[99,99] 3 #[v19,v20]) h20 fun v21 h21=>
 o_ G (Instr.sliceAt 99 v9 (some (r 1)) none none) h21 fun v22 h22=>
 o_ G (Builtin.copy_ #[99,99] 3 #[v22,(r 2)]) h22 fun v23 h23=>
 K .ret (u10 (u10 (u10 r 56 (r 0) 57 (r 8) 58 (r 7) 59 v8 60 v9 0 v9 61 (r 2) 62 v9 63 (r 1) 64 (r 7)) 65 v10 66 v11 67 v12 68 v13 69 v9 70 (r 1) 71 (r 7) 72 v18 73 v19 74 v9) 75 (r 1) 76 v20 77 v21 78 v9 79 (r 1) 80 v22 81 (r 2) 82 v23 83 v9 6 v9) h23)
 (S144_k4 G K (u4 (u10 r 56 (r 0) 57 (r 8) 58 (r 7) 59 v8 60 v9 0 v9 61 (r 2) 62 v9 63 (r 1) 64 (r 7)) 65 v10 66 v11 67 v12 68 v13) h13)
def Vj:Prop:=
 o_ G (binOp .add 3 (r 8) (r 7)) h fun v5 h5=>
 o_ G (Builtin.cap_ #[99] 3 #[(r 0)]) h5 fun v6 h6=>
 o_ G (binOp .gtr 3 v5 v6) h6 fun v7 h7=>
 cond v7
 (o_ G (Instr.sliceAt 99 (r 0) none (some (r 1)) none) h7 fun v24 h24=>
 o_ G (binOp .add 3 (r 8) (r 7)) h24 fun v25 h25=>
 o_ G (binOp .sub 3 v25 (r 1)) h25 fun v26 h26=>
 o_ G (Builtin.append_ #[99,3] 99 #[v24,v26]) h26 fun v27 h27=>
 o_ G (Instr.sliceAt 99 v27 (some (r 1)) none none) h27 fun v28 h28=>
 o_ G (Builtin.copy_ #[99,99] 3 #[v28,(r 2)]) h28 fun v29 h29=>
 p_ (binOp .add 3 (r 1) (r 7)) h29 fun v30 h30=>
 p_ (Instr.sliceAt 99 v27 (some v30) none none) h30 fun v31 h31=>
 p_ (Instr.sliceAt 99 (r 0) (some (r 1)) none none) h31 fun v32 h32=>
 o_ G (Builtin.copy_ #[99,99] 3 #[v31,v32]) h32 fun v33 h33=>
 K .ret (u2 (u10 (u10 (u10 r 26 (r 8) 27 (r 7) 28 v5 29 (r 0) 30 v6 31 v7 32 (r 0) 33 (r 1) 34 v24 35 (r 8)) 36 (r 7) 37 v25 38 (r 1) 39 v26 40 v27 9 v27 41 v27 42 (r 1) 43 v28 44 (r 2)) 45 v29 46 v27 47 (r 1) 48 (r 7) 49 v30 50 v31 51 (r 0) 52 (r 1) 53 v32 54 v33) 55 v27 6 v27) h33)
 (Vi G K (u6 r 26 (r 8) 27 (r 7) 28 v5 29 (r 0) 30 v6 31 v7) h7)
def Nl:Prop:=
 o_ G (Builtin.len_ #[99] 3 #[(r 0)]) h fun v3 h3=>
 opH P_ G (xEq .eql 3 (.tmp 0) (.tmp 0) (r 1) v3) h3 fun v4 h4=>
 cond v4
 (o_ G (Builtin.append_ #[99,99] 99 #[(r 0),(r 2)]) h4 fun v34 h34=>
 K .ret (u10 r 18 (r 0) 19 v3 8 v3 20 (r 1) 21 v3 22 v4 23 (r 0) 24 (r 2) 25 v34 6 v34) h34)
 (Vj G K (u6 r 18 (r 0) 19 v3 8 v3 20 (r 1) 21 v3 22 v4) h4)
def S144:Prop:=
 o_ G (Instr.sliceAt 99 (r 0) (some (r 1)) none none) h fun v0 h0=>
 o_ G (Builtin.len_ #[99] 3 #[(r 2)]) h0 fun v1 h1=>
 opH P_ G (xEq .eql 3 (.tmp 0) (.const .nilFunc) v1 (.int .i64 0)) h1 fun v2 h2=>
 (fun q=>cond v2
 (K .ret (u2 q 17 (r 0) 6 (r 0)) h2)
 (Nl G K q h2))
 (u9 r 6 (.slice none 0 0) 10 (r 0) 11 (r 1) 12 v0 13 (r 2) 14 v1 7 v1 15 v1 16 v2)
theorem ag8:Ent 95 144 [.tmp 6] S144:=ent_ (m:=md144) (c:=(Tryz.f144.body.getD .skip)) (fun _ _ _ _=>by kernel_rfl) Tryz.func144 rfl rfl rfl

def md126:Nat→Hint
 |_=>mh false [] [] [] false
def S126:Prop:=
 o_ G (Instr.alloc 110 true (.tuple #[])) h fun v0 h0=>
 c_ G 154 #[(r 0)] h0 fun v1 h1=>
 c_ G 154 #[(r 1)] h1 fun v2 h2=>
 o_ G (Instr.build 110 #[(0,v1),(1,v2)]) h2 fun v3 h3=>
 opH P_ G (su (Instr.storeAt 110 v0 v3)) h3 fun v4 h4=>
 K .ret (u6 r 4 v0 5 (r 0) 6 v1 7 (r 1) 8 v2 9 v3) h4
theorem ai8:Ent 10 126 [.cell 4 110] S126:=ent_ (m:=md126) (c:=(Tryz.f126.body.getD .skip)) (fun _ _ _ _=>by kernel_rfl) Tryz.func126 rfl rfl rfl

def md154:Nat→Hint
 |_=>mh false [] [] [] false
def S154:Prop:=
 o_ G (Builtin.min_ #[3,3] 3 #[(r 0),(.int .i64 4611686018427387904)]) h fun v0 h0=>
 o_ G (Builtin.max_ #[3,3] 3 #[(.int .i64 0),v0]) h0 fun v1 h1=>
 K .ret (u5 r 2 (.int .i64 0) 3 (r 0) 4 v0 5 v1 2 v1) h1
theorem af9:Ent 6 154 [.tmp 2] S154:=ent_ (m:=md154) (c:=(Tryz.f154.body.getD .skip)) (fun _ _ _ _=>by kernel_rfl) Tryz.func154 rfl rfl rfl
end
end Go.Proofs.YtfflipnhffknnaaGreatDoor
end

section
namespace Go.Proofs.YtfflipnhffknnaaGreatDoor.Rv
open Go Go.HL Go.Proofs.Resv
def yz:=jq bC (jq (jq (jq @Bool.true_and (jq @List.length_nil.{0} @and_true)) (jq (jq @rn @Uw) (jq @cf106 @Um))) (jq (jq (jq @Mo @ld98) (jq @ld99 @ln98)) (jq (jq @ln99 @ne34s) (jq @ix @true_and))))
def bj:Cod Slot:=⟨3,fun s=>[.int .i64 s.f,.int .i64 s.t,.int .i64 s.r],fun _=>rfl,fun _ v hv=>by simp at hv;rcases hv with rfl|rfl|rfl<;>rfl⟩
abbrev slotV (s:Slot):Value := .agg #[.int .i64 s.f,.int .i64 s.t,.int .i64 s.r]
abbrev mo (s:Slot):Obj := .cells #[.int .i64 s.f,.int .i64 s.t,.int .i64 s.r] 203 (0,0)
theorem eoslot:fe P_ 203 bj.n 24:=eo203
abbrev Sv:=Option Addr × Nat × Nat
def svC:Cod Sv:=⟨1,fun (s:Sv)=>[.slice s.1 s.2.1 s.2.2],fun _=>rfl,fun _ v hv=>by simp at hv;subst hv;rfl⟩
theorem eosv:fe P_ 99 svC.n 24:=⟨by kernel_rfl,by kernel_rfl,by kernel_rfl⟩

def TSee (G h:Hp) (tp:Nat) (T:List (List Slot)):Prop:=∃rb,aa G h ⟨tp,0,none⟩=some (.slice (some ⟨rb,0,none⟩) T.length T.length)∧
 ∀c L,T[c]?=some L→∃a cap,aa G h ⟨rb,c,none⟩=some (.slice a L.length cap)∧Sees bj G h (.slice a L.length cap) L
theorem TSee.up {G h h':Hp} {tp:Nat} {T:List (List Slot)} (s:TSee G h tp T) (l:h.le h') (d:Dis G h'):TSee G h' tp T:=by
 obtain ⟨rb,e1,e2⟩:=s
 exact ⟨rb,gh l d e1,fun c L hc=>let ⟨a,cap,e3,e4⟩:=e2 c L hc;⟨a,cap,gh l d e3,e4.up l d⟩⟩

def Rows (pb:Hp) (raws:List Sv) (T:List (List Slot)):Prop:=raws.length=T.length∧∀(i:Nat) (s:Sv) (L:List Slot),raws[i]?=some s→T[i]?=some L→s.2.1=L.length∧Slc bj 203 pb (.slice s.1 L.length s.2.2) L
def Tab (ty:TypeId) (a:Hp) (tp:Nat) (T:List (List Slot)):Prop:=∃rb raws pb,Sep [noHp.set tp (.cells #[.slice (some ⟨rb,0,none⟩) T.length T.length] ty (0,0)),noHp.set rb (.cells (svC.rows raws).toArray 99 (0,0)),pb] a∧Rows pb raws T

theorem sv_get {G h:Hp} {rb c:Nat} {raws:List Sv} {e:TypeId} {s:Sv} (hb:h rb=some (.cells (svC.rows raws).toArray e (0,0))) (hs:raws[c]?=some s):aa G h ⟨rb,c,none⟩=some (.slice s.1 s.2.1 s.2.2):=by
 rw [ai (ag hb)]
 have:=svC.rows_get (t:=[]) (j:=0) hs (by decide)
 rw [List.append_nil,show svC.n=1 from rfl,Nat.mul_one,Nat.add_zero]at this
 exact this

theorem Tab.see {G a h:Hp} {ty:TypeId} {tp:Nat} {T:List (List Slot)} (t:Tab ty a tp T) (l:a.le h):TSee G h tp T:=by
 obtain ⟨rb,raws,pb,s,hl,hr⟩:=t
 refine ⟨rb,?_,fun c L hc=>?_⟩
 · rw [ai (ag (l _ _ (s.at 0 rfl af)))]
   rfl
 · have hlt:c<raws.length:=by rw [hl];exact (List.getElem?_eq_some_iff.1 hc).1
   obtain ⟨e1,o⟩:=hr c _ L (List.getElem?_eq_getElem hlt) hc
   refine ⟨raws[c].1,raws[c].2.2,?_,o.sees (by decide) ((s.in 2 rfl).trans l)⟩
   rw [sv_get (l _ _ (s.at 1 rfl af)) (List.getElem?_eq_getElem hlt),e1]

theorem Sees.slot {G h:Hp} {sa:Option Addr} {cap n:Nat} {L:List Slot} (s:Sees bj G h (.slice sa n cap) L) {i:Nat} {x:Slot} (hx:L[i]?=some x):
   ∃b o,sa=some ⟨b,o,none⟩∧aa G h ⟨b,o+i*3,none⟩=some (.int .i64 x.f)∧aa G h ⟨b,o+i*3+1,none⟩=some (.int .i64 x.t)∧aa G h ⟨b,o+i*3+2,none⟩=some (.int .i64 x.r):=by
 obtain ⟨b,o,c,e1,e2⟩:=s.get hx
 simp only [Value.slice.injEq]at e1
 obtain ⟨rfl,-,-⟩:=e1
 have x0:=e2 0 (by decide)
 have x1:=e2 1 (by decide)
 have x2:=e2 2 (by decide)
 simp only [bj,Nat.add_zero,List.getElem?_cons_zero,List.getElem?_cons_succ]at x0 x1 x2
 exact ⟨b,o,rfl,x0,x1,x2⟩

def hasB (T:List (List Slot)) (c:Int):Bool:=decide (0≤c)&&decide (c<T.length)
theorem Fp {G h:Hp} {tp:Nat} {T:List (List Slot)} {c:Int} (ts:TSee G h tp T):aj P_ G 103 #[.pointer (some ⟨tp,0,none⟩),.int .i64 c] h (fun u h'=>u = .bool (hasB T c)∧h'=h):=by
 obtain ⟨rb,e1,_⟩:=ts
 refine al4 (by simp) ?_
 unfold S103 hasB
 try simp only [yz]
 by_cases h0:0≤c
 · try simp only [yz,decide_eq_true h0,show decide (c≥0)=true from decide_eq_true h0,e1]
 · try simp only [yz,decide_eq_false h0,show decide (c≥0)=false from decide_eq_false h0,e1,Bool.false_and]

theorem nk {G h:Hp} {tp:Nat} {T:List (List Slot)} (ts:TSee G h tp T):aj P_ G 26 #[.pointer (some ⟨tp,0,none⟩)] h (fun u h'=>u = .int .i64 T.length∧h'=h):=by
 obtain ⟨rb,e1,_⟩:=ts
 refine enter26 (by simp) ?_
 unfold S26
 try simp only [yz]
 unfold as8
 try simp (disch:=decide) only [yz,e1]

theorem Jm {G h:Hp} {v:Value} {L:List Slot} (sv:Sees bj G h v L) (hL:L.length≤100000):aj P_ G 106 #[v] h (fun u h'=>∃b,Slc bj 203 b u L∧Sep [b,h] h'∧Dis G h'):=by
 obtain ⟨sa,cap,rfl⟩:=sv.len
 refine aj.assume fun d=>al1 (by simp) ?_
 unfold S106
 simp only [yz]
 by_cases hL0:L=[]
 · subst hL0
   try simp only [yz,List.length_nil,show (((0:Nat):Int)==0)=true from rfl]
   exact ⟨noHp,Slc.nil,Sep.one.none,d⟩
 · have hpos:=List.length_pos_iff.2 hL0
   have e:((L.length:Int)==0)=false:=by
     have:(L.length:Int)≠0:=by omega
     simpa using this
   try simp only [yz,e]
   unfold Wl
   try simp (disch:=decide) only [yz]
   rw [ri bj ⟨0,0,0⟩ (by decide) un99 eoslot (by kernel_rfl) (by omega) (by omega)]
   intro x hx gx
   have d1:=d.set (o := .cells (bj.rows (List.replicate L.length (⟨0,0,0⟩:Slot))).toArray 203 (0,0)) gx
   rw [P6 bj (by decide) un99 eoslot (L:=L) af (by simp) (sv.up (df hx) d1) hL0 rfl,set_set]
   try simp (disch:=first|decide|omega) only [yz,Nat.reduceAdd,Nat.reduceMul]
   exact ⟨noHp.set x _,⟨some x,_,[],rfl,by rw [af,List.append_nil],by rw [List.append_nil,bj.rows_length]⟩,Sep.one.new hx,d.set gx⟩
def ci:=jq bC (jq (jq (jq (jq @Kc @and_true) (jq @ww @cf143)) (jq (jq @Mo @ug) (jq @uf @ue))) (jq (jq (jq @Jo @ld3) (jq @ld98 @ld99)) (jq (jq @ln99 @ix) (jq @kf (jq @Ce @true_and)))))
theorem Jy {L:List Slot} {i:Nat} {s:Slot} {r f t:Int} (hs:L[i]?=some s):ku (L.take (i+1)) r f t=(ku (L.take i) r f t&&(s.r==r || !(decide (s.f<t)&&decide (f<s.t)))):=by
 unfold ku
 rw [List.take_add_one,hs,List.all_append]
 simp
theorem Pk {L:List Slot} {i:Nat} {s:Slot} {r f t:Int} (hs:L[i]?=some s) (h:(s.r==r || !(decide (s.f<t)&&decide (f<s.t)))=false):ku L r f t=false:=by
 unfold ku
 rw [List.all_eq_false]
 exact ⟨s,List.mem_of_getElem? hs,by rw [h];simp⟩

theorem tf {G h:Hp} {tp:Nat} {T:List (List Slot)} {L:List Slot} {c r f t:Int} (ts:TSee G h tp T) (h0:0≤c) (hL:T[c.toNat]?=some L) (hlen:L.length≤100000):
   aj P_ G 104 #[.pointer (some ⟨tp,0,none⟩),.int .i64 r,.int .i64 c,.int .i64 f,.int .i64 t] h (fun u h'=>u = .bool (ku L r f t)∧h'=h):=by
 have h1:c<T.length:=by have:=(List.getElem?_eq_some_iff.1 hL).1;omega
 obtain ⟨rb,e1,e2⟩:=ts
 obtain ⟨a,cap,e3,e4⟩:=e2 _ _ hL
 refine aj.assume fun d=>quietly (al3 (by simp) ?_)
 unfold S104
 simp only [ci,e1,ix98 h0 h1,Nat.mul_one,e3]
 refine bv (fun m q h3=>∃i:Nat,m=L.length-i∧i≤L.length∧q 1 = .int .i64 r∧q 3 = .int .i64 f∧q 4 = .int .i64 t∧q 10 = .bool false∧q 19 = .slice a L.length cap∧q 20 = .int .i64 L.length∧q 21 = .int .i64 i∧h.le h3∧Dis G h3∧ku (L.take i) r f t=true) ?_
   (m:=L.length) ⟨0,rfl,Nat.zero_le _,by simp (disch:=decide) only [ci],by simp (disch:=decide) only [ci],by simp (disch:=decide) only [ci],by simp (disch:=decide) only [ci],by simp (disch:=decide) only [ci],by simp (disch:=decide) only [ci],by simp only [ci]<;>rfl,Hp.le.refl h,d,rfl⟩
 rintro m q h3 ⟨i,rfl,hi,q1,q3,q4,q10,q19,q20,q21,l3,d3,hf⟩ X HX
 unfold Wo
 simp only [ci,q20,q21]
 refine ax (fun hlt=>?_) (fun hge=>?_)
 rotate_left
 · obtain rfl:i=L.length:=by omega
   rw [List.take_of_length_le (Nat.le_refl _)]at hf
   try simp (disch:=first|decide|omega) only [ci,Nat.reduceAdd,Nat.reduceMul]
   unfold Nw
   try simp only [ci]
   exact ⟨by rw [hf],l3⟩
 obtain ⟨s,hs⟩:∃s,L[i]?=some s:=⟨_,List.getElem?_eq_getElem (by omega)⟩
 obtain ⟨b,o,rfl,z0,z1,z2⟩:=Sees.slot (e4.up l3 d3) hs
 unfold Ig
 simp (disch:=first|decide|exact au|exact am|omega|rfl) only [ci,q19,q21,ix99 (Int.natCast_nonneg i) hlt,z0,z1,z2]
 intro x hx gx
 simp only [ci,q1]
 generalize eh:Hp.set h3 x _=h4
 obtain ⟨l4,d4,b4⟩:=boxed eh hx d3 gx
 have cx:∀j,aa G h4 ⟨x,j,none⟩=_:=fun j=>ai (ag b4)
 have k4:∀q':Rg,q' 1 = .int .i64 r→q' 3 = .int .i64 f→q' 4 = .int .i64 t→q' 10 = .bool false→q' 19=q 19→q' 20=q 20→q' 21=q 21→(s.r==r || !(decide (s.f<t)&&decide (f<s.t)))=true→Ao G (bq X (bh 0 (bq (Nw G (retK P_ G [.tmp 10] fun u h'=>u = .bool (ku L r f t)∧h.le h')) (retK P_ G [.tmp 10] fun u h'=>u = .bool (ku L r f t)∧h.le h')))) q' h4:=by
   intro q' p1 p3 p4 p10 p19 p20 p21 hc
   unfold Ao
   simp (disch:=first|decide|omega) only [ci,p21,q21]
   exact HX (L.length-(i+1)) _ _ (by omega) ⟨i+1,rfl,by omega,by simp (disch:=decide) only [ci,p1],by simp (disch:=decide) only [ci,p3],by simp (disch:=decide) only [ci,p4],by simp (disch:=decide) only [ci,p10],by simp (disch:=decide) only [ci,p19,q19],by simp (disch:=decide) only [ci,p20,q20],by simp only [ci]<;>rfl,l3.trans l4,d4,by rw [Jy hs,hf,hc];rfl⟩
 cases hb:(s.r != r)with
 |false=>
   try simp only [ci,dv,hb]
   exact k4 _ (by simp (disch:=decide) only [ci,q1]) (by simp (disch:=decide) only [ci,q3]) (by simp (disch:=decide) only [ci,q4]) (by simp (disch:=decide) only [ci,q10]) (by simp (disch:=decide) only [ci]) (by simp (disch:=decide) only [ci]) (by simp (disch:=decide) only [ci]) (by simp at hb;simp [hb])
 |true=>
   try simp only [ci,cx,q4]
   by_cases hb2:s.f<t
   · try simp only [ci,decide_eq_true hb2,q3,cx]
     refine ax (fun hb3=>?_) (fun hb3=>?_)
     · try simp (disch:=first|decide|omega) only [ci,Nat.reduceAdd,Nat.reduceMul]
       have:(s.r==r || !(decide (s.f<t)&&decide (f<s.t)))=false:=by simp at hb;simp [hb,hb2,hb3]
       exact ⟨by rw [Pk hs this],l3.trans l4⟩
     · exact k4 _ (by simp (disch:=decide) only [ci,q1]) (by simp (disch:=decide) only [ci,q3]) (by simp (disch:=decide) only [ci,q4]) (by simp (disch:=decide) only [ci,q10]) (by simp (disch:=decide) only [ci]) (by simp (disch:=decide) only [ci]) (by simp (disch:=decide) only [ci]) (by simp [hb3])
   · try simp only [ci,decide_eq_false hb2,dv]
     exact k4 _ (by simp (disch:=decide) only [ci,q1]) (by simp (disch:=decide) only [ci,q3]) (by simp (disch:=decide) only [ci,q4]) (by simp (disch:=decide) only [ci,q10]) (by simp (disch:=decide) only [ci]) (by simp (disch:=decide) only [ci]) (by simp (disch:=decide) only [ci]) (by simp [hb2])

theorem cv_iu {G h:Hp} {x:Int} {K:VK}:wpH P_ G (convert 3 272 (.int .i64 x)) h K=K (.int .u64 (IntKind.u64.wrap x)) h:=by kernel_rfl
theorem cv_ui {G h:Hp} {x:Int} {K:VK}:wpH P_ G (convert 272 3 (.int .u64 x)) h K=K (.int .i64 (IntKind.i64.wrap x)) h:=by kernel_rfl
theorem shr1 {G h:Hp} {x:Int} {K:VK}:wpH P_ G (binOp .shr 272 (.int .u64 x) (.int .u64 1)) h K=K (.int .u64 (x.fdiv 2)) h:=by kernel_rfl
theorem wrap_u {x:Int} (h1:0≤x) (h2:x<18446744073709551616):IntKind.u64.wrap x=x:=by simp [IntKind.wrap,IntKind.bits,IntKind.signed];omega
theorem half {i j:Nat}:((i:Int)+(j:Int)).fdiv 2=(((i+j) / 2:Nat):Int):=by
 rw [Int.fdiv_eq_ediv_of_nonneg _ (by decide)]
 omega
theorem Bo {G h:Hp} {s:Slot} {n:Int} (h1:0≤s.f) (h2:s.f≤FV) (h3:0≤n) (h4:n≤FV):aj P_ G 143 #[slotV s,.int .i64 n] h (fun u h'=>u = .int .i64 (s.f-n)∧h'=h):=by
 refine aj.assume fun d=>quietly (ag9 (by simp) ?_)
 unfold S143
 simp only [ci]
 intro x hx gx
 have e:IntKind.i64.wrap (s.f-n)=s.f-n:=kv (by unfold FV at *;omega) (by unfold FV at *;omega)
 simp only [ci,e]
 exact df hx

theorem Qe {G h:Hp} {a b:Value} {K:VK}:opH P_ G (fy (.func (.func 143) #[] #[]) #[a,b]) h K=aj P_ G 143 #[a,b] h K:=by kernel_rfl

def rank (L:List Slot) (n:Int):Nat:=(L.takeWhile fun s=>decide (s.f<n)).length
theorem rank_at:∀{L:List Slot} {n:Int},L.Pairwise (fun a b=>a.f≤b.f)→∀(i:Nat) (s:Slot),L[i]?=some s→(s.f<n↔i<rank L n):=by
 intro L n hp i s hs
 unfold rank
 have e:=List.takeWhile_append_dropWhile (p:=fun s=>decide (s.f<n)) (l:=L)
 constructor
 · intro h
   refine Nat.lt_of_not_le fun hle=>?_
   rw [← e,List.getElem?_append_right hle]at hs
   have:=Us hp s (List.mem_of_getElem? hs)
   omega
 · intro h
   rw [← e,List.getElem?_append_left h]at hs
   exact S8 s (List.mem_of_getElem? hs)
theorem Ti {L:List Slot} {n:Int}:rank L n≤L.length:=by
 unfold rank
 have:=congrArg List.length (List.takeWhile_append_dropWhile (p:=fun s=>decide (s.f<n)) (l:=L))
 rw [List.length_append]at this
 omega

theorem Oe {G h:Hp} {v:Value} {L:List Slot} {n:Int} (sv:Sees bj G h v L) (hlen:L.length≤100000) (hp:L.Pairwise fun a b=>a.f≤b.f) (hf:∀s∈L,0≤s.f∧s.f≤FV) (h3:0≤n) (h4:n≤FV):
   aj P_ G 142 #[v,.int .i64 n,.func (.func 143) #[] #[]] h (fun u h'=>(∃b,u = .tuple #[.int .i64 (rank L n),.bool b])∧h'=h):=by
 obtain ⟨sa,cap,rfl⟩:=sv.len
 refine ah0 (by simp) ?_
 unfold S142
 simp only [ci]
 refine bv (fun m q h3=>∃i j:Nat,m=j-i∧i≤rank L n∧rank L n≤j∧j≤L.length∧q 0 = .slice sa L.length cap∧q 1 = .int .i64 n∧q 2 = .func (.func 143) #[] #[]∧q 8 = .int .i64 L.length∧q 9 = .int .i64 i∧q 10 = .int .i64 j∧h3=h) ?_
   (m:=L.length) ⟨0,L.length,by omega,Nat.zero_le _,Ti,Nat.le_refl _,by simp (disch:=decide) only [ci],by simp (disch:=decide) only [ci],by simp (disch:=decide) only [ci],by simp (disch:=decide) only [ci],by simp (disch:=decide) only [ci]<;>rfl,by simp only [ci],rfl⟩
 rintro m q h3' ⟨i,j,rfl,hi,hj,hjl,q0,q1,q2,q8,q9,q10,rfl⟩ X HX
 unfold Vk
 simp only [ci,q9,q10]
 refine ax (fun hlt=>?_) (fun hge=>?_)
 · have hlt':i<j:=by omega
   have hm:(i+j) / 2<L.length:=by omega
   obtain ⟨s,hs⟩:∃s,L[(i+j) / 2]?=some s:=⟨_,List.getElem?_eq_getElem hm⟩
   obtain ⟨b,o,rfl,z0,z1,z2⟩:=Sees.slot sv hs
   obtain ⟨f0,f1⟩:=hf s (List.mem_of_getElem? hs)
   have w1:IntKind.i64.wrap ((i:Int)+(j:Int))=(i:Int)+(j:Int):=kv (by omega) (by omega)
   have w2:IntKind.u64.wrap ((i:Int)+(j:Int))=(i:Int)+(j:Int):=wrap_u (by omega) (by omega)
   have w3:IntKind.i64.wrap (((i+j) / 2:Nat):Int)=(((i+j) / 2:Nat):Int):=kv (by omega) (by omega)
   have hm':(((i+j) / 2:Nat):Int)<(L.length:Int):=by omega
   unfold G8
   simp (disch:=first|decide|omega) only [ci,q0,q1,q2,q9,q10,cv_iu,w1,w2,shr1,half,cv_ui,w3,ix99 (Int.natCast_nonneg ((i+j) / 2)) hm',z0,z1,z2,Qe]
   refine (Bo f0 f1 h3 h4).mono ?_
   rintro _ _ ⟨rfl,rfl⟩
   have hr:=rank_at hp _ _ hs (n:=n)
   simp only [ci]
   refine ax (fun hlt2=>?_) (fun hge2=>?_)
   · have:(i+j) / 2<rank L n:=hr.1 (by omega)
     try simp (disch:=first|decide|omega) only [ci,Nat.reduceAdd,Nat.reduceMul]
     refine HX (j-((i+j) / 2+1)) _ _ (by omega) ⟨(i+j) / 2+1,j,rfl,by omega,hj,hjl,by simp (disch:=decide) only [ci,q0],by simp (disch:=decide) only [ci,q1],by simp (disch:=decide) only [ci,q2],by simp (disch:=decide) only [ci,q8],by simp only [ci]<;>rfl,by simp (disch:=decide) only [ci,q10],rfl⟩
   · have:¬(i+j) / 2<rank L n:=fun h=>hge2 (by have:=hr.2 h;omega)
     try simp (disch:=first|decide|omega) only [ci,Nat.reduceAdd,Nat.reduceMul]
     refine HX ((i+j) / 2-i) _ _ (by omega) ⟨i,(i+j) / 2,rfl,hi,by omega,by omega,by simp (disch:=decide) only [ci,q0],by simp (disch:=decide) only [ci,q1],by simp (disch:=decide) only [ci,q2],by simp (disch:=decide) only [ci,q8],by simp (disch:=decide) only [ci,q9],by simp only [ci],rfl⟩
 obtain rfl:i=rank L n:=by omega
 try simp (disch:=first|decide|omega) only [ci,Nat.reduceAdd,Nat.reduceMul]
 unfold Vl
 simp (disch:=decide) only [ci,q8,q9]
 by_cases hlt:rank L n<L.length
 · obtain ⟨s,hs⟩:∃s,L[rank L n]?=some s:=⟨_,List.getElem?_eq_getElem hlt⟩
   obtain ⟨b,o,rfl,z0,z1,z2⟩:=Sees.slot sv hs
   obtain ⟨f0,f1⟩:=hf s (List.mem_of_getElem? hs)
   have hlt':((rank L n:Nat):Int)<(L.length:Int):=by omega
   simp only [ci,decide_eq_true hlt',q0,q1,q2,q9,ix99 (Int.natCast_nonneg (rank L n)) hlt',z0,z1,z2,Qe]
   refine (Bo f0 f1 h3 h4).mono ?_
   rintro _ _ ⟨rfl,rfl⟩
   simp only [ci]
   exact ⟨_,rfl⟩
 · have hlt':¬((rank L n:Nat):Int)<(L.length:Int):=by omega
   simp only [ci,decide_eq_false hlt',dv]
   exact ⟨_,rfl⟩
def pv:=jq bC (jq @je @ln99)
theorem ad6:(Tryz.f162.name == "runtime.NumGoroutine")=false:=by kernel_rfl
theorem ad8:Tryz.f162.body.isNone=true:=by kernel_rfl
theorem ad5:(Extern.findNext Tryz.f162).isNone=true:=by kernel_rfl
theorem ad7:Extern.find Tryz.f162=some (Extern.SlicesOverlaps.overlaps Tryz.f162.params Tryz.f162.resultTypes):=by kernel_rfl
theorem R4:Tryz.f162.params=#[99,99]:=by kernel_rfl

theorem over_eq {G h:Hp} {a b:Value} {K:VK}:opH P_ G (callFunc 162 #[a,b]) h K=wpH P_ G (Extern.SlicesOverlaps.overlaps Tryz.f162.params Tryz.f162.resultTypes #[a,b]) h K:=by
 have hb':∀(α β:Type) (s:Sem α) (g:α→Sem β),(s >>= g)=s.bind g:=fun _ _ _ _=>rfl
 have hn:Extern.findNext Tryz.f162=none:=by simpa using ad5
 have hx:=Tryz.func162
 unfold opH callFunc
 simp only [hb',program,Sem.bind,wpH,hx,ad6,ad8,if_true,Bool.false_eq_true,if_false,mark,hn,ad7,pure]
 rw [bn]
 rfl

theorem over_no {G h:Hp} {x b o la ca lb cb:Nat} {cs cs2:Array Value} {e e2:TypeId} (hx:h x=some (.cells cs e (0,0))) (hb:h b=some (.cells cs2 e2 (0,0))) (hne:x≠b) {K:VK}:
   opH P_ G (callFunc 162 #[.slice (some ⟨x,0,none⟩) la ca,.slice (some ⟨b,o,none⟩) lb cb]) h K=K (.bool false) h:=by
 rw [over_eq]
 have hb':∀(α β:Type) (s:Sem α) (g:α→Sem β),(s >>= g)=s.bind g:=fun _ _ _ _=>rfl
 have lx:HL.look G h x=some (.cells cs e (0,0)):=ag hx
 have lb':HL.look G h b=some (.cells cs2 e2 (0,0)):=ag hb
 obtain ⟨i,z,hi,hsz,_⟩:=eoslot.get
 rw [R4]
 conv=>lhs;arg 3;whnf
 simp only [hb',underlying,program,sizeOf,typeInfo,Sem.bind,pure,wpH,bn,un99,hi,List.getElem?_toArray,List.getElem?_cons_zero]
 rw [show (#[99,99]:Array TypeId)[0]=99 from rfl,un99]
 simp only [wpH,bn,hi]
 split
 · rfl
 · have hxb:(x != b)=true:=by simpa using hne
   have hxb2:(x==b)=false:=by simpa using hne
   simp [frozen,noView,viewAt,mayBeOne,stringish,shape,wpH,bn,lx,lb',nt,A3,hxb,hxb2,bind,pure,getObj,Sem.bind]

theorem cap32 {G h:Hp} {a:Option Addr} {n c:Nat} {K:VK}:wpH P_ G (Builtin.cap_ #[99] 3 #[.slice a n c]) h K=K (.int .i64 c) h:=by kernel_rfl
theorem add0 {b n:Nat}:(⟨b,0,none⟩:Addr).add n=⟨b,n,none⟩:=by rw [lh,Nat.zero_add]

theorem Qu {A D:List Slot} {x:Slot} {zs:List Value} {m:Nat}:∃rest,(((bj.rows A++zs).take (A.length*3)++bj.rows [x]++(bj.rows A++zs).drop (A.length*3+[x].length*bj.n)).take ((A.length+1)*3)++bj.rows D++
   ((bj.rows A++zs).take (A.length*3)++bj.rows [x]++(bj.rows A++zs).drop (A.length*3+[x].length*bj.n)).drop m)=bj.rows (A++x::D)++rest:=by
 have e1:(bj.rows A++zs).take (A.length*3)=bj.rows A:=List.take_left' (by rw [bj.rows_length];rfl)
 rw [e1,← bj.rows_append]
 rw [List.take_left' (l₁:=bj.rows (A++[x])) (by rw [bj.rows_length];simp;rfl),← bj.rows_append]
 rw [show A++[x]++D=A++x::D by simp]
 exact ⟨_,rfl⟩
theorem Wx {L:List Slot} {i:Nat} {x:Slot} {t:List Value} (hi:i<L.length) {m:Nat}:∃rest,(((bj.rows L++t).take ((i+1)*3)++bj.rows (L.drop i)++(bj.rows L++t).drop m).take (i*3)++bj.rows [x]++
   ((bj.rows L++t).take ((i+1)*3)++bj.rows (L.drop i)++(bj.rows L++t).drop m).drop (i*3+[x].length*bj.n))=bj.rows (L.take i++x::L.drop i)++rest:=by
 refine ⟨(bj.rows L++t).drop m,?_⟩
 have e1:(bj.rows L++t).take ((i+1)*3)=bj.rows (L.take (i+1)):=bj.rows_take (by omega)
 rw [e1,← bj.rows_append]
 have hlen:(L.take (i+1)++L.drop i).length=L.length+1:=by simp;omega
 have e2:=bj.rows_take (L:=L.take (i+1)++L.drop i) (t:=(bj.rows L++t).drop m) (k:=i) (by omega)
 have e3:=bj.rows_drop (L:=L.take (i+1)++L.drop i) (t:=(bj.rows L++t).drop m) (k:=i+1) (by omega)
 rw [show bj.n=3 from rfl]at e2 e3 ⊢
 rw [e2,show i*3+[x].length*3=(i+1)*3 by simp;omega,e3]
 have t1:(L.take (i+1)++L.drop i).take i=L.take i:=by
   rw [List.take_append_of_le_length (by simp;omega),List.take_take]
   congr 1;omega
 have t2:(L.take (i+1)++L.drop i).drop (i+1)=L.drop i:=List.drop_left' (by simp;omega)
 rw [t1,t2,← bj.rows_append,← List.append_assoc,← bj.rows_append]
 simp

theorem Pe {G h a:Hp} {R:List Hp} {v:Value} {L:List Slot} {i xb:Nat} {x:Slot} (s:Sep (a::R) h) (d:Dis G h) (o:Slc bj 203 a v L) (hx:h xb=some (mo x)) (hxa:a xb=none) (hi:i≤L.length) (hlen:L.length≤100000):
   aj P_ G 144 #[v,.int .i64 i,.slice (some ⟨xb,0,none⟩) 1 1] h (fun u h'=>∃a',Slc bj 203 a' u (L.take i++x::L.drop i)∧Sep (a'::R) h'∧Dis G h'):=by
 refine ag8 (by simp) ?_
 unfold S144
 have sx:Sees bj G h (.slice (some ⟨xb,0,none⟩) 1 1) [x]:=Sees.row (c:=bj) (L:=[x]) hx rfl (Nat.le_refl _)
 obtain ⟨ob,o⟩:=o
 cases ob with
 |none=>
   obtain ⟨rfl,rfl⟩:=o
   obtain rfl:i=0:=by simpa using hi
   simp only [pv,show ((0:Nat):Int)=0 from rfl,De un99 ov,show (((1:Nat):Int)==0)=false from rfl]
   unfold Nl
   simp (disch:=decide) only [pv,show ((0:Nat):Int)=0 from rfl,show ((0:Int)==0)=true from rfl]
   refine dm bj (by decide) un99 eoslot (by decide) (by decide) (M:=[x]) s d Slc.nil sx (by simp) fun v' a' h' o' s' d'=>?_
   try simp (disch:=first|decide|omega) only [pv,Nat.reduceAdd,Nat.reduceMul]
   exact ⟨a',o',s',d'⟩
 |some b=>
   obtain ⟨cap,t,rfl,hb,hl⟩:=o
   have hc:L.length≤cap:=by
     have:=congrArg (fun n=>n) hl
     rw [List.length_append,bj.rows_length]at hl
     have:bj.n=3:=rfl
     rw [this]at hl
     omega
   have ow:Slc bj 203 a (.slice (some ⟨b,0,none⟩) L.length cap) L:=⟨some b,cap,t,rfl,hb,hl⟩
   have sv:=ow.sees (G:=G) (by decide) s.hd
   have hbh:=s.hd _ _ hb
   have hne:xb≠b:=fun e=>by rw [e,hb]at hxa;cases hxa
   simp only [pv,ls un99 ov (Int.natCast_nonneg i) (show (i:Int)≤(L.length:Nat)by omega) hc,show (((1:Nat):Int)==0)=false from rfl]
   unfold Nl
   simp (disch:=decide) only [pv]
   by_cases hin:i=L.length
   · subst hin
     simp only [pv,show ((L.length:Int)==(L.length:Int))=true by simp]
     refine dm bj (by decide) un99 eoslot (by decide) (by decide) (M:=[x]) s d ow sx (by simp;omega) fun v' a' h' o' s' d'=>?_
     try simp (disch:=first|decide|omega) only [pv,Nat.reduceAdd,Nat.reduceMul]
     refine ⟨a',?_,s',d'⟩
     rw [List.take_of_length_le (Nat.le_refl _),List.drop_of_length_le (Nat.le_refl _)]
     exact o'
   have hin':i<L.length:=by omega
   simp only [pv,show ((i:Int)==(L.length:Int))=false by simp;omega]
   unfold Vj
   have w1:IntKind.i64.wrap ((L.length:Int)+((1:Nat):Int))=((L.length+1:Nat):Int):=by rw [kv (by omega) (by omega)];omega
   simp (disch:=first|decide|omega) only [pv,w1,cap32]
   refine ax (fun hgt=>?_) (fun hle=>?_)
   · -- a new row
     have hcap:cap=L.length:=by omega
     have lt1:(L.take i).length=i:=by rw [List.length_take];omega
     have s0:Src G h bj.n (.slice (some ⟨b,0,none⟩) i cap) i (bj.rows (L.take i)):=by
       refine ⟨by rw [bj.rows_length,lt1],.inr ⟨b,0,cap,rfl,fun j hj=>?_⟩⟩
       rw [ai (ag hbh),Nat.zero_add,bj.rows_split L i,List.append_assoc,List.getElem?_append_left hj]
     have w2:((L.length+1:Nat):Int)-(i:Int)=((L.length+1-i:Nat):Int):=by omega
     simp only [pv,vi un99 ov (Int.natCast_nonneg i) (show (i:Int)≤(cap:Nat)by omega),w1,w2]
     refine Qj un99 (show P_.underlying 3=some (.int .i64)by kernel_rfl) eoslot (by decide) s0 (by omega) (by omega) (by omega) fun q cap' zs hq gq hcap' hzl=>?_
     have ei:i+(L.length+1-i)=L.length+1:=by omega
     rw [ei]at hcap' ⊢
     have hzl':zs.length=cap'*3-i*3:=by
       rw [List.length_append,bj.rows_length,lt1]at hzl
       have:bj.n=3:=rfl
       rw [this]at hzl
       omega
     generalize e2:Hp.set h q _=h2
     obtain ⟨l2,d2,b2⟩:=boxed e2 hq d gq
     have hw:(i:Int)+((1:Nat):Int)=((i+1:Nat):Int):=by omega
     simp only [pv,ls un99 ov (Int.natCast_nonneg i) (show (i:Int)≤(L.length+1:Nat)by omega) hcap',if_neg (show ¬cap'=i by omega),add0]
     rw [Uv bj (by decide) un99 eoslot (M:=[x]) b2 ((sx.up l2 d2).src (by decide) (by simp)) (by simp;omega) (by rw [hzl,show bj.n=3 from rfl,List.length_singleton];omega)]
     generalize e3:Hp.set h2 q _=h3
     have b3:=Qw e3
     have hqb:q≠b:=fun e=>by rw [e,hbh]at hq;cases hq
     have hb3:h3 b=some (.cells (bj.rows L++t).toArray 203 (0,0)):=by rw [Cg e3 (Ne.symm hqb)];exact l2 _ _ hbh
     simp only [pv,hw,rf un99 ov (Int.natCast_nonneg (i+1)) (show ((i+1:Nat):Int)≤(L.length+1:Nat)by omega) hcap',if_neg (show ¬cap'=i+1 by omega),add0,rf un99 ov (Int.natCast_nonneg i) (show (i:Int)≤(L.length:Nat)by omega) hc,if_neg (show ¬cap=i by omega)]
     have hdl:(L.drop i).length=L.length-i:=List.length_drop
     rw [J5 bj (by decide) un99 eoslot (M:=L.drop i) b3 (by rw [hdl];exact Nat.min_eq_left (by omega)) (fun j hj=>by
       rw [ai (ag hb3),bj.rows_split L i,List.append_assoc,List.getElem?_append_right (by rw [bj.rows_length,lt1];exact Nat.le_add_right _ _),bj.rows_length,lt1,show i*3+j-i*bj.n=j by rw [show bj.n=3 from rfl];omega,List.getElem?_append_left hj]) (by
       rw [hdl,show bj.n=3 from rfl]
       simp only [List.length_append,List.length_take,List.length_drop,bj.rows_length,lt1,show bj.n=3 from rfl,List.length_singleton,hzl']
       omega)]
     rw [show i*3=(L.take i).length*3 by rw [lt1],show (i+1)*3=((L.take i).length+1)*3 by rw [lt1]]
     obtain ⟨rest,er⟩:=Qu (A:=L.take i) (D:=L.drop i) (x:=x) (zs:=zs) (m:=((L.take i).length+1)*3+(L.drop i).length*bj.n)
     have hlr:=congrArg List.length er
     rw [er]
     have sq:HL.Sep (noHp.set q (.cells (bj.rows (L.take i++x::L.drop i)++rest).toArray 203 (0,0))::a::R) (h3.set q (.cells (bj.rows (L.take i++x::L.drop i)++rest).toArray 203 (0,0))):=by
       have s1:=s.new (o := .cells (bj.rows (L.take i)++zs).toArray 203 (0,0)) hq
       rw [e2]at s1
       have s2:=s1.put (o:=Obj.cells (bj.rows (L.take i++x::L.drop i)++rest).toArray 203 (0,0)) af
       rw [set_set]at s2
       rw [← e3,set_set]
       exact s2
     try simp (disch:=first|decide|omega) only [pv,Nat.reduceAdd,Nat.reduceMul]
     refine ⟨_,⟨some q,cap',rest,?_,af,?_⟩,sq.swap.drop,?_⟩
     · rw [List.length_append,List.length_cons,lt1,hdl,show i+(L.length-i+1)=L.length+1 by omega]
     · rw [← hlr]
       simp only [List.length_append,List.length_take,List.length_drop,bj.rows_length,lt1,show bj.n=3 from rfl,List.length_singleton,hzl',hdl]
       omega
     · have d3:Dis G h3:=by rw [← e3];exact d2.set gq
       exact d3.set gq
   · -- room in the row
     have hcap:L.length+1≤cap:=by omega
     have hl3:(bj.rows L++t).length=cap*3:=hl
     unfold Vi
     have hw:(i:Int)+((1:Nat):Int)=((i+1:Nat):Int):=by omega
     simp (disch:=first|decide|omega) only [pv,w1,vi un99 ov (Int.natCast_nonneg (L.length+1)) (show ((L.length+1:Nat):Int)≤(cap:Nat)by omega),hw,ls un99 ov (Int.natCast_nonneg (i+1)) (show ((i+1:Nat):Int)≤(L.length+1:Nat)by omega) hcap,if_neg (show ¬cap=i+1 by omega),add0]
     rw [over_no hx hbh hne]
     simp only [pv,hw,rf un99 ov (Int.natCast_nonneg (i+1)) (show ((i+1:Nat):Int)≤(L.length+1:Nat)by omega) hcap,if_neg (show ¬cap=i+1 by omega),add0,rf un99 ov (Int.natCast_nonneg i) (show ((i:Nat):Int)≤(L.length+1:Nat)by omega) hcap,if_neg (show ¬cap=i by omega)]
     have hdl:(L.drop i).length=L.length-i:=List.length_drop
     have lt1:(L.take i).length=i:=by rw [List.length_take];omega
     rw [J5 bj (by decide) un99 eoslot (M:=L.drop i) hbh (by rw [hdl];show min (L.length+1-i) (L.length+1-(i+1))=L.length-i;omega) (fun j hj=>by
       rw [ai (ag hbh),bj.rows_split L i,List.append_assoc,List.getElem?_append_right (by rw [bj.rows_length,lt1];exact Nat.le_add_right _ _),bj.rows_length,lt1,show i*3+j-i*bj.n=j by rw [show bj.n=3 from rfl];omega,List.getElem?_append_left hj]) (by
       rw [hdl,show bj.n=3 from rfl,hl3]
       omega)]
     generalize e3:Hp.set h b _=h3
     have b3:=Qw e3
     have d3:Dis G h3:=by rw [← e3];exact d.set (d _ _ hbh)
     have hx3:h3 xb=some (mo x):=by rw [Cg e3 hne];exact hx
     have sx3:Sees bj G h3 (.slice (some ⟨xb,0,none⟩) 1 1) [x]:=Sees.row (c:=bj) (L:=[x]) hx3 rfl (Nat.le_refl _)
     simp only [pv,ls un99 ov (Int.natCast_nonneg i) (show ((i:Nat):Int)≤(L.length+1:Nat)by omega) hcap,if_neg (show ¬cap=i by omega),add0]
     rw [Uv bj (by decide) un99 eoslot (M:=[x]) b3 (sx3.src (by decide) (by simp)) (by simp;omega) (by
       simp only [List.length_append,List.length_take,List.length_drop,bj.rows_length,lt1,show bj.n=3 from rfl,List.length_singleton,hdl]
       rw [List.length_append,bj.rows_length,show bj.n=3 from rfl]at hl3
       omega)]
     obtain ⟨rest,er⟩:=Wx (L:=L) (i:=i) (x:=x) (t:=t) hin' (m:=(i+1)*3+(L.drop i).length*bj.n)
     have hlr:=congrArg List.length er
     rw [er]
     try simp (disch:=first|decide|omega) only [pv,Nat.reduceAdd,Nat.reduceMul]
     have sq:=s.put (o:=Obj.cells (bj.rows (L.take i++x::L.drop i)++rest).toArray 203 (0,0)) hb
     rw [← e3,set_set]
     refine ⟨_,⟨some b,cap,rest,?_,af,?_⟩,sq,d.set (d _ _ hbh)⟩
     · rw [List.length_append,List.length_cons,lt1,hdl,show i+(L.length-i+1)=L.length+1 by omega]
     · rw [← hlr]
       simp only [List.length_append,List.length_take,List.length_drop,bj.rows_length,lt1,show bj.n=3 from rfl,List.length_singleton,hdl]
       rw [List.length_append,bj.rows_length,show bj.n=3 from rfl]at hl3
       omega
def dx:=jq bC (jq (jq (jq (jq @Kc (jq @Mw @qg)) (jq (jq @Qf @cf142) (jq @cf144 @Mo))) (jq (jq @F6 (jq @ug @Ps)) (jq (jq @uf @ab6) (jq @ue @ix98p)))) (jq (jq (jq @Jo (jq @ld3 @ld3p)) (jq (jq @ld98 @ld98p) (jq @ld99 @ln99))) (jq (jq @ix (jq @fu @js)) (jq (jq @ic @rg) (jq @Ce @true_and)))))
theorem sv_set {raws:List Sv} {c:Nat} {s:Sv} (hc:c<raws.length):(svC.rows raws).set c (.slice s.1 s.2.1 s.2.2)=svC.rows (raws.set c s):=by
 have:=svC.rows_put (t:=[]) (x:=s) hc
 rw [List.append_nil,List.append_nil,show svC.n=1 from rfl,Nat.mul_one]at this
 exact this

theorem I4 {ty:TypeId} {a io h:Hp} {R:List Hp} {G:Hp} {tp c:Nat} {T:List (List Slot)} {L:List Slot} {v:Value} (t:Tab ty a tp T) (s:HL.Sep (io::a::R) h) (d:Dis G h) (o:Slc bj 203 io v L) (hc:c<T.length):
   ∃(rb:Nat) (l:List Value),aa G a ⟨tp,0,none⟩=some (.slice (some ⟨rb,0,none⟩) T.length T.length)∧h rb=some (.cells l.toArray 99 (0,0))∧c<l.length∧
     ∃a',Tab ty a' tp (T.set c L)∧HL.Sep (a'::R) (h.set rb (.cells (l.set c v).toArray 99 (0,0)))∧Dis G (h.set rb (.cells (l.set c v).toArray 99 (0,0))):=by
 obtain ⟨rb,raws,pb,st,hl,hr⟩:=t
 have s1:=s.split st
 simp only [List.cons_append,List.nil_append]at s1
 have hrb:h rb=some (.cells (svC.rows raws).toArray 99 (0,0)):=s1.at 2 rfl af
 obtain ⟨sa,cap,rfl,_⟩:=o.len (by decide)
 refine ⟨rb,svC.rows raws,?_,hrb,by rw [svC.rows_length,show svC.n=1 from rfl,hl];omega,?_⟩
 · rw [ai (ag (st.at 0 rfl af))]
   rfl
 have e:=sv_set (raws:=raws) (c:=c) (s:=(sa,L.length,cap)) (by omega)
 simp only at e
 rw [e]
 have s2:=(s1.pick 2 rfl rfl).put (o:=Obj.cells (svC.rows (raws.set c (sa,L.length,cap))).toArray 99 (0,0)) af
 rw [set_set]at s2
 have s3:=(s2.pick 3 rfl rfl).pick 2 rfl rfl
 obtain ⟨pb',s4,t4⟩:=Ci s3
 have s5:=((s4.pick 1 rfl rfl).pick 2 rfl rfl)
 obtain ⟨a',s6,t6⟩:=pa s5
 refine ⟨a',⟨rb,raws.set c (sa,L.length,cap),pb',?_,by simp [hl],fun i s L' h1 h2=>?_⟩,s6,d.set (d _ _ hrb)⟩
 · rw [List.length_set]
   exact t6
 · by_cases hi:i=c
   · subst hi
     rw [List.getElem?_set_self (by omega)]at h1 h2
     cases h1
     cases h2
     exact ⟨rfl,o.le (t4.in 0 rfl)⟩
   · rw [List.getElem?_set_ne (Ne.symm hi)]at h1 h2
     obtain ⟨e1,e2⟩:=hr i s L' h1 h2
     exact ⟨e1,e2.le (t4.in 1 rfl)⟩

theorem mn_eq {a b:Int}:(if b<a then b else a)=min a b:=by split<;>omega
theorem mx_eq {a b:Int}:(if b>a then b else a)=max a b:=by split<;>omega
theorem Zm {P:Program} {G h:Hp} {a b:Int} {K:Value→Prop}:pw P G h (Builtin.min_ #[3,3] 3 #[.int .i64 a,.int .i64 b]) K=K (.int .i64 (min a b)):=by rw [← mn_eq];rfl
theorem Zs {P:Program} {G h:Hp} {a b:Int} {K:Value→Prop}:pw P G h (Builtin.max_ #[3,3] 3 #[.int .i64 a,.int .i64 b]) K=K (.int .i64 (max a b)):=by rw [← mx_eq];rfl
theorem Tt {P:Program} {G h:Hp} {a b:Int} {K:VK}:wpH P G (Builtin.min_ #[3,3] 3 #[.int .i64 a,.int .i64 b]) h K=K (.int .i64 (min a b)) h:=by rw [← mn_eq];rfl
theorem Tw {P:Program} {G h:Hp} {a b:Int} {K:VK}:wpH P G (Builtin.max_ #[3,3] 3 #[.int .i64 a,.int .i64 b]) h K=K (.int .i64 (max a b)) h:=by rw [← mx_eq];rfl

theorem tw {r:Int}:∀{L:List Slot} {i:Nat} {s:Slot} {f t:Int} {out:List Slot},L[i]?=some s→j5 r (L.drop i) f t out=if ij r f t s=true then j5 r (L.drop (i+1)) (min f s.f) (max t s.t) out else j5 r (L.drop (i+1)) f t (out++[s]):=by
 intro L i s f t out hs
 obtain ⟨hlt,rfl⟩:=List.getElem?_eq_some_iff.1 hs
 rw [List.drop_eq_getElem_cons hlt,j5]

theorem Pf {out:List Slot} {x:Slot}:wh out x=out.take (rank out x.f)++x::out.drop (rank out x.f):=by
 unfold wh rank
 have e:=List.takeWhile_append_dropWhile (p:=fun s=>decide (s.f<x.f)) (l:=out)
 have h1:=List.take_left' (l₁:=out.takeWhile fun s=>decide (s.f<x.f)) (l₂:=out.dropWhile fun s=>decide (s.f<x.f)) rfl
 have h2:=List.drop_left' (l₁:=out.takeWhile fun s=>decide (s.f<x.f)) (l₂:=out.dropWhile fun s=>decide (s.f<x.f)) rfl
 rw [e]at h1 h2
 rw [h1,h2]

theorem Y6 {G h a:Hp} {R:List Hp} {tp:Nat} {T:List (List Slot)} {L:List Slot} {c r f t:Int} (tb:Tab 124 a tp T) (sp:HL.Sep (a::R) h) (h0:0≤c) (hL:T[c.toNat]?=some L) (g:Resv.Good L) (hlen:L.length≤50000) (hf:0≤f) (hft:f<t) (ht:t≤FV):
   aj P_ G 105 #[.pointer (some ⟨tp,0,none⟩),.int .i64 r,.int .i64 c,.int .i64 f,.int .i64 t] h (fun u h'=>u = .tuple #[]∧∃a',Tab 124 a' tp (T.set c.toNat (Resv.putL L r f t))∧HL.Sep (a'::R) h'∧Dis G h'):=by
 have h1:c<T.length:=by have:=(List.getElem?_eq_some_iff.1 hL).1;omega
 refine aj.assume fun d=>al2 (by simp) ?_
 have da:Dis G a:=fun b o e=>d _ _ (sp.hd _ _ e)
 obtain ⟨rb,e1,e2⟩:=tb.see (G:=G) (Hp.le.refl a)
 obtain ⟨sa,cap,e3,e4⟩:=e2 _ _ hL
 unfold S105
 simp only [dx,gh sp.hd d e1,ix98 h0 h1,Nat.mul_one,gh sp.hd d e3]
 refine bv (fun m q h3=>∃(i:Nat) (fi ti:Int) (io:Hp) (v:Value) (out:List Slot),m=L.length-i∧i≤L.length∧q 0 = .pointer (some ⟨tp,0,none⟩)∧q 1 = .int .i64 r∧q 2 = .int .i64 c∧q 3 = .int .i64 fi∧q 4 = .int .i64 ti∧q 10=v∧q 21 = .slice sa L.length cap∧q 22 = .int .i64 L.length∧q 23 = .int .i64 i∧
     Slc bj 203 io v out∧out.length≤i∧HL.Sep (io::a::R) h3∧Dis G h3∧j5 r (L.drop i) fi ti out=j5 r L f t []) ?_
   (m:=L.length) ⟨0,f,t,noHp,_,[],rfl,Nat.zero_le _,by simp (disch:=decide) only [dx],by simp (disch:=decide) only [dx],by simp (disch:=decide) only [dx],by simp (disch:=decide) only [dx],by simp (disch:=decide) only [dx],rfl,by simp (disch:=decide) only [dx],by simp (disch:=decide) only [dx],by simp only [dx]<;>rfl,by simp (disch:=decide) only [dx];exact Slc.nil,Nat.zero_le _,sp.none,d,rfl⟩
 rintro m q h3 ⟨i,fi,ti,io,v,out,rfl,hi,q0,q1,q2,q3,q4,q10,q21,q22,q23,o,ho,s3,d3,hm⟩ X HX
 have l3:=s3.in 1 rfl
 unfold Wm
 simp only [dx,q22,q23]
 refine ax (fun hlt=>?_) (fun hge=>?_)
 · obtain ⟨s,hs⟩:∃s,L[i]?=some s:=⟨_,List.getElem?_eq_getElem (by omega)⟩
   obtain ⟨b,of,rfl,z0,z1,z2⟩:=Sees.slot (e4.up l3 d3) hs
   unfold Ie
   simp (disch:=first|decide|exact au|exact am|omega|rfl) only [dx,q21,q23,ix99 (Int.natCast_nonneg i) hlt,z0,z1,z2]
   intro x hx gx
   simp only [dx,q1]
   generalize eh:Hp.set h3 x _=h4
   obtain ⟨l4,d4,b4⟩:=boxed eh hx d3 gx
   have s4:HL.Sep (io::a::R) h4:=by rw [← eh];exact s3.past hx
   have cx:∀j,aa G h4 ⟨x,j,none⟩=_:=fun j=>ai (ag b4)
   have k5:∀(K0:Exit→Rg→Hp→Prop) (q':Rg),(∀k,k≤11→q' k=q k)→q' 21=q 21→q' 22=q 22→q' 23=q 23→q' 12 = .pointer (some ⟨x,0,none⟩)→ij r fi ti s=false→Am G (bq X K0) q' h4:=by
     intro K0 q' hq q'21 q'22 q'23 q'12 htb
     unfold Am
     simp only [dx,q'12,cx]
     intro y hy gy
     generalize ey:Hp.set h4 y _=h5
     obtain ⟨l5,d5,b5⟩:=boxed ey hy d4 gy
     have s5:HL.Sep (io::a::R) h5:=by rw [← ey];exact s4.past hy
     rw [hq 10 (by decide),q10]
     refine dm bj (by decide) un99 eoslot (by decide) (by decide) (M:=[s]) s5 d5 o (Sees.row (c:=bj) (L:=[s]) b5 rfl (Nat.le_refl _)) (by simp;omega) fun v' a' h' o' s' d'=>?_
     unfold us
     simp (disch:=first|decide|omega) only [dx,q'23,q23]
     refine HX (L.length-(i+1)) _ _ (by omega) ⟨i+1,fi,ti,a',v',out++[s],rfl,by omega,by simp (disch:=decide) only [dx,hq 0 (by decide),q0],by simp (disch:=decide) only [dx,hq 1 (by decide),q1],by simp (disch:=decide) only [dx,hq 2 (by decide),q2],by simp (disch:=decide) only [dx,hq 3 (by decide),q3],by simp (disch:=decide) only [dx,hq 4 (by decide),q4],by simp (disch:=decide) only [dx],by simp (disch:=decide) only [dx,q'21,q21],by simp (disch:=decide) only [dx,q'22,q22],by simp only [dx]<;>rfl,o',by simp;omega,s',d',?_⟩
     rw [← hm,tw hs,if_neg (by rw [htb];decide)]
   cases hb:(s.r==r)with
   |false=>
     simp only [dx,hb,dv]
     exact k5 _ _ (fun k hk=>by simp (disch:=omega) only [ao]) (by simp (disch:=decide) only [dx]) (by simp (disch:=decide) only [dx]) (by simp (disch:=decide) only [dx]) (by simp (disch:=decide) only [dx]) (by unfold ij;rw [hb];rfl)
   |true=>
   simp only [dx,cx,q4]
   by_cases hb2:s.f≤ti
   rotate_left
   · simp only [dx,decide_eq_false hb2,dv]
     exact k5 _ _ (fun k hk=>by simp (disch:=omega) only [ao]) (by simp (disch:=decide) only [dx]) (by simp (disch:=decide) only [dx]) (by simp (disch:=decide) only [dx]) (by simp (disch:=decide) only [dx]) (by unfold ij;rw [decide_eq_false hb2];simp)
   simp only [dx,decide_eq_true hb2,q3,cx]
   refine ax (fun hb3=>?_) (fun hb3=>?_)
   rotate_left
   · exact k5 _ _ (fun k hk=>by simp (disch:=omega) only [ao]) (by simp (disch:=decide) only [dx]) (by simp (disch:=decide) only [dx]) (by simp (disch:=decide) only [dx]) (by simp (disch:=decide) only [dx]) (by unfold ij;rw [decide_eq_false hb3];simp)
   simp only [dx,cx,q3,q4,Zm,Zs]
   unfold us
   simp (disch:=first|decide|omega) only [dx,q23]
   refine HX (L.length-(i+1)) _ _ (by omega) ⟨i+1,min fi s.f,max ti s.t,io,v,out,rfl,by omega,by simp (disch:=decide) only [dx,q0],by simp (disch:=decide) only [dx,q1],by simp (disch:=decide) only [dx,q2],by simp (disch:=decide) only [dx],by simp (disch:=decide) only [dx],by simp (disch:=decide) only [dx,q10],by simp (disch:=decide) only [dx,q21],by simp (disch:=decide) only [dx,q22],by simp only [dx]<;>rfl,o,by omega,s4,d4,?_⟩
   rw [← hm,tw hs,if_pos (by unfold ij;rw [hb,decide_eq_true hb2,decide_eq_true hb3];rfl)]
 -- the end
 obtain rfl:i=L.length:=by omega
 rw [List.drop_of_length_le (Nat.le_refl _),j5]at hm
 obtain ⟨f',t',em,m1,m2,m3,m4,m5⟩:=zq (r:=r) (f:=f) (t:=t) (out:=[]) g.apart (fun s hs=>(g.ok s hs).2.1) hft
 rw [← hm]at em
 simp only [Prod.mk.injEq,List.nil_append]at em
 obtain ⟨rfl,rfl,eo⟩:=em
 have ep:Resv.putL L r f t=wh out ⟨fi,ti,r⟩:=by unfold Resv.putL;rw [← hm]
 have hmem:∀s∈out,s∈L:=fun s hs=>by rw [eo]at hs;exact (List.mem_filter.1 hs).1
 have hsort:out.Pairwise fun a b=>a.f≤b.f:=by
   rw [eo]
   exact (I8 g.apart fun s hs=>(g.ok s hs).2.1).filter _
 have hfi:0≤fi:=by
   rcases m3 with rfl|⟨s,hs,_,rfl⟩
   · exact hf
   · exact (g.ok s hs).1
 try simp (disch:=first|decide|omega) only [dx,Nat.reduceAdd,Nat.reduceMul]
 unfold Wn
 simp (disch:=decide) only [dx,q10,q3]
 refine (Oe (n:=fi) (o.sees (by decide) (s3.in 0 rfl)) (by omega) hsort (fun s hs=>have k:=g.ok s (hmem s hs);⟨k.1,Int.le_trans (Int.le_of_lt k.2.1) k.2.2.1⟩) hfi (by omega)).mono ?_
 rintro _ _ ⟨⟨bb,rfl⟩,rfl⟩
 simp only [dx]
 refine ⟨a,l3,?_⟩
 simp (disch:=first|decide|omega) only [dx,q0,q1,q2,q3,q4,q10,e1]
 intro x hx gx
 generalize ex:Hp.set _ x _=h5
 obtain ⟨l5,d5,b5⟩:=boxed ex hx d3 gx
 have s5:HL.Sep (io::a::R) h5:=by rw [← ex];exact s3.past hx
 refine (Pe (x:=⟨fi,ti,r⟩) s5 d5 o b5 ((s3.in 0 rfl).none hx) Ti (by omega)).mono ?_
 rintro v6 h6 ⟨io6,o6,s6,d6⟩
 rw [show out.take (rank out fi)++⟨fi,ti,r⟩::out.drop (rank out fi)=Resv.putL L r f t by rw [ep,Pf]]at o6
 refine ⟨s6.in 1 rfl,?_⟩
 obtain ⟨rb',l,e1',hrb,hcl,a',t',s7,d7⟩:=I4 (c:=c.toNat) tb s6 d6 o6 (by omega)
 rw [e1]at e1'
 obtain rfl:rb=rb':=by simpa using e1'
 obtain ⟨sa6,cap6,rfl,_⟩:=o6.len (by decide)
 rw [Nat.mul_one,b8 sz99 rfl hrb hcl]
 exact ⟨a',t',s7,d7⟩
def dg:=jq bC (jq (jq (jq (jq @al75 @bd124_0) (jq @rn @je)) (jq (jq @Uw @cf104) (jq @cf105 @Um))) (jq (jq (jq @fa75_0 @fa75_1) (jq @fa75_2 @ld3)) (jq (jq @ld75 @ln71) (jq @kf (jq @st75w @true_and)))))
def I2:Cod Want:=⟨3,fun s=>[.int .i64 s.c,.int .i64 s.f,.int .i64 s.t],fun _=>rfl,fun _ v hv=>by simp at hv;rcases hv with rfl|rfl|rfl<;>rfl⟩
theorem Sees.want {G h:Hp} {sa:Option Addr} {cap n:Nat} {L:List Want} (s:Sees I2 G h (.slice sa n cap) L) {i:Nat} {x:Want} (hx:L[i]?=some x):
   ∃b o,sa=some ⟨b,o,none⟩∧aa G h ⟨b,o+i*3,none⟩=some (.int .i64 x.c)∧aa G h ⟨b,o+i*3+1,none⟩=some (.int .i64 x.f)∧aa G h ⟨b,o+i*3+2,none⟩=some (.int .i64 x.t):=by
 obtain ⟨b,o,c,e1,e2⟩:=s.get hx
 simp only [Value.slice.injEq]at e1
 obtain ⟨rfl,-,-⟩:=e1
 have x0:=e2 0 (by decide)
 have x1:=e2 1 (by decide)
 have x2:=e2 2 (by decide)
 simp only [I2,Nat.add_zero,List.getElem?_cons_zero,List.getElem?_cons_succ]at x0 x1 x2
 exact ⟨b,o,rfl,x0,x1,x2⟩

theorem Mf {T:Tb} {c:Int}:hasB T c=inT T.length c:=rfl
theorem qr {G h:Hp} {n:Nat} (h1:1≤n) (h2:n≤256):aj P_ G 24 #[.int .i64 n] h (fun u h'=>∃a tp,u = .tuple #[.pointer (some ⟨tp,0,none⟩),.int .i64 0]∧Tab 124 a tp (List.replicate n [])∧HL.Sep [a,h] h'∧Dis G h'):=by
 refine aj.assume fun d=>enter24 (by simp) ?_
 unfold S24
 simp (disch:=decide) only [dg,decide_eq_false (show ¬(n:Int)<1 by omega),show decide ((n:Int)>256)=false from decide_eq_false (by omega)]
 unfold as9
 simp (disch:=decide) only [dg]
 rw [ri svC (none,0,0) (by decide) un98 eosv (by kernel_rfl) (by omega) (by omega)]
 intro rb hrb grb
 simp only [dg]
 intro tp htp gtp
 have s1:=(Sep.one (h:=h)).new (o := .cells (svC.rows (List.replicate n (none,0,0))).toArray 99 (0,0)) hrb
 have d1:=d.set (o := .cells (svC.rows (List.replicate n (none,0,0))).toArray 99 (0,0)) grb
 have s2:=s1.new (o := .cells #[.slice (some ⟨rb,0,none⟩) n n] 124 (0,0)) htp
 have s3:=(s2.none.pick 2 rfl rfl).pick 2 rfl rfl
 obtain ⟨a,s4,t4⟩:=pa s3
 refine ⟨a,tp,rfl,⟨rb,List.replicate n (none,0,0),noHp,?_,by simp,fun i s L h1 h2=>?_⟩,s4,d1.set gtp⟩
 · rw [List.length_replicate]
   exact t4
 · rw [List.getElem?_replicate]at h1 h2
   split at h1
   · rename_i hi
     rw [if_pos hi]at h2
     cases h1
     cases h2
     exact ⟨rfl,Slc.nil⟩
   · cases h1

theorem Bv {α:Type} {L:List α} {i:Nat} {x:α} {p:α→Bool} (hx:L[i]?=some x):(L.take (i+1)).all p=((L.take i).all p&&p x):=by
 rw [List.take_add_one,hx,List.all_append]
 simp
theorem El {α:Type} {L:List α} {i:Nat} {x:α} {p:α→Bool} (hx:L[i]?=some x) (h:p x=false):L.all p=false:=by
 rw [List.all_eq_false]
 exact ⟨x,List.mem_of_getElem? hx,by rw [h];simp⟩
theorem Ja {r:Int} {T:Tb} {L:List Want} {i:Nat} {x:Want} (hx:L[i]?=some x):rh r T (L.take (i+1))=putW r (rh r T (L.take i)) x:=by
 unfold rh
 rw [List.take_add_one,hx,List.foldl_append]
 rfl

theorem R8 {G h a w:Hp} {R:List Hp} {tp b:Nat} {T:Tb} {r:Int} {v:Value} {l:List Want} (tb:Tab 124 a tp T) (sp:HL.Sep (a::w::R) h) (sv:Sees I2 G w v l) (g:jj T) (fw:Few T b) (hb:b+l.length≤50000):
   aj P_ G 50 #[.pointer (some ⟨tp,0,none⟩),.int .i64 r,v] h (fun u h'=>u = .int .i64 (jb T r l).1∧∃a',Tab 124 a' tp (jb T r l).2∧HL.Sep (a'::w::R) h'∧Dis G h'):=by
 obtain ⟨sa,cap,rfl⟩:=sv.len
 refine aj.assume fun d=>enter50 (by simp) ?_
 unfold S50
 simp only [dg]
 refine ax (fun hr=>?_) (fun hr=>?_)
 · try simp (disch:=first|decide|omega) only [dg,Nat.reduceAdd,Nat.reduceMul]
   have e:jb T r l=(1,T):=by unfold jb;rw [if_pos hr]
   rw [e]
   exact ⟨rfl,a,tb,sp,d⟩
 unfold aq9
 simp (disch:=decide) only [dg]
 generalize hKK:retK P_ G _ _=KK
 -- are they ticks?
 refine bv (fun m q h3=>∃i:Nat,m=l.length-i∧i≤l.length∧q 0 = .pointer (some ⟨tp,0,none⟩)∧q 1 = .int .i64 r∧q 2 = .slice sa l.length cap∧q 19 = .slice sa l.length cap∧q 20 = .int .i64 l.length∧q 21 = .int .i64 i∧HL.Sep (a::w::R) h3∧Dis G h3∧(l.take i).all (kw T.length)=true) ?_
   (m:=l.length) ⟨0,rfl,Nat.zero_le _,by simp (disch:=decide) only [dg],by simp (disch:=decide) only [dg],by simp (disch:=decide) only [dg],by simp (disch:=decide) only [dg],by simp (disch:=decide) only [dg],by simp only [dg]<;>rfl,sp,d,rfl⟩
 rintro m q h3 ⟨i,rfl,hi,q0,q1,q2,q19,q20,q21,s3,d3,hv⟩ X HX
 unfold U2
 simp only [dg,q20,q21]
 refine ax (fun hlt=>?_) (fun hge=>?_)
 · obtain ⟨x,hx⟩:∃x,l[i]?=some x:=⟨_,List.getElem?_eq_getElem (by omega)⟩
   obtain ⟨bb,of,rfl,z0,z1,z2⟩:=Sees.want (sv.up (s3.in 1 rfl) d3) hx
   unfold D5
   simp (disch:=first|decide|exact au|exact am|omega|rfl) only [dg,q19,q21,ix71 (Int.natCast_nonneg i) hlt,z0,z1,z2]
   intro y hy gy
   simp only [dg,q0]
   generalize eh:Hp.set h3 y _=h4
   obtain ⟨l4,d4,b4⟩:=boxed eh hy d3 gy
   have s4:HL.Sep (a::w::R) h4:=by rw [← eh];exact s3.past hy
   have cy:∀j,aa G h4 ⟨y,j,none⟩=_:=fun j=>ai (ag b4)
   refine (Fp (c:=x.c) (tb.see (s4.in 0 rfl))).mono ?_
   rintro _ h4 ⟨rfl,rfl⟩
   rw [Mf]
   have bad:∀r1:Rg,r1 6 = .int .i64 1→kw T.length x=false→KK .ret r1 h4:=fun r1 h6 hf=>by
     rw [← hKK]
     have e:jb T r l=(1,T):=by unfold jb;rw [if_neg hr,if_neg (by rw [El hx hf];decide)]
     simp only [dg,h6,e]
     exact ⟨a,tb,s4,d4⟩
   have go:∀(K0:Exit→Rg→Hp→Prop) (r1:Rg),(∀k,k≤2→r1 k=q k)→r1 19=q 19→r1 20=q 20→r1 21=q 21→kw T.length x=true→xf G (bq X K0) r1 h4:=fun K0 r1 hk p19 p20 p21 ht=>by
     unfold xf
     simp (disch:=first|decide|omega) only [dg,p21,q21]
     exact HX (l.length-(i+1)) _ _ (by omega) ⟨i+1,rfl,by omega,by simp (disch:=decide) only [dg,hk 0 (by decide),q0],by simp (disch:=decide) only [dg,hk 1 (by decide),q1],by simp (disch:=decide) only [dg,hk 2 (by decide),q2],by simp (disch:=decide) only [dg,p19,q19],by simp (disch:=decide) only [dg,p20,q20],by simp only [dg]<;>rfl,s4,d4,by rw [Bv hx,hv,ht];rfl⟩
   cases e1:inT T.length x.c with
   |false=>
     try simp only [dg,dv]
     exact bad _ (by simp only [dg]) (by unfold kw;rw [e1];rfl)
   |true=>
   try simp only [dg,cy]
   by_cases e2:x.f<0
   · try simp only [dg,decide_eq_true e2,dv]
     exact bad _ (by simp only [dg]) (by unfold kw;rw [decide_eq_false (show ¬0≤x.f by omega)];simp)
   try simp only [dg,decide_eq_false e2,cy]
   by_cases e3:x.f≥x.t
   · try simp only [dg,decide_eq_true e3,dv]
     exact bad _ (by simp only [dg]) (by unfold kw;rw [decide_eq_false (show ¬x.f<x.t by omega)];simp)
   try simp only [dg,decide_eq_false e3,cy]
   refine ax (fun e4=>?_) (fun e4=>?_)
   · exact bad _ (by simp only [dg]) (by unfold kw;rw [decide_eq_false (show ¬x.t≤FV by simp only [FV];omega)];simp)
   · exact go _ _ (fun k hk=>by simp (disch:=omega) only [ao]) (by simp (disch:=decide) only [dg]) (by simp (disch:=decide) only [dg]) (by simp (disch:=decide) only [dg]) (o0.2 ⟨ub.1 e1,by omega,by omega,by simp only [FV];omega⟩)
 -- are they free?
 obtain rfl:i=l.length:=by omega
 rw [List.take_of_length_le (Nat.le_refl _)]at hv
 clear HX
 try simp (disch:=first|decide|omega) only [dg,Nat.reduceAdd,Nat.reduceMul]
 unfold aq8
 simp (disch:=decide) only [dg,q2]
 refine bv (fun m q' h3=>∃i:Nat,m=l.length-i∧i≤l.length∧q' 0 = .pointer (some ⟨tp,0,none⟩)∧q' 1 = .int .i64 r∧q' 2 = .slice sa l.length cap∧q' 48 = .slice sa l.length cap∧q' 49 = .int .i64 l.length∧q' 50 = .int .i64 i∧HL.Sep (a::w::R) h3∧Dis G h3∧(l.take i).all (qc T r)=true) ?_
   (m:=l.length) ⟨0,rfl,Nat.zero_le _,by simp (disch:=decide) only [dg,q0],by simp (disch:=decide) only [dg,q1],by simp (disch:=decide) only [dg,q2],by simp (disch:=decide) only [dg],by simp (disch:=decide) only [dg],by simp only [dg]<;>rfl,s3,d3,rfl⟩
 clear q0 q1 q2 q19 q20 q21 s3 d3
 clear q h3
 rintro m q h3 ⟨i,rfl,hi,q0,q1,q2,q19,q20,q21,s3,d3,hf⟩ X HX
 unfold aq4
 simp only [dg,q20,q21]
 refine ax (fun hlt=>?_) (fun hge=>?_)
 · obtain ⟨x,hx⟩:∃x,l[i]?=some x:=⟨_,List.getElem?_eq_getElem (by omega)⟩
   obtain ⟨bb,of,rfl,z0,z1,z2⟩:=Sees.want (sv.up (s3.in 1 rfl) d3) hx
   obtain ⟨⟨c0,c1⟩,f0,f1,f2⟩:=o0.1 (List.all_eq_true.1 hv x (List.mem_of_getElem? hx))
   unfold Kx
   simp (disch:=first|decide|exact au|exact am|omega|rfl) only [dg,q19,q21,ix71 (Int.natCast_nonneg i) hlt,z0,z1,z2]
   intro y hy gy
   simp only [dg,q0,q1]
   generalize eh:Hp.set h3 y _=h4
   obtain ⟨l4,d4,b4⟩:=boxed eh hy d3 gy
   have s4:HL.Sep (a::w::R) h4:=by rw [← eh];exact s3.past hy
   have cy:∀j,aa G h4 ⟨y,j,none⟩=_:=fun j=>ai (ag b4)
   refine (tf (r:=r) (f:=x.f) (t:=x.t) (tb.see (s4.in 0 rfl)) c0 (lu c0 c1) (by have:=r9 fw x.c;omega)).mono ?_
   rintro _ h4 ⟨rfl,rfl⟩
   cases e1:ku (rowT T x.c) r x.f x.t with
   |false=>
     try simp only [dg]
     rw [← hKK]
     have e:jb T r l=(18,T):=by unfold jb;rw [if_neg hr,if_pos hv,if_neg (by rw [El hx (by unfold qc;exact e1)];decide)]
     simp only [dg,e]
     exact ⟨a,tb,s4,d4⟩
   |true=>
     try simp only [dg]
     unfold Gp
     simp (disch:=first|decide|omega) only [dg,q21]
     exact HX (l.length-(i+1)) _ _ (by omega) ⟨i+1,rfl,by omega,by simp (disch:=decide) only [dg,q0],by simp (disch:=decide) only [dg,q1],by simp (disch:=decide) only [dg,q2],by simp (disch:=decide) only [dg,q19],by simp (disch:=decide) only [dg,q20],by simp only [dg]<;>rfl,s4,d4,by rw [Bv hx,hf];unfold qc;rw [e1];rfl⟩
 -- they are put
 obtain rfl:i=l.length:=by omega
 rw [List.take_of_length_le (Nat.le_refl _)]at hf
 clear HX
 try simp (disch:=first|decide|omega) only [dg,Nat.reduceAdd,Nat.reduceMul]
 unfold aq7
 simp (disch:=decide) only [dg,q2]
 refine bv (fun m q' h3=>∃(i:Nat) (a':Hp),m=l.length-i∧i≤l.length∧q' 0 = .pointer (some ⟨tp,0,none⟩)∧q' 1 = .int .i64 r∧q' 65 = .slice sa l.length cap∧q' 66 = .int .i64 l.length∧q' 67 = .int .i64 i∧Tab 124 a' tp (rh r T (l.take i))∧HL.Sep (a'::w::R) h3∧Dis G h3) ?_
   (m:=l.length) ⟨0,a,rfl,Nat.zero_le _,by simp (disch:=decide) only [dg,q0],by simp (disch:=decide) only [dg,q1],by simp (disch:=decide) only [dg],by simp (disch:=decide) only [dg],by simp only [dg]<;>rfl,tb,s3,d3⟩
 clear q0 q1 q2 q19 q20 q21 s3 d3
 clear q h3
 rintro m q h3 ⟨i,a3,rfl,hi,q0,q1,q19,q20,q21,t3,s3,d3⟩ X HX
 unfold aq5
 simp only [dg,q20,q21]
 refine ax (fun hlt=>?_) (fun hge=>?_)
 · obtain ⟨x,hx⟩:∃x,l[i]?=some x:=⟨_,List.getElem?_eq_getElem (by omega)⟩
   obtain ⟨bb,of,rfl,z0,z1,z2⟩:=Sees.want (sv.up (s3.in 1 rfl) d3) hx
   obtain ⟨⟨c0,c1⟩,f0,f1,f2⟩:=o0.1 (List.all_eq_true.1 hv x (List.mem_of_getElem? hx))
   have sub:∀u∈l.take i,u∈l:=fun u hu=>List.mem_of_mem_take hu
   obtain ⟨g3,fw3,l3,k3⟩:=E9 (by omega:0≤r) (l:=l.take i) g fw (List.all_eq_true.2 fun u hu=>List.all_eq_true.1 hv u (sub u hu)) (List.all_eq_true.2 fun u hu=>List.all_eq_true.1 hf u (sub u hu))
   unfold Kz
   simp (disch:=first|decide|exact au|exact am|omega|rfl) only [dg,q19,q21,ix71 (Int.natCast_nonneg i) hlt,z0,z1,z2]
   intro y hy gy
   simp only [dg,q0,q1]
   generalize eh:Hp.set h3 y _=h4
   obtain ⟨l4,d4,b4⟩:=boxed eh hy d3 gy
   have s4:HL.Sep (a3::w::R) h4:=by rw [← eh];exact s3.past hy
   have hlen:(rowT (rh r T (l.take i)) x.c).length≤50000:=by
     have h5:=r9 fw3 x.c
     rw [List.length_take]at h5
     omega
   refine (Y6 (r:=r) t3 s4 c0 (lu c0 (by rw [l3];exact c1)) (qk g3 x.c) hlen f0 f1 f2).mono ?_
   rintro _ h5 ⟨rfl,a5,t5,s5,d5⟩
   unfold Ky
   simp (disch:=first|decide|omega) only [dg,q21]
   refine HX (l.length-(i+1)) _ _ (by omega) ⟨i+1,a5,rfl,by omega,by simp (disch:=decide) only [dg,q0],by simp (disch:=decide) only [dg,q1],by simp (disch:=decide) only [dg,q19],by simp (disch:=decide) only [dg,q20],by simp only [dg]<;>rfl,?_,s5,d5⟩
   rw [Ja hx]
   exact t5
 obtain rfl:i=l.length:=by omega
 rw [List.take_of_length_le (Nat.le_refl _)]at t3
 try simp (disch:=first|decide|omega) only [dg,Nat.reduceAdd,Nat.reduceMul]
 unfold aq6
 have e:jb T r l=(0,rh r T l):=by unfold jb;rw [if_neg hr,if_pos hv,if_pos hf]
 rw [← hKK]
 simp only [dg,e]
 exact ⟨a3,t3,s3,d3⟩
def Dw:=jq bC (jq (jq (jq @al110 @and_true) (jq @C1 (jq @je @cf126))) (jq (jq @cf154 (jq @ld3 @vl)) (jq @sd (jq @st110w @true_and))))
theorem un58:P_.underlying 110=some (.array 2 3):=by kernel_rfl
theorem sz3':(P_.info? 3).map (·.size)=some 1:=sz3
theorem ix58a {G h:Hp} {b o:Nat} {K:VK}:wpH P_ G (Instr.indexAt 110 (.pointer (some ⟨b,o,none⟩)) (.int .i64 0)) h K=K (.pointer (some ⟨b,o,none⟩)) h:=by
 rw [Co un58 sz3' (by decide) (by decide),lh]
 rfl
theorem ix58b {G h:Hp} {b o:Nat} {K:VK}:wpH P_ G (Instr.indexAt 110 (.pointer (some ⟨b,o,none⟩)) (.int .i64 1)) h K=K (.pointer (some ⟨b,o+1,none⟩)) h:=by
 rw [Co un58 sz3' (by decide) (by decide),lh]
 rfl

theorem J4 {G h:Hp} {a:Int}:aj P_ G 154 #[.int .i64 a] h (fun u h'=>u = .int .i64 (cutI a)∧h'=h):=by
 refine af9 (by simp) ?_
 unfold S154
 simp only [Dw,Tt,Tw]
 simp [cutI,FV]

theorem ldP2 {G h:Hp} {a:Addr} {K:VK}:wpH P_ G (Instr.loadAt 110 (.pointer (some a))) h K=(∃x0,aa G h (a.add 0)=some x0∧∃x1,aa G h (a.add 1)=some x1∧K (.agg #[x0,x1]) h):=by kernel_rfl
theorem Cy {G h:Hp} {a b:Int}:aj P_ G 126 #[.int .i64 a,.int .i64 b] h (fun u h'=>u = .agg #[.int .i64 (cutI a),.int .i64 (cutI b)]∧h'=h):=by
 refine aj.assume fun d=>quietly (ai8 (by simp) ?_)
 unfold S126
 simp (disch:=decide) only [Dw,al110]
 intro x hx gx
 refine (J4 (a:=a)).mono ?_
 rintro _ _ ⟨rfl,rfl⟩
 refine (J4 (a:=b)).mono ?_
 rintro _ _ ⟨rfl,rfl⟩
 simp (disch:=first|decide|exact au|exact am|omega|rfl) only [Dw,ldP2]
 exact df hx

theorem Uu {a:Int}:0≤cutI a∧cutI a≤FV:=by unfold cutI;simp only [FV];omega

theorem Yw {G h:Hp} {a b:Int}:aj P_ G 77 #[.int .i64 a,.int .i64 b] h (fun u h'=>u = .int .i64 (sumI a b)∧h'=h):=by
 refine aj.assume fun d=>quietly (enter77 (by simp) ?_)
 unfold S77
 simp only [Dw]
 refine (Cy (a:=a) (b:=b)).mono ?_
 rintro _ _ ⟨rfl,rfl⟩
 obtain ⟨a0,a1⟩:=Uu (a:=a)
 obtain ⟨b0,b1⟩:=Uu (a:=b)
 simp only [FV]at a1 b1
 simp (disch:=first|decide|exact au|exact am|omega|rfl) only [Dw,al110]
 intro x hx gx
 simp (disch:=first|decide|omega) only [Dw,ix58a,ix58b]
 refine ax (fun h1=>?_) (fun h1=>?_)
 · try simp (disch:=first|decide|omega) only [Dw,Nat.reduceAdd,Nat.reduceMul]
   exact ⟨by unfold sumI;rw [if_pos h1],df hx⟩
 · unfold ap2
   simp (disch:=first|decide|omega) only [Dw,ix58a,ix58b]
   exact ⟨by unfold sumI;rw [if_neg h1],df hx⟩

end Go.Proofs.YtfflipnhffknnaaGreatDoor.Rv
end

section
namespace Go.Proofs.YtfflipnhffknnaaGreatDoor
open Go Go.HL
section
variable (G:Hp) (K:EK) (r:Rg) (h:Hp)
def md53:Nat→Hint
 |_=>mh false [] [] [] false
def Ss:Prop:=
 opH P_ G (fy (r 0) #[(.func (.func 107) #[] #[(r 5),(r 3)])]) h fun v6 h6=>
 o_ G (Instr.loadAt 103 (r 5)) h6 fun v7 h7=>
 K .ret (u5 r 12 (r 0) 13 (.func (.func 107) #[] #[(r 5),(r 3)]) 14 v6 15 v7 4 v7) h7
def S53:Prop:=
 o_ G (Instr.box 3 (r 1)) h fun v0 h0=>
 o_ G (Instr.alloc 103 true (.tuple #[])) h0 fun v1 h1=>
 opH P_ G (xEq .eql 106 (.tmp 0) (.const .nilFunc) (r 0) .nilFunc) h1 fun v2 h2=>
 g_ v2 false (o_ G (Instr.loadAt 3 v0) h2) h2 fun v3 h3=>
 g_ v2 false (o_ G (binOp .lss 3 v3 (.int .i64 1)) h3) h3 fun v4 h4=>
 opH P_ G (bf v2 (.bool true) v4) h4 fun v5 h5=>
 (fun q=>cond v5
 (K .ret (upd q 4 (.slice none 0 0)) h5)
 (Ss G K q h5))
 (u9 r 3 v0 4 (.slice none 0 0) 5 v1 6 (r 0) 7 v2 8 v2 9 v3 10 v4 11 v5)
theorem Uq:Ent 16 53 [.tmp 4] S53:=ent_ (m:=md53) (c:=(Tryz.f53.body.getD .skip)) (fun _ _ _ _=>by kernel_rfl) Tryz.func53 rfl rfl rfl

def md107:Nat→Hint
 |_=>mh false [] [] [] false
def S107:Prop:=
 o_ G (Instr.loadAt 103 (r 2)) h fun v0 h0=>
 o_ G (Instr.build 110 #[(0,(r 0)),(1,(r 1))]) h0 fun v1 h1=>
 o_ G (Instr.buildSlice 103 1 #[(0,v1)]) h1 fun v2 h2=>
 o_ G (Builtin.append_ #[103,103] 103 #[v0,v2]) h2 fun v3 h3=>
 opH P_ G (su (Instr.storeAt 103 (r 2) v3)) h3 fun v4 h4=>
 o_ G (Instr.loadAt 103 (r 2)) h4 fun v5 h5=>
 o_ G (Builtin.len_ #[103] 3 #[v5]) h5 fun v6 h6=>
 o_ G (Instr.loadAt 3 (r 3)) h6 fun v7 h7=>
 o_ G (binOp .lss 3 v6 v7) h7 fun v8 h8=>
 K .ret (u2 (u10 r 6 (.bool false) 7 v0 8 (r 0) 9 (r 1) 10 v1 11 v2 12 v3 13 v5 14 v6 15 v7) 16 v8 6 v8) h8
theorem al0:Ent 17 107 [.tmp 6] S107:=ent_ (m:=md107) (c:=(Tryz.f107.body.getD .skip)) (fun _ _ _ _=>by kernel_rfl) Tryz.func107 rfl rfl rfl
end
end Go.Proofs.YtfflipnhffknnaaGreatDoor
end

section
namespace Go.Proofs.YtfflipnhffknnaaGreatDoor.Rv
open Go Go.HL Go.Proofs.Resv
def ec:=jq bC (jq (jq (jq (jq @Kc @je) (jq @pc (jq @Uw @F6))) (jq (jq @ug (jq @uf @ue)) (jq @Jo (jq @ld3 @ld34)))) (jq (jq (jq @Tz @ld3p) (jq @ld98p (jq @ld99p @ln99p))) (jq (jq @fu (jq @js @ic)) (jq @rg (jq @tr @Ce)))))
abbrev gapA (g:Int × Int):Array Value:=#[.int .i64 g.1,.int .i64 g.2]
theorem Ru {r:Int} {L:List Slot} {i:Nat} {s:Slot} {at_:Int} (hs:L[i]?=some s):di r (L.drop i) at_=if s.r=r then di r (L.drop (i+1)) at_ else if s.f>at_ then (at_,s.f)::di r (L.drop (i+1)) s.t else di r (L.drop (i+1)) s.t:=by
 obtain ⟨hlt,rfl⟩:=List.getElem?_eq_some_iff.1 hs
 rw [List.drop_eq_getElem_cons hlt,di]

theorem Pi {G h:Hp} {tp:Nat} {c r:Int}:aj P_ G 145 #[.pointer (some ⟨tp,0,none⟩),.int .i64 c,.int .i64 r] h (fun u h'=>∃b1 b2 b3,u = .func (.func 164) #[] #[.pointer (some ⟨b1,0,none⟩),.pointer (some ⟨b2,0,none⟩),.pointer (some ⟨b3,0,none⟩)]∧h.le h'∧Dis G h'∧h' b1=some (.cells #[.pointer (some ⟨tp,0,none⟩)] 34 (0,0))∧h' b2=some (.cells #[.int .i64 c] 3 (0,0))∧h' b3=some (.cells #[.int .i64 r] 3 (0,0))∧∀R,HL.Sep R h→HL.Sep R h'):=by
 refine aj.assume fun d=>ag7 (by simp) ?_
 unfold S145
 simp only [ec]
 intro x hx gx y hy gy z hz gz
 have nxy:=ik hy
 have nxz:x≠z:=fun e=>by subst e;rw [aq nxy,af]at hz;cases hz
 have nyz:=ik hz
 refine ⟨x,y,z,rfl,((df hx).trans (df hy)).trans (df hz),((d.set gx).set gy).set gz,by rw [aq nxz,aq nxy,af],by rw [aq nyz,af],af,fun R s=>((s.past hx).past hy).past hz⟩

theorem Rt {G h a q:Hp} {y:Value} {Y Z:List (Int × Int)→Hp→Prop} {cc:List (Int × Int)→Bool} {Lt:List (Int × Int)} {b1 b2 b3 tp:Nat} {T:Tb} {c r:Int}
   (yl:HL.Yl P_ gapA G y Y Z cc) (ya:Y Lt a) (s:HL.Sep [a,q] h) (h1:q b1=some (.cells #[.pointer (some ⟨tp,0,none⟩)] 34 (0,0))) (h2:q b2=some (.cells #[.int .i64 c] 3 (0,0))) (h3:q b3=some (.cells #[.int .i64 r] 3 (0,0))) (ts:TSee G q tp T)
   (fw:∀L∈T,L.length≤50000):
   aj P_ G 164 #[y,.pointer (some ⟨b1,0,none⟩),.pointer (some ⟨b2,0,none⟩),.pointer (some ⟨b3,0,none⟩)] h (fun _ h'=>tn G q Y Z (HL.feed cc Lt (if inT T.length c=true then uz (rowT T c) r else [])) h'):=by
 refine aj.assume fun d=>P0 (by simp) ?_
 unfold S164
 generalize hTT:HL.feed cc Lt _=TT
 have c1:∀{h':Hp},q.le h'→∀j,aa G h' ⟨b1,j,none⟩=_:=fun l j=>ai (ag (l _ _ h1))
 have c2:∀{h':Hp},q.le h'→∀j,aa G h' ⟨b2,j,none⟩=_:=fun l j=>ai (ag (l _ _ h2))
 have c3:∀{h':Hp},q.le h'→∀j,aa G h' ⟨b3,j,none⟩=_:=fun l j=>ai (ag (l _ _ h3))
 have lq:=s.in 1 rfl
 simp only [ec,c1 lq,c2 lq]
 refine (Fp (c:=c) (ts.up lq d)).mono ?_
 rintro _ h ⟨rfl,rfl⟩
 rw [Mf]
 cases hc:inT T.length c with
 |false=>
   rw [hc,if_neg (by decide)]at hTT
   try simp only [ec]
   exact tn.go s d ya hTT
 |true=>
 obtain ⟨k0,k1⟩:=ub.1 hc
 have hL:=lu k0 k1
 rw [hc,if_pos rfl]at hTT
 generalize hLL:rowT T c=L at*
 obtain ⟨rb,e1,e2⟩:=ts
 obtain ⟨sa,cap,e3,e4⟩:=e2 _ _ hL
 have fL:=fw L (List.mem_of_getElem? hL)
 try simp only [ec]
 unfold Nh
 simp (disch:=decide) only [ec,c1 lq,c2 lq,c3 lq,gh lq d e1,ix98p k0 k1,Nat.mul_one,gh lq d e3]
 generalize hKK:retK P_ G _ _=KK
 refine bv (fun m p h3=>∃(i:Nat) (a:Hp) (Lt:List (Int × Int)) (at_:Int),m=L.length-i∧i≤L.length∧p 0=y∧p 1 = .pointer (some ⟨b1,0,none⟩)∧p 2 = .pointer (some ⟨b2,0,none⟩)∧p 3 = .pointer (some ⟨b3,0,none⟩)∧p 5 = .int .i64 at_∧p 18 = .slice sa L.length cap∧p 19 = .int .i64 L.length∧p 20 = .int .i64 i∧
     Y Lt a∧HL.Sep [a,q] h3∧Dis G h3∧HL.feed cc Lt (di r (L.drop i) at_)=TT) ?_
   (m:=L.length) ⟨0,a,Lt,0,rfl,Nat.zero_le _,by simp (disch:=decide) only [ec],by simp (disch:=decide) only [ec],by simp (disch:=decide) only [ec],by simp (disch:=decide) only [ec],by simp (disch:=decide) only [ec],by simp (disch:=decide) only [ec],by simp (disch:=decide) only [ec],by simp only [ec]<;>rfl,ya,s,d,hTT⟩
 clear ya s d lq
 clear hTT
 clear Lt a h
 rintro m p h ⟨i,a,Lt,at_,rfl,hi,p0,p1,p2,p3,p5,p18,p19,p20,ya,s,d,hTT⟩ X HX
 have lq:=s.in 1 rfl
 unfold Nf
 simp only [ec,p19,p20]
 refine ax (fun hlt=>?_) (fun hge=>?_)
 rotate_left
 · -- the last one
   obtain rfl:i=L.length:=by omega
   rw [List.drop_of_length_le (Nat.le_refl _),di]at hTT
   try simp (disch:=first|decide|omega) only [ec,Nat.reduceAdd,Nat.reduceMul]
   unfold Ng
   simp (disch:=decide) only [ec,p5]
   refine ax (fun hl=>?_) (fun hl=>?_)
   · rw [if_pos hl]at hTT
     simp only [ec,p0]
     refine ii ?_ (yl Lt (at_,FV) a q h ya s d)
     rintro v h' ⟨a',rfl,s',d',hy⟩
     rw [← hKK]
     try simp only [ec]
     cases hc2:cc (Lt++[(at_,FV)])with
     |true=>
       rw [hc2,if_pos rfl]at hy
       rw [HL.Cr hc2]at hTT
       exact tn.go s' d' hy hTT
     |false=>
       rw [hc2,if_neg (by decide)]at hy
       exact tn.no s' d' hy hc2 hTT
   · rw [if_neg hl]at hTT
     rw [← hKK]
     try simp only [ec]
     exact tn.go s d ya hTT
 obtain ⟨sl,hs⟩:∃sl,L[i]?=some sl:=⟨_,List.getElem?_eq_getElem (by omega)⟩
 obtain ⟨b',of,rfl,z0,z1,z2⟩:=Sees.slot (e4.up lq d) hs
 rw [Ru hs]at hTT
 unfold Ad
 simp (disch:=first|decide|exact au|exact am|omega|rfl) only [ec,p18,p20,ix99 (Int.natCast_nonneg i) hlt,z0,z1,z2]
 intro x hx gx
 generalize eh:Hp.set h x _=h4
 obtain ⟨l4,d4,b4⟩:=boxed eh hx d gx
 have s4:HL.Sep [a,q] h4:=by rw [← eh];exact s.past hx
 have lq4:=s4.in 1 rfl
 have cx:∀j,aa G h4 ⟨x,j,none⟩=_:=fun j=>ai (ag b4)
 have next:∀(K0:Exit→Rg→Hp→Prop) (p':Rg) (h5 a':Hp) (Lt':List (Int × Int)) (at':Int),(∀k,k≤3→p' k=p k)→p' 18=p 18→p' 19=p 19→p' 20=p 20→p' 5 = .int .i64 at'→Y Lt' a'→HL.Sep [a',q] h5→Dis G h5→HL.feed cc Lt' (di r (L.drop (i+1)) at')=TT→
     pf G (bq X K0) p' h5:=by
   intro K0 p' h5 a' Lt' at' hk w18 w19 w20 w5 ya' s' d' hT'
   unfold pf
   simp (disch:=first|decide|omega) only [ec,w20,p20]
   exact HX (L.length-(i+1)) _ _ (by omega) ⟨i+1,a',Lt',at',rfl,by omega,by simp (disch:=decide) only [ec,hk 0 (by decide),p0],by simp (disch:=decide) only [ec,hk 1 (by decide),p1],by simp (disch:=decide) only [ec,hk 2 (by decide),p2],by simp (disch:=decide) only [ec,hk 3 (by decide),p3],by simp (disch:=decide) only [ec,w5],by simp (disch:=decide) only [ec,w18,p18],by simp (disch:=decide) only [ec,w19,p19],by simp only [ec]<;>rfl,ya',s',d',hT'⟩
 simp only [ec,cx,p3,c3 lq4]
 refine me (fun hb=>?_) (fun hb=>?_)
 · rw [if_pos (by simpa using hb)]at hTT
   exact next _ _ _ a Lt at_ (fun k hk=>by simp (disch:=omega) only [ao]) (by simp (disch:=decide) only [ec]) (by simp (disch:=decide) only [ec]) (by simp (disch:=decide) only [ec]) (by simp (disch:=decide) only [ec,p5]) ya s4 d4 hTT
 rw [if_neg (by simpa using hb)]at hTT
 unfold Ac
 have k7:∀(K0:Exit→Rg→Hp→Prop) (p':Rg) (h5 a':Hp) (Lt':List (Int × Int)),(∀k,k≤3→p' k=p k)→p' 18=p 18→p' 19=p 19→p' 20=p 20→p' 7 = .pointer (some ⟨x,0,none⟩)→h5 x=some (mo sl)→Y Lt' a'→HL.Sep [a',q] h5→Dis G h5→HL.feed cc Lt' (di r (L.drop (i+1)) sl.t)=TT→
     ra G (bq X K0) p' h5:=by
   intro K0 p' h5 a' Lt' hk w18 w19 w20 w7 b5 ya' s' d' hT'
   have c5:∀j,aa G h5 ⟨x,j,none⟩=_:=fun j=>ai (ag b5)
   unfold ra
   simp only [ec,w7,c5]
   exact next _ _ _ a' Lt' sl.t (fun k hk'=>by simp (disch:=omega) only [ao];exact hk k hk') (by simp (disch:=decide) only [ec,w18]) (by simp (disch:=decide) only [ec,w19]) (by simp (disch:=decide) only [ec,w20]) (by simp only [ec]) ya' s' d' hT'
 simp (disch:=decide) only [ec,cx,p5]
 by_cases hg:sl.f>at_
 rotate_left
 · rw [if_neg hg]at hTT
   simp only [ec,show decide (sl.f>at_)=false from decide_eq_false hg,dv]
   exact k7 _ _ _ a Lt (fun k hk=>by simp (disch:=omega) only [ao]) (by simp (disch:=decide) only [ec]) (by simp (disch:=decide) only [ec]) (by simp (disch:=decide) only [ec]) (by simp (disch:=decide) only [ec]) b4 ya s4 d4 hTT
 rw [if_pos hg]at hTT
 simp only [ec,show decide (sl.f>at_)=true from decide_eq_true hg,p0,p5,cx]
 -- the box stays beside the yield's own
 have s5:HL.Sep [a,q.set x (mo sl)] h4:=by
   rw [← eh]
   have:=(s.swap.grow (o:=mo sl) hx).swap
   exact this
 refine ii ?_ (yl Lt (at_,sl.f) a (q.set x (mo sl)) h4 ya s5 d4)
 rintro v h6 ⟨a',rfl,s',d',hy⟩
 have b6:h6 x=some (mo sl):=s'.at 1 rfl af
 have s6:HL.Sep [a',q] h6:=(s'.swap.cut (df (s.drop.hd.none hx))).swap
 simp only [ec]
 cases hc2:cc (Lt++[(at_,sl.f)])with
 |true=>
   rw [hc2,if_pos rfl]at hy
   rw [HL.Cr hc2]at hTT
   simp only [ec]
   exact k7 _ _ _ a' _ (fun k hk=>by simp (disch:=omega) only [ao]) (by simp (disch:=decide) only [ec]) (by simp (disch:=decide) only [ec]) (by simp (disch:=decide) only [ec]) (by simp (disch:=decide) only [ec]) b6 hy s6 d' hTT
 |false=>
   rw [hc2,if_neg (by decide)]at hy
   simp only [ec]
   rw [← hKK]
   try simp only [ec]
   exact tn.no s6 d' hy hc2 hTT
def bRtM:=jq bC (jq (jq (jq (jq @Kc @je) (jq @Uw (jq @F6 @ug))) (jq (jq @uf @ue) (jq @Jo (jq @ld3 @ld34)))) (jq (jq (jq @Tz @ld3p) (jq @ld98p (jq @ld99p @ln99p))) (jq (jq @fu (jq @js @ic)) (jq @rg (jq @tr @Ce)))))
theorem Rs {G h a q:Hp} {y:Value} {Y:List (Int × Int)→Hp→Prop} {N:Nat} {b1 b2 b3 tp:Nat} {T:Tb} {c r:Int}
   (yl:YlN P_ gapA (fun _=>True) N G y Y) (ya:Y [] a) (s:HL.Sep [a,q] h) (h1:q b1=some (.cells #[.pointer (some ⟨tp,0,none⟩)] 34 (0,0))) (h2:q b2=some (.cells #[.int .i64 c] 3 (0,0))) (h3:q b3=some (.cells #[.int .i64 r] 3 (0,0))) (ts:TSee G q tp T)
   (fw:∀L∈T,L.length≤50000) (hN:(if inT T.length c=true then uz (rowT T c) r else []).length≤N+1):
   aj P_ G 164 #[y,.pointer (some ⟨b1,0,none⟩),.pointer (some ⟨b2,0,none⟩),.pointer (some ⟨b3,0,none⟩)] h (fun _ h'=>ve G q Y (if inT T.length c=true then uz (rowT T c) r else []) h'):=by
 refine aj.assume fun d=>P0 (by simp) ?_
 unfold S164
 generalize hTT:(if inT T.length c=true then uz (rowT T c) r else [])=TT at hN ⊢
 have c1:∀{h':Hp},q.le h'→∀j,aa G h' ⟨b1,j,none⟩=_:=fun l j=>ai (ag (l _ _ h1))
 have c2:∀{h':Hp},q.le h'→∀j,aa G h' ⟨b2,j,none⟩=_:=fun l j=>ai (ag (l _ _ h2))
 have c3:∀{h':Hp},q.le h'→∀j,aa G h' ⟨b3,j,none⟩=_:=fun l j=>ai (ag (l _ _ h3))
 have lq:=s.in 1 rfl
 simp only [bRtM,c1 lq,c2 lq]
 refine (Fp (c:=c) (ts.up lq d)).mono ?_
 rintro _ h ⟨rfl,rfl⟩
 rw [Mf]
 cases hc:inT T.length c with
 |false=>
   rw [hc,if_neg (by decide)]at hTT
   try simp only [bRtM]
   exact ve.go s d ya hTT
 |true=>
 obtain ⟨k0,k1⟩:=ub.1 hc
 have hL:=lu k0 k1
 rw [hc,if_pos rfl]at hTT
 generalize hLL:rowT T c=L at*
 obtain ⟨rb,e1,e2⟩:=ts
 obtain ⟨sa,cap,e3,e4⟩:=e2 _ _ hL
 have fL:=fw L (List.mem_of_getElem? hL)
 try simp only [bRtM]
 unfold Nh
 simp (disch:=decide) only [bRtM,c1 lq,c2 lq,c3 lq,gh lq d e1,ix98p k0 k1,Nat.mul_one,gh lq d e3]
 generalize hKK:retK P_ G _ _=KK
 refine bv (fun m p h3=>∃(i:Nat) (a:Hp) (Lt:List (Int × Int)) (at_:Int),m=L.length-i∧i≤L.length∧p 0=y∧p 1 = .pointer (some ⟨b1,0,none⟩)∧p 2 = .pointer (some ⟨b2,0,none⟩)∧p 3 = .pointer (some ⟨b3,0,none⟩)∧p 5 = .int .i64 at_∧p 18 = .slice sa L.length cap∧p 19 = .int .i64 L.length∧p 20 = .int .i64 i∧
     Y Lt a∧HL.Sep [a,q] h3∧Dis G h3∧Lt++di r (L.drop i) at_=TT) ?_
   (m:=L.length) ⟨0,a,[],0,rfl,Nat.zero_le _,by simp (disch:=decide) only [bRtM],by simp (disch:=decide) only [bRtM],by simp (disch:=decide) only [bRtM],by simp (disch:=decide) only [bRtM],by simp (disch:=decide) only [bRtM],by simp (disch:=decide) only [bRtM],by simp (disch:=decide) only [bRtM],by simp only [bRtM]<;>rfl,ya,s,d,hTT⟩
 clear ya s d lq
 clear hTT
 clear a h
 rintro m p h ⟨i,a,Lt,at_,rfl,hi,p0,p1,p2,p3,p5,p18,p19,p20,ya,s,d,hTT⟩ X HX
 have lq:=s.in 1 rfl
 unfold Nf
 simp only [bRtM,p19,p20]
 refine ax (fun hlt=>?_) (fun hge=>?_)
 rotate_left
 · -- the last one
   obtain rfl:i=L.length:=by omega
   rw [List.drop_of_length_le (Nat.le_refl _),di]at hTT
   try simp (disch:=first|decide|omega) only [bRtM,Nat.reduceAdd,Nat.reduceMul]
   unfold Ng
   simp (disch:=decide) only [bRtM,p5]
   refine ax (fun hl=>?_) (fun hl=>?_)
   · rw [if_pos hl]at hTT
     simp only [bRtM,p0]
     refine ii ?_ (yl Lt (at_,FV) a q h (by rw [← hTT]at hN;simp only [List.length_append,List.length_cons,List.length_nil]at hN;omega) trivial ya s d)
     rintro v h' ⟨a',rfl,s',d',hy⟩
     rw [← hKK]
     try simp only [bRtM]
     exact ve.go s' d' hy hTT
   · rw [if_neg hl,List.append_nil]at hTT
     rw [← hKK]
     try simp only [bRtM]
     exact ve.go s d ya hTT
 obtain ⟨sl,hs⟩:∃sl,L[i]?=some sl:=⟨_,List.getElem?_eq_getElem (by omega)⟩
 obtain ⟨b',of,rfl,z0,z1,z2⟩:=Sees.slot (e4.up lq d) hs
 rw [Ru hs]at hTT
 unfold Ad
 simp (disch:=first|decide|exact au|exact am|omega|rfl) only [bRtM,p18,p20,ix99 (Int.natCast_nonneg i) hlt,z0,z1,z2]
 intro x hx gx
 generalize eh:Hp.set h x _=h4
 obtain ⟨l4,d4,b4⟩:=boxed eh hx d gx
 have s4:HL.Sep [a,q] h4:=by rw [← eh];exact s.past hx
 have lq4:=s4.in 1 rfl
 have cx:∀j,aa G h4 ⟨x,j,none⟩=_:=fun j=>ai (ag b4)
 have next:∀(K0:Exit→Rg→Hp→Prop) (p':Rg) (h5 a':Hp) (Lt':List (Int × Int)) (at':Int),(∀k,k≤3→p' k=p k)→p' 18=p 18→p' 19=p 19→p' 20=p 20→p' 5 = .int .i64 at'→Y Lt' a'→HL.Sep [a',q] h5→Dis G h5→Lt'++di r (L.drop (i+1)) at'=TT→
     pf G (bq X K0) p' h5:=by
   intro K0 p' h5 a' Lt' at' hk w18 w19 w20 w5 ya' s' d' hT'
   unfold pf
   simp (disch:=first|decide|omega) only [bRtM,w20,p20]
   exact HX (L.length-(i+1)) _ _ (by omega) ⟨i+1,a',Lt',at',rfl,by omega,by simp (disch:=decide) only [bRtM,hk 0 (by decide),p0],by simp (disch:=decide) only [bRtM,hk 1 (by decide),p1],by simp (disch:=decide) only [bRtM,hk 2 (by decide),p2],by simp (disch:=decide) only [bRtM,hk 3 (by decide),p3],by simp (disch:=decide) only [bRtM,w5],by simp (disch:=decide) only [bRtM,w18,p18],by simp (disch:=decide) only [bRtM,w19,p19],by simp only [bRtM]<;>rfl,ya',s',d',hT'⟩
 simp only [bRtM,cx,p3,c3 lq4]
 refine me (fun hb=>?_) (fun hb=>?_)
 · rw [if_pos (by simpa using hb)]at hTT
   exact next _ _ _ a Lt at_ (fun k hk=>by simp (disch:=omega) only [ao]) (by simp (disch:=decide) only [bRtM]) (by simp (disch:=decide) only [bRtM]) (by simp (disch:=decide) only [bRtM]) (by simp (disch:=decide) only [bRtM,p5]) ya s4 d4 hTT
 rw [if_neg (by simpa using hb)]at hTT
 unfold Ac
 have k7:∀(K0:Exit→Rg→Hp→Prop) (p':Rg) (h5 a':Hp) (Lt':List (Int × Int)),(∀k,k≤3→p' k=p k)→p' 18=p 18→p' 19=p 19→p' 20=p 20→p' 7 = .pointer (some ⟨x,0,none⟩)→h5 x=some (mo sl)→Y Lt' a'→HL.Sep [a',q] h5→Dis G h5→Lt'++di r (L.drop (i+1)) sl.t=TT→
     ra G (bq X K0) p' h5:=by
   intro K0 p' h5 a' Lt' hk w18 w19 w20 w7 b5 ya' s' d' hT'
   have c5:∀j,aa G h5 ⟨x,j,none⟩=_:=fun j=>ai (ag b5)
   unfold ra
   simp only [bRtM,w7,c5]
   exact next _ _ _ a' Lt' sl.t (fun k hk'=>by simp (disch:=omega) only [ao];exact hk k hk') (by simp (disch:=decide) only [bRtM,w18]) (by simp (disch:=decide) only [bRtM,w19]) (by simp (disch:=decide) only [bRtM,w20]) (by simp only [bRtM]) ya' s' d' hT'
 simp (disch:=decide) only [bRtM,cx,p5]
 by_cases hg:sl.f>at_
 rotate_left
 · rw [if_neg hg]at hTT
   simp only [bRtM,show decide (sl.f>at_)=false from decide_eq_false hg,dv]
   exact k7 _ _ _ a Lt (fun k hk=>by simp (disch:=omega) only [ao]) (by simp (disch:=decide) only [bRtM]) (by simp (disch:=decide) only [bRtM]) (by simp (disch:=decide) only [bRtM]) (by simp (disch:=decide) only [bRtM]) b4 ya s4 d4 hTT
 rw [if_pos hg]at hTT
 simp only [bRtM,show decide (sl.f>at_)=true from decide_eq_true hg,p0,p5,cx]
 -- the box stays beside the yield's own
 have s5:HL.Sep [a,q.set x (mo sl)] h4:=by
   rw [← eh]
   have:=(s.swap.grow (o:=mo sl) hx).swap
   exact this
 refine ii ?_ (yl Lt (at_,sl.f) a (q.set x (mo sl)) h4 (by rw [← hTT]at hN;simp only [List.length_append,List.length_cons]at hN;omega) trivial ya s5 d4)
 rintro v h6 ⟨a',rfl,s',d',hy⟩
 have b6:h6 x=some (mo sl):=s'.at 1 rfl af
 have s6:HL.Sep [a',q] h6:=(s'.swap.cut (df (s.drop.hd.none hx))).swap
 simp only [bRtM]
 exact k7 _ _ _ a' _ (fun k hk=>by simp (disch:=omega) only [ao]) (by simp (disch:=decide) only [bRtM]) (by simp (disch:=decide) only [bRtM]) (by simp (disch:=decide) only [bRtM]) (by simp (disch:=decide) only [bRtM]) b6 hy s6 d' (by rw [← hTT];simp)
end Go.Proofs.YtfflipnhffknnaaGreatDoor.Rv
end

section
namespace Go.Proofs.YtfflipnhffknnaaGreatDoor
open Go Go.HL Go.Proofs.Resv Go.Proofs.Srch
def bRtN:=jq bC (jq (jq (jq @al142 (jq @al28 @Yo)) (jq @dy (jq @J9 @cf145))) (jq (jq @cf146 (jq @cf88 @ld142)) (jq (jq @ld28 @ln22) (jq @N8 @true_and))))
theorem setR2 {n d e:Nat} {v u:Value} {r:Rg} (hd:d<n) (he:e<n):setR n #[d,e] #[v,u] r=upd (upd r d v) e u:=by
 show putR n (putR n r (some d) v) (some e) u=_
 simp only [putR,if_pos hd,if_pos he]

theorem Zg {G:Hp} {a b c y:Value} {h:Hp} {K:VK}:opE P_ G (fy (.func (.func 164) #[] #[a,b,c]) #[y]) h K=aj P_ G 164 #[y,a,b,c] h K:=by kernel_rfl

def SpY (xb l:Nat) (ob:Obj) (L:List Sp) (b:Hp):Prop:=∃ip v,Slc ju 151 ip v L∧Sep [ip,noHp.set xb (.cells #[v] 142 (0,0)),noHp.set l ob] b

theorem Rw {G:Hp} {y:Value} {xb l:Nat} {oo:Option Exit→Obj} {r:Rg} (gl:G l=none) (ho:∀e,fg (oo e)=false) (g13:r 13 = .pointer (some ⟨xb,0,none⟩))
   (hy:∀(args:Array Value) (h1:Hp) (K1:Value→Hp→Prop),args.size=2→h1 l=some (oo none)→
     Al G (setR 46 #[33,34] args r) h1 (fun e r2 h2=>e = .normal∧h2 l=some (oo none)∧∀ob,fg ob=false→Ak G r2 (h2.set l ob) (fun e _ h3=>h3 l=some ob∧match e with
       | .normal=>K1 (.bool true) (h3.set l (oo none))
       | .panic _=>False
       | .outgrown=>False
       |e=>K1 (.bool false) (h3.set l (oo (some e)))))→
     opH P_ G (fy y args) h1 K1):YlN P_ Rv.gapA (fun _=>True) 60000 G y (SpY xb l (oo none)):=by
 rintro L p b q h hL _ ⟨ip,v,sl,sb⟩ s d
 have s1:Sep [ip,noHp.set xb (.cells #[v] 142 (0,0)),noHp.set l (oo none),q] h:=s.open sb
 refine hy (Rv.gapA p) h _ rfl (s1.at 2 rfl af) ?_
 rw [setR2 (by decide) (by decide)]
 unfold Al
 refine ⟨rfl,s1.at 2 rfl af,fun ob hob=>?_⟩
 have s2:=(s1.pick 2 rfl rfl).put (o:=ob) af
 rw [set_set]at s2
 have d2:Dis G (h.set l ob):=d.set gl
 generalize Hp.set h l ob=h2 at s2 d2 ⊢
 have cb:aa G h2 ⟨xb,0,none⟩=some v:=by rw [ai (ag (s2.at 2 rfl af))];rfl
 unfold Ak
 simp (disch:=decide) only [bRtN,g13,cb]
 intro x hx gx
 have s4:=s2.past (o := .cells #[.int .i64 p.1,.int .i64 p.2] 151 (0,0)) hx
 have d4:=d2.set (o := .cells #[.int .i64 p.1,.int .i64 p.2] 151 (0,0)) gx
 have hxs:(h2.set x (.cells #[.int .i64 p.1,.int .i64 p.2] 151 (0,0))) x=some (.cells #[.int .i64 p.1,.int .i64 p.2] 151 (0,0)):=af
 generalize Hp.set h2 x _=h4 at s4 d4 hxs ⊢
 refine dm ju (by decide) (L:=L) (M:=[p]) S6 eospan (by decide) (by decide) (s4.pick 1 rfl rfl) d4 sl (Sees.row hxs (by simp [ju,Cod.rows]) (by simp)) (by simp;omega) ?_
 intro v' ip' h5 sl' s5 d5
 obtain ⟨sa,cap,rfl,hcap⟩:=sl.len (by decide)
 obtain ⟨sa',cap',rfl,hcap'⟩:=sl'.len (by decide)
 have hk5:h5 xb=some (.cells [Value.slice sa L.length cap].toArray 142 (0,0)):=s5.at 2 rfl af
 try simp (disch:=first|decide|omega) only [bRtN,Nat.reduceAdd,Nat.reduceMul]
 rw [b8 sz142 rfl hk5 (by simp)]
 try simp only [bRtN,List.set_cons_zero]
 have s7:=(s5.pick 2 rfl rfl).put (o := .cells #[.slice sa' (L++[p]).length cap'] 142 (0,0)) af
 rw [set_set]at s7
 have d7:=d5.set (o := .cells #[.slice sa' (L++[p]).length cap'] 142 (0,0)) (d5 _ _ hk5)
 generalize Hp.set h5 xb _=h7 at s7 d7 ⊢
 try simp (disch:=first|decide|omega) only [bRtN,Nat.reduceAdd,Nat.reduceMul]
 refine ⟨s7.at 2 rfl af,?_⟩
 have s8:=(s7.pick 2 rfl rfl).put (o:=oo none) af
 rw [set_set]at s8
 obtain ⟨b',t1,t2⟩:=Sep.pack [_,_,_] (s8.sel (L':=[ip',noHp.set xb (.cells #[.slice sa' (L++[p]).length cap'] 142 (0,0)),noHp.set l (oo none),q]) [2,1,0,3] (by decide) rfl)
 exact ⟨b',t1,d7.set gl,ip',_,sl',t2⟩

theorem Jz {T:Tb} {r:Int} {N:List Int} {n:Int}:gu T r (N++[n])=jf (gu T r N) (mr T r n):=by
 unfold gu
 rw [List.foldl_append]
 rfl

theorem tf {G h:Hp} {g cv:Value} {w k tp bb:Nat} {f:Nat→Nat→Int} {T:Tb} {r:Int} {cells:List Cell} (gs:GS G h g w k f) (ts:Rv.TSee G h tp T) (gt:jj T) (fw:Few T bb) (hbb:bb≤50000) (sc:Sees cj G h cv cells) (hc:cells.length≤300):
   aj P_ G 108 #[g,.pointer (some ⟨tp,0,none⟩),.int .i64 r,cv] h (fun u h'=>∃ip,Slc ju 151 ip u (gu T r (cells.map (numI w k)))∧Sep [ip,h] h'∧Dis G h'):=by
 obtain ⟨ca,cc,rfl,_⟩:=id sc
 refine aj.assume fun d=>ak9 (by simp) ?_
 unfold S108
 simp only [bRtN]
 intro x0 hx0 gx0
 have s0:=(Sep.one (h:=h)).new (o := .cells #[.int .i64 0,.int .i64 4611686018427387904] 151 (0,0)) hx0
 have d0:=d.set (o := .cells #[.int .i64 0,.int .i64 4611686018427387904] 151 (0,0)) gx0
 generalize Hp.set h x0 _=h0 at s0 d0 ⊢
 generalize hKK:retK P_ G _ _=KK
 refine bv (fun m p h'=>∃(i:Nat) (ip:Hp) (v:Value),m=cells.length-i∧i≤cells.length∧p 0=g∧p 1 = .pointer (some ⟨tp,0,none⟩)∧p 2 = .int .i64 r∧p 9=v∧p 18 = .slice ca cells.length cc∧p 19 = .int .i64 cells.length∧p 20 = .int .i64 i∧
   Slc ju 151 ip v (gu T r ((cells.take i).map (numI w k)))∧Sep [ip,h] h'∧Dis G h') ?_ (m:=cells.length)
   ⟨0,noHp.set x0 (.cells #[.int .i64 0,.int .i64 4611686018427387904] 151 (0,0)),.slice (some ⟨x0,0,none⟩) 1 1,rfl,by omega,by simp (disch:=decide) only [bRtN],by simp (disch:=decide) only [bRtN],by simp (disch:=decide) only [bRtN],by simp (disch:=decide) only [bRtN],by simp (disch:=decide) only [bRtN],by simp (disch:=decide) only [bRtN],by simp only [bRtN];rfl,⟨some x0,1,[],rfl,by rw [af];rfl,rfl⟩,s0,d0⟩
 rintro m p h1 ⟨i,ip,v,rfl,hi,g0,g1,g2,g9,g18,g19,g20,sl,s,d1⟩ X hX
 unfold Wj
 simp only [bRtN,g19,g20]
 refine ax (fun hlt=>?_) (fun hge=>?_)
 rotate_left
 · obtain rfl:i=cells.length:=by omega
   try simp (disch:=first|decide|omega) only [bRtN,Nat.reduceAdd,Nat.reduceMul]
   unfold Wk
   rw [← hKK]
   try simp (disch:=decide) only [bRtN,g9]
   rw [List.take_length]at sl
   exact ⟨ip,sl,s,d1⟩
 obtain ⟨c,hcx⟩:∃c,cells[i]?=some c:=⟨_,List.getElem?_eq_getElem (by omega)⟩
 obtain ⟨b,o,rfl,e1,e2⟩:=Sees.cell (sc.up (s.in 1 rfl) d1) hcx
 have htk:cells.take (i+1)=cells.take i++[c]:=by rw [List.take_add_one,hcx];rfl
 unfold Id
 simp (disch:=first|decide|exact au|exact am|omega|rfl) only [bRtN,g18,g20,g0,ix22 (Int.natCast_nonneg i) hlt,e1,e2]
 intro y hy gy
 have s2:=s.past (o := .cells #[.int .i64 c.1,.int .i64 c.2] 28 (0,0)) hy
 have d2:=d1.set (o := .cells #[.int .i64 c.1,.int .i64 c.2] 28 (0,0)) gy
 have hys:(h1.set y (.cells #[.int .i64 c.1,.int .i64 c.2] 28 (0,0))) y=some (.cells #[.int .i64 c.1,.int .i64 c.2] 28 (0,0)):=af
 try simp (disch:=first|decide|omega) only [bRtN,Nat.reduceAdd,Nat.reduceMul]
 generalize Hp.set h1 y _=h2 at s2 d2 hys ⊢
 have cy:∀k,aa G h2 ⟨y,k,none⟩=_:=fun k=>ai (ag hys)
 try simp (disch:=first|decide|omega) only [bRtN,Nat.reduceAdd,Nat.reduceMul,cy]
 refine (my (c:=c) (gs.up (s2.in 1 rfl) d2)).mono ?_
 rintro _ h2 ⟨rfl,rfl⟩
 try simp only [bRtN]
 refine ax (fun hneg=>?_) (fun hpos=>?_)
 · rw [← hKK]
   try simp only [bRtN]
   have hin:inT T.length (numI w k c)=false:=by
     cases e:inT T.length (numI w k c)with
     |false=>rfl
     |true=>have:=(ub.1 e).1;omega
   rw [Z9 (List.mem_map.2 ⟨c,List.mem_of_getElem? hcx,rfl⟩) hin]
   exact ⟨noHp,Slc.nil,s2.drop.none,d2⟩
 unfold Ic
 simp (disch:=decide) only [bRtN,g1,g2]
 intro xb hxb gxb
 have s3:=s2.new (o := .cells #[.slice none 0 0] 142 (0,0)) hxb
 have d3:=d2.set (o := .cells #[.slice none 0 0] 142 (0,0)) gxb
 try simp (disch:=first|decide|omega) only [bRtN,Nat.reduceAdd,Nat.reduceMul]
 generalize Hp.set h2 xb _=h3 at s3 d3 ⊢
 refine (Rv.Pi).mono ?_
 rintro _ h4 ⟨b1,b2,b3,rfl,l4,d4,q1,q2,q3,hR⟩
 have s4:=hR _ s3
 have hx4:h4 xb=some (.cells #[.slice none 0 0] 142 (0,0)):=s4.at 0 rfl af
 have ne1:b1≠xb:=fun e=>by rw [e,hx4]at q1;simp at q1
 have ne2:b2≠xb:=fun e=>by rw [e,hx4]at q2;simp at q2
 have ne3:b3≠xb:=fun e=>by rw [e,hx4]at q3;simp at q3
 obtain ⟨s5,sQ⟩:=s4.but
 generalize hQ:but h4 xb=Q at s5 sQ
 have dQ:Dis G Q:=fun b o e=>d4 b o (s5.in 1 rfl _ _ e)
 intro y2 l oo hl gl hoo hy2
 rw [Zg]
 have yl:=Rw (xb:=xb) gl hoo (by simp (disch:=decide) only [bRtN]) hy2
 have s6:Sep [noHp,noHp.set xb (.cells #[.slice none 0 0] 142 (0,0)),noHp.set l (oo none),Q] (h4.set l (oo none)):=((s5.new (o:=oo none) hl).none).sel [0,2,1,3] (by decide) rfl
 obtain ⟨a,s7,sa⟩:=Sep.pack [_,_,_] s6
 refine (Rv.Rs (T:=T) yl ⟨noHp,.slice none 0 0,Slc.nil,sa⟩ s7 (by rw [← hQ,Mr ne1];exact q1) (by rw [← hQ,Mr ne2];exact q2) (by rw [← hQ,Mr ne3];exact q3) (ts.up (sQ.in 1 rfl) dQ) (fun L hL=>by have:=fw L hL;omega)
   (by have:=yd fw r (numI w k c);unfold mr at this;omega)).mono ?_
 rintro _ h8 ⟨a',s8,d8,ip2,v2,sl2,sa2⟩
 obtain ⟨h9,s9,t9⟩:=Sep.pack [_,_,_,_] ((((s8.open sa2).pick 3 rfl rfl).open sQ).sel (L':=[ip2,noHp.set xb (.cells #[v2] 142 (0,0)),ip,h,noHp.set l (oo none)]) [2,3,0,1,4] (by decide) rfl)
 have d9:Dis G h9:=fun b o e=>d8 b o (s9.in 0 rfl _ _ e)
 refine ⟨h9,s9.in 0 rfl,?_,.inl ⟨s9.at 1 rfl af,?_⟩⟩
 · rcases s9.apart (b:=noHp.set l (oo none)) (by simp) l with e|e
   · exact e
   · rw [af]at e;cases e
 try simp only [bRtN]
 unfold Ib
 have cb:aa G h9 ⟨xb,0,none⟩=some v2:=by rw [ai (ag (t9.at 1 rfl af))];rfl
 simp (disch:=decide) only [bRtN,cb,g9]
 have hlA:=qs gt fw r ((cells.take i).map (numI w k))
 have hlB:=yd fw r (numI w k c)
 have hmul:((cells.take i).map (numI w k)).length*(bb+1)≤300*50001:=Nat.mul_le_mul (by rw [List.length_map,List.length_take];omega) (by omega)
 refine (Cy (A:=gu T r ((cells.take i).map (numI w k))) (B:=mr T r (numI w k c)) (sl.see (by decide) (t9.in 2 rfl)) (sl2.see (by decide) (t9.in 0 rfl)) (by omega)).mono ?_
 rintro v3 h10 ⟨ip3,sl3,s10,d10⟩
 have s11:Sep [ip3,h] h10:=(s10.swap.cut (t9.in 3 rfl)).swap
 unfold Aj
 simp (disch:=first|decide|omega) only [bRtN,g20]
 refine hX (cells.length-(i+1)) _ _ (by omega) ⟨i+1,ip3,v3,rfl,by omega,by simp (disch:=decide) only [bRtN,g0],by simp (disch:=decide) only [bRtN,g1],by simp (disch:=decide) only [bRtN,g2],by simp (disch:=decide) only [bRtN],by simp (disch:=decide) only [bRtN,g18],by simp (disch:=decide) only [bRtN,g19],by simp only [bRtN];rfl,?_,s11,d10⟩
 rw [htk,List.map_append,List.map_cons,List.map_nil,Jz,← yh _ _ _ (Nat.le_refl _) (Om gt r _) (Av gt r _)]
 exact sl3
end Go.Proofs.YtfflipnhffknnaaGreatDoor
end

section
namespace Go.Proofs.YtfflipnhffknnaaGreatDoor
open Go Go.HL
section
variable (G:Hp) (K:EK) (r:Rg) (h:Hp)
def md90:Nat→Hint
 |_=>mh false [] [] [] false
def ao1:Prop:=
 opH P_ G (callFunc 134 #[(r 5),(.func (.func 135) #[] #[(r 2)])]) h fun v8 h8=>
 c_ G 136 #[(r 5)] h8 fun v9 h9=>
 K .ret (u6 r 15 (r 5) 16 (.func (.func 135) #[] #[(r 2)]) 17 v8 18 (r 5) 19 v9 4 v9) h9
def S90:Prop:=
 o_ G (Instr.box 68 (r 0)) h fun v0 h0=>
 o_ G (Instr.box 48 (r 1)) h0 fun v1 h1=>
 o_ G (Instr.loadAt 68 v0) h1 fun v2 h2=>
 o_ G (Instr.loadAt 48 v1) h2 fun v3 h3=>
 c_ G 127 #[v2,v3] h3 fun v4 h4=>
 o_ G (Instr.extract v4 0) h4 fun v5 h5=>
 o_ G (Instr.extract v4 1) h5 fun v6 h6=>
 o_ G (Op.unary .not v6) h6 fun v7 h7=>
 (fun q=>cond v7
 (K .ret (upd q 4 (.slice none 0 0)) h7)
 (ao1 G K q h7))
 (u3 (u10 r 2 v0 3 v1 4 (.slice none 0 0) 8 v2 9 v3 10 v4 7 v4 11 v5 12 v6 5 v5) 6 v6 13 v6 14 v7)
theorem enter90:Ent 20 90 [.tmp 4] S90:=ent_ (m:=md90) (c:=(Tryz.f90.body.getD .skip)) (fun _ _ _ _=>by kernel_rfl) Tryz.func90 rfl rfl rfl

def md135:Nat→Hint
 |1=>mh false [0,0,3,0,0,31,63,127] [m_,m_,e_,m_,m_,e_,n_,n_] [false,false,true,false,false,false,false,false] false
 |_=>mh false [] [] [] false
def S135:Prop:=
 o_ G (Instr.box 28 (r 0)) h fun v0 h0=>
 o_ G (Instr.box 28 (r 1)) h0 fun v1 h1=>
 w_ G h1 (Instr.loadAt 68 (r 2)) h1 fun v2 h2=>
 w_ G h1 (Instr.loadAt 28 v0) h2 fun v3 h3=>
 c_ G 88 #[v2,v3] h3 fun v4 h4=>h1.le h4∧
 w_ G h1 (Instr.loadAt 68 (r 2)) h4 fun v5 h5=>
 w_ G h1 (Instr.loadAt 28 v1) h5 fun v6 h6=>
 c_ G 88 #[v5,v6] h6 fun v7 h7=>
 p_ (binOp .sub 3 v4 v7) h7 fun v8 h8=>
 K .ret (upd (u10 r 3 v0 4 v1 5 (.int .i64 0) 6 v2 7 v3 8 v4 9 v5 10 v6 11 v7 12 v8) 5 v8) h8
theorem ai1:Ent 13 135 [.tmp 5] S135:=ent_ (m:=md135) (c:=(Tryz.f135.body.getD .skip)) (fun _ _ _ _=>by kernel_rfl) Tryz.func135 rfl rfl rfl

def md136:Nat→Hint
 |6=>mh false [0,0,3,7,0,0,32,112,240,511] [n_,n_,n_,m_,n_,n_,n_,n_,m_,m_] (fs 10) false
 |11=>mh false [0,0,3,7,0,0,32,112,240,511] [n_,n_,n_,m_,n_,n_,n_,n_,m_,m_] (fs 10) false
 |_=>mh false [] [] [] false
def Vs (G:Hp) (K:EK) (r:Rg) (h:Hp):Prop:=
 K .ret (u2 r 60 (r 0) 2 (r 0)) h
def Ag:Prop:=
 o_ G (binOp .add 3 (r 3) (.int .i64 1)) h fun v4 h4=>
 K .normal (u3 r 14 (r 3) 15 v4 3 v4) h4
def Hd:Prop:=
 o_ G (Instr.sliceAt 22 (r 0) (some (r 3)) none none) h fun v12 h12=>
 o_ G (Builtin.clear_ #[22] 0 #[v12]) h12 fun v13 h13=>
 o_ G (Instr.sliceAt 22 (r 0) none (some (r 3)) none) h13 fun v14 h14=>
 K .ret (u7 r 54 (r 0) 55 (r 3) 56 v12 57 (r 0) 58 (r 3) 59 v14 2 v14) h14
def pi:Prop:=
 o_ G (binOp .add 3 (r 5) (.int .i64 1)) h fun v17 h17=>
 K .normal (u3 r 33 (r 5) 34 v17 5 v17) h17
def ze:Prop:=
 p_ (Instr.indexAt 22 (r 4) (r 5)) h fun v18 h18=>
 w_ G h (Instr.loadAt 28 v18) h18 fun v19 h19=>
 p_ (binOp .sub 3 (r 5) (.int .i64 1)) h19 fun v20 h20=>
 p_ (Instr.indexAt 22 (r 4) v20) h20 fun v21 h21=>
 w_ G h (Instr.loadAt 28 v21) h21 fun v22 h22=>
 bo P_ G h (xEq .neq 28 (.tmp 0) (.tmp 0) v19 v22) h22 fun v23 h23=>
 cond v23
 (o_ G (Instr.indexAt 22 (r 4) (r 5)) h23 fun v24 h24=>
 o_ G (Instr.loadAt 28 v24) h24 fun v25 h25=>
 o_ G (Instr.indexAt 22 (r 0) (r 3)) h25 fun v26 h26=>
 opH P_ G (su (Instr.storeAt 28 v26 v25)) h26 fun v27 h27=>
 o_ G (binOp .add 3 (r 3) (.int .i64 1)) h27 fun v28 h28=>
 pi G K (u10 (u10 r 35 (r 4) 36 (r 5) 37 v18 38 v19 39 (r 4) 40 (r 5) 41 v20 42 v21 43 v22 44 v23) 45 (r 0) 46 (r 3) 47 (r 4) 48 (r 5) 49 v24 50 v25 51 v26 52 (r 3) 53 v28 3 v28) h28)
 (pi G K (u10 r 35 (r 4) 36 (r 5) 37 v18 38 v19 39 (r 4) 40 (r 5) 41 v20 42 v21 43 v22 44 v23) h23)
def Hc (r:Rg) (h:Hp) (K:EK):Prop:=
 o_ G (Builtin.len_ #[22] 3 #[(r 4)]) h fun v15 h15=>
 o_ G (binOp .lss 3 (r 5) v15) h15 fun v16 h16=>
 cond v16
 (ze G K (u4 r 29 (r 5) 30 (r 4) 31 v15 32 v16) h16)
 (K (.exit 2) (u4 r 29 (r 5) 30 (r 4) 31 v15 32 v16) h16)
def He:Prop:=
 p_ (Instr.indexAt 22 (r 0) (r 3)) h fun v5 h5=>
 w_ G h (Instr.loadAt 28 v5) h5 fun v6 h6=>
 p_ (binOp .sub 3 (r 3) (.int .i64 1)) h6 fun v7 h7=>
 p_ (Instr.indexAt 22 (r 0) v7) h7 fun v8 h8=>
 w_ G h (Instr.loadAt 28 v8) h8 fun v9 h9=>
 bo P_ G h (xEq .eql 28 (.tmp 0) (.tmp 0) v6 v9) h9 fun v10 h10=>
 cond v10
 (o_ G (Instr.sliceAt 22 (r 0) (some (r 3)) none none) h10 fun v11 h11=>
 bz (Hc G) (u5 (u10 r 16 (r 0) 17 (r 3) 18 v5 19 v6 20 (r 0) 21 (r 3) 22 v7 23 v8 24 v9 25 v10) 26 (r 0) 27 (r 3) 28 v11 4 v11 5 (.int .i64 1)) h11 (bh 2 (bq (Hd G K) (bh 1 (bq (Ag G K) K)))))
 (Ag G K (u10 r 16 (r 0) 17 (r 3) 18 v5 19 v6 20 (r 0) 21 (r 3) 22 v7 23 v8 24 v9 25 v10) h10)
def Vr (r:Rg) (h:Hp) (K:EK):Prop:=
 o_ G (Builtin.len_ #[22] 3 #[(r 0)]) h fun v2 h2=>
 o_ G (binOp .lss 3 (r 3) v2) h2 fun v3 h3=>
 cond v3
 (He G K (u4 r 10 (r 3) 11 (r 0) 12 v2 13 v3) h3)
 (K (.exit 0) (u4 r 10 (r 3) 11 (r 0) 12 v2 13 v3) h3)
def Vt:Prop:=
 bz (Vr G) (upd r 3 (.int .i64 1)) h (bh 0 (bq (Vs G K) K))
def S136:Prop:=
 o_ G (Builtin.len_ #[22] 3 #[(r 0)]) h fun v0 h0=>
 o_ G (binOp .lss 3 v0 (.int .i64 2)) h0 fun v1 h1=>
 (fun q=>cond v1
 (K .ret (u2 q 9 (r 0) 2 (r 0)) h1)
 (Vt G K q h1))
 (u4 r 2 (.slice none 0 0) 6 (r 0) 7 v0 8 v1)
theorem ai0:Ent 61 136 [.tmp 2] S136:=ent_ (m:=md136) (c:=(Tryz.f136.body.getD .skip)) (fun _ _ _ _=>by kernel_rfl) Tryz.func136 rfl rfl rfl
end
section
variable (G:Hp) (K:EK) (r:Rg) (h:Hp)
def md21:Nat→Hint
 |_=>mh false [] [] [] false
def S21:Prop:=
 o_ G (Instr.box 26 (r 0)) h fun v0 h0=>
 o_ G (Instr.fieldAt 26 v0 0) h0 fun v1 h1=>
 o_ G (Instr.loadAt 3 v1) h1 fun v2 h2=>
 o_ G (binOp .leq 3 v2 (.int .i64 6)) h2 fun v3 h3=>
 g_ v3 true (o_ G (Instr.fieldAt 26 v0 1) h3) h3 fun v4 h4=>
 g_ v3 true (o_ G (Instr.loadAt 3 v4) h4) h4 fun v5 h5=>
 g_ v3 true (o_ G (binOp .leq 3 v5 (.int .i64 6)) h5) h5 fun v6 h6=>
 opH P_ G (bf v3 v6 (.bool false)) h6 fun v7 h7=>
 g_ v7 true (o_ G (Instr.fieldAt 26 v0 14) h7) h7 fun v8 h8=>
 g_ v7 true (o_ G (Instr.loadAt 3 v8) h8) h8 fun v9 h9=>
 g_ v7 true (o_ G (binOp .leq 3 v9 (.int .i64 4000)) h9) h9 fun v10 h10=>
 opH P_ G (bf v7 v10 (.bool false)) h10 fun v11 h11=>
 g_ v11 true (o_ G (Instr.fieldAt 26 v0 7) h11) h11 fun v12 h12=>
 g_ v11 true (o_ G (Instr.loadAt 3 v12) h12) h12 fun v13 h13=>
 g_ v11 true (o_ G (binOp .leq 3 v13 (.int .i64 100)) h13) h13 fun v14 h14=>
 opH P_ G (bf v11 v14 (.bool false)) h14 fun v15 h15=>
 g_ v15 true (o_ G (Instr.fieldAt 26 v0 10) h15) h15 fun v16 h16=>
 g_ v15 true (o_ G (Instr.loadAt 3 v16) h16) h16 fun v17 h17=>
 g_ v15 true (o_ G (binOp .leq 3 v17 (.int .i64 200)) h17) h17 fun v18 h18=>
 opH P_ G (bf v15 v18 (.bool false)) h18 fun v19 h19=>
 g_ v19 true (o_ G (Instr.fieldAt 26 v0 11) h19) h19 fun v20 h20=>
 g_ v19 true (o_ G (Instr.loadAt 3 v20) h20) h20 fun v21 h21=>
 g_ v19 true (o_ G (binOp .leq 3 v21 (.int .i64 200)) h21) h21 fun v22 h22=>
 opH P_ G (bf v19 v22 (.bool false)) h22 fun v23 h23=>
 g_ v23 true (o_ G (Instr.fieldAt 26 v0 5) h23) h23 fun v24 h24=>
 g_ v23 true (o_ G (Instr.loadAt 23 v24) h24) h24 fun v25 h25=>
 g_ v23 true (o_ G (Builtin.len_ #[23] 3 #[v25]) h25) h25 fun v26 h26=>
 g_ v23 true (o_ G (binOp .leq 3 v26 (.int .i64 4)) h26) h26 fun v27 h27=>
 opH P_ G (bf v23 v27 (.bool false)) h27 fun v28 h28=>
 g_ v28 true (o_ G (Instr.loadAt 26 v0) h28) h28 fun v29 h29=>
 g_ v28 true (c_ G 38 #[v29] h29) h29 fun v30 h30=>
 opH P_ G (bf v28 v30 (.bool false)) h30 fun v31 h31=>
 K .ret (upd (u10 (u10 (u10 (u10 r 1 v0 2 (.bool false) 3 v1 4 v2 5 v3 6 v3 7 v4 8 v5 9 v6 10 v7) 11 v7 12 v8 13 v9 14 v10 15 v11 16 v11 17 v12 18 v13 19 v14 20 v15) 21 v15 22 v16 23 v17 24 v18 25 v19 26 v19 27 v20 28 v21 29 v22 30 v23) 31 v23 32 v24 33 v25 34 v26 35 v27 36 v28 37 v28 38 v29 39 v30 40 v31) 2 v31) h31
theorem enter21:Ent 41 21 [.tmp 2] S21:=ent_ (m:=md21) (c:=(Tryz.f21.body.getD .skip)) (fun _ _ _ _=>by kernel_rfl) Tryz.func21 rfl rfl rfl
end
def jv {α:Type} (p:Nat→Bool) (mk:Nat→α):Nat→Nat→List α
 |_,0=>[]
 |n,k+1=>if p n=true then mk n::jv p mk (n+1) k else jv p mk (n+1) k
section
theorem Cq:∀(n:Nat) (L:List Nat),L.Nodup→(∀x∈L,x<n)→L.length≤n
 |0,L,_,h=>by
   cases L with
   |nil=>simp
   |cons x L=>exact absurd (h x (.head _)) (by omega)
 |n+1,L,hn,h=>by
   by_cases hm:n∈L
   · have h1:=Cq n (L.erase n) (hn.erase n) (fun x hx=>by
       have h2:=h x (List.mem_of_mem_erase hx)
       have h3:x≠n:=(List.Nodup.mem_erase_iff hn).1 hx |>.1
       omega)
     rw [List.length_erase_of_mem hm]at h1
     have:=List.length_pos_of_mem hm
     omega
   · have:=Cq n L hn (fun x hx=>by
       have h2:=h x hx
       have h3:x≠n:=fun e=>hm (e▸hx)
       omega)
     omega

theorem yf {w k:Nat} {L:List Cell} (hn:L.Nodup) (h:∀c∈L,inW w k c=true):L.length≤w*k:=by
 have h1:=Cq (w*k) (L.map fun c=>c.2.toNat*w+c.1.toNat) ?_ ?_
 · simpa using h1
 · rw [List.nodup_iff_pairwise_ne,List.pairwise_map]
   rw [List.nodup_iff_pairwise_ne]at hn
   refine List.Pairwise.imp_of_mem ?_ hn
   intro a b ha hb hab e
   apply hab
   obtain ⟨a1,a2,a3,a4⟩:=iy.1 (h a ha)
   obtain ⟨b1,b2,b3,b4⟩:=iy.1 (h b hb)
   have hw:0<w:=by omega
   obtain ⟨x1,y1⟩:=(cellN (n:=b.2.toNat*w+b.1.toNat) hw (show a.1.toNat<w by omega)).1 e
   obtain ⟨x2,y2⟩:=(cellN (n:=b.2.toNat*w+b.1.toNat) hw (show b.1.toNat<w by omega)).1 rfl
   have e1:a.1.toNat=b.1.toNat:=by rw [x1,← x2]
   have e2:a.2.toNat=b.2.toNat:=by rw [y1,← y2]
   exact Prod.ext (by omega) (by omega)
 · intro x hx
   obtain ⟨c,hc,rfl⟩:=List.mem_map.1 hx
   exact (vx (h c hc)).2.2.2

section
variable {C:Conf}

theorem r5 (hw:av C.w 1 16=true) (hk:av C.h 1 16=true):C.w=(wC C:Int)∧C.h=(kC C:Int)∧1≤wC C∧wC C≤16∧1≤kC C∧kC C≤16:=by
 unfold av at hw hk
 simp only [Bool.and_eq_true,decide_eq_true_eq]at hw hk
 unfold wC kC
 omega

theorem od (hw:av C.w 1 16=true) (hk:av C.h 1 16=true) (c:Cell):inW (wC C) (kC C) c=inB C c:=by
 obtain ⟨e1,e2,_⟩:=r5 hw hk
 rw [Bool.eq_iff_iff,iy]
 unfold inB
 simp only [Bool.and_eq_true,decide_eq_true_eq]
 rw [e1,e2]
 constructor
 · rintro ⟨a,b,c,d⟩;exact ⟨a,c,b,d⟩
 · rintro ⟨a,b,c,d⟩;exact ⟨a,c,b,d⟩

theorem J2 {c:Cell} (h1:0≤c.1) (h2:0≤c.2):fAt (f0C C) c=if c∈C.bl then -1 else if c∈C.po then (C.po.idxOf c:Int)+1 else 0:=by
 have e:((c.1.toNat:Int),(c.2.toNat:Int))=c:=by rw [Int.toNat_of_nonneg h1,Int.toNat_of_nonneg h2]
 unfold fAt f0C kd
 rw [e]
 by_cases hb:c∈C.bl
 · rw [if_pos (List.mem_append_left _ hb),if_pos hb,List.idxOf_append,if_pos hb,if_pos (List.idxOf_lt_length_of_mem hb)]
 · rw [if_neg hb]
   by_cases hp:c∈C.po
   · rw [if_pos (List.mem_append_right _ hp),if_pos hp,List.idxOf_append,if_neg hb,if_neg (by omega)]
     omega
   · rw [if_neg (by simp [hb,hp]),if_neg hp]

theorem Tp (hw:av C.w 1 16=true) (hk:av C.h 1 16=true) (c:Cell):nq (wC C) (kC C) (f0C C) c=qq C c:=by
 unfold nq qq
 rw [od hw hk]
 cases hc:inB C c with
 |false=>rfl
 |true=>
   have hc':=hc
   rw [← od hw hk]at hc'
   obtain ⟨a1,a2,a3,a4⟩:=iy.1 hc'
   rw [J2 a1 a3]
   simp only [Bool.true_and]
   rw [Bool.eq_iff_iff]
   by_cases hb:c∈C.bl
   · simp [hb,List.count_eq_zero]
   · have:List.count c C.bl=0:=List.count_eq_zero.2 hb
     rw [if_neg hb]
     simp only [this,beq_self_eq_true,iff_true]
     split
     · simp;omega
     · simp

theorem Bj (hw:av C.w 1 16=true) (hk:av C.h 1 16=true) (p:Pose):dh (wC C) (kC C) (f0C C) p=yv C p:=by
 unfold dh yv
 rw [Tp hw hk,Tp hw hk]

theorem Mb (hw:av C.w 1 16=true) (hk:av C.h 1 16=true) {c:Cell} (hc:inB C c=true):sy (wC C) (kC C) (f0C C) c.1.toNat c.2.toNat=(decide (c∈C.bl)||jw C c):=by
 have hc':=hc
 rw [← od hw hk]at hc'
 obtain ⟨a1,a2,a3,a4⟩:=iy.1 hc'
 have e1:(c.1.toNat:Int)=c.1:=Int.toNat_of_nonneg a1
 have e2:(c.2.toNat:Int)=c.2:=Int.toNat_of_nonneg a3
 have hf:=J2 (C:=C) a1 a3
 unfold sy
 rw [Bj hw hk,Bj hw hk]
 rw [show f0C C c.1.toNat c.2.toNat=fAt (f0C C) c from rfl,hf]
 unfold yv east jw
 simp only [e1,e2]
 by_cases hb:c∈C.bl
 · simp [hb]
 · have ho:qq C (c.1,c.2)=true:=by
     unfold qq
     rw [show ((c.1,c.2):Cell)=c from rfl,hc]
     simp [List.count_eq_zero.2 hb]
   rw [if_neg hb,ho]
   have hne:((if c∈C.po then (C.po.idxOf c:Int)+1 else 0) == -1)=false:=by
     split
     · simp;omega
     · rfl
   rw [hne]
   simp [hb]

theorem Bf {c:Cell}:qb C c=true↔c∈C.ro.flatMap bw:=by
 unfold qb
 rw [List.any_eq_true,List.mem_flatMap]
 refine exists_congr fun p=>and_congr_right fun _=>?_
 rw [decide_eq_true_eq,← List.count_pos_iff]
 omega

theorem Za {c:Cell}:Fc C c<0↔c∉C.po:=by
 unfold Fc
 split
 · rename_i h;simp [h]<;>omega
 · rename_i h;simp [h]

theorem f1_at (hw:av C.w 1 16=true) (hk:av C.h 1 16=true) {c:Cell} (hc:inB C c=true):fAt (f1 (wC C) (kC C) (f0C C)) c=if c∈C.bl then -1 else if jw C c=true then (if c∈C.po then (C.po.idxOf c:Int)+1 else 0)else -2:=by
 have hc':=hc
 rw [← od hw hk]at hc'
 obtain ⟨a1,a2,a3,a4⟩:=iy.1 hc'
 unfold fAt f1
 rw [Mb hw hk hc,show f0C C c.1.toNat c.2.toNat=fAt (f0C C) c from rfl,J2 a1 a3]
 by_cases hb:c∈C.bl
 · simp [hb]
 · by_cases hs:jw C c=true
   · simp [hb,hs]
   · simp [hb,hs]

theorem f3_at (hw:av C.w 1 16=true) (hk:av C.h 1 16=true) {c:Cell} (hc:inB C c=true):fAt (f3C C) c=if qb C c=true then -2 else if c∈C.bl then -1 else if jw C c=true then (if c∈C.po then (C.po.idxOf c:Int)+1 else 0)else -2:=by
 have hc':=hc
 rw [← od hw hk]at hc'
 obtain ⟨a1,a2,a3,a4⟩:=iy.1 hc'
 have e:((c.1.toNat:Int),(c.2.toNat:Int))=c:=by rw [Int.toNat_of_nonneg a1,Int.toNat_of_nonneg a3]
 have h1:=f1_at hw hk hc
 unfold f3C fAt f2
 rw [e]
 by_cases hh:c∈C.ro.flatMap bw
 · rw [if_pos hh,if_pos (Bf.2 hh)]
 · rw [if_neg hh,if_neg (fun q=>hh (Bf.1 q))]
   exact h1

theorem E0 (hw:av C.w 1 16=true) (hk:av C.h 1 16=true) (c:Cell):(inW (wC C) (kC C) c=true∧fAt (f3C C) c=0)↔qn C c=true:=by
 rw [od hw hk]
 unfold qn qq
 cases hc:inB C c with
 |false=>simp
 |true=>
   rw [f3_at hw hk hc]
   simp only [Bool.true_and,true_and,Bool.and_eq_true,decide_eq_true_eq,beq_iff_eq,Bool.not_eq_true',Za,List.count_eq_zero]
   by_cases hh:qb C c=true
   · simp [hh]
   · have hh':qb C c=false:=by simpa using hh
     by_cases hb:c∈C.bl
     · simp [hh',hb]
     · by_cases hs:jw C c=true
       · by_cases hp:c∈C.po
         · simp [hh',hb,hs,hp];omega
         · simp [hh',hb,hs,hp]
       · have hs':jw C c=false:=by simpa using hs
         simp [hh',hb,hs']

theorem Td:(∀n∈[C.un,C.ac,C.sp,C.tu,C.ho,C.re],av n 1 1000=true)↔av C.un 1 1000=true∧av C.ac 1 1000=true∧av C.sp 1 1000=true∧av C.tu 1 1000=true∧av C.ho 1 1000=true∧av C.re 1 1000=true:=by
 simp only [List.mem_cons,List.not_mem_nil,or_false,forall_eq_or_imp,forall_eq]

theorem Ff:li C↔Wp C:=by
 constructor
 · intro M
   have hw:=M.laid.w
   have hk:=M.laid.h
   obtain ⟨e1,e2,w1,w2,k1,k2⟩:=r5 hw hk
   have hm:wC C*kC C≤16*16:=Nat.mul_le_mul w2 k2
   obtain ⟨s1,s2,s3,s4,s5,s6⟩:=Td.1 M.six
   have hnd:=List.nodup_append.1 M.laid.once
   have hall:=M.laid.all
   have hin:∀c∈C.bl++C.po,inB C c=true:=fun c hc=>by rw [← od hw hk];exact hall c hc
   have hpb:∀c∈C.po,jw C c=true:=fun c hc=>by
     have hcin:=hin c (List.mem_append_right _ hc)
     have hcw:=hall c (List.mem_append_right _ hc)
     obtain ⟨a1,a2,a3,a4⟩:=iy.1 hcw
     have hnb:c∉C.bl:=fun hb=>hnd.2.2 c hb c hc rfl
     have hkeep:=Mb hw hk hcin
     cases hs:jw C c with
     |true=>rfl
     |false=>
       exfalso
       have:=M.rob.plain c.1.toNat c.2.toNat (by omega) (by omega) (by rw [hkeep,hs];simp [hnb])
       rw [show f0C C c.1.toNat c.2.toNat=fAt (f0C C) c from rfl,J2 a1 a3,if_neg hnb,if_pos hc]at this
       omega
   refine ⟨?_,M.laid.po8,M.rob.r8,?_,fun c hc=>⟨hin c (List.mem_append_left _ hc),List.nodup_iff_count.1 hnd.1 c,List.count_eq_zero.2 fun hp=>hnd.2.2 c hc c hp rfl⟩,
     fun c hc=>⟨hin c (List.mem_append_right _ hc),List.nodup_iff_count.1 hnd.2.1 c,?_,hpb c hc⟩,fun p hp=>by rw [← Bj hw hk];exact M.rob.fit p hp,fun c _=>List.nodup_iff_count.1 M.rob.once c,?_⟩
   · unfold mx
     simp [hw,hk,M.ht,M.qu,M.bu,s1,s2,s3,s4,s5,s6]
   · have:=yf (w:=wC C) (k:=kC C) hnd.1 (fun c hc=>hall c (List.mem_append_left _ hc))
     omega
   · cases hh:qb C c with
     |false=>rfl
     |true=>
       exfalso
       have:=M.rob.low c (Bf.1 hh)
       rw [f1_at hw hk (hin c (List.mem_append_right _ hc)),if_neg (fun hb=>hnd.2.2 c hb c hc rfl),if_pos (hpb c hc),if_pos hc]at this
       omega
   · refine ⟨?_,fun s hs=>?_,M.sta.apart,M.sta.most,M.sta.nums,M.sta.once⟩
     · have:=yf (w:=wC C) (k:=kC C) M.sta.apart (fun c hc=>by
         obtain ⟨s,hs,rfl⟩:=List.mem_map.1 hc
         exact (M.sta.each s hs).1)
       rw [List.length_map]at this
       omega
     · obtain ⟨q1,q2,q3⟩:=M.sta.each s hs
       exact ⟨(E0 hw hk s.1).1 ⟨q1,q2⟩,q3⟩
 · intro M
   have hn:=M.nums
   unfold mx at hn
   simp only [Bool.and_eq_true]at hn
   obtain ⟨hw,hk,hht,s1,s2,s3,s4,s5,s6,hqu,hbu⟩:=hn
   obtain ⟨e1,e2,w1,w2,k1,k2⟩:=r5 hw hk
   have hin:∀c∈C.bl++C.po,inW (wC C) (kC C) c=true:=fun c hc=>by
     rw [od hw hk]
     rcases List.mem_append.1 hc with h|h
     · exact (M.blk c h).1
     · exact (M.prt c h).1
   have hnb:C.bl.Nodup:=List.nodup_iff_count.2 fun c=>by
     by_cases hc:c∈C.bl
     · exact (M.blk c hc).2.1
     · rw [List.count_eq_zero.2 hc];omega
   have hnp:C.po.Nodup:=List.nodup_iff_count.2 fun c=>by
     by_cases hc:c∈C.po
     · exact (M.prt c hc).2.1
     · rw [List.count_eq_zero.2 hc];omega
   have hdis:∀a∈C.bl,∀b∈C.po,a≠b:=fun a ha b hb e=>by
     have:=(M.blk a ha).2.2
     rw [List.count_eq_zero]at this
     exact this (e▸hb)
   have hnd:(C.bl++C.po).Nodup:=List.nodup_append.2 ⟨hnb,hnp,hdis⟩
   have hlaid:Nx C:=⟨hw,hk,M.po8,by
     have:=yf (w:=wC C) (k:=kC C) hnb (fun c hc=>hin c (List.mem_append_left _ hc))
     rw [e1,e2,← Int.natCast_mul];omega,hin,hnd⟩
   have hro:∀c∈C.ro.flatMap bw,inB C c=true∧c∉C.bl:=fun c hc=>by
     obtain ⟨p,hp,hcp⟩:=List.mem_flatMap.1 hc
     have hf:=M.fit p hp
     rw [← Bj hw hk]at hf
     obtain ⟨q1,q2⟩:=qt hf c hcp
     obtain ⟨a1,a2,a3,a4⟩:=iy.1 q1
     refine ⟨by rw [← od hw hk];exact q1,fun hb=>q2 ?_⟩
     rw [J2 a1 a3,if_pos hb]
   refine ⟨Td.2 ⟨s1,s2,s3,s4,s5,s6⟩,hht,hqu,hbu,hlaid,⟨M.ro8,fun x y hx hy hkp=>?_,fun p hp=>by rw [Bj hw hk];exact M.fit p hp,fun c hc=>?_,?_⟩,⟨fun s hs=>?_,M.bins.apart,M.bins.nums,M.bins.once,M.bins.most⟩⟩
   · have hcw:inW (wC C) (kC C) ((x:Int),(y:Int))=true:=iy.2 ⟨by simp,by simpa using hx,by simp,by simpa using hy⟩
     have hcb:=hcw
     rw [od hw hk]at hcb
     have hkeep:=Mb hw hk hcb
     simp only [Int.toNat_natCast]at hkeep
     rw [hkp]at hkeep
     have h0:=J2 (C:=C) (c:=((x:Int),(y:Int))) (by simp) (by simp)
     unfold fAt at h0
     simp only [Int.toNat_natCast]at h0
     rw [h0]
     by_cases hp:((x:Int),(y:Int))∈C.po
     · have:=(M.prt _ hp).2.2.2
       rw [this]at hkeep
       simp at hkeep
     · rw [if_neg hp]
       split<;>omega
   · obtain ⟨q1,q2⟩:=hro c hc
     rw [f1_at hw hk q1,if_neg q2]
     split
     · have hnp':c∉C.po:=fun hp=>by
         have:=(M.prt c hp).2.2.1
         rw [Bf.2 hc]at this
         cases this
       rw [if_neg hnp']
       exact Int.le_refl _
     · omega
   · exact List.nodup_iff_count.2 fun c=>by
       by_cases hc:c∈C.ro.flatMap bw
       · exact M.once c hc
       · rw [List.count_eq_zero.2 hc];omega
   · obtain ⟨q1,q2⟩:=M.bins.each s hs
     obtain ⟨q3,q4⟩:=(E0 hw hk s.1).2 q1
     exact ⟨q3,q4,q2⟩
end
end
section
variable {C:Conf}

theorem num_eq (m:li C) (c:Cell):numI (wC C) (kC C) c=numR C c:=by
 unfold numI numR
 rw [od m.laid.w m.laid.h,(r5 m.laid.w m.laid.h).1]
end

section
variable {C:Conf}

theorem Jb {α:Type} {p:Nat→Bool} {mk:Nat→α} {n k:Nat}:jv p mk n (k+1)=if p n=true then mk n::jv p mk (n+1) k else jv p mk (n+1) k:=rfl
end
def dp:List Cell→List Cell
 |[]=>[]
 |a::L=>match L with
   |[]=>[a]
   |b::_=>if a=b then dp L else a::dp L

theorem mi {a b:Cell} {L:List Cell}:dp (a::b::L)=if a=b then dp (b::L)else a::dp (b::L):=rfl

theorem Du {x:Cell}:∀{L:List Cell},x∈dp L↔x∈L:=by
 intro L
 induction L with
 |nil=>exact Iff.rfl
 |cons a L ih=>
   cases L with
   |nil=>exact Iff.rfl
   |cons b L=>
     rw [mi]
     by_cases h:a=b
     · rw [if_pos h,ih]
       subst h
       simp
     · rw [if_neg h,List.mem_cons,ih,List.mem_cons (a:=x) (b:=a)]

theorem F8 {n:Cell→Int} (inj:∀{L:List Cell},True):∀{L:List Cell},(∀a∈L,∀b∈L,n a=n b→a=b)→L.Pairwise (fun a b=>n a≤n b)→(dp L).Pairwise (fun a b=>n a<n b):=by
 intro L
 induction L with
 |nil=>intro _ _;exact .nil
 |cons a L ih=>
   intro hi hp
   obtain ⟨h1,h2⟩:=List.pairwise_cons.1 hp
   cases L with
   |nil=>exact List.pairwise_singleton _ _
   |cons b L=>
     have rest:=ih (fun x hx y hy=>hi x (.tail _ hx) y (.tail _ hy)) h2
     rw [mi]
     by_cases h:a=b
     · rw [if_pos h];exact rest
     · rw [if_neg h]
       refine List.pairwise_cons.2 ⟨fun x hx=>?_,rest⟩
       rw [Du]at hx
       have hab:n a<n b:=by
         have:=h1 b (.head _)
         have:n a≠n b:=fun e=>h (hi a (.head _) b (.tail _ (.head _)) e)
         omega
       rcases List.mem_cons.1 hx with rfl|hx'
       · exact hab
       · have:=(List.pairwise_cons.1 h2).1 x hx';omega

theorem Q5 {n:Cell→Int}:∀{L M:List Cell},L.Pairwise (fun a b=>n a<n b)→M.Pairwise (fun a b=>n a<n b)→(∀x,x∈L↔x∈M)→L=M:=by
 intro L
 induction L with
 |nil=>
   intro M _ _ h
   cases M with
   |nil=>rfl
   |cons a M=>exact absurd ((h a).2 (.head _)) (by simp)
 |cons a L ih=>
   intro M hL hM h
   cases M with
   |nil=>exact absurd ((h a).1 (.head _)) (by simp)
   |cons b M=>
     obtain ⟨l1,l2⟩:=List.pairwise_cons.1 hL
     obtain ⟨m1,m2⟩:=List.pairwise_cons.1 hM
     have e:a=b:=by
       rcases List.mem_cons.1 ((h a).1 (.head _))with e|e
       · exact e
       · rcases List.mem_cons.1 ((h b).2 (.head _))with e'|e'
         · exact e'.symm
         · have:=m1 a e;have:=l1 b e';omega
     subst e
     rw [ih l2 m2 fun x=>?_]
     constructor
     · intro hx
       rcases List.mem_cons.1 ((h x).1 (.tail _ hx))with rfl|h2
       · have:=l1 _ hx;omega
       · exact h2
     · intro hx
       rcases List.mem_cons.1 ((h x).2 (.tail _ hx))with rfl|h2
       · have:=m1 _ hx;omega
       · exact h2

def zm (w k:Nat) (W:List Cell):List Cell:=pt (fun y=>jv (fun x=>decide ((((x:Nat):Int),((y:Nat):Int))∈W)) (fun x=>(((x:Nat):Int),((y:Nat):Int))) 0 w) 0 k
def numW (w:Nat) (c:Cell):Int:=c.2*w+c.1

theorem A0 {α:Type} {p:Nat→Bool} {mk:Nat→α} {x:α}:∀{k n:Nat},x∈jv p mk n k↔∃j,n≤j∧j<n+k∧p j=true∧x=mk j:=by
 intro k
 induction k with
 |zero=>intro n;simp [jv];intro j h1 h2;omega
 |succ k ih=>
   intro n
   rw [Jb]
   constructor
   · intro h
     split at h
     · rename_i hp
       rcases List.mem_cons.1 h with rfl|h'
       · exact ⟨n,Nat.le_refl _,by omega,hp,rfl⟩
       · obtain ⟨j,a,b,c,e⟩:=ih.1 h'
         exact ⟨j,by omega,by omega,c,e⟩
     · obtain ⟨j,a,b,c,e⟩:=ih.1 h
       exact ⟨j,by omega,by omega,c,e⟩
   · rintro ⟨j,a,b,c,rfl⟩
     by_cases hj:j=n
     · subst hj
       rw [if_pos c]
       exact .head _
     · have:=(ih (n:=n+1)).2 ⟨j,by omega,by omega,c,rfl⟩
       split
       · exact .tail _ this
       · exact this

theorem pick_pw {α:Type} {p:Nat→Bool} {mk:Nat→α} {R:α→α→Prop} (h:∀i j,i<j→R (mk i) (mk j)):∀{k n:Nat},(jv p mk n k).Pairwise R:=by
 intro k
 induction k with
 |zero=>intro n;exact .nil
 |succ k ih=>
   intro n
   rw [Jb]
   split
   · refine List.pairwise_cons.2 ⟨fun x hx=>?_,ih⟩
     obtain ⟨j,a,_,_,rfl⟩:=A0.1 hx
     exact h n j (by omega)
   · exact ih

theorem I5 {w k:Nat} {W:List Cell} {x:Cell}:x∈zm w k W↔(0≤x.1∧x.1<w∧0≤x.2∧x.2<k)∧x∈W:=by
 unfold zm
 suffices H:∀(n i:Nat),x∈pt (fun y=>jv (fun x=>decide ((((x:Nat):Int),((y:Nat):Int))∈W)) (fun x=>(((x:Nat):Int),((y:Nat):Int))) 0 w) i n↔∃y,i≤y∧y<i+n∧x∈jv (fun x=>decide ((((x:Nat):Int),((y:Nat):Int))∈W)) (fun x=>(((x:Nat):Int),((y:Nat):Int))) 0 w by
   rw [H]
   constructor
   · rintro ⟨y,_,h2,h3⟩
     obtain ⟨j,_,j2,j3,rfl⟩:=A0.1 h3
     exact ⟨⟨by simp,by simp;omega,by simp,by simp;omega⟩,by simpa using j3⟩
   · rintro ⟨⟨a,b,c,d⟩,h⟩
     obtain ⟨x1,x2⟩:=x
     refine ⟨x2.toNat,by omega,by simp at d c;omega,A0.2 ⟨x1.toNat,by omega,by simp at a b;omega,?_,?_⟩⟩
     · simp only at a c
       rw [show ((x1.toNat:Nat):Int)=x1 by omega,show ((x2.toNat:Nat):Int)=x2 by omega]
       simpa using h
     · simp only at a c
       rw [show ((x1.toNat:Nat):Int)=x1 by omega,show ((x2.toNat:Nat):Int)=x2 by omega]
 intro n
 induction n with
 |zero=>intro i;simp [pt];intro y h1 h2;omega
 |succ n ih=>
   intro i
   rw [pt,List.mem_append,ih]
   constructor
   · rintro (h|⟨y,a,b,c⟩)
     · exact ⟨i,Nat.le_refl _,by omega,h⟩
     · exact ⟨y,by omega,by omega,c⟩
   · rintro ⟨y,a,b,c⟩
     by_cases e:y=i
     · subst e;exact .inl c
     · exact .inr ⟨y,by omega,by omega,c⟩

theorem Ap {w k:Nat} {W:List Cell}:(zm w k W).Pairwise (fun a b=>numW w a<numW w b):=by
 unfold zm
 suffices H:∀(n i:Nat),(pt (fun y=>jv (fun x=>decide ((((x:Nat):Int),((y:Nat):Int))∈W)) (fun x=>(((x:Nat):Int),((y:Nat):Int))) 0 w) i n).Pairwise (fun a b=>numW w a<numW w b)∧
     ∀x∈pt (fun y=>jv (fun x=>decide ((((x:Nat):Int),((y:Nat):Int))∈W)) (fun x=>(((x:Nat):Int),((y:Nat):Int))) 0 w) i n,((i*w:Nat):Int)≤numW w x from (H k 0).1
 intro n
 induction n with
 |zero=>intro i;exact ⟨.nil,fun _ h=>by cases h⟩
 |succ n ih=>
   intro i
   rw [pt]
   obtain ⟨h1,h2⟩:=ih (i+1)
   have hrow:∀x∈jv (fun x=>decide ((((x:Nat):Int),((i:Nat):Int))∈W)) (fun x=>(((x:Nat):Int),((i:Nat):Int))) 0 w,((i*w:Nat):Int)≤numW w x∧numW w x<(((i+1)*w:Nat):Int):=by
     intro x hx
     obtain ⟨j,_,j2,_,rfl⟩:=A0.1 hx
     unfold numW
     simp only
     have e1:(((i+1)*w:Nat):Int)=((i*w:Nat):Int)+(w:Int):=by rw [Nat.succ_mul];push_cast;rfl
     have e2:((i:Nat):Int)*(w:Int)=((i*w:Nat):Int):=by push_cast;rfl
     rw [e1,e2]
     omega
   refine ⟨List.pairwise_append.2 ⟨pick_pw fun a b hab=>?_,h1,fun a ha b hb=>?_⟩,fun x hx=>?_⟩
   · unfold numW
     simp only
     omega
   · have:=(hrow a ha).2
     have:=h2 b hb
     omega
   · rcases List.mem_append.1 hx with h|h
     · exact (hrow x h).1
     · have:=h2 x h
       have e1:(((i+1)*w:Nat):Int)=((i*w:Nat):Int)+(w:Int):=by rw [Nat.succ_mul];push_cast;rfl
       omega

theorem Ix {w k:Nat} {W S:List Cell} (hw:0<w) (hin:∀c∈W,0≤c.1∧c.1<w∧0≤c.2∧c.2<k) (hp:S.Perm W) (hs:S.Pairwise fun a b=>numW w a≤numW w b):dp S=zm w k W:=by
 refine Q5 (n:=numW w) (F8 (fun {_}=>trivial) (fun a ha b hb e=>?_) hs) Ap fun x=>?_
 · obtain ⟨a1,a2,a3,a4⟩:=hin a (hp.mem_iff.1 ha)
   obtain ⟨b1,b2,b3,b4⟩:=hin b (hp.mem_iff.1 hb)
   obtain ⟨x,y⟩:=a
   obtain ⟨x',y'⟩:=b
   unfold numW at e
   simp only at*
   have ey:y=y':=by
     rcases Int.lt_trichotomy y y' with h|h|h
     · have:(y+1)*(w:Int)≤y'*w:=Int.mul_le_mul_of_nonneg_right (by omega) (by omega)
       rw [Int.add_mul,Int.one_mul]at this
       omega
     · exact h
     · have:(y'+1)*(w:Int)≤y*w:=Int.mul_le_mul_of_nonneg_right (by omega) (by omega)
       rw [Int.add_mul,Int.one_mul]at this
       omega
   subst ey
   rw [show x=x' by omega]
 · rw [Du,I5,hp.mem_iff]
   exact ⟨fun h=>⟨hin x h,h⟩,fun h=>h.2⟩
def ie:=jq bC (jq (jq @Bool.and_true (jq @Un @ix22)) (jq (jq @ld28 @we) (jq @ln22 @ne28p)))
theorem Ya {P:Program} {G h:Hp} {α:Type} (c:Cod α) (d0:α) {T e:TypeId} (hu:P.underlying T=some (.slice e)) (hn:0<c.n) (hz:((P.info? e).bind (·.zero)).map (·.cells.toList)=some (c.enc d0)) {ty:TypeId} {b off n cap:Nat} {l:List Value} {e':TypeId}
   (hb:h b=some (.cells l.toArray e' (0,0))) (h0:0<n) (hfit:off+n*c.n≤l.length) {K:VK}
   (H:∀l':List Value,l'.length=l.length→l'.take off=l.take off→K (.tuple #[]) (h.set b (.cells l'.toArray e' (0,0)))):
   wpH P G (Builtin.clear_ #[T] ty #[.slice (some ⟨b,off,none⟩) n cap]) h K:=by
 cases hi:P.info? e with
 |none=>rw [hi]at hz;cases hz
 |some inf=>
 rw [hi]at hz
 simp only [Option.bind_some]at hz
 cases hzz:inf.zero with
 |none=>rw [hzz]at hz;cases hz
 |some z=>
 rw [hzz]at hz
 simp only [Option.map_some,Option.some.injEq]at hz
 obtain ⟨n',rfl⟩:∃n',n=n'+1:=⟨n-1,by omega⟩
 have hrow:=vk c d0 (n'+1) z.cells hz.symm hn
 have hsz:z.cells.size=c.n:=by rw [← Array.length_toList,hz,c.len]
 have hcells:(Builtin.zeroCells z.cells (n'+1)).toList=c.rows (List.replicate (n'+1) d0):=by
   refine Eq.trans ?_ ((congrArg Array.toList hrow).trans (by simp))
   rw [← hsz]
   rfl
 have key:wpH P G (storeCells ⟨b,off,none⟩ (c.rows (List.replicate (n'+1) d0))) h (fun _ h'=>K (.tuple #[]) h'):=by
   rw [jy _ (k:=0) hb (by rw [c.rows_length,List.length_replicate];omega) (c.rows_one _)]
   exact H _ (vo _ _ _) (by
     rw [qf _ _ _ (by rw [c.rows_length,List.length_replicate];omega),List.append_assoc,List.take_append_of_le_length (by rw [List.length_take];omega),Nat.add_zero,List.take_take,Nat.min_self])
 unfold Builtin.clear_ underlying
 simp only [List.getElem?_toArray,List.getElem?_cons_zero,bind,bn,program,wpH,hu,pure]
 simp only [zeroValue,typeInfo,program,bind,bn,wpH,hi,hzz,pure]
 rw [hcells]
 exact key

theorem J6 {y x:Cell}:∀{T:List Cell},dp (T++[y,x])=if y=x then dp (T++[y])else dp (T++[y])++[x]
 |[]=>by
   show dp (y::[x])=if y=x then dp [y]else dp [y]++[x]
   rw [mi]
   by_cases h:y=x<;>simp [h,dp]
 |[a]=>by
   show dp (a::y::[x])=if y=x then dp (a::y::[])else dp (a::y::[])++[x]
   simp only [mi]
   by_cases h1:a=y<;>by_cases h2:y=x<;>simp [h1,h2,dp]
 |a::b::T=>by
   show dp (a::b::(T++[y,x]))=if y=x then dp (a::b::(T++[y]))else dp (a::b::(T++[y]))++[x]
   rw [mi,mi]
   have ih:=J6 (y:=y) (x:=x) (T:=b::T)
   simp only [List.cons_append]at ih
   rw [ih]
   by_cases h1:a=b<;>by_cases h2:y=x<;>simp [h1,h2]
theorem yg {L:List Cell} {k:Nat} {y x:Cell} (hk:1≤k) (hy:L[k-1]?=some y) (hx:L[k]?=some x):dp (L.take (k+1))=if y=x then dp (L.take k)else dp (L.take k)++[x]:=by
 obtain ⟨j,rfl⟩:∃j,k=j+1:=⟨k-1,by omega⟩
 rw [Nat.add_sub_cancel]at hy
 rw [List.take_add_one,List.take_add_one,hx,hy]
 simp only [Option.toList,List.append_assoc,List.cons_append,List.nil_append]
 exact J6
theorem F9 {L:List Cell} (h:L.length<2):dp L=L:=by
 match L,h with
 |[],_=>rfl
 |[a],_=>rfl

theorem st_elem {G h:Hp} {b i:Nat} {M:List Cell} {t:List Value} {x:Cell} {K:Unit→Hp→Prop} (hb:h b=some (.cells (cj.rows M++t).toArray 28 (0,0))) (hi:i<M.length):
   wpH P_ G (Instr.storeAt 28 (.pointer (some ⟨b,i*2,none⟩)) (.agg #[.int .i64 x.1,.int .i64 x.2])) h K=K () (h.set b (.cells (cj.rows (M.set i x)++t).toArray 28 (0,0))):=by
 rw [qm (n:=2) sz28 hb rfl (by rw [List.length_append,cj.rows_length,show cj.n=2 from rfl];omega) (by intro v hv;simp [Value.cells]at hv;rcases hv with rfl|rfl<;>rfl)]
 have:=cj.rows_put (t:=t) (x:=x) hi
 rw [← this]
 rfl
theorem Oh {G h:Hp} {b:Nat} {M:List Cell} {t:List Value} (hb:HL.look G h b=some (.cells (cj.rows M++t).toArray 28 (0,0))) {i:Nat} {x:Cell} (hx:M[i]?=some x):aa G h ⟨b,i*2,none⟩=some (.int .i64 x.1)∧aa G h ⟨b,i*2+1,none⟩=some (.int .i64 x.2):=by
 have g0:=cj.rows_get (t:=t) hx (j:=0) (by decide)
 have g1:=cj.rows_get (t:=t) hx (j:=1) (by decide)
 rw [show cj.n=2 from rfl]at g0 g1
 exact ⟨(ai hb).trans g0,(ai hb).trans g1⟩

theorem Mp {G h a:Hp} {R:List Hp} {v:Value} {L:List Cell} (s:HL.Sep (a::R) h) (o:Slc cj 28 a v L) (hL:L.length≤100000):aj P_ G 136 #[v] h (fun u h'=>∃a',Slc cj 28 a' u (dp L)∧HL.Sep (a'::R) h'∧Dis G h'):=by
 refine aj.assume fun d=>ai0 (by simp) ?_
 unfold S136
 obtain ⟨sa,cap,rfl,hcap⟩:=o.len (by decide)
 simp only [ie]
 refine ax (fun hlt=>?_) (fun hge=>?_)
 · try simp (disch:=first|decide|omega) only [ie,Nat.reduceAdd,Nat.reduceMul]
   exact ⟨a,by rw [F9 (by omega)];exact o,s,d⟩
 unfold Vt
 obtain ⟨ob,o'⟩:=id o
 cases ob with
 |none=>exact absurd o'.2 (fun e=>by rw [e]at hge;simp at hge)
 |some b=>
 obtain ⟨cap',t,e9,hb,hbl⟩:=o'
 simp only [Value.slice.injEq,true_and]at e9
 obtain ⟨rfl,rfl⟩:=e9
 have hbh:=s.at 0 rfl hb
 have rd:=fun {i:Nat} {x:Cell} (hx:L[i]?=some x)=>Oh (G:=G) (ag hbh) hx
 try simp (disch:=first|decide|omega) only [ie,Nat.reduceAdd,Nat.reduceMul]
 generalize hKK:retK P_ G _ _=KK
 refine bv (fun m q h3=>∃k:Nat,m=L.length-k∧1≤k∧k≤L.length∧q 0 = .slice (some ⟨b,0,none⟩) L.length cap∧q 3 = .int .i64 k∧h3=h∧dp (L.take k)=L.take k) ?_
   (m:=L.length-1) ⟨1,rfl,Nat.le_refl _,by omega,by simp (disch:=decide) only [ie],by simp only [ie]<;>rfl,rfl,F9 (by rw [List.length_take];omega)⟩
 rintro m q h3 ⟨k,rfl,h1,hk,q0,q3,rfl,hc⟩ X HX
 unfold Vr
 simp only [ie,q0,q3]
 refine ax (fun hlt=>?_) (fun hge2=>?_)
 rotate_left
 · obtain rfl:k=L.length:=by omega
   rw [List.take_of_length_le (Nat.le_refl _)]at hc
   try simp (disch:=first|decide|omega) only [ie,Nat.reduceAdd,Nat.reduceMul]
   unfold Vs
   rw [← hKK]
   try simp (disch:=decide) only [ie,q0]
   exact ⟨a,by rw [hc];exact o,s,d⟩
 obtain ⟨x,hx⟩:∃x,L[k]?=some x:=⟨_,List.getElem?_eq_getElem (by omega)⟩
 obtain ⟨y,hy⟩:∃y,L[k-1]?=some y:=⟨_,List.getElem?_eq_getElem (by omega)⟩
 obtain ⟨x0,x1⟩:=rd hx
 obtain ⟨y0,y1⟩:=rd hy
 have ek:(k:Int)-1=((k-1:Nat):Int):=by omega
 unfold He
 try simp (disch:=first|decide|omega) only [ie,q0,q3,ek,qa (Int.natCast_nonneg k) hlt,qa (Int.natCast_nonneg (k-1)) (show ((k-1:Nat):Int)<(L.length:Nat)by omega),Int.toNat_natCast,x0,x1,y0,y1,wv]
 refine me (fun hb2=>?_) (fun hb2=>?_)
 rotate_left
 · unfold Ag
   try simp (disch:=first|decide|omega) only [ie,q3]
   refine HX (L.length-(k+1)) _ _ (by omega) ⟨k+1,rfl,by omega,by omega,by simp (disch:=decide) only [ie,q0],by simp only [ie]<;>rfl,rfl,?_⟩
   rw [yg h1 hy hx,if_neg (fun e=>by rw [e,beq_self_eq_true]at hb2;cases hb2),hc,List.take_add_one,hx]
   rfl
 have exy:y=x:=(eq_of_beq hb2).symm
 try simp (disch:=first|decide|omega) only [ie,Nat.reduceAdd,Nat.reduceMul,q0,q3]
 rw [ls un22 sz28 (by omega) (by omega) hcap]
 rw [Int.toNat_natCast,if_neg (show ¬cap=k by omega),lh,Nat.zero_add]
 have hmax:(cj.rows L++t).length=cap*2:=hbl
 try simp (disch:=first|decide|omega) only [ie,Nat.reduceAdd,Nat.reduceMul]
 refine bv (fun m q h4=>∃(w j:Nat) (M:List Cell) (a:Hp),m=L.length-j∧k≤w∧w<j∧k+1≤j∧j≤L.length∧M.length=L.length∧q 0 = .slice (some ⟨b,0,none⟩) L.length cap∧q 3 = .int .i64 w∧q 4 = .slice (some ⟨b,k*2,none⟩) (L.length-k) (cap-k)∧q 5 = .int .i64 (((j-k:Nat):Nat):Int)∧
     a b=some (.cells (cj.rows M++t).toArray 28 (0,0))∧HL.Sep (a::R) h4∧Dis G h4∧M.take w=dp (L.take j)∧∀p,j-1≤p→M[p]?=L[p]?) ?_
   (m:=L.length-(k+1)) ⟨k,k+1,L,a,rfl,Nat.le_refl _,by omega,Nat.le_refl _,by omega,rfl,by simp (disch:=decide) only [ie,q0],by simp (disch:=decide) only [ie,q3],by simp (disch:=decide) only [ie],by simp only [ie]<;>(rw [show k+1-k=1 by omega];rfl),hb,s,d,by rw [yg h1 hy hx,if_pos exy,hc],fun p _=>rfl⟩
 clear HX q0 q3 x0 x1 y0 y1 hc hx hy exy hb2 ek rd hbh hb o s d
 rintro m q h4 ⟨w,j,M,a,rfl,hkw,hwj,hkj,hj,hM,q0,q3,q4,q5,hb,s,d,htk,hsame⟩ X HX
 have hbh:=s.at 0 rfl hb
 have rd:=fun {i:Nat} {x:Cell} (hx:M[i]?=some x)=>Oh (G:=G) (ag hbh) hx
 unfold Hc
 simp only [ie,q4,q5]
 refine ax (fun hlt2=>?_) (fun hge3=>?_)
 · obtain ⟨x,hx⟩:∃x,L[j]?=some x:=⟨_,List.getElem?_eq_getElem (by omega)⟩
   obtain ⟨y,hy⟩:∃y,L[j-1]?=some y:=⟨_,List.getElem?_eq_getElem (by omega)⟩
   obtain ⟨x0,x1⟩:=rd ((hsame j (by omega)).trans hx)
   obtain ⟨y0,y1⟩:=rd ((hsame (j-1) (Nat.le_refl _)).trans hy)
   have ej:j*2=k*2+(j-k)*2:=by omega
   have ej1:(j-1)*2=k*2+(j-k-1)*2:=by omega
   rw [ej]at x0 x1
   rw [ej1]at y0 y1
   have e5:(((j-k:Nat):Nat):Int)-1=((j-k-1:Nat):Int):=by omega
   unfold ze
   try simp (disch:=first|decide|omega) only [ie,q4,q5,e5,qa (Int.natCast_nonneg (j-k)) hlt2,qa (Int.natCast_nonneg (j-k-1)) (show ((j-k-1:Nat):Int)<((L.length-k:Nat):Int)by omega),Int.toNat_natCast,x0,x1,y0,y1,wv]
   have nxt:(((j-k:Nat):Nat):Int)+1=((j+1-k:Nat):Int):=by omega
   cases hxy:(x==y)with
   |true=>
     try simp only [ie]
     unfold pi
     try simp (disch:=first|decide|omega) only [ie,q5]
     refine HX (L.length-(j+1)) _ _ (by omega) ⟨w,j+1,M,a,rfl,hkw,by omega,by omega,by omega,hM,by simp (disch:=decide) only [ie,q0],by simp (disch:=decide) only [ie,q3],by simp (disch:=decide) only [ie,q4],by simp only [ie]<;>rw [nxt],hb,s,d,?_,fun p hp=>hsame p (by omega)⟩
     rw [htk,yg (by omega) hy hx,if_pos (eq_of_beq hxy).symm]
   |false=>
     have hwl:(w:Int)<(L.length:Nat):=by omega
     try simp (disch:=first|decide|omega) only [ie,q0,q3,q4,q5,ix22 (Int.natCast_nonneg (j-k)) hlt2,ix22 (Int.natCast_nonneg w) hwl,Int.toNat_natCast,x0,x1]
     rw [st_elem (x:=x) hbh (by omega)]
     have s5:=s.put (o := .cells (cj.rows (M.set w x)++t).toArray 28 (0,0)) hb
     have d5:=d.set (o := .cells (cj.rows (M.set w x)++t).toArray 28 (0,0)) (d _ _ hbh)
     generalize Hp.set h4 b _=h5 at s5 d5 ⊢
     try simp (disch:=first|decide|omega) only [ie,Nat.reduceAdd,Nat.reduceMul,q3]
     unfold pi
     try simp (disch:=first|decide|omega) only [ie,q5]
     refine HX (L.length-(j+1)) _ _ (by omega) ⟨w+1,j+1,M.set w x,_,rfl,by omega,by omega,by omega,by omega,by rw [List.length_set,hM],by simp (disch:=decide) only [ie,q0],by simp (disch:=decide) only [ie]<;>rfl,by simp (disch:=decide) only [ie,q4],by simp only [ie]<;>rw [nxt],af,s5,d5,?_,fun p hp=>?_⟩
     · rw [yg (by omega) hy hx,if_neg (fun e=>by rw [e,beq_self_eq_true]at hxy;cases hxy),← htk,List.take_add_one,List.getElem?_set_self (by omega),List.take_set_of_le (Nat.le_refl _)]
       rfl
     · rw [List.getElem?_set_ne (by omega)]
       exact hsame p (by omega)
 · obtain rfl:j=L.length:=by omega
   rw [List.take_of_length_le (Nat.le_refl _)]at htk
   clear HX
   have hwl:w<L.length:=hwj
   try simp (disch:=first|decide|omega) only [ie,Nat.reduceAdd,Nat.reduceMul]
   unfold Hd
   try simp (disch:=decide) only [ie,q0,q3]
   rw [ls un22 sz28 (by omega) (by omega) hcap]
   rw [Int.toNat_natCast,if_neg (show ¬cap=w by omega),lh,Nat.zero_add]
   try simp (disch:=first|decide|omega) only [ie,Nat.reduceAdd,Nat.reduceMul]
   have hlen:(cj.rows M++t).length=cap*2:=by
     rw [List.length_append,cj.rows_length,hM,← cj.rows_length,← List.length_append,hmax]
   refine Ya cj ((0,0):Cell) un22 (by decide) (by kernel_rfl) hbh (by omega) (by rw [hlen,show cj.n=2 from rfl];omega) fun l' hl1 hl2=>?_
   have s5:=s.put (o := .cells l'.toArray 28 (0,0)) hb
   have d5:=d.set (o := .cells l'.toArray 28 (0,0)) (d _ _ hbh)
   generalize Hp.set h4 b _=h5 at s5 d5 ⊢
   try simp (disch:=first|decide|omega) only [ie,Nat.reduceAdd,Nat.reduceMul,q0,q3]
   rw [vi un22 sz28 (by omega) (by omega)]
   rw [Int.toNat_natCast]
   rw [← hKK]
   try simp only [ie]
   have hcl:dp L=M.take w:=htk.symm
   have hml:(M.take w).length=w:=by rw [List.length_take];omega
   have hl3:l'=cj.rows (dp L)++l'.drop (w*2):=by
     rw [hcl]
     have:=cj.rows_take (L:=M) (t:=t) (k:=w) (by omega)
     rw [show cj.n=2 from rfl]at this
     rw [← this,← hl2,List.take_append_drop]
   refine ⟨_,⟨some b,cap,l'.drop (w*2),by rw [hcl,hml],?_,?_⟩,s5,d5⟩
   · rw [← hl3];exact af
   · rw [← hl3,hl1,hlen];rfl
end Go.Proofs.YtfflipnhffknnaaGreatDoor
end

section
namespace Go.Proofs.YtfflipnhffknnaaGreatDoor
open Go Go.HL Go.Proofs
def yp:Go.Shelf.Ren:=⟨fun|6=>134|15=>161|14=>160|28=>179|29=>180|20=>171|21=>172|22=>173|23=>174|24=>175|25=>176|26=>177|27=>178|46=>188|47=>189|48=>190|49=>191|50=>192|57=>198|n=>n,fun|22=>22|24=>28|25=>247|3=>3|39=>272|0=>0|53=>159|55=>284|4=>4|46=>277|45=>276|50=>251|5=>5|9=>9|66=>289|70=>293|76=>299|77=>300|n=>n,fun|n=>n⟩
theorem Wz:Go.Proofs.SlLaysF0.n6 P_ yp where
 mixed:=by kernel_rfl
 f6:=⟨ "slices.SortFunc[[]skep/api.Cell,skep/api.Cell]",by decide,Tryz.func134.trans (congrArg some (by kernel_rfl))⟩
 f14:=⟨ "slices.pdqsortCmpFunc[skep/api.Cell]",by decide,Tryz.func160.trans (congrArg some (by kernel_rfl))⟩
 f15:=Tryz.func161.trans (congrArg some (by kernel_rfl))
 f20:=⟨ "slices.insertionSortCmpFunc[skep/api.Cell]",by decide,Tryz.func171.trans (congrArg some (by kernel_rfl))⟩
 f21:=⟨ "slices.heapSortCmpFunc[skep/api.Cell]",by decide,Tryz.func172.trans (congrArg some (by kernel_rfl))⟩
 f22:=⟨ "slices.breakPatternsCmpFunc[skep/api.Cell]",by decide,Tryz.func173.trans (congrArg some (by kernel_rfl))⟩
 f23:=⟨ "slices.choosePivotCmpFunc[skep/api.Cell]",by decide,Tryz.func174.trans (congrArg some (by kernel_rfl))⟩
 f24:=⟨ "slices.reverseRangeCmpFunc[skep/api.Cell]",by decide,Tryz.func175.trans (congrArg some (by kernel_rfl))⟩
 f25:=⟨ "slices.partialInsertionSortCmpFunc[skep/api.Cell]",by decide,Tryz.func176.trans (congrArg some (by kernel_rfl))⟩
 f26:=⟨ "slices.partitionEqualCmpFunc[skep/api.Cell]",by decide,Tryz.func177.trans (congrArg some (by kernel_rfl))⟩
 f27:=⟨ "slices.partitionCmpFunc[skep/api.Cell]",by decide,Tryz.func178.trans (congrArg some (by kernel_rfl))⟩
 f28:=Tryz.func179.trans (congrArg some (by kernel_rfl))
 f29:=Tryz.func180.trans (congrArg some (by kernel_rfl))
 f46:=⟨ "slices.siftDownCmpFunc[skep/api.Cell]",by decide,Tryz.func188.trans (congrArg some (by kernel_rfl))⟩
 f47:=Tryz.func189.trans (congrArg some (by kernel_rfl))
 f48:=Tryz.func190.trans (congrArg some (by kernel_rfl))
 f49:=⟨ "slices.medianAdjacentCmpFunc[skep/api.Cell]",by decide,Tryz.func191.trans (congrArg some (by kernel_rfl))⟩
 f50:=⟨ "slices.medianCmpFunc[skep/api.Cell]",by decide,Tryz.func192.trans (congrArg some (by kernel_rfl))⟩
 f57:=⟨ "slices.order2CmpFunc[skep/api.Cell]",by decide,Tryz.func198.trans (congrArg some (by kernel_rfl))⟩
 t0:=Tryz.underlying0
 a0:=Tryz.isAgg0
 z0:=Tryz.sizeOf0
 v0:=Tryz.zeroValue0
 t3:=Tryz.underlying3
 a3:=Tryz.isAgg3
 z3:=Tryz.sizeOf3
 v3:=Tryz.zeroValue3
 t4:=Tryz.underlying4
 a4:=Tryz.isAgg4
 z4:=Tryz.sizeOf4
 v4:=Tryz.zeroValue4
 t5:=Tryz.underlying5
 a5:=Tryz.isAgg5
 z5:=Tryz.sizeOf5
 v5:=Tryz.zeroValue5
 t9:=Tryz.underlying9
 a9:=Tryz.isAgg9
 z9:=Tryz.sizeOf9
 v9:=Tryz.zeroValue9
 t22:=Tryz.underlying22
 a22:=Tryz.isAgg22
 z22:=Tryz.sizeOf22
 v22:=Tryz.zeroValue22
 t25:=Tryz.underlying247
 a25:=Tryz.isAgg247
 z25:=Tryz.sizeOf247
 v25:=Tryz.zeroValue247
 t39:=Tryz.underlying272
 a39:=Tryz.isAgg272
 z39:=Tryz.sizeOf272
 v39:=Tryz.zeroValue272
 t45:=Tryz.underlying276
 a45:=Tryz.isAgg276
 z45:=Tryz.sizeOf276
 v45:=Tryz.zeroValue276
 t46:=Tryz.underlying277
 a46:=Tryz.isAgg277
 z46:=Tryz.sizeOf277
 v46:=Tryz.zeroValue277
 t50:=Tryz.underlying251
 a50:=Tryz.isAgg251
 z50:=Tryz.sizeOf251
 v50:=Tryz.zeroValue251
 t53:=Tryz.underlying159
 a53:=Tryz.isAgg159
 z53:=Tryz.sizeOf159
 v53:=Tryz.zeroValue159
 t55:=Tryz.underlying284
 a55:=Tryz.isAgg284
 z55:=Tryz.sizeOf284
 v55:=Tryz.zeroValue284
 t66:=Tryz.underlying289
 a66:=Tryz.isAgg289
 z66:=Tryz.sizeOf289
 v66:=Tryz.zeroValue289
 t70:=Tryz.underlying293
 a70:=Tryz.isAgg293
 z70:=Tryz.sizeOf293
 v70:=Tryz.zeroValue293
 t76:=Tryz.underlying299
 a76:=Tryz.isAgg299
 z76:=Tryz.sizeOf299
 v76:=Tryz.zeroValue299
 t77:=Tryz.underlying300
 a77:=Tryz.isAgg300
 z77:=Tryz.sizeOf300
 v77:=Tryz.zeroValue300
end Go.Proofs.YtfflipnhffknnaaGreatDoor
end

section
namespace Go.Proofs.YtfflipnhffknnaaGreatDoor
open Go Go.HL
def vd:=jq bC (jq (jq (jq @pc @cf127) (jq @cf134 (jq @cf136 @cf88))) (jq (jq @we @ld48) (jq @ld68 (jq @O5 @true_and))))
theorem Tn {w k:Nat} {f:Nat→Nat→Int} {c:Cell} (h:nq w k f c=true):inW w k c=true:=by
 unfold nq at h
 rw [Bool.and_eq_true]at h
 exact h.1
theorem way_in {w k:Nat} {f:Nat→Nat→Int} {m:Move} (h:wayB w k f m=true):∀c∈wayL m,inW w k c=true:=by
 intro c hc
 unfold wayB at h
 unfold wayL at hc
 rw [Bool.and_eq_true]at h
 obtain ⟨hf,h⟩:=h
 by_cases h1:m.k=1
 · rw [if_pos h1]at h hc
   simp only [Bool.and_eq_true,List.all_eq_true,List.mem_flatMap]at h hc
   obtain ⟨i,hi,hc⟩:=hc
   have:=h.2.1 i hi
   unfold vh at this
   rw [Bool.and_eq_true]at this
   exact (qt this.2 c hc).1
 · rw [if_neg h1]at h hc
   by_cases h2:m.k=2
   · rw [if_pos h2]at h hc
     simp only [Bool.and_eq_true,List.all_eq_true]at h
     exact Tn (h.2.1 c hc)
   · rw [if_neg h2]at hc
     exact (qt hf c hc).1
theorem Po {D:Nat→List Cell} (h:∀i,(D i).length=2):∀n,((List.range n).flatMap D).length=2*n
 |0=>rfl
 |n+1=>by
   rw [List.range_succ,List.flatMap_append,List.length_append,Po h n]
   simp [h]
   omega
theorem way_len {w k:Nat} {f:Nat→Nat→Int} {m:Move} (h:wayB w k f m=true):(wayL m).length≤34∧wayL m≠[]:=by
 unfold wayB at h
 rw [Bool.and_eq_true]at h
 obtain ⟨hf,h⟩:=h
 unfold wayL
 by_cases h1:m.k=1
 · rw [if_pos h1]at h ⊢
   simp only [Bool.and_eq_true,List.all_eq_true,List.mem_range,decide_eq_true_eq]at h
   have:=h.2.1 m.n.toNat (by omega)
   unfold vh okS at this
   simp only [Bool.and_eq_true]at this
   have hn:=kq.1 this.1.1
   have e:=Po (D:=fun (i:Nat)=>bw (fk m.f m.d i)) (fun i=>rfl) (m.n.toNat+1)
   refine ⟨by rw [e];omega,fun hn=>?_⟩
   rw [hn]at e
   simp at e
 · rw [if_neg h1]
   split
   · exact ⟨by simp [jt],by simp [jt]⟩
   · exact ⟨by simp [bw],by simp [bw]⟩

theorem Tq {w k:Nat} {c:Cell} (h:inW w k c=true):numI w k c=numW w c:=by
 unfold numI numW
 rw [if_pos h]
theorem in_bd {w k:Nat} {c:Cell} (h:inW w k c=true):0≤c.1∧c.1<w∧0≤c.2∧c.2<k:=by
 unfold inW at h
 rw [Bool.and_eq_true]at h
 have h1:=kq.1 h.1
 have h2:=kq.1 h.2
 omega
theorem Lv {w k:Nat} {c:Cell} (hw:w≤16) (hk:k≤16) : -1≤numI w k c∧numI w k c≤1000:=by
 unfold numI
 split
 · rename_i h
   obtain ⟨a,b,c1,d⟩:=in_bd h
   have h1:0≤c.2*(w:Int):=Int.mul_nonneg c1 (by omega)
   have h2:c.2*(w:Int)≤16*16:=Int.mul_le_mul (by omega) (by omega) (by omega) (by omega)
   omega
 · omega

theorem Bo {G h:Hp} {v0 w k:Nat} {f:Nat→Nat→Int} {g:Value} {a b:Cell} (hv:∀j,aa G h ⟨v0,j,none⟩=[g][j]?) (gs:GS G h g w k f):aj P_ G 135 #[rk a,rk b,.pointer (some ⟨v0,0,none⟩)] h (fun u h'=>u = .int .i64 (numI w k a-numI w k b)∧h'=h):=by
 obtain ⟨gp,kb,hgp,_⟩:=gs.ex
 refine aj.assume fun d=>quietly (ai1 (by simp) ?_)
 unfold S135
 simp only [vd]
 intro x hx gx
 generalize e1:Hp.set h x _=h1
 obtain ⟨l1,d1,b1⟩:=boxed e1 hx d gx
 intro y hy gy
 generalize e2:Hp.set h1 y _=h2
 obtain ⟨l2,d2,b2⟩:=boxed e2 hy d1 gy
 have cx:∀j,aa G h2 ⟨x,j,none⟩=_:=fun j=>ai (ag (l2 _ _ b1))
 have cy:∀j,aa G h2 ⟨y,j,none⟩=_:=fun j=>ai (ag b2)
 have l02:=l1.trans l2
 have cv:aa G h2 ⟨v0,0,none⟩=some g:=gh l02 d2 (hv 0)
 have gs2:=gs.up l02 d2
 subst hgp
 try simp only [vd,cx,cy,cv]
 refine (my (c:=a) gs2).mono ?_
 rintro _ h3 ⟨rfl,rfl⟩
 refine ⟨Hp.le.refl _,?_⟩
 try simp (disch:=first|decide|omega) only [vd,Nat.reduceAdd,Nat.reduceMul,cx,cy,cv]
 refine (my (c:=b) gs2).mono ?_
 rintro _ h3 ⟨rfl,rfl⟩
 have ba:=Lv (c:=a) gs.w2 gs.k2
 have bb:=Lv (c:=b) gs.w2 gs.k2
 try simp (disch:=first|decide|omega) only [vd]
 first|exact l02|exact ⟨rfl,l02⟩

instance:Inhabited Cell:=⟨(0,0)⟩
theorem swo_num (n:Cell→Int):Go.Sort.SWO (Go.Proofs.ltOf fun a b=>n a-n b):=by
 refine ⟨fun x=>?_,fun x y z h1 h2=>?_,fun x y z h1 h2=>?_⟩<;>simp only [Go.Proofs.ltOf,decide_eq_true_eq,decide_eq_false_iff_not]at * <;> omega

def lr (w k:Nat) (f:Nat→Nat→Int) (m:Move):List Cell:=if wayB w k f m=true then zm w k (wayL m)else []

theorem Qq {G h:Hp} {g:Value} {w k:Nat} {f:Nat→Nat→Int} {m:Move} (gs:GS G h g w k f) (st:jo G) (mb:MB m):aj P_ G 90 #[g,A5 m] h (fun u h'=>∃ip,Slc cj 28 ip u (lr w k f m)∧HL.Sep [ip,h] h'∧Dis G h'):=by
 obtain ⟨gp,kb,hgp,_⟩:=gs.ex
 subst hgp
 refine aj.assume fun d=>enter90 (by simp) ?_
 unfold S90
 simp only [vd]
 intro x hx gx
 generalize e1:Hp.set h x _=h1
 obtain ⟨l1,d1,b1⟩:=boxed e1 hx d gx
 intro y hy gy
 generalize e2:Hp.set h1 y _=h2
 obtain ⟨l2,d2,b2⟩:=boxed e2 hy d1 gy
 have cx:∀j,aa G h2 ⟨x,j,none⟩=_:=fun j=>ai (ag (l2 _ _ b1))
 have cy:∀j,aa G h2 ⟨y,j,none⟩=_:=fun j=>ai (ag b2)
 have l02:=l1.trans l2
 have gs2:=gs.up l02 d2
 try simp only [vd,cx,cy]
 refine (Nz (m:=m) gs2 st mb).mono ?_
 rintro _ h3 ⟨ip,v,L,rfl,o,s3,d3,hL⟩
 try simp only [vd]
 cases hw:wayB w k f m with
 |false=>
   try simp only [vd]
   refine ⟨noHp,?_,(s3.drop.cut l02).none,d3⟩
   unfold lr
   rw [hw]
   exact Slc.nil
 |true=>
   obtain rfl:=hL hw
   obtain ⟨wl,wn⟩:=way_len hw
   try simp only [vd]
   unfold ao1
   obtain ⟨ob,o'⟩:=o
   cases ob with
   |none=>exact absurd o'.2 wn
   |some b=>
   obtain ⟨cap,t,rfl,hb,hbl⟩:=o'
   try simp (disch:=decide) only [vd]
   have hx3:h2 x=some _:=l2 _ _ b1
   refine aj.mono (f:=134) (Wy (ρ:=yp) Wz cj (by decide) Tryz.isAgg28 Tryz.sizeOf28 (swo_num (numI w k)) (g:=135) (cb:=#[.pointer (some ⟨x,0,none⟩)])
     (enters_of Tryz.func135 (by kernel_rfl) rfl) s3 d3 hb (fun p q h' s' d'=>Bo (a:=p) (b:=q) (fun j=>by rw [ai (ag (s'.in 0 rfl _ _ hx3))]) (gs2.up (s'.in 0 rfl) d')) (by omega)) ?_
   rintro _ h4 ⟨rfl,S,hp,hs,rfl⟩
   have s4:=s3.put (o := .cells (cj.rows S++t).toArray 28 (0,0)) hb
   have d4:=d3.set (o := .cells (cj.rows S++t).toArray 28 (0,0)) (d3 _ _ (s3.at 0 rfl hb))
   have hlS:S.length=(wayL m).length:=hp.length_eq
   have o4:Slc cj 28 (ip.set b (.cells (cj.rows S++t).toArray 28 (0,0))) (.slice (some ⟨b,0,none⟩) (wayL m).length cap) S:=⟨some b,cap,t,by rw [hlS],af,by rw [← hbl,List.length_append,List.length_append,cj.rows_length,cj.rows_length,hlS]⟩
   generalize Hp.set h3 b _=h4 at s4 d4 ⊢
   generalize Hp.set ip b _=ip4 at s4 o4
   try simp (disch:=first|decide|omega) only [vd,Nat.reduceAdd,Nat.reduceMul]
   refine (Mp s4 o4 (by omega)).mono ?_
   rintro u5 h5 ⟨a5,o5,s5,d5⟩
   try simp (disch:=first|decide|omega) only [vd,Nat.reduceAdd,Nat.reduceMul]
   refine ⟨a5,?_,((s5.pick 1 rfl rfl).cut l02).pick 1 rfl rfl,d5⟩
   have hin:=way_in hw
   have e:=Ix (w:=w) (k:=k) (W:=wayL m) (S:=S) (by have:=gs.w1;omega) (fun c hc=>in_bd (hin c hc)) hp (hs.imp_of_mem fun {a b} ha hb h=>by
     rw [Tq (hin a (hp.mem_iff.1 ha)),Tq (hin b (hp.mem_iff.1 hb))]at h
     omega)
   unfold lr
   rw [hw,if_pos rfl,← e]
   exact o5
end Go.Proofs.YtfflipnhffknnaaGreatDoor
end

section
namespace Go.Proofs.Srch
open Go.Proofs.Resv
section
variable {P M:Type} [DecidableEq P]

variable {E:Env P M}

def Up (S S':List (St P M)):Prop:=∀x∈S,∃x'∈S',x'.p=x.p∧x'.i=x.i∧x'.a≤x.a∧(x.dn=true→x'=x)

theorem Up.refl (S:List (St P M)):Up S S:=fun x hx=>⟨x,hx,rfl,rfl,Int.le_refl _,fun _=>rfl⟩
theorem Up.trans {S S' S'':List (St P M)} (a:Up S S') (b:Up S' S''):Up S S'':=fun x hx=>by
 obtain ⟨y,hy,e1,e2,e3,e4⟩:=a x hx
 obtain ⟨z,hz,f1,f2,f3,f4⟩:=b y hy
 refine ⟨z,hz,f1.trans e1,f2.trans e2,by omega,fun hd=>?_⟩
 have:=e4 hd;subst this
 exact f4 hd

def Noted (E:Env P M) (S:List (St P M)) (x:St P M) (w:M × P × Int × List Sp) (s:Sp):Prop:=
 x.s.1≤s.1→s.2≤x.s.2→sumI (max x.a s.1) w.2.2.1≤s.2→sumI (max x.a s.1) w.2.2.1<FV→∀j,inside (E.spans w.2.1) (sumI (max x.a s.1) w.2.2.1)=some j→∃y∈S,y.p=w.2.1∧y.i=j∧y.a≤sumI (max x.a s.1) w.2.2.1

theorem Noted.up {S S':List (St P M)} {x:St P M} {w:M × P × Int × List Sp} {s:Sp} (n:Noted E S x w s) (u:Up S S'):Noted E S' x w s:=fun h1 h2 h3 h4 j hj=>by
 obtain ⟨y,hy,e1,e2,e3⟩:=n h1 h2 h3 h4 j hj
 obtain ⟨z,hz,f1,f2,f3,_⟩:=u y hy
 exact ⟨z,hz,f1.trans e1,f2.trans e2,by omega⟩
end
end Go.Proofs.Srch
end

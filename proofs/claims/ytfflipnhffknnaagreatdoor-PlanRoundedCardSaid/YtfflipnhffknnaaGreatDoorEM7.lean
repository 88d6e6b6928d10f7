/- Texts of the proof, one behind the other. -/
import Derived.Test.YtfflipnhffknnaaGreatDoorEM6
import Derived.Test.YtfflipnhffknnaaGreatDoorEM4
import Derived.Test.YtfflipnhffknnaaGreatDoorEM1
import Derived.Test.YtfflipnhffknnaaGreatDoorEM2
import Derived.Test.YtfflipnhffknnaaGreatDoorEM3
import Derived.Test.YtfflipnhffknnaaGreatDoorEH2
import Derived.Test.YtfflipnhffknnaaGreatDoorEH3
import Derived.Test.YtfflipnhffknnaaGreatDoorRows
import Derived.Test.YtfflipnhffknnaaGreatDoorTie
import Derived.JoinedOf
import Derived.Handed
import Derived.LaidMore
import Derived.LaidHandle
import Derived.LaidLaws
import Derived.MakeChecks
set_option linter.unusedSimpArgs false
set_option linter.unusedVariables false
set_option maxRecDepth 100000
set_option maxHeartbeats 8000000
set_option linter.defProp false
section
namespace Go.Proofs.YtfflipnhffknnaaGreatDoor.Rv
open Go Go.HL Go.Proofs.Resv
def dj:=jq bC (jq (jq (jq @vh (jq @Df @cf137)) (jq @cf138 (jq @cf139 @Sw))) (jq (jq @Su (jq @Ss @ix114p)) (jq @ld3p (jq @ln114 @true_and))))
theorem Q3 {G h a w:Hp} {R:List Hp} {tp b:Nat} {T:Tb} {r:Int} {v:Value} {l:List Want} (tb:Tab 188 a tp T) (sp:HL.Sep (a::w::R) h) (sv:Sees xy G w v l) (g:iu T) (fw:Few T b) (hb:b+l.length<=50000):
 al P_ G 92 #[.pointer (some ⟨tp,0,none⟩),r,v] h (fun u h'=>u = .int .i64 (jn T r l).1/\∃a',Tab 188 a' tp (jn T r l).2/\HL.Sep (a'::w::R) h'/\Dis G h'):=by
 obtain ⟨sa,cap,rfl⟩:=sv.len
 refine al.assume fun d=>enter92 (by simp) ?_
 unfold S92
 simp only [dj]
 refine bm (fun hr=>?_) (fun hr=>?_)
 . try simp (disch:=first|decide|omega) only [dj,Nat.reduceAdd,Nat.reduceMul]
   have e:jn T r l=(1,T):=by unfold jn;rw [if_pos hr]
   rw [e]
   exact ⟨rfl,a,tb,sp,d⟩
 unfold ay5
 generalize hKK:retK P_ G _ _=KK
 refine b8 (fun m q h3=>∃i:Nat,m=l.length-i/\i<=l.length/\q 0 = .pointer (some ⟨tp,0,none⟩)/\q 1 = .int .i64 r/\q 2 = .slice sa l.length cap/\q 7 = .int .i64 i/\HL.Sep (a::w::R) h3/\Dis G h3/\(l.take i).all (mo T.length)=true) ?_
  (m:=l.length) ⟨0,rfl,Nat.zero_le _,by simp (disch:=decide) only [dj],by simp (disch:=decide) only [dj],by simp (disch:=decide) only [dj],by simp only [dj]<;>rfl,sp,d,rfl⟩
 rintro m q h3 ⟨i,rfl,hi,q0,q1,q2,q7,s3,d3,hv⟩ X HX
 unfold X1
 simp only [dj,q2,q7]
 refine bm (fun hlt=>?_) (fun hge=>?_)
 . obtain ⟨x,hx⟩:∃x,l[i]?=some x:=⟨_,List.getElem?_eq_getElem (by omega)⟩
   obtain ⟨bb,of,rfl,z0,z1,z2⟩:=Sees.want (sv.up (s3.in 1 rfl) d3) hx
   unfold Fj
   simp (disch:=first|decide|omega) only [dj,q0,q2,q7,Hm (Int.natCast_nonneg i) hlt,z0,z1,z2]
   refine (T1 (c:=x.c) (tb.see (s3.in 0 rfl))).mono ?_
   rintro _ h3 ⟨rfl,rfl⟩
   have bad:∀r1:Rg,r1 6 = .int .i64 1->mo T.length x=false->KK .ret r1 h3:=fun r1 h6 hf=>by
    rw [<- hKK]
    have e:jn T r l=(1,T):=by unfold jn;rw [if_neg hr,if_neg (by rw [F8 hx hf];decide)]
    simp only [dj,h6,e]
    exact ⟨a,tb,s3,d3⟩
   have go:∀(K0:Exit->Rg->Hp->Prop) (r1:Rg),(∀k,k<=7->r1 k=q k)->mo T.length x=true->zm G (bv X K0) r1 h3:=fun K0 r1 hk ht=>by
    unfold zm
    simp (disch:=first|decide|omega) only [dj,hk 7 (by decide),q7]
    exact HX (l.length-(i+1)) _ _ (by omega) ⟨i+1,rfl,by omega,by simp (disch:=decide) only [dj,hk 0 (by decide),q0],by simp (disch:=decide) only [dj,hk 1 (by decide),q1],by simp (disch:=decide) only [dj,hk 2 (by decide),q2],by simp only [dj]<;>rfl,s3,d3,by rw [Di hx,hv,ht];rfl⟩
   cases e1:inT T.length x.c with
   |false=>
    try simp only [dj,dw]
    exact bad _ (by simp only [dj]) (by unfold mo;rw [e1];rfl)
   |true=>
   try simp (disch:=first|decide|omega) only [dj,q2,q7,Hm (Int.natCast_nonneg i) hlt,z0,z1,z2]
   by_cases e2:x.f<0
   . try simp only [dj,decide_eq_true e2,dw]
     exact bad _ (by simp only [dj]) (by unfold mo;rw [decide_eq_false (show ¬0<=x.f by omega)];simp)
   try simp (disch:=first|decide|omega) only [dj,decide_eq_false e2,q2,q7,Hm (Int.natCast_nonneg i) hlt,z0,z1,z2]
   by_cases e3:x.f>=x.t
   . try simp only [dj,decide_eq_true e3,dw]
     exact bad _ (by simp only [dj]) (by unfold mo;rw [decide_eq_false (show ¬x.f<x.t by omega)];simp)
   try simp (disch:=first|decide|omega) only [dj,decide_eq_false e3,q2,q7,Hm (Int.natCast_nonneg i) hlt,z0,z1,z2]
   refine bm (fun e4=>?_) (fun e4=>?_)
   . exact bad _ (by simp only [dj]) (by unfold mo;rw [decide_eq_false (show ¬x.t<=FV by simp only [FV];omega)];simp)
   . exact go _ _ (fun k hk=>by simp (disch:=omega) only [au]) (qm.2 ⟨Ae.1 e1,by omega,by omega,by simp only [FV];omega⟩)
 obtain rfl:i=l.length:=by omega
 rw [List.take_of_length_le (Nat.le_refl _)]at hv
 clear HX
 try simp (disch:=first|decide|omega) only [dj,Nat.reduceAdd,Nat.reduceMul]
 unfold ay4
 refine b8 (fun m q' h3=>∃i:Nat,m=l.length-i/\i<=l.length/\q' 0 = .pointer (some ⟨tp,0,none⟩)/\q' 1 = .int .i64 r/\q' 2 = .slice sa l.length cap/\q' 8 = .int .i64 i/\HL.Sep (a::w::R) h3/\Dis G h3/\(l.take i).all (rg T r)=true) ?_
  (m:=l.length) ⟨0,rfl,Nat.zero_le _,by simp (disch:=decide) only [dj,q0],by simp (disch:=decide) only [dj,q1],by simp (disch:=decide) only [dj,q2],by simp only [dj]<;>rfl,s3,d3,rfl⟩
 clear q0 q1 q2 q7 s3 d3
 clear q h3
 rintro m q h3 ⟨i,rfl,hi,q0,q1,q2,q8,s3,d3,hf⟩ X HX
 unfold ay0
 simp only [dj,q2,q8]
 refine bm (fun hlt=>?_) (fun hge=>?_)
 . obtain ⟨x,hx⟩:∃x,l[i]?=some x:=⟨_,List.getElem?_eq_getElem (by omega)⟩
   obtain ⟨bb,of,rfl,z0,z1,z2⟩:=Sees.want (sv.up (s3.in 1 rfl) d3) hx
   obtain ⟨⟨c0,c1⟩,f0,f1,f2⟩:=qm.1 (List.all_eq_true.1 hv x (List.mem_of_getElem? hx))
   unfold Mj
   simp (disch:=first|decide|omega) only [dj,q0,q1,q2,q8,Hm (Int.natCast_nonneg i) hlt,z0,z1,z2]
   refine (ak3 (r:=r) (f:=x.f) (t:=x.t) (tb.see (s3.in 0 rfl)) c0 (od c0 c1) (by have:=um fw x.c;omega)).mono ?_
   rintro _ h3 ⟨rfl,rfl⟩
   cases e1:mn (rowT T x.c) r x.f x.t with
   |false=>
    try simp only [dj]
    rw [<- hKK]
    have e:jn T r l=(18,T):=by unfold jn;rw [if_neg hr,if_pos hv,if_neg (by rw [F8 hx (by unfold rg;exact e1)];decide)]
    simp only [dj,e]
    exact ⟨a,tb,s3,d3⟩
   |true=>
    try simp only [dj]
    unfold Iw
    simp (disch:=first|decide|omega) only [dj,q8]
    exact HX (l.length-(i+1)) _ _ (by omega) ⟨i+1,rfl,by omega,by simp (disch:=decide) only [dj,q0],by simp (disch:=decide) only [dj,q1],by simp (disch:=decide) only [dj,q2],by simp only [dj]<;>rfl,s3,d3,by rw [Di hx,hf];unfold rg;rw [e1];rfl⟩
 obtain rfl:i=l.length:=by omega
 rw [List.take_of_length_le (Nat.le_refl _)]at hf
 clear HX
 try simp (disch:=first|decide|omega) only [dj,Nat.reduceAdd,Nat.reduceMul]
 unfold ay3
 refine b8 (fun m q' h3=>∃(i:Nat) (a':Hp),m=l.length-i/\i<=l.length/\q' 0 = .pointer (some ⟨tp,0,none⟩)/\q' 1 = .int .i64 r/\q' 2 = .slice sa l.length cap/\q' 9 = .int .i64 i/\Tab 188 a' tp (tr r T (l.take i))/\HL.Sep (a'::w::R) h3/\Dis G h3) ?_
  (m:=l.length) ⟨0,a,rfl,Nat.zero_le _,by simp (disch:=decide) only [dj,q0],by simp (disch:=decide) only [dj,q1],by simp (disch:=decide) only [dj,q2],by simp only [dj]<;>rfl,tb,s3,d3⟩
 clear q0 q1 q2 q8 s3 d3
 clear q h3
 rintro m q h3 ⟨i,a3,rfl,hi,q0,q1,q2,q9,t3,s3,d3⟩ X HX
 unfold ay1
 simp only [dj,q2,q9]
 refine bm (fun hlt=>?_) (fun hge=>?_)
 . obtain ⟨x,hx⟩:∃x,l[i]?=some x:=⟨_,List.getElem?_eq_getElem (by omega)⟩
   obtain ⟨bb,of,rfl,z0,z1,z2⟩:=Sees.want (sv.up (s3.in 1 rfl) d3) hx
   obtain ⟨⟨c0,c1⟩,f0,f1,f2⟩:=qm.1 (List.all_eq_true.1 hv x (List.mem_of_getElem? hx))
   have sub:∀u∈l.take i,u∈l:=fun u hu=>List.mem_of_mem_take hu
   obtain ⟨g3,fw3,l3,k3⟩:=G7 (by omega:0<=r) (l:=l.take i) g fw (List.all_eq_true.2 fun u hu=>List.all_eq_true.1 hv u (sub u hu)) (List.all_eq_true.2 fun u hu=>List.all_eq_true.1 hf u (sub u hu))
   unfold Ml
   simp (disch:=first|decide|omega) only [dj,q0,q1,q2,q9,Hm (Int.natCast_nonneg i) hlt,z0,z1,z2]
   have hlen:(rowT (tr r T (l.take i)) x.c).length<=50000:=by
    have h5:=um fw3 x.c
    rw [List.length_take]at h5
    omega
   refine (Zz (r:=r) t3 s3 c0 (od c0 (by rw [l3];exact c1)) (rq g3 x.c) hlen f0 f1 f2).mono ?_
   rintro _ h5 ⟨rfl,a5,t5,s5,d5⟩
   unfold Mk
   simp (disch:=first|decide|omega) only [dj,q9]
   refine HX (l.length-(i+1)) _ _ (by omega) ⟨i+1,a5,rfl,by omega,by simp (disch:=decide) only [dj,q0],by simp (disch:=decide) only [dj,q1],by simp (disch:=decide) only [dj,q2],by simp only [dj]<;>rfl,?_,s5,d5⟩
   rw [K3 hx]
   exact t5
 obtain rfl:i=l.length:=by omega
 rw [List.take_of_length_le (Nat.le_refl _)]at t3
 try simp (disch:=first|decide|omega) only [dj,Nat.reduceAdd,Nat.reduceMul]
 unfold ay2
 have e:jn T r l=(0,tr r T l):=by unfold jn;rw [if_neg hr,if_pos hv,if_pos hf]
 rw [<- hKK]
 simp only [dj,e]
 exact ⟨a3,t3,s3,d3⟩
end Go.Proofs.YtfflipnhffknnaaGreatDoor.Rv
end
section
namespace Go.Proofs.YtfflipnhffknnaaGreatDoor
open Go Go.HL Go.Proofs.Resv Go.Proofs.Srch
theorem Gt {G:Hp} {xb:Nat} {w:Want} {ty:TypeId}:Sees Rv.xy G (noHp.set xb (.cells #[w.c,w.f,w.t] ty (0,0))) (.slice (some ⟨xb,0,none⟩) 1 1) [w]:=by
 have o:Slc Rv.xy ty (noHp.set xb (.cells #[w.c,w.f,w.t] ty (0,0))) (.slice (some ⟨xb,0,none⟩) 1 1) [w]:=⟨some xb,1,[],rfl,by rw [ag];rfl,rfl⟩
 exact o.see (by decide) (Hp.le.refl _)
end Go.Proofs.YtfflipnhffknnaaGreatDoor
end
section
namespace Go.Proofs.YtfflipnhffknnaaGreatDoor
open Go Go.HL
section
variable (G:Hp) (K:EK) (r:Rg) (h:Hp)
def md34:Nat->Hint
 |18=>mh false [0,1,0,0,0,0,0,64,224,511,0,2047] [n_,m_,m_,m_,m_,m_,n_,m_,e_,n_,.alloc,.store] [false,false,false,false,false,false,false,false,true,false,false,false] false
 |22=>mh false [0,0,3] [m_,n_,n_] (fs 3) false
 |_=>mh false [] [] [] false
def aC8:Prop:=
 o_ G (Instr.loadAt 40 (r 18)) h fun v13 h13=>
 K .ret (u3 r 88 v13 14 v13 15 (.int .i64 0)) h13
def Pn:Prop:=
 o_ G (Instr.loadAt 35 (r 19)) h fun v14 h14=>
 opH P_ G (xEq .neq 35 (.tmp 0) (.const .nilFunc) v14 (.int .i64 0)) h14 fun v15 h15=>
 cond v15
 (w_ G h15 (Instr.loadAt 35 (r 19)) h15 fun v16 h16=>
 K .ret (u6 r 81 v14 82 v15 80 v15 83 v16 14 (.slice none 0 0) 15 v16) h16)
 (o_ G (Instr.loadAt 40 (r 18)) h15 fun v17 h17=>o_ G (Builtin.len_ #[40] 3 #[v17]) h17 fun v18 h18=>o_ G (binOp .gtr 3 v18 (.int .i64 4096)) h18 fun v19 h19=>
 cond v19
 (K .ret (u9 r 81 v14 82 v15 80 v15 85 v17 86 v18 87 v19 84 v19 14 (.slice none 0 0) 15 (.int .i64 2)) h19)
 (aC8 G K (u7 r 81 v14 82 v15 80 v15 85 v17 86 v18 87 v19 84 v19) h19))
def Nf:Prop:=
 o_ G (binOp .add 3 (r 21) (.int .i64 1)) h fun v20 h20=>
 K .normal (u3 r 43 (r 21) 44 v20 21 v20) h20
def Nb:Prop:=
 p_ (Instr.fieldAt 119 (r 22) 1) h fun v33 h33=>
 w_ G h (Instr.loadAt 3 v33) h33 fun v34 h34=>
 w_ G h (Instr.loadAt 30 (r 10)) h34 fun v35 h35=>
 w_ G h (Instr.loadAt 30 (r 10)) h35 fun v36 h36=>
 w_ G h (Instr.loadAt 3 (r 11)) h36 fun v37 h37=>
 w_ G h (Instr.loadAt 3 (r 11)) h37 fun v38 h38=>
 p_ (Instr.fieldAt 26 (r 7) 11) h38 fun v39 h39=>
 w_ G h (Instr.loadAt 3 v39) h39 fun v40 h40=>
 c_ G 77 #[v38,v40] h40 fun v41 h41=>h.le h41/\
 p_ (Instr.build 48 #[(0,v34),(3,v35),(4,v36),(5,v37),(6,v41)]) h41 fun v42 h42=>o_ G (Instr.alloc 48 true (.tuple #[])) h42 fun v43 h43=>
 opH P_ G (su (Instr.storeAt 48 v43 v42)) h43 fun v44 h44=>o_ G (Instr.loadAt 40 (r 18)) h44 fun v45 h45=>o_ G (Instr.loadAt 48 v43) h45 fun v46 h46=>o_ G (Instr.buildSlice 40 1 #[(0,v46)]) h46 fun v47 h47=>
 c_ G 76 #[v45,v47] h47 fun v48 h48=>
 opH P_ G (su (Instr.storeAt 40 (r 18) v48)) h48 fun v49 h49=>o_ G (Instr.fieldAt 48 v43 6) h49 fun v50 h50=>o_ G (Instr.loadAt 3 v50) h50 fun v51 h51=>
 opH P_ G (su (Instr.storeAt 3 (r 11) v51)) h51 fun v52 h52=>
 Nf G K (u7 (u10 r 64 v33 65 v34 66 v35 67 v36 68 v37 69 v38 70 v39 71 v40 72 v41 73 v42) 23 v43 74 v45 75 v46 76 v47 77 v48 78 v50 79 v51) h52
def Nc:Prop:=
 o_ G (Instr.indexAt 59 (r 5) (r 21)) h fun v23 h23=>o_ G (Instr.loadAt 119 v23) h23 fun v24 h24=>o_ G (Instr.alloc 119 true (.tuple #[])) h24 fun v25 h25=>
 opH P_ G (su (Instr.storeAt 119 v25 v24)) h25 fun v26 h26=>o_ G (Instr.fieldAt 119 v25 0) h26 fun v27 h27=>o_ G (Instr.loadAt 28 v27) h27 fun v28 h28=>o_ G (Instr.build 30 #[(0,v28)]) h28 fun v29 h29=>o_ G (Instr.build 45 #[(0,v29),(1,(.bool true))]) h29 fun v30 h30=>
 opH P_ G (ig (r 20) #[v30]) h30 fun v31 h31=>o_ G (Op.unary .not v31) h31 fun v32 h32=>
 (fun q=>cond v32
 (K (.exit 2) q h32)
 (Nb G K q h32))
 (u2 (u10 r 53 (r 5) 54 (r 21) 55 v23 56 v24 22 v25 57 (r 20) 58 v27 59 v28 60 v29 61 v30) 62 v31 63 v32)
def Vz (r:Rg) (h:Hp) (K:EK):Prop:=
 o_ G (Builtin.len_ #[59] 3 #[(r 5)]) h fun v21 h21=>
 opH P_ G (xEq .eql 3 (.tmp 0) (.tmp 0) (r 21) v21) h21 fun v22 h22=>
 cond v22
 (o_ G (Instr.loadAt 30 (r 13)) h22 fun v53 h53=>o_ G (Instr.build 45 #[(0,v53)]) h53 fun v54 h54=>
 opH P_ G (ig (r 20) #[v54]) h54 fun v55 h55=>
 K (.exit 2) (u8 r 45 (r 21) 46 (r 5) 47 v21 48 v22 49 (r 20) 50 v53 51 v54 52 v55) h55)
 (Nc G K (u4 r 45 (r 21) 46 (r 5) 47 v21 48 v22) h22)
def V0:Prop:=
 o_ G (Instr.alloc 40 true (.tuple #[])) h fun v10 h10=>o_ G (Instr.alloc 35 true (.tuple #[])) h10 fun v11 h11=>
 opH P_ G (su (Instr.storeAt 35 v11 (.int .i64 0))) h11 fun v12 h12=>
 ci (Vz G) (u5 r 18 v10 19 v11 42 (.func (.func 75) #[] #[(r 7),(r 8),(r 9),(r 10),(r 11),v11,v10]) 20 (.func (.func 75) #[] #[(r 7),(r 8),(r 9),(r 10),(r 11),v11,v10]) 21 (.int .i64 0)) h12 (bn 2 (bv (Pn G K) (qa K)))
def B1:Prop:=
 o_ G (binOp .add 3 (r 29) (.int .i64 1)) h fun v57 h57=>
 K .normal (u2 r 41 v57 29 v57) h57
def I1:Prop:=
 o_ G (Instr.indexAt 59 (r 27) (r 29)) h fun v58 h58=>o_ G (Instr.loadAt 119 v58) h58 fun v59 h59=>o_ G (Instr.alloc 119 true (.tuple #[])) h59 fun v60 h60=>
 opH P_ G (su (Instr.storeAt 119 v60 v59)) h60 fun v61 h61=>o_ G (Instr.fieldAt 119 v60 1) h61 fun v62 h62=>o_ G (Instr.loadAt 3 v62) h62 fun v63 h63=>
 opH P_ G (xEq .neq 3 (.tmp 0) (.const .nilFunc) v63 (.int .i64 3)) h63 fun v64 h64=>g_ v64 true (o_ G (Instr.fieldAt 119 v60 1) h64) h64 fun v65 h65=>g_ v64 true (o_ G (Instr.loadAt 3 v65) h65) h65 fun v66 h66=>g_ v64 true (opH P_ G (xEq .neq 3 (.tmp 0) (.const .nilFunc) v66 (.int .i64 4)) h66) h66 fun v67 h67=>
 opH P_ G (bj v64 v67 (.bool false)) h67 fun v68 h68=>
 (fun q=>cond v68
 (K .ret (u2 q 14 (.slice none 0 0) 15 (.int .i64 1)) h68)
 (B1 G K q h68))
 (upd (u10 r 31 v58 32 v59 17 v60 33 v62 34 v63 35 v64 36 v64 37 v65 38 v66 39 v67) 40 v68)
def aC7 (r:Rg) (h:Hp) (K:EK):Prop:=
 o_ G (binOp .lss 3 (r 29) (r 28)) h fun v56 h56=>
 cond v56
 (I1 G K (upd r 30 v56) h56)
 (K (.exit 0) (upd r 30 v56) h56)
def V1:Prop:=
 o_ G (Builtin.len_ #[59] 3 #[(r 5)]) h fun v9 h9=>
 ci (aC7 G) (u3 r 27 (r 5) 28 v9 29 (.int .i64 0)) h9 (bn 0 (bv (V0 G K) (qa K)))
def S34:Prop:=
 o_ G (Instr.box 26 (r 0)) h fun v0 h0=>o_ G (Instr.box 34 (r 1)) h0 fun v1 h1=>o_ G (Instr.box 3 (r 2)) h1 fun v2 h2=>o_ G (Instr.box 30 (r 3)) h2 fun v3 h3=>o_ G (Instr.box 3 (r 4)) h3 fun v4 h4=>o_ G (Instr.box 30 (r 6)) h4 fun v5 h5=>o_ G (Instr.loadAt 26 v0) h5 fun v6 h6=>
 c_ G 74 #[v6] h6 fun v7 h7=>o_ G (Op.unary .not v7) h7 fun v8 h8=>
 (fun q=>cond v8
 (K .ret (u2 q 14 (.slice none 0 0) 15 (.int .i64 5)) h8)
 (V1 G K q h8))
 (upd (u10 r 7 v0 8 v1 9 v2 10 v3 11 v4 13 v5 14 (.slice none 0 0) 15 (.int .i64 0) 24 v6 25 v7) 26 v8)
theorem enter34:Ent 89 34 [.tmp 14,.tmp 15] S34:=ent_ (m:=md34) (c:=(Tryz.f34.body.getD .skip)) (fun _ _ _ _=>by kernel_rfl) Tryz.func34 rfl rfl rfl
def md75:Nat->Hint
 |7=>mh false [0,0,2,6,15,31,63,0,0,256,768,1920,3968,8064,127,32767] [n_,n_,m_,n_,n_,n_,m_,n_,n_,m_,n_,n_,n_,m_,.store,.store] [false,false,false,false,false,false,false,false,false,false,false,false,false,false,true,false] true
 |_=>mh false [] [] [] false
def Pj (G:Hp) (K:EK) (r:Rg) (h:Hp):Prop:=
 K .ret (upd r 9 (.bool true)) h
def az9:Prop:=
 o_ G (Instr.loadAt 40 (r 7)) h fun v13 h13=>
 c_ G 76 #[v13,(r 10)] h13 fun v14 h14=>
 opH P_ G (su (Instr.storeAt 40 (r 7) v14)) h14 fun v15 h15=>o_ G (Builtin.len_ #[40] 3 #[(r 10)]) h15 fun v16 h16=>o_ G (binOp .gtr 3 v16 (.int .i64 0)) h16 fun v17 h17=>
 cond v17
 (∃q18:Hp,q18.le h17/\
 w_ G q18 (Builtin.len_ #[40] 3 #[(r 10)]) h17 fun v19 h19=>
 p_ (binOp .sub 3 v19 (.int .i64 1)) h19 fun v20 h20=>
 p_ (Instr.indexAt 40 (r 10) v20) h20 fun v21 h21=>
 p_ (Instr.fieldAt 48 v21 4) h21 fun v22 h22=>
 w_ G q18 (Instr.loadAt 30 v22) h22 fun v23 h23=>
 w_ G q18 (Builtin.len_ #[40] 3 #[(r 10)]) h23 fun v24 h24=>
 p_ (binOp .sub 3 v24 (.int .i64 1)) h24 fun v25 h25=>
 p_ (Instr.indexAt 40 (r 10) v25) h25 fun v26 h26=>
 p_ (Instr.fieldAt 48 v26 6) h26 fun v27 h27=>
 w_ G q18 (Instr.loadAt 3 v27) h27 fun v28 h28=>
 opH P_ G (su (Instr.storeAt 30 (r 4) v23)) h28 fun v29 h29=>q18.le h29/\
 opH P_ G (su (Instr.storeAt 3 (r 5) v28)) h29 fun v30 h30=>
 Pj G K (u10 (u10 r 23 v13 24 (r 10) 25 v14 26 (r 10) 27 v16 28 v17 29 (r 10) 30 (r 10) 31 v19 32 v20) 33 v21 34 v22 35 v23 36 (r 10) 37 (r 10) 38 v24 39 v25 40 v26 41 v27 42 v28) h30)
 (Pj G K (u6 r 23 v13 24 (r 10) 25 v14 26 (r 10) 27 v16 28 v17) h17)
def S75:Prop:=
 o_ G (Instr.box 45 (r 0)) h fun v0 h0=>o_ G (Instr.loadAt 26 (r 1)) h0 fun v1 h1=>o_ G (Instr.loadAt 34 (r 2)) h1 fun v2 h2=>o_ G (Instr.loadAt 3 (r 3)) h2 fun v3 h3=>o_ G (Instr.loadAt 30 (r 4)) h3 fun v4 h4=>o_ G (Instr.loadAt 3 (r 5)) h4 fun v5 h5=>o_ G (Instr.loadAt 45 v0) h5 fun v6 h6=>
 c_ G 27 #[v1,v2,v3,v4,v5,v6] h6 fun v7 h7=>o_ G (Instr.extract v7 0) h7 fun v8 h8=>o_ G (Instr.extract v7 1) h8 fun v9 h9=>
 opH P_ G (su (Instr.storeAt 35 (r 6) v9)) h9 fun v10 h10=>o_ G (Instr.loadAt 35 (r 6)) h10 fun v11 h11=>
 opH P_ G (xEq .neq 35 (.tmp 0) (.const .nilFunc) v11 (.int .i64 0)) h11 fun v12 h12=>
 (fun q=>cond v12
 (K .ret (upd q 9 (.bool false)) h12)
 (az9 G K q h12))
 (u6 (u10 r 8 v0 9 (.bool false) 10 (.slice none 0 0) 12 v1 13 v2 14 v3 15 v4 16 v5 17 v6 18 v7) 11 v7 19 v8 20 v9 10 v8 21 v11 22 v12)
theorem enter75:Ent 43 75 [.tmp 9] S75:=ent_ (m:=md75) (c:=(Tryz.f75.body.getD .skip)) (fun _ _ _ _=>by kernel_rfl) Tryz.func75 rfl rfl rfl
def md76:Nat->Hint
 |_=>mh false [] [] [] false
def S76:Prop:=
 o_ G (Builtin.append_ #[40,40] 40 #[(r 0),(r 1)]) h fun v0 h0=>
 K .ret (u5 r 4 (.slice none 0 0) 5 (r 0) 6 (r 1) 7 v0 4 v0) h0
theorem enter76:Ent 8 76 [.tmp 4] S76:=ent_ (m:=md76) (c:=(Tryz.f76.body.getD .skip)) (fun _ _ _ _=>by kernel_rfl) Tryz.func76 rfl rfl rfl
def md35:Nat->Hint
 |8=>mh true [0,1,0,7,15,31,63,31,255,511,1023,2047,4095,2047,10239,32767,65535,131071,262143,524287,1048575,2097151,4194303,8388607,8388607,33554431,67108863,134217727,268435455,536870911,1073741823,536870911,2684354559,8589934591,536870911,536870911,536870911,120795955199,274877906943,549755813887] [n_,m_,m_,m_,n_,n_,m_,n_,n_,n_,n_,n_,m_,n_,m_,n_,n_,n_,n_,m_,n_,n_,n_,n_,m_,e_,n_,n_,n_,n_,m_,n_,m_,n_,m_,n_,m_,e_,m_,n_] [false,false,false,false,false,false,false,false,false,false,false,false,false,false,false,false,false,false,false,false,false,false,false,false,false,true,false,false,false,false,false,false,false,false,false,false,false,true,false,false] true
 |10=>mh false [0,1,0,4,3,31] [n_,m_,n_,m_,.store,n_] [false,false,false,false,true,false] true
 |_=>mh false [] [] [] false
def aC5 (G:Hp) (K:EK) (r:Rg) (h:Hp):Prop:=
 K .ret (upd r 8 (.bool true)) h
def M9:Prop:=
 o_ G (binOp .add 3 (r 27) (.int .i64 1)) h fun v12 h12=>
 K .normal (u2 r 75 v12 27 v12) h12
def M8:Prop:=
 ∃q53:Hp,q53.le h/\
 p_ (Instr.fieldAt 48 (r 13) 4) h fun v54 h54=>
 w_ G q53 (Instr.loadAt 30 v54) h54 fun v55 h55=>
 p_ (Instr.fieldAt 48 (r 13) 6) h55 fun v56 h56=>
 w_ G q53 (Instr.loadAt 3 v56) h56 fun v57 h57=>
 opH P_ G (su (Instr.storeAt 30 (r 6) v55)) h57 fun v58 h58=>q53.le h58/\
 M9 G K (u5 r 71 v54 72 v55 73 v56 74 v57 11 v57) h58
def Na:Prop:=
 o_ G (Instr.indexAt 40 (r 25) (r 27)) h fun v13 h13=>o_ G (Instr.loadAt 48 v13) h13 fun v14 h14=>o_ G (Instr.alloc 48 true (.tuple #[])) h14 fun v15 h15=>
 opH P_ G (su (Instr.storeAt 48 v15 v14)) h15 fun v16 h16=>
 ∃q17:Hp,q17.le h16/\
 p_ (Instr.fieldAt 48 v15 3) h16 fun v18 h18=>
 w_ G q17 (Instr.loadAt 30 v18) h18 fun v19 h19=>
 w_ G q17 (Instr.loadAt 30 (r 6)) h19 fun v20 h20=>
 bk P_ G q17 (xEq .neq 30 (.tmp 0) (.tmp 0) v19 v20) h20 fun v21 h21=>g_ v21 false (p_ (Instr.fieldAt 48 v15 5) h21) h21 fun v22 h22=>g_ v21 false (w_ G q17 (Instr.loadAt 3 v22) h22) h22 fun v23 h23=>g_ v21 false (fun K1=>K1 (r 11) h23) h23 fun v24 h24=>g_ v21 false (p_ (binOp .lss 3 v23 v24) h24) h24 fun v25 h25=>
 bk P_ noHp noHp (bj v21 (.bool true) v25) h25 fun v26 h26=>g_ v26 false (p_ (Instr.fieldAt 48 v15 6) h26) h26 fun v27 h27=>g_ v26 false (w_ G q17 (Instr.loadAt 3 v27) h27) h27 fun v28 h28=>g_ v26 false (p_ (Instr.fieldAt 48 v15 5) h28) h28 fun v29 h29=>g_ v26 false (w_ G q17 (Instr.loadAt 3 v29) h29) h29 fun v30 h30=>g_ v26 false (p_ (binOp .leq 3 v28 v30) h30) h30 fun v31 h31=>
 bk P_ noHp noHp (bj v26 (.bool true) v31) h31 fun v32 h32=>g_ v32 false (p_ (Instr.fieldAt 48 v15 6) h32) h32 fun v33 h33=>g_ v32 false (w_ G q17 (Instr.loadAt 3 v33) h33) h33 fun v34 h34=>g_ v32 false (p_ (binOp .geq 3 v34 (.int .i64 4611686018427387904)) h34) h34 fun v35 h35=>
 bk P_ noHp noHp (bj v32 (.bool true) v35) h35 fun v36 h36=>g_ v36 false (fun K1=>K1 (r 9) h36) h36 fun v37 h37=>g_ v36 false (w_ G q17 (Instr.loadAt 48 v15) h37) h37 fun v38 h38=>g_ v36 false (fun K1=>c_ G 78 #[v37,v38] h38 fun v h'=>q17.le h'/\K1 v h') h38 fun v39 h39=>g_ v36 false (p_ (Op.unary .not v39) h39) h39 fun v40 h40=>
 bk P_ noHp noHp (bj v36 (.bool true) v40) h40 fun v41 h41=>g_ v41 false (p_ (Instr.fieldAt 48 v15 6) h41) h41 fun v42 h42=>g_ v41 false (w_ G q17 (Instr.loadAt 3 v42) h42) h42 fun v43 h43=>g_ v41 false (p_ (Instr.fieldAt 48 v15 5) h43) h43 fun v44 h44=>g_ v41 false (w_ G q17 (Instr.loadAt 3 v44) h44) h44 fun v45 h45=>g_ v41 false (p_ (binOp .sub 3 v43 v45) h45) h45 fun v46 h46=>g_ v41 false (w_ G q17 (Instr.loadAt 26 (r 4)) h46) h46 fun v47 h47=>g_ v41 false (fun K1=>K1 (r 1) h47) h47 fun v48 h48=>g_ v41 false (w_ G q17 (Instr.loadAt 48 v15) h48) h48 fun v49 h49=>g_ v41 false (fun K1=>c_ G 30 #[v47,v48,v49] h49 fun v h'=>q17.le h'/\K1 v h') h49 fun v50 h50=>g_ v41 false (bk P_ G q17 (xEq .neq 3 (.tmp 0) (.tmp 0) v46 v50) h50) h50 fun v51 h51=>
 bk P_ noHp noHp (bj v41 (.bool true) v51) h51 fun v52 h52=>
 (fun q=>cond v52
 (K .ret (upd q 8 (.bool false)) h52)
 (M8 G K q h52))
 (u3 (u10 (u10 (u10 (u10 r 29 v13 30 v14 13 v15 31 v18 32 v19 33 v20 34 v21 35 v21 36 v22 37 v23) 38 v24 39 v25 40 v26 41 v26 42 v27 43 v28 44 v29 45 v30 46 v31 47 v32) 48 v32 49 v33 50 v34 51 v35 52 v36 53 v36 54 v37 55 v38 56 v39 57 v40) 58 v41 59 v41 60 v42 61 v43 62 v44 63 v45 64 v46 65 v47 66 v48 67 v49) 68 v50 69 v51 70 v52)
def aC4 (r:Rg) (h:Hp) (K:EK):Prop:=
 o_ G (binOp .lss 3 (r 27) (r 26)) h fun v11 h11=>
 cond v11
 (Na G K (upd r 28 v11) h11)
 (K (.exit 0) (upd r 28 v11) h11)
def aC6:Prop:=
 o_ G (Builtin.len_ #[40] 3 #[(r 3)]) h fun v10 h10=>
 ci (aC4 G) (u4 r 11 (.int .i64 0) 25 (r 3) 26 v10 27 (.int .i64 0)) h10 (bn 0 (bv (aC5 G K) K))
def S35:Prop:=
 o_ G (Instr.box 26 (r 0)) h fun v0 h0=>o_ G (Instr.box 30 (r 2)) h0 fun v1 h1=>o_ G (Instr.loadAt 26 v0) h1 fun v2 h2=>
 c_ G 37 #[v2] h2 fun v3 h3=>o_ G (Instr.extract v3 0) h3 fun v4 h4=>o_ G (Instr.extract v3 1) h4 fun v5 h5=>
 opH P_ G (xEq .neq 35 (.tmp 0) (.const .nilFunc) v5 (.int .i64 0)) h5 fun v6 h6=>g_ v6 false (fun K1=>K1 (r 1) h6) h6 fun v7 h7=>g_ v6 false (opH P_ G (xEq .eql 50 (.tmp 0) (.const .nilFunc) v7 (.pointer none)) h7) h7 fun v8 h8=>
 opH P_ G (bj v6 (.bool true) v8) h8 fun v9 h9=>
 (fun q=>cond v9
 (K .ret (upd q 8 (.bool false)) h9)
 (aC6 G K q h9))
 (u6 (u10 r 4 v0 6 v1 8 (.bool false) 15 v2 16 v3 14 v3 17 v4 18 v5 9 v4 10 v5) 19 v5 20 v6 21 v6 22 v7 23 v8 24 v9)
theorem enter35:Ent 76 35 [.tmp 8] S35:=ent_ (m:=md35) (c:=(Tryz.f35.body.getD .skip)) (fun _ _ _ _=>by kernel_rfl) Tryz.func35 rfl rfl rfl
end
end Go.Proofs.YtfflipnhffknnaaGreatDoor
end
section
namespace Go.Proofs.YtfflipnhffknnaaGreatDoor
open Go Go.HL Go.Proofs.Resv Go.Proofs.Srch
def bRtW:=jq bC (jq (jq (jq (jq @List.length_nil.{0} @kv) (jq @cf27 @cf76)) (jq (jq @Oz @Ox) (jq @Rz (jq @ld26 @ld3)))) (jq (jq (jq @ld30 @tw) (jq @ld34 (jq @ld35 @ld3p))) (jq (jq @ld40 @ld45) (jq @ln40 (jq @ln40p @true_and)))))
structure Stp where
 x:Int
 y:Int
 k:Int
def stpC:Cod Stp:=⟨3,fun s=>[.int .i64 s.x,.int .i64 s.y,.int .i64 s.k],fun _=>rfl,fun _ v hv=>by simp at hv;rcases hv with rfl|rfl|rfl<;>rfl⟩
def StpB (s:Stp):Prop:=Bd s.x/\Bd s.y
abbrev endP (p:Pose) (w:List Move):Pose:=Ax p w w.length
abbrev endT (t:Int) (w:List Move):Int:=mu t w w.length
def uj (C:Conf) (k:Int) (p:Pose) (t:Int):Move:=⟨k,0,0,p,p,t,sumI t C.ho⟩
def goR (C:Conf) (T:Tb) (rb:Int) (hm:Pose):List Stp->Pose->Int->List Move->Res Move
 |[],p,t,l=>match j5 C (some T) rb p t hm false with
  | .ok w => .ok (l++w)
  | .no e => .no e
 |s::S,p,t,l=>match j5 C (some T) rb p t ⟨s.x,s.y,false⟩ true with
  | .ok w=>goR C T rb hm S (endP p w) (sumI (endT t w) C.ho) (l++w++[uj C s.k (endP p w) (endT t w)])
  | .no e => .no e
theorem W5 {C:Conf} {T:Tb} {rb t:Int} {hm p:Pose} {l:List Move}:goR C T rb hm [] p t l=match j5 C (some T) rb p t hm false with
 | .ok w => .ok (l++w)
 | .no e => .no e:=rfl
theorem R9 {C:Conf} {T:Tb} {rb t:Int} {hm p:Pose} {l:List Move} {s:Stp} {S:List Stp}:goR C T rb hm (s::S) p t l=match j5 C (some T) rb p t ⟨s.x,s.y,false⟩ true with
 | .ok w=>goR C T rb hm S (endP p w) (sumI (endT t w) C.ho) (l++w++[uj C s.k (endP p w) (endT t w)])
 | .no e => .no e:=rfl
def yu (s:Stp):Bool:=s.k==3||s.k==4
def vn (C:Conf) (T:Tb) (rb:Int) (p:Pose) (t:Int) (S:List Stp) (hm:Pose):Res Move:=
 if S.all yu=true then
  match goR C T rb hm S p t []with
  | .ok l=>if 4096<l.length then .no 2 else .ok l
  | .no e => .no e
 else .no 1
theorem Bm {G h:Hp} {b:Nat} {e:TypeId} {p o:Pose} {K:Unit->Hp->Prop} (hb:h b=some (.cells #[o.x,o.y,.bool o.d] e (0,0))):
 wpH P_ G (Instr.storeAt 30 (.pointer (some ⟨b,0,none⟩)) (.agg #[p.x,p.y,.bool p.d])) h K=K () (h.set b (.cells #[p.x,p.y,.bool p.d] e (0,0))):=by
 rw [rt (l:=[_,_,_]) sz30 hb rfl (by simp) (by intro x hx;simp [me]at hx;rcases hx with rfl|rfl|rfl<;>rfl)]
 rfl
theorem Lo {G h a:Hp} {R:List Hp} {v x:Value} {L M:List Move} (s:HL.Sep (a::R) h) (o:Slc jw 48 a v L) (src:Dis G h->Sees jw G h x M) (hl:L.length+M.length<=1000000):
 al P_ G 76 #[v,x] h (fun u h'=>∃a',Slc jw 48 a' u (L++M)/\HL.Sep (a'::R) h'/\Dis G h'):=by
 refine al.assume fun d=>enter76 (by simp) ?_
 unfold S76
 simp only [bRtW]
 refine dm jw (by decide) un40 eomove (by decide) (by decide) s d o (src d) hl fun v' a' h' o' s' d'=>?_
 try simp (disch:=first|decide|omega) only [bRtW,Nat.reduceAdd,Nat.reduceMul]
 exact ⟨a',o',s',d'⟩
theorem regs7 {a b c d e f g i:Value}:regs #[a,b,c,d,e,f,g,i] 7=i:=rfl
structure RdQ where
 C:Conf
 T:Tb
 rb:Int
 vt:Value
 xc:Nat
 xt:Nat
 xr:Nat
 xf:Nat
 xa:Nat
 xe:Nat
 xl:Nat
structure RdW (G:Hp) (q:RdQ) (B:Hp):Prop where
 bc:∃ab cb ap cp ar cr az cs,CA G B q.C ab cb ap cp ar cr az cs/\B q.xc=some (zg q.C ab cb ap cp ar cr az cs)
 bt:B q.xt=some (.cells #[q.vt] 34 (0,0))
 br:B q.xr=some (.cells #[q.rb] 3 (0,0))
 tv:TabV G B q.vt (some q.T)
 mk_:dh q.C
 hro:∀p∈q.C.ro,PB p
 fit:Fit0 q.C
 hbu:q.C.bu<=4000
def RdSt (G:Hp) (q:RdQ) (B:Hp) (p:Pose) (t e:Int) (l:List Move) (h:Hp):Prop:=∃vl ip,Slc jw 48 ip vl l/\
 HL.Sep [noHp.set q.xf (gu p),noHp.set q.xa (.cells #[t] 3 (0,0)),noHp.set q.xe (.cells #[e] 35 (0,0)),noHp.set q.xl (.cells #[vl] 40 (0,0)),ip,B] h/\Dis G h
theorem aa2 {p:Pose} {w:List Move} {m:Move} (hm:w[w.length-1]?=some m) (hw:w≠[]):endP p w=m.t:=by
 have:=List.length_pos_iff.2 hw
 unfold endP
 obtain ⟨n,hn⟩:∃n,w.length=n+1:=⟨w.length-1,by omega⟩
 rw [hn]at hm ⊢
 show (w.getD n zM).t=m.t
 rw [List.getD_eq_getElem?_getD,show n=n+1-1 from rfl,hm];rfl
theorem La {t:Int} {w:List Move} {m:Move} (hm:w[w.length-1]?=some m) (hw:w≠[]):endT t w=m.e:=by
 have:=List.length_pos_iff.2 hw
 unfold endT
 obtain ⟨n,hn⟩:∃n,w.length=n+1:=⟨w.length-1,by omega⟩
 rw [hn]at hm ⊢
 show (w.getD n zM).e=m.e
 rw [List.getD_eq_getElem?_getD,show n=n+1-1 from rfl,hm];rfl
theorem sub1r {n:Nat} (h:0<n):((n:Int)-1)=((n-1:Nat):Int):=by omega
theorem Wb {G h B:Hp} {q:RdQ} (st:jb G) (w:RdW G q B) {p gp:Pose} {t e:Int} {l:List Move} {any:Bool} (pp:PB p) (pg:PB gp) (hl:l.length<=890000) (s:RdSt G q B p t e l h):
 al P_ G 75 #[.agg #[gp.x,gp.y,.bool gp.d,.bool any],.pointer (some ⟨q.xc,0,none⟩),.pointer (some ⟨q.xt,0,none⟩),.pointer (some ⟨q.xr,0,none⟩),.pointer (some ⟨q.xf,0,none⟩),.pointer (some ⟨q.xa,0,none⟩),.pointer (some ⟨q.xe,0,none⟩),.pointer (some ⟨q.xl,0,none⟩)] h
  (fun u h'=>(∃w,j5 q.C (some q.T) q.rb p t gp any = .ok w/\w.length<=110000/\u = .bool true/\RdSt G q B (endP p w) (endT t w) 0 (l++w) h')\/
   ∃e',j5 q.C (some q.T) q.rb p t gp any = .no e'/\u = .bool false/\RdSt G q B p t e' l h'):=by
 obtain ⟨C,T,rb,vt,xc,xt,xr,xf,xa,xe,xl⟩:=q
 obtain ⟨⟨ab,cb,ap,cp',ar,cr,az,cs,ca,bc⟩,bt,br,tv,mk,hro,fit,hbu⟩:=w
 obtain ⟨vl,ip,sl,s,d⟩:=s
 obtain ⟨la,lc,rfl,_⟩:=id (sl.len (by decide))
 simp only at*
 refine enter75 (by simp) ?_
 unfold S75
 simp only [bRtW]
 intro y hy gy
 have s1:=s.past (o := .cells #[gp.x,gp.y,.bool gp.d,.bool any] 45 (0,0)) hy
 generalize e1:Hp.set h y _=h1 at*
 obtain ⟨l1,d1,by1⟩:=boxed e1 hy d gy
 have lB:=s1.in 5 rfl
 have cc:∀k,af G h1 ⟨xc,k,none⟩=_:=fun k=>aj (ai (lB _ _ bc))
 have ct:∀k,af G h1 ⟨xt,k,none⟩=_:=fun k=>aj (ai (lB _ _ bt))
 have cr':∀k,af G h1 ⟨xr,k,none⟩=_:=fun k=>aj (ai (lB _ _ br))
 have cf:∀k,af G h1 ⟨xf,k,none⟩=_:=fun k=>aj (ai (s1.at 0 rfl ag))
 have ca':∀k,af G h1 ⟨xa,k,none⟩=_:=fun k=>aj (ai (s1.at 1 rfl ag))
 have cy:∀k,af G h1 ⟨y,k,none⟩=_:=fun k=>aj (ai by1)
 try simp only [bRtW,cc,ct,cr',cf,ca',cy]
 refine (ac8 (To:=some T) (p:=p) (gp:=gp) (rb:=rb) (t:=t) (any:=any) mk (ca.up lB d1).cv st hro fit hbu (tv.up lB d1) pp pg).mono ?_
 rintro _ h2 ⟨ip2,vs2,rfl,sl2,ll2,sm2,d2⟩
 have s2:=sm2.swap.open s1
 generalize hW:j5 C (some T) rb p t gp any=W at*
 try simp only [bRtW]
 have be2:=s2.at 2 rfl ag
 rw [bz sz35 rfl be2 (by simp)]
 have s3:=(s2.sel (L':=[noHp.set xe (.cells #[e] 35 (0,0)),noHp.set xf (gu p),noHp.set xa (.cells #[t] 3 (0,0)),noHp.set xl (.cells #[.slice la l.length lc] 40 (0,0)),ip,B,ip2]) [2,0,1,3,4,5,6] (by decide) rfl).put (o := .cells #[(outE W)] 35 (0,0)) ag
 rw [set_set]at s3
 have d3:=d2.set (o := .cells #[(outE W)] 35 (0,0)) (d2 _ _ be2)
 simp only [List.set_cons_zero]
 generalize Hp.set h2 xe _=h3 at*
 have s3':=s3
 have ce:∀k,af G h3 ⟨xe,k,none⟩=_:=fun k=>aj (ai (s3'.at 0 rfl ag))
 try simp only [bRtW,ce]
 cases W with
 |no e'=>
  have hne:e'≠0:=by
   obtain ⟨_,_,_,gT,_⟩:=tv
   have:=qx mk gT hW
   omega
  try simp only [bRtW,show outE (Res.no (M:=Move) e')=e' from rfl,show (e' != 0)=true by simp [hne]]
  exact .inr ⟨e',rfl,_,ip,sl,s3'.sel [1,2,0,3,4,5] (by decide) rfl,d3⟩
 |ok w=>
  replace sl2:Slc jw 48 ip2 vs2 w:=sl2
  replace ll2:w.length<=110000:=ll2
  try simp only [bRtW,show outE (Res.ok w)=0 from rfl,show ((0:Int) != 0)=false from rfl]
  unfold az9
  have cl:∀k,af G h3 ⟨xl,k,none⟩=_:=fun k=>aj (ai (s3'.at 3 rfl ag))
  obtain ⟨wa,wc,rfl,_⟩:=id (sl2.len (by decide))
  try simp (disch:=first|decide|omega) only [bRtW,regs7,cl]
  refine (Lo (s3'.sel (L':=[ip,noHp.set xe (.cells #[(0:Int)] 35 (0,0)),noHp.set xf (gu p),noHp.set xa (.cells #[t] 3 (0,0)),noHp.set xl (.cells #[.slice la l.length lc] 40 (0,0)),B,ip2]) [4,0,1,2,3,5,6] (by decide) rfl) sl (fun _=>sl2.see (by decide) (s3'.in 6 rfl)) (by show l.length+w.length<=_;omega)).mono ?_
  rintro v4 h4 ⟨ip4,sl4,s4,d4⟩
  obtain ⟨xa4,xc4,rfl,_⟩:=id (sl4.len (by decide))
  try simp (disch:=first|decide|omega) only [bRtW,Nat.reduceAdd,Nat.reduceMul]
  have bl4:=s4.at 4 rfl ag
  rw [bz sz40 rfl bl4 (by simp)]
  simp only [List.set_cons_zero]
  have s5:=(s4.sel (L':=[noHp.set xl (.cells #[.slice la l.length lc] 40 (0,0)),noHp.set xe (.cells #[(0:Int)] 35 (0,0)),noHp.set xf (gu p),noHp.set xa (.cells #[t] 3 (0,0)),ip4,B,ip2]) [4,1,2,3,0,5,6] (by decide) rfl).put (o := .cells #[.slice xa4 (l++w).length xc4] 40 (0,0)) ag
  rw [set_set]at s5
  have d5:=d4.set (o := .cells #[.slice xa4 (l++w).length xc4] 40 (0,0)) (d4 _ _ bl4)
  generalize e5:Hp.set h4 xl _=h5 at*
  try simp (disch:=first|decide|omega) only [bRtW,Nat.reduceAdd,Nat.reduceMul]
  by_cases hw:w=[]
  . subst hw
    try simp only [bRtW]
    unfold Pj
    try simp only [bRtW]
    exact .inl ⟨[],rfl,by simp,_,ip4,by simpa using sl4,s5.sel [2,3,1,0,4,5] (by decide) rfl,d5⟩
  have hwl:=List.length_pos_iff.2 hw
  obtain ⟨m,hm⟩:∃m,w[w.length-1]?=some m:=⟨_,List.getElem?_eq_getElem (by omega)⟩
  have see2:Sees jw G ip2 (.slice wa w.length wc) w:=sl2.see (by decide) (Hp.le.refl _)
  obtain ⟨b,o,rfl,y0,y1,y2,y3,y4,y5,y6,y7,y8,y9,y10⟩:=Sees.mvx see2 hm
  try simp (disch:=first|decide|omega) only [bRtW,je (show (w.length:Int)>0 by omega)]
  refine ⟨ip2,s5.in 6 rfl,?_⟩
  try simp only [bRtW,sub1r hwl,Rz (Int.natCast_nonneg (w.length-1)) (show ((w.length-1:Nat):Int)<w.length by omega),y6,y7,y8,y10]
  have bf5:=s5.at 2 rfl ag
  rw [Bm (p:=m.t) bf5]
  have s6:=(s5.sel (L':=[noHp.set xf (gu p),noHp.set xl (.cells #[.slice xa4 (l++w).length xc4] 40 (0,0)),noHp.set xe (.cells #[(0:Int)] 35 (0,0)),noHp.set xa (.cells #[t] 3 (0,0)),ip4,B,ip2]) [2,0,1,3,4,5,6] (by decide) rfl).put (o:=gu m.t) ag
  rw [set_set]at s6
  have d6:=d5.set (o:=gu m.t) (d5 _ _ bf5)
  generalize e6:Hp.set h5 xf _=h6 at*
  refine ⟨s6.in 6 rfl,?_⟩
  try simp (disch:=first|decide|omega) only [bRtW,Nat.reduceAdd,Nat.reduceMul]
  have ba6:=s6.at 3 rfl ag
  rw [bz sz3 rfl ba6 (by simp)]
  simp only [List.set_cons_zero]
  have s7:=(s6.sel (L':=[noHp.set xa (.cells #[t] 3 (0,0)),noHp.set xf (gu m.t),noHp.set xl (.cells #[.slice xa4 (l++w).length xc4] 40 (0,0)),noHp.set xe (.cells #[(0:Int)] 35 (0,0)),ip4,B,ip2]) [3,0,1,2,4,5,6] (by decide) rfl).put (o := .cells #[m.e] 3 (0,0)) ag
  rw [set_set]at s7
  have d7:=d6.set (o := .cells #[m.e] 3 (0,0)) (d6 _ _ ba6)
  try simp (disch:=first|decide|omega) only [bRtW,Nat.reduceAdd,Nat.reduceMul]
  unfold Pj
  try simp only [bRtW]
  refine .inl ⟨w,rfl,ll2,_,ip4,sl4,?_,d7⟩
  rw [aa2 hm hw,La hm hw]
  exact s7.sel [1,0,3,2,4,5] (by decide) rfl
def j9:=jq bC (jq (jq (jq (jq (jq @al119 @al48) (jq @ax8 @bd45_0)) (jq (jq @ax7 @Fy) (jq @kv @Tp))) (jq (jq (jq @zj @cf75) (jq @cf76 @cf77)) (jq (jq @fa119_0 @Ic) (jq @Sn @Oy)))) (jq (jq (jq (jq @ld119 @ld28) (jq @ld3 @ld30)) (jq (jq @tw @ld35) (jq @ld35p @ld3p))) (jq (jq (jq @ld40 @ld48) (jq @ln40 @ln59)) (jq (jq @jt @pm) (jq @ag7 @Kv)))))
theorem Sees.stp {G h:Hp} {sa:Option Addr} {cap n:Nat} {L:List Stp} (s:Sees stpC G h (.slice sa n cap) L) {i:Nat} {x:Stp} (hx:L[i]?=some x):
 ∃b o,sa=some ⟨b,o,none⟩/\af G h ⟨b,o+i*3,none⟩=some (.int .i64 x.x)/\af G h ⟨b,o+i*3+1,none⟩=some (.int .i64 x.y)/\af G h ⟨b,o+i*3+2,none⟩=some (.int .i64 x.k):=by
 obtain ⟨s',c',e,_,hc|⟨b,o,rfl,hc⟩⟩:=s
 . rw [hc]at hx;cases hx
 . cases e
   exact ⟨b,o,rfl,hc i x hx 0 (by decide),hc i x hx 1 (by decide),hc i x hx 2 (by decide)⟩
def Qd (G h:Hp) (W:Res Move) (u:Value) (h':Hp):Prop:=∃ip vs,u = .tuple #[vs,(outE W)]/\Slc jw 48 ip vs (outL W)/\(outL W).length<=4096/\HL.Sep [ip,h] h'/\Dis G h'
theorem RdW.up {G B Q:Hp} {q:RdQ} (w:RdW G q B) (l:B.le Q) (d:Dis G Q):RdW G q Q:=by
 obtain ⟨⟨ab,cb,ap,cp',ar,cr,az,cs,ca,bc⟩,bt,br,tv,mk,hro,fit,hbu⟩:=w
 exact ⟨⟨ab,cb,ap,cp',ar,cr,az,cs,ca.up l d,l _ _ bc⟩,l _ _ bt,l _ _ br,tv.up l d,mk,hro,fit,hbu⟩
theorem U2 {C:Conf} (mk:dh C) {T:Tb} (gt:iu T) {rb t:Int} {p gp:Pose} {any:Bool} {w:List Move} (h:j5 C (some T) rb p t gp any = .ok w):PB (endP p w):=
 Ou mk (L0 mk gt h).2.2.choose_spec.2.2.2.2.1
theorem Gy {G h B h0:Hp} {q:RdQ} {p:Pose} {t e:Int} {l:List Move} (s:RdSt G q B p t e l h) (hl:l.length<=1000000) (le0:h0.le B) {r:Rg} {R:VK} (g18:r 18 = .pointer (some ⟨q.xl,0,none⟩)) (g19:r 19 = .pointer (some ⟨q.xe,0,none⟩))
 (H:∀u h',Qd G h0 (if e≠0 then .no e else if 4096<l.length then .no 2 else .ok l) u h'->R u h'):
 Pn G (retK P_ G [.tmp 14,.tmp 15] R) r h:=by
 obtain ⟨vl,ip,sl,s,d⟩:=s
 obtain ⟨la,lc,rfl,_⟩:=id (sl.len (by decide))
 have ce:∀k,af G h ⟨q.xe,k,none⟩=_:=fun k=>aj (ai (s.at 2 rfl ag))
 have cl:∀k,af G h ⟨q.xl,k,none⟩=_:=fun k=>aj (ai (s.at 3 rfl ag))
 have sN:HL.Sep [noHp,h0] h:=((s.sel (L':=[B]) [5] (by decide) rfl).cut le0).none
 unfold Pn
 try simp (disch:=decide) only [j9,g18,g19,ce]
 by_cases he:e=0
 . subst he
   try simp only [j9,show ((0:Int) != 0)=false from rfl,cl]
   by_cases hb:(l.length:Int)>4096
   . try simp only [j9,je hb]
     refine H _ _ ?_
     rw [if_neg (by simp),if_pos (by omega)]
     exact ⟨noHp,_,rfl,Slc.nil,by simp [outL],sN,d⟩
   . try simp only [j9,i8 hb]
     unfold aC8
     try simp (disch:=decide) only [j9,g18,cl]
     refine H _ _ ?_
     rw [if_neg (by simp),if_neg (by omega)]
     exact ⟨ip,_,rfl,sl,by show l.length<=_;omega,((s.sel (L':=[B,ip]) [5,4] (by decide) rfl).cut le0).swap,d⟩
 . try simp only [j9,show (e != 0)=true by simp [he]]
   refine H _ _ ?_
   rw [if_pos he]
   exact ⟨noHp,_,rfl,Slc.nil,by simp [outL],sN,d⟩
theorem ah9 {G h B h0:Hp} {q:RdQ} (st:jb G) (w:RdW G q B) {p hm:Pose} {t:Int} {S:List Stp} {sv:Value} (pp:PB p) (ph:PB hm) (ss:Sees stpC G B sv S) (hS:∀s∈S,StpB s) (hl:S.length<=7)
 {xh:Nat} (bh:B xh=some (gu hm)) (le0:h0.le B) {r:Rg} {R:VK}
 (g5:r 5=sv) (g7:r 7 = .pointer (some ⟨q.xc,0,none⟩)) (g10:r 10 = .pointer (some ⟨q.xf,0,none⟩)) (g11:r 11 = .pointer (some ⟨q.xa,0,none⟩)) (g13:r 13 = .pointer (some ⟨xh,0,none⟩)) (g18:r 18 = .pointer (some ⟨q.xl,0,none⟩)) (g19:r 19 = .pointer (some ⟨q.xe,0,none⟩))
 (g20:r 20 = .func (.func 75) #[] #[.pointer (some ⟨q.xc,0,none⟩),.pointer (some ⟨q.xt,0,none⟩),.pointer (some ⟨q.xr,0,none⟩),.pointer (some ⟨q.xf,0,none⟩),.pointer (some ⟨q.xa,0,none⟩),.pointer (some ⟨q.xe,0,none⟩),.pointer (some ⟨q.xl,0,none⟩)]) (g21:r 21 = .int .i64 0)
 (s:RdSt G q B p t 0 [] h) (H:∀u h',Qd G h0 (match goR q.C q.T q.rb hm S p t []with | .ok l=>if 4096<l.length then .no 2 else .ok l | .no e => .no e) u h'->R u h'):
 ci (Vz G) r h (bn 2 (bv (Pn G (retK P_ G [.tmp 14,.tmp 15] R)) (qa (retK P_ G [.tmp 14,.tmp 15] R)))):=by
 obtain ⟨sa,sc,rfl,_⟩:=id ss
 generalize hKK:retK P_ G [.tmp 14,.tmp 15] R=KK
 have gT:iu q.T:=by obtain ⟨_,_,_,gT,_⟩:=w.tv;exact gT
 refine b8 (fun m p' h'=>∃(i:Nat) (pz:Pose) (tz:Int) (l:List Move),m=S.length-i/\i<=S.length/\(∀y,1<=y->y<=20->p' y=r y)/\p' 21 = .int .i64 i/\PB pz/\l.length<=i*110001/\RdSt G q B pz tz 0 l h'/\goR q.C q.T q.rb hm (S.drop i) pz tz l=goR q.C q.T q.rb hm S p t []) ?_ (m:=S.length)
  ⟨0,p,t,[],rfl,Nat.zero_le _,fun _ _ _=>rfl,g21,pp,by simp,s,by simp⟩
 clear s
 rintro m p' h1 ⟨i,pz,tz,l,rfl,hi,hp',p21,ppz,hll,s,hgo⟩ X hX
 have p5:=(hp' 5 (by decide) (by decide)).trans g5
 have p7:=(hp' 7 (by decide) (by decide)).trans g7
 have p10:=(hp' 10 (by decide) (by decide)).trans g10
 have p11:=(hp' 11 (by decide) (by decide)).trans g11
 have p13:=(hp' 13 (by decide) (by decide)).trans g13
 have p18:=(hp' 18 (by decide) (by decide)).trans g18
 have p19:=(hp' 19 (by decide) (by decide)).trans g19
 have p20:=(hp' 20 (by decide) (by decide)).trans g20
 have hi2:i*110001<=7*110001:=Nat.mul_le_mul_right _ (by omega)
 obtain ⟨vl,ip,sl,s0,d⟩:=id s
 have lB:=s0.in 5 rfl
 unfold Vz
 simp only [j9,p5,p21]
 by_cases hend:i=S.length
 . subst hend
   have chh:∀k,af G h1 ⟨xh,k,none⟩=_:=fun k=>aj (ai (lB _ _ bh))
   try simp only [j9,show (((S.length:Nat):Int)==((S.length:Nat):Int))=true from beq_self_eq_true _,p13,p20,chh]
   refine (Wb (any:=false) st w ppz ph (by omega) s).mono ?_
   rw [List.drop_length,W5]at hgo
   rintro _ h2 (⟨w',hw,ll,rfl,s2⟩|⟨e',hw,rfl,s2⟩)
   . rw [hw]at hgo
     try simp (disch:=first|decide|omega) only [j9,Nat.reduceAdd,Nat.reduceMul]
     rw [<- hKK]
     refine Gy s2 (by rw [List.length_append];omega) le0 (by simp (disch:=decide) only [j9,p18]) (by simp (disch:=decide) only [j9,p19]) fun u h' hR=>H u h' ?_
     rw [<- hgo]
     rw [if_neg (by simp)]at hR
     exact hR
   . rw [hw]at hgo
     have hne:e'≠0:=by have:=qx w.mk_ gT hw;omega
     try simp (disch:=first|decide|omega) only [j9,Nat.reduceAdd,Nat.reduceMul]
     rw [<- hKK]
     refine Gy s2 (by omega) le0 (by simp (disch:=decide) only [j9,p18]) (by simp (disch:=decide) only [j9,p19]) fun u h' hR=>H u h' ?_
     rw [<- hgo]
     rw [if_pos hne]at hR
     exact hR
 have hlt:(i:Int)<S.length:=by omega
 try simp only [j9,show ((i:Int)==((S.length:Nat):Int))=false by simp;omega]
 obtain ⟨z,hz⟩:∃z,S[i]?=some z:=⟨_,List.getElem?_eq_getElem (by omega)⟩
 have hzb:=hS z (List.mem_of_getElem? hz)
 obtain ⟨b,o,rfl,c0,c1,c2⟩:=Sees.stp (ss.up lB d) hz
 unfold Nc
 try simp (disch:=first|decide|exact ao|exact am|omega|rfl) only [j9,p5,p21,ix59 (Int.natCast_nonneg i) hlt,c0,c1,c2]
 intro x hx gx
 have sQ:=(s0.sel (L':=[B,noHp.set q.xf (gu pz),noHp.set q.xa (.cells #[tz] 3 (0,0)),noHp.set q.xe (.cells #[(0:Int)] 35 (0,0)),noHp.set q.xl (.cells #[vl] 40 (0,0)),ip]) [5,0,1,2,3,4] (by decide) rfl).grow (o := .cells #[z.x,z.y,z.k] 119 (0,0)) hx
 have lQ:B.le (B.set x (.cells #[z.x,z.y,z.k] 119 (0,0))):=di (lB.none hx)
 have bQ:(B.set x (.cells #[z.x,z.y,z.k] 119 (0,0))) x=some (.cells #[z.x,z.y,z.k] 119 (0,0)):=ag
 try simp (disch:=first|decide|omega) only [j9,Nat.reduceAdd,Nat.reduceMul]
 generalize e2:Hp.set h1 x _=h2 at*
 obtain ⟨l2,d2,bx2⟩:=boxed e2 hx d gx
 generalize B.set x (.cells #[z.x,z.y,z.k] 119 (0,0))=Q at*
 have dQ:Dis G Q:=fun y o hy=>d2 y o (sQ.hd _ _ hy)
 have wQ:=w.up lQ dQ
 have sQ':RdSt G q Q pz tz 0 l h2:=⟨vl,ip,sl,sQ.sel [1,2,3,4,5,0] (by decide) rfl,d2⟩
 have cx2:∀k,af G h2 ⟨x,k,none⟩=_:=fun k=>aj (ai bx2)
 try simp only [j9,cx2,p20]
 have hdrop:S.drop i=z::S.drop (i+1):=by
  rw [List.drop_eq_getElem_cons (by omega)]
  congr 1
  exact Option.some.inj ((List.getElem?_eq_getElem (by omega)).symm.trans hz)
 rw [hdrop,R9]at hgo
 refine (Wb (gp:=⟨z.x,z.y,false⟩) (any:=true) st wQ ppz hzb (by omega) sQ').mono ?_
 rintro _ h3 (⟨w',hw,ll,rfl,s3⟩|⟨e',hw,rfl,s3⟩)
 rotate_left
 . rw [hw]at hgo
   have hne:e'≠0:=by have:=qx w.mk_ gT hw;omega
   try simp only [j9]
   rw [<- hKK]
   refine Gy s3 (by omega) (le0.trans lQ) (by simp (disch:=decide) only [j9,p18]) (by simp (disch:=decide) only [j9,p19]) fun u h' hR=>H u h' ?_
   rw [<- hgo]
   rw [if_pos hne]at hR
   exact hR
 rw [hw]at hgo
 simp only at hgo
 try simp only [j9]
 unfold Nb
 obtain ⟨vl3,ip3,sl3,s3,d3⟩:=s3
 obtain ⟨la3,lc3,rfl,_⟩:=id (sl3.len (by decide))
 have ppz':=U2 w.mk_ gT hw
 generalize endP pz w'=pz' at*
 generalize endT tz w'=tz' at*
 obtain ⟨ab,cb,ap,cp',ar,cr,az,cs,ca,bc⟩:=wQ.bc
 have lQ3:=s3.in 5 rfl
 have cx3:∀k,af G h3 ⟨x,k,none⟩=_:=fun k=>aj (ai (lQ3 _ _ bQ))
 have cc3:∀k,af G h3 ⟨q.xc,k,none⟩=_:=fun k=>aj (ai (lQ3 _ _ bc))
 have cf3:∀k,af G h3 ⟨q.xf,k,none⟩=_:=fun k=>aj (ai (s3.at 0 rfl ag))
 have ca3:∀k,af G h3 ⟨q.xa,k,none⟩=_:=fun k=>aj (ai (s3.at 1 rfl ag))
 try simp (disch:=decide) only [j9,p7,p10,p11,cx3,cc3,cf3,ca3]
 refine (Rv.Qi (a:=tz') (b:=q.C.ho)).mono ?_
 rintro _ h3 ⟨rfl,rfl⟩
 refine ⟨Hp.le.refl _,?_⟩
 try simp (disch:=first|decide|exact ao|exact am|omega|rfl) only [j9]
 intro y hy gy
 have s4:=s3.new (o := .cells #[z.k,(0:Int),(0:Int),pz'.x,pz'.y,.bool pz'.d,pz'.x,pz'.y,.bool pz'.d,tz',(sumI tz' q.C.ho)] 48 (0,0)) hy
 try simp (disch:=first|decide|omega) only [j9,Nat.reduceAdd,Nat.reduceMul]
 generalize e4:Hp.set h3 y _=h4 at*
 obtain ⟨l4,d4,by4⟩:=boxed e4 hy d3 gy
 have cl4:∀k,af G h4 ⟨q.xl,k,none⟩=_:=fun k=>aj (ai (s4.at 4 rfl ag))
 have cy4:∀k,af G h4 ⟨y,k,none⟩=_:=fun k=>aj (ai by4)
 try simp only [j9,p18,cl4,cy4]
 intro v hv gv
 have s5:=s4.new (o := .cells #[z.k,(0:Int),(0:Int),pz'.x,pz'.y,.bool pz'.d,pz'.x,pz'.y,.bool pz'.d,tz',(sumI tz' q.C.ho)] 48 (0,0)) hv
 have d5:=d4.set (o := .cells #[z.k,(0:Int),(0:Int),pz'.x,pz'.y,.bool pz'.d,pz'.x,pz'.y,.bool pz'.d,tz',(sumI tz' q.C.ho)] 48 (0,0)) gv
 generalize Hp.set h4 v _=h5 at*
 try simp (disch:=first|decide|omega) only [j9,Nat.reduceAdd,Nat.reduceMul]
 refine (Lo (M:=[uj q.C z.k pz' tz']) (s5.sel [6,0,1,2,3,4,5,7] (by decide) rfl) sl3 (fun _=>Sees.row (c:=jw) (L:=[uj q.C z.k pz' tz']) (s5.at 0 rfl ag) rfl (Nat.le_refl _)) (by rw [List.length_append];simp;omega)).mono ?_
 rintro v6 h6 ⟨ip6,sl6,s6,d6⟩
 obtain ⟨la6,lc6,rfl,_⟩:=id (sl6.len (by decide))
 try simp (disch:=first|decide|omega) only [j9,Nat.reduceAdd,Nat.reduceMul,p18]
 have bl6:=s6.at 6 rfl ag
 rw [bz sz40 rfl bl6 (by simp)]
 simp only [List.set_cons_zero]
 have s7:=(s6.sel [6,0,1,2,3,4,5,7] (by decide) rfl).put (o := .cells #[.slice la6 (l++w'++[uj q.C z.k pz' tz']).length lc6] 40 (0,0)) ag
 rw [set_set]at s7
 have d7:=d6.set (o := .cells #[.slice la6 (l++w'++[uj q.C z.k pz' tz']).length lc6] 40 (0,0)) (d6 _ _ bl6)
 generalize Hp.set h6 q.xl _=h7 at*
 have cy7:∀k,af G h7 ⟨y,k,none⟩=_:=fun k=>aj (ai (s7.at 3 rfl ag))
 try simp only [j9,cy7,p11]
 have ba7:=s7.at 5 rfl ag
 rw [bz sz3 rfl ba7 (by simp)]
 simp only [List.set_cons_zero]
 have s8:=(s7.sel [5,0,1,2,3,4,6,7] (by decide) rfl).put (o := .cells #[(sumI tz' q.C.ho)] 3 (0,0)) ag
 rw [set_set]at s8
 have d8:=d7.set (o := .cells #[(sumI tz' q.C.ho)] 3 (0,0)) (d7 _ _ ba7)
 try simp (disch:=first|decide|omega) only [j9,Nat.reduceAdd,Nat.reduceMul]
 unfold Nf
 try simp (disch:=first|decide|omega) only [j9,p21]
 refine hX (S.length-(i+1)) _ _ (by omega) ⟨i+1,pz',sumI tz' q.C.ho,_,rfl,by omega,fun y h1 h2=>by simp (disch:=omega) only [au];exact hp' y h1 h2,by simp only [j9]<;>rfl,ppz',?_,⟨_,ip6,sl6,?_,d8⟩,hgo⟩
 . rw [List.length_append,List.length_append,Nat.add_mul]
   simp only [List.length_cons,List.length_nil]
   omega
 . exact ((s8.sel (is:=[7,5,0,6,1,2]) (by decide) rfl).cut lQ).sel [1,2,3,4,5,0] (by decide) rfl
end Go.Proofs.YtfflipnhffknnaaGreatDoor
end
section
namespace Go.Proofs.YtfflipnhffknnaaGreatDoor
open Go Go.HL
section
variable (G:Hp) (K:EK) (r:Rg) (h:Hp)
def md19:Nat->Hint
 |8=>mh false [0,1,0,0,0,0,0,127,255,511,511,1023,4095] [m_,e_,n_,m_,n_,n_,m_,e_,n_,n_,n_,n_,n_] [false,true,false,false,false,false,false,false,false,false,false,false,false] false
 |17=>mh false [0,0,2,7,15,31,31,127,255,511,31,31,3103,7199,15391,32767,65535,131071,262143,262143,1048575,2097151,4194303,262143,262143,25427967,58982399,126091263,260308991,536870911,1073741823,2147483647,4294967295,4294967295,17179869183,34359738367,68719476735,4294967295,4294967295,416611827711,966367641599,2065879269375,4398046511103,4294967295,8800387989503,35184372088831,70368744177663] [n_,n_,m_,n_,n_,n_,n_,n_,n_,m_,n_,n_,n_,n_,m_,m_,n_,n_,n_,n_,n_,n_,m_,n_,n_,n_,n_,n_,m_,m_,n_,n_,n_,n_,n_,n_,m_,n_,n_,n_,n_,m_,n_,n_,m_,m_,n_] (fs 47) false
 |23=>mh false [0,0,2,7,15,31,31,127,255,511,1023,2047,1023,1023,1023,32767,65535,131071,262143,524287,1048575] [n_,n_,m_,m_,n_,m_,m_,m_,n_,n_,m_,e_,n_,m_,n_,e_,n_,n_,e_,n_,n_] [false,false,false,false,false,false,false,false,false,false,false,true,false,false,false,false,false,false,false,false,false] false
 |_=>mh false [] [] [] false
def aD8:Prop:=
 w_ G h (Builtin.len_ #[59] 3 #[(r 18)]) h fun v41 h41=>
 bk P_ G h (xEq .eql 3 (.tmp 0) (.tmp 0) (r 22) v41) h41 fun v42 h42=>g_ v42 true (w_ G h (Instr.loadAt 30 (r 23)) h42) h42 fun v43 h43=>g_ v42 true (w_ G h (Instr.loadAt 30 (r 11)) h43) h43 fun v44 h44=>g_ v42 true (bk P_ G h (xEq .eql 30 (.tmp 0) (.tmp 0) v43 v44) h44) h44 fun v45 h45=>
 bk P_ noHp noHp (bj v42 v45 (.bool false)) h45 fun v46 h46=>g_ v46 true (w_ G h (Instr.loadAt 26 (r 6)) h46) h46 fun v47 h47=>g_ v46 true (fun K1=>c_ G 28 #[v47] h47 fun v h'=>h.le h'/\K1 v h') h47 fun v48 h48=>g_ v46 true (fun K1=>K1 (r 16) h48) h48 fun v49 h49=>g_ v46 true (w_ G h (Instr.loadAt 30 (r 8)) h49) h49 fun v50 h50=>g_ v46 true (fun K1=>K1 (r 20) h50) h50 fun v51 h51=>g_ v46 true (c_ G 35 #[v48,v49,v50,v51] h51) h51 fun v52 h52=>
 bk P_ noHp noHp (bj v46 v52 (.bool false)) h52 fun v53 h53=>g_ v53 true (c_ G 32 #[] h53) h53 fun v54 h54=>
 bk P_ noHp noHp (bj v53 v54 (.bool false)) h54 fun v55 h55=>
 K .ret (upd (u10 (u10 r 162 (r 22) 163 (r 18) 164 v41 165 v42 166 v42 167 v43 168 v44 169 v45 170 v46 171 v46) 172 v47 173 v48 174 v49 175 v50 176 v51 177 v52 178 v53 179 v53 180 v54 181 v55) 12 v55) h55
def Nm:Prop:=
 o_ G (binOp .add 3 (r 24) (.int .i64 1)) h fun v58 h58=>
 K .normal (u3 r 85 (r 24) 86 v58 24 v58) h58
def Nl:Prop:=
 o_ G (Instr.indexAt 40 (r 20) (r 24)) h fun v74 h74=>o_ G (Instr.fieldAt 48 v74 4) h74 fun v75 h75=>o_ G (Instr.loadAt 30 v75) h75 fun v76 h76=>
 opH P_ G (su (Instr.storeAt 30 (r 23) v76)) h76 fun v77 h77=>
 Nm G K (u5 r 157 (r 20) 158 (r 24) 159 v74 160 v75 161 v76) h77
def Ar:Prop:=
 o_ G (Instr.indexAt 40 (r 20) (r 24)) h fun v70 h70=>o_ G (Instr.fieldAt 48 v70 5) h70 fun v71 h71=>o_ G (Instr.loadAt 3 v71) h71 fun v72 h72=>o_ G (binOp .lss 3 v72 (r 3)) h72 fun v73 h73=>
 (fun q=>cond v73
 (K .ret (upd q 12 (.bool false)) h73)
 (Nl G K q h73))
 (u7 r 150 (r 20) 151 (r 24) 152 v70 153 v71 154 v72 155 (r 3) 156 v73)
def B2:Prop:=
 o_ G (binOp .add 3 (r 22) (.int .i64 1)) h fun v120 h120=>
 Ar G K (u3 r 148 (r 22) 149 v120 22 v120) h120
def Nn:Prop:=
 o_ G (Instr.indexAt 40 (r 20) (r 24)) h fun v59 h59=>o_ G (Instr.fieldAt 48 v59 0) h59 fun v60 h60=>o_ G (Instr.loadAt 3 v60) h60 fun v61 h61=>
 opH P_ G (xEq .eql 3 (.tmp 0) (.const .nilFunc) v61 (.int .i64 3)) h61 fun v62 h62=>g_ v62 false (fun K1=>K1 (r 20) h62) h62 fun v63 h63=>g_ v62 false (fun K1=>K1 (r 24) h63) h63 fun v64 h64=>g_ v62 false (o_ G (Instr.indexAt 40 v63 v64) h64) h64 fun v65 h65=>g_ v62 false (o_ G (Instr.fieldAt 48 v65 0) h65) h65 fun v66 h66=>g_ v62 false (o_ G (Instr.loadAt 3 v66) h66) h66 fun v67 h67=>g_ v62 false (opH P_ G (xEq .eql 3 (.tmp 0) (.const .nilFunc) v67 (.int .i64 4)) h67) h67 fun v68 h68=>
 opH P_ G (bj v62 (.bool true) v68) h68 fun v69 h69=>
 cond v69
 (w_ G h69 (Builtin.len_ #[59] 3 #[(r 18)]) h69 fun v78 h78=>
 p_ (binOp .geq 3 (r 22) v78) h78 fun v79 h79=>g_ v79 false (fun K1=>K1 (r 18) h79) h79 fun v80 h80=>g_ v79 false (fun K1=>K1 (r 22) h80) h80 fun v81 h81=>g_ v79 false (p_ (Instr.indexAt 59 v80 v81) h81) h81 fun v82 h82=>g_ v79 false (p_ (Instr.fieldAt 119 v82 1) h82) h82 fun v83 h83=>g_ v79 false (w_ G h69 (Instr.loadAt 3 v83) h83) h83 fun v84 h84=>g_ v79 false (fun K1=>K1 (r 20) h84) h84 fun v85 h85=>g_ v79 false (fun K1=>K1 (r 24) h85) h85 fun v86 h86=>g_ v79 false (p_ (Instr.indexAt 40 v85 v86) h86) h86 fun v87 h87=>g_ v79 false (p_ (Instr.fieldAt 48 v87 0) h87) h87 fun v88 h88=>g_ v79 false (w_ G h69 (Instr.loadAt 3 v88) h88) h88 fun v89 h89=>g_ v79 false (bk P_ G h69 (xEq .neq 3 (.tmp 0) (.tmp 0) v84 v89) h89) h89 fun v90 h90=>
 bk P_ noHp noHp (bj v79 (.bool true) v90) h90 fun v91 h91=>g_ v91 false (fun K1=>K1 (r 18) h91) h91 fun v92 h92=>g_ v91 false (fun K1=>K1 (r 22) h92) h92 fun v93 h93=>g_ v91 false (p_ (Instr.indexAt 59 v92 v93) h93) h93 fun v94 h94=>g_ v91 false (p_ (Instr.fieldAt 119 v94 0) h94) h94 fun v95 h95=>g_ v91 false (w_ G h69 (Instr.loadAt 28 v95) h95) h95 fun v96 h96=>g_ v91 false (fun K1=>K1 (r 20) h96) h96 fun v97 h97=>g_ v91 false (fun K1=>K1 (r 24) h97) h97 fun v98 h98=>g_ v91 false (p_ (Instr.indexAt 40 v97 v98) h98) h98 fun v99 h99=>g_ v91 false (p_ (Instr.fieldAt 48 v99 3) h99) h99 fun v100 h100=>g_ v91 false (p_ (Instr.fieldAt 30 v100 0) h100) h100 fun v101 h101=>g_ v91 false (w_ G h69 (Instr.loadAt 28 v101) h101) h101 fun v102 h102=>g_ v91 false (bk P_ G h69 (xEq .neq 28 (.tmp 0) (.tmp 0) v96 v102) h102) h102 fun v103 h103=>
 bk P_ noHp noHp (bj v91 (.bool true) v103) h103 fun v104 h104=>g_ v104 false (fun K1=>K1 (r 20) h104) h104 fun v105 h105=>g_ v104 false (fun K1=>K1 (r 24) h105) h105 fun v106 h106=>g_ v104 false (p_ (Instr.indexAt 40 v105 v106) h106) h106 fun v107 h107=>g_ v104 false (p_ (Instr.fieldAt 48 v107 6) h107) h107 fun v108 h108=>g_ v104 false (w_ G h69 (Instr.loadAt 3 v108) h108) h108 fun v109 h109=>g_ v104 false (fun K1=>K1 (r 20) h109) h109 fun v110 h110=>g_ v104 false (fun K1=>K1 (r 24) h110) h110 fun v111 h111=>g_ v104 false (p_ (Instr.indexAt 40 v110 v111) h111) h111 fun v112 h112=>g_ v104 false (p_ (Instr.fieldAt 48 v112 5) h112) h112 fun v113 h113=>g_ v104 false (w_ G h69 (Instr.loadAt 3 v113) h113) h113 fun v114 h114=>g_ v104 false (p_ (binOp .sub 3 v109 v114) h114) h114 fun v115 h115=>g_ v104 false (p_ (Instr.fieldAt 26 (r 6) 11) h115) h115 fun v116 h116=>g_ v104 false (w_ G h69 (Instr.loadAt 3 v116) h116) h116 fun v117 h117=>g_ v104 false (bk P_ G h69 (xEq .neq 3 (.tmp 0) (.tmp 0) v115 v117) h117) h117 fun v118 h118=>
 bk P_ noHp noHp (bj v104 (.bool true) v118) h118 fun v119 h119=>
 cond v119
 (K .ret (u2 (u10 (u10 (u10 (u10 (u10 (u10 r 87 (r 20) 88 (r 24) 89 v59 90 v60 91 v61 92 v62 93 v62 94 v63 95 v64 96 v65) 97 v66 98 v67 99 v68 100 v69 101 (r 22) 102 (r 18) 103 v78 104 v79 105 v79 106 v80) 107 v81 108 v82 109 v83 110 v84 111 v85 112 v86 113 v87 114 v88 115 v89 116 v90) 117 v91 118 v91 119 v92 120 v93 121 v94 122 v95 123 v96 124 v97 125 v98 126 v99) 127 v100 128 v101 129 v102 130 v103 131 v104 132 v104 133 v105 134 v106 135 v107 136 v108) 137 v109 138 v110 139 v111 140 v112 141 v113 142 v114 143 v115 144 v116 145 v117 146 v118) 147 v119 12 (.bool false)) h119)
 (B2 G K (upd (u10 (u10 (u10 (u10 (u10 (u10 r 87 (r 20) 88 (r 24) 89 v59 90 v60 91 v61 92 v62 93 v62 94 v63 95 v64 96 v65) 97 v66 98 v67 99 v68 100 v69 101 (r 22) 102 (r 18) 103 v78 104 v79 105 v79 106 v80) 107 v81 108 v82 109 v83 110 v84 111 v85 112 v86 113 v87 114 v88 115 v89 116 v90) 117 v91 118 v91 119 v92 120 v93 121 v94 122 v95 123 v96 124 v97 125 v98 126 v99) 127 v100 128 v101 129 v102 130 v103 131 v104 132 v104 133 v105 134 v106 135 v107 136 v108) 137 v109 138 v110 139 v111 140 v112 141 v113 142 v114 143 v115 144 v116 145 v117 146 v118) 147 v119) h119))
 (Ar G K (u4 (u10 r 87 (r 20) 88 (r 24) 89 v59 90 v60 91 v61 92 v62 93 v62 94 v63 95 v64 96 v65) 97 v66 98 v67 99 v68 100 v69) h69)
def V5 (r:Rg) (h:Hp) (K:EK):Prop:=
 o_ G (Builtin.len_ #[40] 3 #[(r 20)]) h fun v56 h56=>o_ G (binOp .lss 3 (r 24) v56) h56 fun v57 h57=>
 cond v57
 (Nn G K (u4 r 81 (r 24) 82 (r 20) 83 v56 84 v57) h57)
 (K (.exit 0) (u4 r 81 (r 24) 82 (r 20) 83 v56 84 v57) h57)
def aD9:Prop:=
 o_ G (Instr.loadAt 30 (r 8)) h fun v38 h38=>o_ G (Instr.alloc 30 true (.tuple #[])) h38 fun v39 h39=>
 opH P_ G (su (Instr.storeAt 30 v39 v38)) h39 fun v40 h40=>
 ci (V5 G) (u4 r 22 (.int .i64 0) 80 v38 23 v39 24 (.int .i64 0)) h40 (bn 0 (bv (aD8 G K) K))
def aE0:Prop:=
 c_ G 33 #[(r 4)] h fun v27 h27=>o_ G (Instr.extract v27 0) h27 fun v28 h28=>o_ G (Instr.extract v27 1) h28 fun v29 h29=>
 w_ G h29 (Instr.loadAt 26 (r 6)) h29 fun v30 h30=>
 c_ G 28 #[v30] h30 fun v31 h31=>h29.le h31/\
 w_ G h29 (Instr.loadAt 30 (r 8)) h31 fun v32 h32=>
 w_ G h29 (Instr.loadAt 30 (r 11)) h32 fun v33 h33=>
 c_ G 34 #[v31,(r 13),(.int .i64 0),v32,(r 3),v28,v33] h33 fun v34 h34=>
 p_ (Instr.extract v34 0) h34 fun v35 h35=>
 p_ (Instr.extract v34 1) h35 fun v36 h36=>
 opH P_ G (xEq .neq 35 (.tmp 0) (.const .nilFunc) v36 (.int .i64 0)) h36 fun v37 h37=>
 cond v37
 (o_ G (Builtin.len_ #[40] 3 #[v35]) h37 fun v121 h121=>
 opH P_ G (xEq .eql 3 (.tmp 0) (.const .nilFunc) v121 (.int .i64 0)) h121 fun v122 h122=>g_ v122 true (c_ G 32 #[] h122) h122 fun v123 h123=>
 opH P_ G (bj v122 v123 (.bool false)) h123 fun v124 h124=>
 K .ret (u9 (u10 (u10 r 57 (r 4) 58 v27 56 v27 59 v28 60 v29 18 v28 19 v29 62 v30 63 v31 64 (r 13)) 65 v32 66 (r 3) 67 v28 68 v33 69 v34 61 v34 70 v35 71 v36 20 v35 21 v36) 72 v36 73 v37 74 v35 75 v121 76 v122 77 v122 78 v123 79 v124 12 v124) h124)
 (aD9 G K (u2 (u10 (u10 r 57 (r 4) 58 v27 56 v27 59 v28 60 v29 18 v28 19 v29 62 v30 63 v31 64 (r 13)) 65 v32 66 (r 3) 67 v28 68 v33 69 v34 61 v34 70 v35 71 v36 20 v35 21 v36) 72 v36 73 v37) h37)
def aE1:Prop:=
 o_ G (Instr.loadAt 26 (r 6)) h fun v6 h6=>
 c_ G 56 #[v6,(r 1)] h6 fun v7 h7=>o_ G (Instr.extract v7 0) h7 fun v8 h8=>o_ G (Instr.extract v7 1) h8 fun v9 h9=>o_ G (Instr.extract v7 2) h9 fun v10 h10=>o_ G (Instr.fieldAt 26 (r 6) 7) h10 fun v11 h11=>o_ G (Instr.loadAt 3 v11) h11 fun v12 h12=>o_ G (Instr.fieldAt 26 (r 6) 8) h12 fun v13 h13=>o_ G (Instr.loadAt 3 v13) h13 fun v14 h14=>o_ G (Instr.fieldAt 26 (r 6) 9) h14 fun v15 h15=>o_ G (Instr.loadAt 3 v15) h15 fun v16 h16=>
 c_ G 29 #[v12,v14,v16] h16 fun v17 h17=>o_ G (Instr.extract v17 0) h17 fun v18 h18=>o_ G (Instr.extract v17 1) h18 fun v19 h19=>o_ G (Op.unary .not v10) h19 fun v20 h20=>g_ v20 false (fun K1=>K1 v19 h20) h20 fun v21 h21=>g_ v20 false (opH P_ G (xEq .neq 35 (.tmp 0) (.const .nilFunc) v21 (.int .i64 0)) h21) h21 fun v22 h22=>
 opH P_ G (bj v20 (.bool true) v22) h22 fun v23 h23=>g_ v23 false (fun K1=>K1 v18 h23) h23 fun v24 h24=>g_ v23 false (opH P_ G (xEq .eql 50 (.tmp 0) (.const .nilFunc) v24 (.pointer none)) h24) h24 fun v25 h25=>
 opH P_ G (bj v23 (.bool true) v25) h25 fun v26 h26=>
 (fun q=>cond v26
 (K .ret (upd q 12 (.bool false)) h26)
 (aE0 G K q h26))
 (u2 (u10 (u10 (u10 r 30 v6 31 (r 1) 32 v7 29 v7 33 v8 34 v9 35 v10 13 v8 14 v9 15 v10) 37 v11 38 v12 39 v13 40 v14 41 v15 42 v16 43 v17 36 v17 44 v18 45 v19) 16 v18 17 v19 46 v10 47 v20 48 v20 49 v21 50 v22 51 v23 52 v23 53 v24) 54 v25 55 v26)
def S19:Prop:=
 o_ G (Instr.box 26 (r 0)) h fun v0 h0=>o_ G (Instr.box 30 (r 2)) h0 fun v1 h1=>o_ G (Instr.box 30 (r 5)) h1 fun v2 h2=>o_ G (Instr.loadAt 26 v0) h2 fun v3 h3=>
 c_ G 21 #[v3] h3 fun v4 h4=>o_ G (Op.unary .not v4) h4 fun v5 h5=>
 cond v5
 (c_ G 32 #[] h5 fun v125 h125=>
 K .ret (u9 r 6 v0 8 v1 11 v2 12 (.bool false) 25 v3 26 v4 27 v5 28 v125 12 v125) h125)
 (aE1 G K (u7 r 6 v0 8 v1 11 v2 12 (.bool false) 25 v3 26 v4 27 v5) h5)
theorem enter19:Ent 182 19 [.tmp 12] S19:=ent_ (m:=md19) (c:=(Tryz.f19.body.getD .skip)) (fun _ _ _ _=>by kernel_rfl) Tryz.func19 rfl rfl rfl
def md32:Nat->Hint
 |_=>mh false [] [] [] false
def aD0:Prop:=
 o_ G (Instr.loadAt 26 (r 1)) h fun v10 h10=>o_ G (Instr.build 30 #[]) h10 fun v11 h11=>o_ G (Instr.build 119 #[(1,(.int .i64 3))]) h11 fun v12 h12=>o_ G (Instr.buildSlice 59 1 #[(0,v12)]) h12 fun v13 h13=>o_ G (Instr.build 28 #[(0,(.int .i64 1))]) h13 fun v14 h14=>o_ G (Instr.build 30 #[(0,v14)]) h14 fun v15 h15=>
 c_ G 34 #[v10,(r 2),(.int .i64 0),v11,(.int .i64 3),v13,v15] h15 fun v16 h16=>o_ G (Instr.extract v16 0) h16 fun v17 h17=>o_ G (Instr.extract v16 1) h17 fun v18 h18=>
 opH P_ G (xEq .eql 35 (.tmp 0) (.const .nilFunc) v18 (.int .i64 0)) h18 fun v19 h19=>g_ v19 true (fun K1=>K1 v17 h19) h19 fun v20 h20=>g_ v19 true (o_ G (Builtin.len_ #[40] 3 #[v20]) h20) h20 fun v21 h21=>g_ v19 true (opH P_ G (xEq .eql 3 (.tmp 0) (.const .nilFunc) v21 (.int .i64 2)) h21) h21 fun v22 h22=>
 opH P_ G (bj v19 v22 (.bool false)) h22 fun v23 h23=>g_ v23 true (fun K1=>K1 v17 h23) h23 fun v24 h24=>g_ v23 true (o_ G (Instr.indexAt 40 v24 (.int .i64 0)) h24) h24 fun v25 h25=>g_ v23 true (o_ G (Instr.fieldAt 48 v25 0) h25) h25 fun v26 h26=>g_ v23 true (o_ G (Instr.loadAt 3 v26) h26) h26 fun v27 h27=>g_ v23 true (opH P_ G (xEq .eql 3 (.tmp 0) (.const .nilFunc) v27 (.int .i64 3)) h27) h27 fun v28 h28=>
 opH P_ G (bj v23 v28 (.bool false)) h28 fun v29 h29=>g_ v29 true (fun K1=>K1 v17 h29) h29 fun v30 h30=>g_ v29 true (o_ G (Instr.indexAt 40 v30 (.int .i64 0)) h30) h30 fun v31 h31=>g_ v29 true (o_ G (Instr.fieldAt 48 v31 5) h31) h31 fun v32 h32=>g_ v29 true (o_ G (Instr.loadAt 3 v32) h32) h32 fun v33 h33=>g_ v29 true (opH P_ G (xEq .eql 3 (.tmp 0) (.const .nilFunc) v33 (.int .i64 3)) h33) h33 fun v34 h34=>
 opH P_ G (bj v29 v34 (.bool false)) h34 fun v35 h35=>g_ v35 true (fun K1=>K1 v17 h35) h35 fun v36 h36=>g_ v35 true (o_ G (Instr.indexAt 40 v36 (.int .i64 0)) h36) h36 fun v37 h37=>g_ v35 true (o_ G (Instr.fieldAt 48 v37 6) h37) h37 fun v38 h38=>g_ v35 true (o_ G (Instr.loadAt 3 v38) h38) h38 fun v39 h39=>g_ v35 true (opH P_ G (xEq .eql 3 (.tmp 0) (.const .nilFunc) v39 (.int .i64 9)) h39) h39 fun v40 h40=>
 opH P_ G (bj v35 v40 (.bool false)) h40 fun v41 h41=>g_ v41 true (fun K1=>K1 v17 h41) h41 fun v42 h42=>g_ v41 true (o_ G (Instr.indexAt 40 v42 (.int .i64 1)) h42) h42 fun v43 h43=>g_ v41 true (o_ G (Instr.fieldAt 48 v43 0) h43) h43 fun v44 h44=>g_ v41 true (o_ G (Instr.loadAt 3 v44) h44) h44 fun v45 h45=>g_ v41 true (opH P_ G (xEq .eql 3 (.tmp 0) (.const .nilFunc) v45 (.int .i64 1)) h45) h45 fun v46 h46=>
 opH P_ G (bj v41 v46 (.bool false)) h46 fun v47 h47=>g_ v47 true (fun K1=>K1 v17 h47) h47 fun v48 h48=>g_ v47 true (o_ G (Instr.indexAt 40 v48 (.int .i64 1)) h48) h48 fun v49 h49=>g_ v47 true (o_ G (Instr.fieldAt 48 v49 6) h49) h49 fun v50 h50=>g_ v47 true (o_ G (Instr.loadAt 3 v50) h50) h50 fun v51 h51=>g_ v47 true (opH P_ G (xEq .eql 3 (.tmp 0) (.const .nilFunc) v51 (.int .i64 13)) h51) h51 fun v52 h52=>
 opH P_ G (bj v47 v52 (.bool false)) h52 fun v53 h53=>
 K .ret (u6 (u10 (u10 (u10 (u10 (u10 r 18 v10 19 (r 2) 20 v11 21 v12 22 v13 23 v14 24 v15 25 v16 17 v16 26 v17) 27 v18 4 v17 5 v18 28 v18 29 v19 30 v19 31 v20 32 v21 33 v22 34 v23) 35 v23 36 v24 37 v25 38 v26 39 v27 40 v28 41 v29 42 v29 43 v30 44 v31) 45 v32 46 v33 47 v34 48 v35 49 v35 50 v36 51 v37 52 v38 53 v39 54 v40) 55 v41 56 v41 57 v42 58 v43 59 v44 60 v45 61 v46 62 v47 63 v47 64 v48) 65 v49 66 v50 67 v51 68 v52 69 v53 0 v53) h53
def S32:Prop:=
 o_ G (Instr.build 26 #[(0,(.int .i64 3)),(1,(.int .i64 1)),(2,(.int .i64 1)),(7,(.int .i64 10)),(8,(.int .i64 2)),(9,(.int .i64 4)),(10,(.int .i64 1)),(11,(.int .i64 6)),(12,(.int .i64 1)),(13,(.int .i64 1)),(14,(.int .i64 100))]) h fun v0 h0=>o_ G (Instr.alloc 26 true (.tuple #[])) h0 fun v1 h1=>
 opH P_ G (su (Instr.storeAt 26 v1 v0)) h1 fun v2 h2=>
 c_ G 24 #[(.int .i64 3)] h2 fun v3 h3=>o_ G (Instr.extract v3 0) h3 fun v4 h4=>o_ G (Instr.extract v3 1) h4 fun v5 h5=>
 opH P_ G (xEq .neq 35 (.tmp 0) (.const .nilFunc) v5 (.int .i64 0)) h5 fun v6 h6=>g_ v6 false (fun K1=>K1 v4 h6) h6 fun v7 h7=>g_ v6 false (opH P_ G (xEq .eql 34 (.tmp 0) (.const .nilFunc) v7 (.pointer none)) h7) h7 fun v8 h8=>
 opH P_ G (bj v6 (.bool true) v8) h8 fun v9 h9=>
 (fun q=>cond v9
 (K .ret (upd q 0 (.bool false)) h9)
 (aD0 G K q h9))
 (u5 (u10 r 0 (.bool false) 6 v0 1 v1 8 v3 7 v3 9 v4 10 v5 2 v4 3 v5 11 v5) 12 v6 13 v6 14 v7 15 v8 16 v9)
theorem enter32:Ent 70 32 [.tmp 0] S32:=ent_ (m:=md32) (c:=(Tryz.f32.body.getD .skip)) (fun _ _ _ _=>by kernel_rfl) Tryz.func32 rfl rfl rfl
def md33:Nat->Hint
 |7=>mh false [0,0,0,6,14,30,0,0,192,448,960,2046,4094,8191,16383] [n_,n_,n_,n_,n_,m_,n_,n_,n_,n_,m_,n_,.alloc,e_,n_] (fs 15) false
 |_=>mh false [] [] [] false
def V2 (G:Hp) (K:EK) (r:Rg) (h:Hp):Prop:=
 K .ret (u4 r 38 (r 4) 39 (r 5) 2 (r 4) 3 (r 5)) h
def Ng:Prop:=
 o_ G (binOp .add 3 (r 6) (.int .i64 1)) h fun v5 h5=>
 K .normal (u3 r 15 (r 6) 16 v5 6 v5) h5
def Nh:Prop:=
 o_ G (Instr.indexAt 59 (r 0) (r 6)) h fun v6 h6=>o_ G (Instr.loadAt 119 v6) h6 fun v7 h7=>o_ G (Instr.buildSlice 59 1 #[(0,v7)]) h7 fun v8 h8=>o_ G (Builtin.append_ #[59,59] 59 #[(r 4),v8]) h8 fun v9 h9=>
 p_ (Instr.indexAt 59 (r 0) (r 6)) h9 fun v10 h10=>
 p_ (Instr.fieldAt 119 v10 0) h10 fun v11 h11=>
 w_ G h9 (Instr.loadAt 28 v11) h11 fun v12 h12=>
 p_ (Instr.indexAt 59 (r 0) (r 6)) h12 fun v13 h13=>
 p_ (Instr.fieldAt 119 v13 1) h13 fun v14 h14=>
 w_ G h9 (Instr.loadAt 3 v14) h14 fun v15 h15=>
 p_ (Instr.build 175 #[(0,v12),(1,v15)]) h15 fun v16 h16=>o_ G (Instr.buildSlice 60 1 #[(0,v16)]) h16 fun v17 h17=>o_ G (Builtin.append_ #[60,60] 60 #[(r 5),v17]) h17 fun v18 h18=>
 Ng G K (u3 (u10 (u10 r 17 (r 4) 18 (r 0) 19 (r 6) 20 v6 21 v7 22 v8 23 v9 4 v9 24 (r 5) 25 (r 0)) 26 (r 6) 27 v10 28 v11 29 v12 30 (r 0) 31 (r 6) 32 v13 33 v14 34 v15 35 v16) 36 v17 37 v18 5 v18) h18
def aC9 (r:Rg) (h:Hp) (K:EK):Prop:=
 o_ G (Builtin.len_ #[59] 3 #[(r 0)]) h fun v0 h0=>o_ G (binOp .lss 3 (r 6) v0) h0 fun v1 h1=>g_ v1 true (fun K1=>K1 (r 6) h1) h1 fun v2 h2=>g_ v1 true (o_ G (binOp .lss 3 v2 (.int .i64 4)) h2) h2 fun v3 h3=>
 opH P_ G (bj v1 v3 (.bool false)) h3 fun v4 h4=>
 (fun q=>cond v4
 (Nh G K q h4)
 (K (.exit 0) q h4))
 (u8 r 7 (r 6) 8 (r 0) 9 v0 10 v1 11 v1 12 v2 13 v3 14 v4)
def S33:Prop:=
 ci (aC9 G) (u5 r 2 (.slice none 0 0) 3 (.slice none 0 0) 4 (.slice none 0 0) 5 (.slice none 0 0) 6 (.int .i64 0)) h (bn 0 (bv (V2 G K) K))
theorem enter33:Ent 40 33 [.tmp 2,.tmp 3] S33:=ent_ (m:=md33) (c:=(Tryz.f33.body.getD .skip)) (fun _ _ _ _=>by kernel_rfl) Tryz.func33 rfl rfl rfl
def md56:Nat->Hint
 |10=>⟨false,[0,0,2,6,0,16,0,64,0,256,1008,2032,4095,0,0,16384,49152,0,131072,524287,1048575],[.pureN,.pureN,.pureN,.pureN,.pureN,.pureM,.pureN,.pureM,.pureN,.pureM,.pureN,.alloc,.eff,.pureN,.pureN,.pureN,.pureN,.pureM,.alloc,.eff,.pureM],[.pureN,.pureN,.pureN,.pureN,.pureN,.pureM,.pureN,.pureM,.pureN,.pureM,.pureN,.alloc,.eff,.pureN,.pureN,.pureN,.pureN,.pureM,.alloc,.eff,.late],[false,false,false,false,false,false,false,false,false,false,false,false,true,false,false,false,false,false,false,false,false],true⟩
 |_=>mh false [] [] [] false
def Vw (G:Hp) (K:EK) (r:Rg) (h:Hp):Prop:=
 K .ret (u5 r 77 (r 7) 78 (r 9) 4 (r 7) 5 (r 9) 6 (.bool true)) h
def M0:Prop:=
 o_ G (binOp .add 3 (r 10) (.int .i64 1)) h fun v24 h24=>
 K .normal (u3 r 41 (r 10) 42 v24 10 v24) h24
def M1:Prop:=
 o_ G (Instr.indexAt 114 (r 1) (r 10)) h fun v25 h25=>o_ G (Instr.loadAt 186 v25) h25 fun v26 h26=>o_ G (Instr.alloc 186 true (.tuple #[])) h26 fun v27 h27=>
 opH P_ G (su (Instr.storeAt 186 v27 v26)) h27 fun v28 h28=>o_ G (Instr.fieldAt 186 v27 0) h28 fun v29 h29=>o_ G (Instr.loadAt 3 v29) h29 fun v30 h30=>o_ G (Instr.fieldAt 26 (r 2) 0) h30 fun v31 h31=>o_ G (Instr.loadAt 3 v31) h31 fun v32 h32=>o_ G (Instr.fieldAt 26 (r 2) 1) h32 fun v33 h33=>o_ G (Instr.loadAt 3 v33) h33 fun v34 h34=>o_ G (binOp .mul 3 v32 v34) h34 fun v35 h35=>
 c_ G 25 #[v30,v35] h35 fun v36 h36=>o_ G (Instr.fieldAt 186 v27 0) h36 fun v37 h37=>
 opH P_ G (su (Instr.storeAt 3 v37 v36)) h37 fun v38 h38=>
 ∃q39:Hp,q39.le h38/\
 p_ (binOp .rem 3 (r 10) (.int .i64 3)) h38 fun v40 h40=>
 p_ (binOp .add 3 (.int .i64 1) v40) h40 fun v41 h41=>
 p_ (Instr.fieldAt 186 v27 0) h41 fun v42 h42=>
 w_ G q39 (Instr.loadAt 3 v42) h42 fun v43 h43=>
 p_ (Instr.fieldAt 186 v27 1) h43 fun v44 h44=>
 w_ G q39 (Instr.loadAt 3 v44) h44 fun v45 h45=>
 p_ (Instr.fieldAt 186 v27 2) h45 fun v46 h46=>
 w_ G q39 (Instr.loadAt 3 v46) h46 fun v47 h47=>
 p_ (Instr.build 75 #[(0,v43),(1,v45),(2,v47)]) h47 fun v48 h48=>o_ G (Instr.buildSlice 71 1 #[(0,v48)]) h48 fun v49 h49=>
 c_ G 50 #[(r 7),v41,v49] h49 fun v50 h50=>q39.le h50/\
 p_ (binOp .rem 3 (r 10) (.int .i64 3)) h50 fun v51 h51=>
 p_ (binOp .add 3 (.int .i64 1) v51) h51 fun v52 h52=>
 w_ G q39 (Instr.loadAt 186 v27) h52 fun v53 h53=>o_ G (Instr.buildSlice 114 1 #[(0,v53)]) h53 fun v54 h54=>
 c_ G 92 #[(r 9),v52,v54] h54 fun v55 h55=>
 bk P_ G h55 (xEq .neq 35 (.tmp 0) (.tmp 0) v50 v55) h55 fun v56 h56=>
 (fun q=>cond v56
 (K .ret (u3 q 4 (.pointer none) 5 (.pointer none) 6 (.bool false)) h56)
 (M0 G K q h56))
 (u5 (u10 (u10 (u10 r 43 (r 1) 44 (r 10) 45 v25 46 v26 11 v27 47 v29 48 v30 49 v31 50 v32 51 v33) 52 v34 53 v35 54 v36 55 v37 56 (r 7) 57 (r 10) 58 v40 59 v41 60 v42 61 v43) 62 v44 63 v45 64 v46 65 v47 66 v48 67 v49 68 v50 69 (r 9) 70 (r 10) 71 v51) 72 v52 73 v53 74 v54 75 v55 76 v56)
def aA6 (r:Rg) (h:Hp) (K:EK):Prop:=
 o_ G (Builtin.len_ #[114] 3 #[(r 1)]) h fun v19 h19=>o_ G (binOp .lss 3 (r 10) v19) h19 fun v20 h20=>g_ v20 true (fun K1=>K1 (r 10) h20) h20 fun v21 h21=>g_ v20 true (o_ G (binOp .lss 3 v21 (.int .i64 30)) h21) h21 fun v22 h22=>
 opH P_ G (bj v20 v22 (.bool false)) h22 fun v23 h23=>
 (fun q=>cond v23
 (M1 G K q h23)
 (K (.exit 0) q h23))
 (u8 r 33 (r 10) 34 (r 1) 35 v19 36 v20 37 v20 38 v21 39 v22 40 v23)
def aA7:Prop:=
 ci (aA6 G) (upd r 10 (.int .i64 0)) h (bn 0 (bv (Vw G K) K))
def S56:Prop:=
 o_ G (Instr.box 26 (r 0)) h fun v0 h0=>o_ G (Instr.fieldAt 26 v0 0) h0 fun v1 h1=>o_ G (Instr.loadAt 3 v1) h1 fun v2 h2=>o_ G (Instr.fieldAt 26 v0 1) h2 fun v3 h3=>o_ G (Instr.loadAt 3 v3) h3 fun v4 h4=>o_ G (binOp .mul 3 v2 v4) h4 fun v5 h5=>
 c_ G 24 #[v5] h5 fun v6 h6=>o_ G (Instr.extract v6 0) h6 fun v7 h7=>o_ G (Instr.extract v6 1) h7 fun v8 h8=>o_ G (Instr.fieldAt 26 v0 0) h8 fun v9 h9=>o_ G (Instr.loadAt 3 v9) h9 fun v10 h10=>o_ G (Instr.fieldAt 26 v0 1) h10 fun v11 h11=>o_ G (Instr.loadAt 3 v11) h11 fun v12 h12=>o_ G (binOp .mul 3 v10 v12) h12 fun v13 h13=>
 c_ G 91 #[v13] h13 fun v14 h14=>
 opH P_ G (xEq .neq 35 (.tmp 0) (.const .nilFunc) v8 (.int .i64 0)) h14 fun v15 h15=>g_ v15 false (fun K1=>K1 v7 h15) h15 fun v16 h16=>g_ v15 false (opH P_ G (xEq .eql 34 (.tmp 0) (.const .nilFunc) v16 (.pointer none)) h16) h16 fun v17 h17=>
 opH P_ G (bj v15 (.bool true) v17) h17 fun v18 h18=>
 (fun q=>cond v18
 (K .ret (u3 q 4 (.pointer none) 5 (.pointer none) 6 (.bool false)) h18)
 (aA7 G K q h18))
 (u8 (u10 (u10 r 2 v0 4 (.pointer none) 5 (.pointer none) 6 (.bool false) 13 v1 14 v2 15 v3 16 v4 17 v5 18 v6) 12 v6 19 v7 20 v8 7 v7 8 v8 21 v9 22 v10 23 v11 24 v12 25 v13) 26 v14 9 v14 27 v8 28 v15 29 v15 30 v16 31 v17 32 v18)
theorem enter56:Ent 79 56 [.tmp 4,.tmp 5,.tmp 6] S56:=ent_ (m:=md56) (c:=(Tryz.f56.body.getD .skip)) (fun _ _ _ _=>by kernel_rfl) Tryz.func56 rfl rfl rfl
end
end Go.Proofs.YtfflipnhffknnaaGreatDoor
end
section
namespace Go.Proofs.YtfflipnhffknnaaGreatDoor
open Go Go.HL Go.Proofs.Resv Go.Proofs.Srch
def fh:=jq bC (jq (jq (jq (jq (jq @List.length_cons.{0} @List.length_nil.{0}) (jq @al119 @al26)) (jq (jq @al35 @al40) (jq @bd119_1 @qg))) (jq (jq (jq @bd28_0 @bd30_) (jq @ax8 @beq_self_eq_true.{0})) (jq (jq @bne_self_eq_false.{0} @Tn) (jq @px (jq @cf24 @cf34))))) (jq (jq (jq (jq @cf74 @S5) (jq @fa119_1 @Ef)) (jq (jq @U4 @Oy) (jq @ld119 (jq @ld26 @ld3)))) (jq (jq (jq @ln40 @ln59) (jq @jt @pm)) (jq (jq @ry @ag7) (jq @st26w (jq @st35s @true_and))))))
theorem ai0 {G h B h0:Hp} {q:RdQ} (st:jb G) (w:RdW G q B) {p hm:Pose} {t:Int} {S:List Stp} {sv:Value} (pp:PB p) (ph:PB hm) (ss:Sees stpC G B sv S) (hS:∀s∈S,StpB s) (hl:S.length<=7)
 {xh:Nat} (bh:B xh=some (gu hm)) (le0:h0.le B) {r:Rg} {R:VK}
 (g5:r 5=sv) (g7:r 7 = .pointer (some ⟨q.xc,0,none⟩)) (g8:r 8 = .pointer (some ⟨q.xt,0,none⟩)) (g9:r 9 = .pointer (some ⟨q.xr,0,none⟩)) (g10:r 10 = .pointer (some ⟨q.xf,0,none⟩)) (g11:r 11 = .pointer (some ⟨q.xa,0,none⟩)) (g13:r 13 = .pointer (some ⟨xh,0,none⟩))
 (s:HL.Sep [noHp.set q.xf (gu p),noHp.set q.xa (.cells #[t] 3 (0,0)),B] h) (d:Dis G h) (H:∀u h',Qd G h0 (vn q.C q.T q.rb p t S hm) u h'->R u h'):
 V1 G (retK P_ G [.tmp 14,.tmp 15] R) r h:=by
 obtain ⟨sa,sc,rfl,_⟩:=id ss
 generalize hKK:retK P_ G [.tmp 14,.tmp 15] R=KK
 unfold V1
 try simp only [fh,g5]
 refine b8 (fun m p' h'=>∃i:Nat,m=S.length-i/\i<=S.length/\(∀y,1<=y->y<=13->p' y=r y)/\p' 27 = .slice sa S.length sc/\p' 28 = .int .i64 S.length/\p' 29 = .int .i64 i/\HL.Sep [noHp.set q.xf (gu p),noHp.set q.xa (.cells #[t] 3 (0,0)),B] h'/\Dis G h'/\∀s∈S.take i,yu s=true) ?_ (m:=S.length)
  ⟨0,rfl,Nat.zero_le _,fun y h1 h2=>by simp (disch:=omega) only [au],by simp (disch:=decide) only [fh]<;>rfl,by simp (disch:=decide) only [fh]<;>rfl,by simp only [fh]<;>rfl,s,d,by simp⟩
 clear s d
 rintro m p' h1 ⟨i,rfl,hi,hp',p27,p28,p29,s,d,hok⟩ X hX
 unfold aC7
 simp only [fh,p28,p29]
 refine bm (fun hlt=>?_) (fun hge=>?_)
 rotate_left
 . obtain rfl:i=S.length:=by omega
   rw [List.take_length]at hok
   try simp (disch:=first|decide|omega) only [fh,Nat.reduceAdd,Nat.reduceMul]
   unfold V0
   try simp (disch:=first|decide|exact ao|exact am|omega|rfl) only [fh]
   intro xl hxl gxl
   have s1:=s.new (o := .cells #[.slice none 0 0] 40 (0,0)) hxl
   generalize e1:Hp.set h1 xl _=h2 at*
   obtain ⟨l2,d2,b2⟩:=boxed e1 hxl d gxl
   intro xe hxe gxe
   have s2:=s1.new (o := .cells #[(0:Int)] 35 (0,0)) hxe
   have d3:=d2.set (o := .cells #[(0:Int)] 35 (0,0)) gxe
   try simp (disch:=first|decide|omega) only [fh,Nat.reduceAdd,Nat.reduceMul]
   have w2:RdW G { q with xe:=xe,xl:=xl } B:=⟨w.bc,w.bt,w.br,w.tv,w.mk_,w.hro,w.fit,w.hbu⟩
   have hz:∀y,1<=y->y<=13->p' y=r y:=hp'
   rw [<- hKK]
   refine ah9 (q:={ q with xe:=xe,xl:=xl }) st w2 pp ph ss hS hl bh le0 (by simp (disch:=decide) only [fh,(hz 5 (by decide) (by decide)).trans g5]) (by simp (disch:=decide) only [fh,(hz 7 (by decide) (by decide)).trans g7]) (by simp (disch:=decide) only [fh,(hz 10 (by decide) (by decide)).trans g10]) (by simp (disch:=decide) only [fh,(hz 11 (by decide) (by decide)).trans g11]) (by simp (disch:=decide) only [fh,(hz 13 (by decide) (by decide)).trans g13]) (by simp (disch:=decide) only [fh]) (by simp (disch:=decide) only [fh])
    (by simp (disch:=decide) only [fh,(hz 7 (by decide) (by decide)).trans g7,(hz 8 (by decide) (by decide)).trans g8,(hz 9 (by decide) (by decide)).trans g9,(hz 10 (by decide) (by decide)).trans g10,(hz 11 (by decide) (by decide)).trans g11]) (by simp only [fh]<;>rfl)
    ⟨_,noHp,Slc.nil,s2.none.sel [3,4,1,2,0,5] (by decide) rfl,d3⟩ fun u h' hR=>H u h' ?_
   unfold vn
   rw [if_pos (List.all_eq_true.2 hok)]
   exact hR
 obtain ⟨z,hz⟩:∃z,S[i]?=some z:=⟨_,List.getElem?_eq_getElem (by omega)⟩
 obtain ⟨b,o,rfl,c0,c1,c2⟩:=Sees.stp (ss.up (s.in 2 rfl) d) hz
 unfold I1
 simp (disch:=first|decide|exact ao|exact am|omega|rfl) only [fh,p27,p29,ix59 (Int.natCast_nonneg i) hlt,c0,c1,c2]
 intro x hx gx
 have s1:=s.past (o := .cells #[z.x,z.y,z.k] 119 (0,0)) hx
 try simp (disch:=first|decide|omega) only [fh,Nat.reduceAdd,Nat.reduceMul]
 generalize e1:Hp.set h1 x _=h2 at*
 obtain ⟨l2,d2,b2⟩:=boxed e1 hx d gx
 have cx:∀k,af G h2 ⟨x,k,none⟩=_:=fun k=>aj (ai b2)
 have next:yu z=true->∀r':Rg,(∀y,1<=y->y<=13->r' y=r y)->r' 27 = .slice (some ⟨b,o,none⟩) S.length sc->r' 28 = .int .i64 S.length->r' 29 = .int .i64 i->B1 G (bv X (bn 0 (bv (V0 G KK) (qa KK)))) r' h2:=fun hk r' hr e27 e28 e29=>by
  unfold B1
  simp (disch:=first|decide|omega) only [fh,e29]
  refine hX (S.length-(i+1)) _ _ (by omega) ⟨i+1,rfl,by omega,fun y h1 h2=>by simp (disch:=omega) only [au];exact hr y h1 h2,by simp (disch:=decide) only [fh,e27],by simp (disch:=decide) only [fh,e28],by simp only [fh]<;>rfl,s1,d2,fun s hs=>?_⟩
  rw [List.take_add_one,hz]at hs
  rcases List.mem_append.1 hs with hs|hs
  . exact hok s hs
  . simp at hs;subst hs;exact hk
 try simp (disch:=first|decide|omega) only [fh,Nat.reduceAdd,Nat.reduceMul,cx]
 by_cases k3:z.k=3
 . try simp only [fh,show (z.k != 3)=false by simp [k3],dw]
   exact next (by unfold yu;simp [k3]) _ (fun y h1 h2=>by simp (disch:=omega) only [au];exact hp' y h1 h2) (by simp (disch:=decide) only [fh,p27]) (by simp (disch:=decide) only [fh,p28]) (by simp (disch:=decide) only [fh,p29])
 by_cases k4:z.k=4
 . try simp only [fh,show (z.k != 3)=true by simp [k3],show (z.k != 4)=false by simp [k4],cx]
   exact next (by unfold yu;simp [k4]) _ (fun y h1 h2=>by simp (disch:=omega) only [au];exact hp' y h1 h2) (by simp (disch:=decide) only [fh,p27]) (by simp (disch:=decide) only [fh,p28]) (by simp (disch:=decide) only [fh,p29])
 try simp only [fh,show (z.k != 3)=true by simp [k3],show (z.k != 4)=true by simp [k4],cx]
 rw [<- hKK]
 try simp (disch:=decide) only [fh]
 refine H _ _ ?_
 unfold vn
 rw [if_neg (fun ha=>by
  have:=List.all_eq_true.1 ha z (List.mem_of_getElem? hz)
  unfold yu at this
  simp [k3,k4]at this)]
 exact ⟨noHp,_,rfl,Slc.nil,by simp [outL],((s1.sel (L':=[B]) [2] (by decide) rfl).cut le0).none,d2⟩
theorem Gw {G h:Hp} {C:Conf} {v vt sv:Value} {T:Tb} {p hm:Pose} {rb t:Int} {S:List Stp} (hv:CV G h v C) (st:jb G) (hro:∀p∈C.ro,PB p) (fit:Fit0 C) (hbu:dh C->C.bu<=4000)
 (tv:TabV G h vt (some T)) (pp:PB p) (ph:PB hm) (ss:Sees stpC G h sv S) (hS:∀s∈S,StpB s) (hl:S.length<=7):
 al P_ G 34 #[v,vt,rb,kz p,t,sv,kz hm] h (fun u h'=>∃W,Qd G h W u h'/\((¬dh C/\W = .no 5)\/(dh C/\W=vn C T rb p t S hm))):=by
 have hsl:C.st.length<=100000000000000:=by have:=fit.st;unfold Room at this;omega
 obtain ⟨ab,cb,ap,cp',ar,cr,az,cs,rfl,ca⟩:=hv
 obtain ⟨tp,rfl,ts,gT,fT⟩:=tv
 obtain ⟨sa,sc,rfl,_⟩:=id ss
 refine al.assume fun d=>enter34 (by simp) ?_
 unfold S34
 simp (disch:=decide) only [fh]
 intro xc hxc gxc
 have s1:=(HL.Sep.one (h:=h)).grow (o:=zg C ab cb ap cp' ar cr az cs) hxc
 generalize e1:Hp.set h xc _=h1 at*
 obtain ⟨l1,d1,q1⟩:=boxed e1 hxc d gxc
 intro xt hxt gxt
 have s2:=s1.grow (o := .cells #[.pointer (some ⟨tp,0,none⟩)] 34 (0,0)) hxt
 generalize e2:Hp.set h1 xt _=h2 at*
 obtain ⟨l2,d2,q2⟩:=boxed e2 hxt d1 gxt
 intro xr hxr gxr
 have s3:=s2.grow (o := .cells #[rb] 3 (0,0)) hxr
 generalize e3:Hp.set h2 xr _=h3 at*
 obtain ⟨l3,d3,q3⟩:=boxed e3 hxr d2 gxr
 have LB:=l1.trans (l2.trans l3)
 have q1B:=l3 _ _ (l2 _ _ q1)
 have q2B:=l3 _ _ q2
 intro xf hxf gxf
 have s4:=s3.new (o:=gu p) hxf
 generalize e4:Hp.set h3 xf _=h4 at*
 obtain ⟨l4,d4,q4⟩:=boxed e4 hxf d3 gxf
 intro xa hxa gxa
 have s5:=s4.new (o := .cells #[t] 3 (0,0)) hxa
 generalize e5:Hp.set h4 xa _=h5 at*
 obtain ⟨l5,d5,q5⟩:=boxed e5 hxa d4 gxa
 intro xh hxh gxh
 have s6:=(s5.sel (L':=[h3,noHp.set xf (gu p),noHp.set xa (.cells #[t] 3 (0,0))]) [2,1,0] (by decide) rfl).grow (o:=gu hm) hxh
 have lB:h3.le (h3.set xh (gu hm)):=di (s5.in 2 rfl |>.none hxh)
 have bh:(h3.set xh (gu hm)) xh=some (gu hm):=ag
 generalize e6:Hp.set h5 xh _=h6 at*
 obtain ⟨l6,d6,q6⟩:=boxed e6 hxh d5 gxh
 generalize h3.set xh (gu hm)=B at*
 have dB:Dis G B:=fun y o hy=>d6 y o (s6.hd _ _ hy)
 have LhB:=LB.trans lB
 have cc6:∀k,af G h6 ⟨xc,k,none⟩=_:=fun k=>aj (ai (s6.hd _ _ (lB _ _ q1B)))
 have Lh6:h.le h6:=LhB.trans s6.hd
 have sN:HL.Sep [noHp,h] h6:=(((s6.sel (L':=[B]) [0] (by decide) rfl).cut LhB).none)
 try simp only [fh,cc6]
 refine (ac0 (ca.up Lh6 d6).cv st hro hsl).mono ?_
 rintro _ h6 ⟨⟨b,rfl,hb⟩,rfl⟩
 cases b with
 |false=>
  try simp only [fh]
  exact ⟨.no 5,⟨noHp,_,rfl,Slc.nil,by simp [outL],sN,d6⟩,.inl ⟨fun h=>by simpa using hb.2 h,rfl⟩⟩
 |true=>
 have mk:dh C:=hb.1 rfl
 try simp only [fh]
 refine ai0 (q:=⟨C,T,rb,.pointer (some ⟨tp,0,none⟩),xc,xt,xr,xf,xa,0,0⟩) (B:=B) (h0:=h) st ⟨⟨ab,cb,ap,cp',ar,cr,az,cs,ca.up LhB dB,lB _ _ q1B⟩,lB _ _ q2B,lB _ _ q3,TabV.up ⟨tp,rfl,ts,gT,fT⟩ LhB dB,mk,hro,fit,hbu mk⟩ pp ph (ss.up LhB dB) hS hl bh LhB
  (by simp (disch:=decide) only [fh]) (by simp (disch:=decide) only [fh]) (by simp (disch:=decide) only [fh]) (by simp (disch:=decide) only [fh]) (by simp (disch:=decide) only [fh]) (by simp (disch:=decide) only [fh]) (by simp (disch:=decide) only [fh]) (s6.sel [1,2,0] (by decide) rfl) d6 fun u h' hR=>⟨_,hR,.inr ⟨mk,rfl⟩⟩
def C13:Conf:=⟨3,1,1,[],[],[],[],10,2,4,1,6,1,1,100,false⟩
def W13:Res Move:=vn C13 [[],[],[]] 0 ⟨0,0,false⟩ 3 [⟨0,0,3⟩] ⟨1,0,false⟩
theorem w13:outE W13=0/\outL W13=[⟨3,0,0,⟨0,0,false⟩,⟨0,0,false⟩,3,9⟩,⟨1,1,1,⟨0,0,false⟩,⟨1,0,false⟩,9,13⟩]:=by decide +kernel
theorem made13:dh C13:=by
 rw [Rp,may_nil rfl rfl rfl rfl]
 rfl
theorem awake13 {G h:Hp} (st:jb G):al P_ G 32 #[] h (fun u h'=>u = .bool true/\h'=h):=by
 refine al.assume fun d=>quietly (enter32 (by simp) ?_)
 unfold S32
 simp (disch:=first|decide|exact ao|exact am|omega|rfl) only [fh]
 intro xc hxc gxc
 generalize e1:Hp.set h xc _=h1 at*
 obtain ⟨l1,d1,bc1⟩:=boxed e1 hxc d gxc
 try simp (disch:=first|decide|omega) only [fh,Nat.reduceAdd,Nat.reduceMul]
 refine (Rv.si (G:=G) (h:=h1) (n:=3) (by decide) (by decide)).mono ?_
 rintro _ h2 ⟨ta,tp,rfl,tab,s2,d2⟩
 try simp only [fh]
 unfold aD0
 have cc2:∀k,af G h2 ⟨xc,k,none⟩=_:=fun k=>aj (ai (s2.at 1 rfl bc1))
 try simp (disch:=decide) only [fh,cc2]
 intro xs hxs gxs
 have s3:=s2.new (o := .cells #[(0:Int),(0:Int),(3:Int)] 119 (0,0)) hxs
 have d3:=d2.set (o := .cells #[(0:Int),(0:Int),(3:Int)] 119 (0,0)) gxs
 try simp (disch:=first|decide|omega) only [fh,Nat.reduceAdd,Nat.reduceMul]
 generalize Hp.set h2 xs _=h3 at*
 have hpb:∀x:Int,0<=x->x<=1->Bd x:=fun x h1 h2=>⟨by omega,by omega⟩
 have hf:=Gw (G:=G) (h:=h3) (C:=C13) (v:=Tf C13 none 0 none 0 none 0 none 0) (vt := .pointer (some ⟨tp,0,none⟩)) (sv := .slice (some ⟨xs,0,none⟩) 1 1) (T:=[[],[],[]]) (p:=⟨0,0,false⟩) (hm:=⟨1,0,false⟩) (rb:=0) (t:=3) (S:=[⟨0,0,3⟩]) (ca_nil rfl rfl rfl rfl).cv st (by intro p hp;cases hp) ⟨by unfold Room C13;decide,by unfold Room C13;decide,by unfold Room C13;decide,by unfold Room C13;decide,by intro s hs;cases hs⟩ (fun _=>by decide)
  ⟨tp,rfl,tab.see (s3.in 1 rfl),Hu (n:=3),an1 (n:=3)⟩ ⟨hpb 0 (by decide) (by decide),hpb 0 (by decide) (by decide)⟩ ⟨hpb 1 (by decide) (by decide),hpb 0 (by decide) (by decide)⟩
  (Sees.row (c:=stpC) (L:=[⟨0,0,3⟩]) (s3.at 0 rfl ag) rfl (Nat.le_refl _)) (fun s hs=>by rw [List.mem_singleton]at hs;subst hs;exact ⟨hpb 0 (by decide) (by decide),hpb 0 (by decide) (by decide)⟩) (by decide)
 simp only [C13,Tf,kz,List.length_nil]at hf
 refine hf.mono ?_
 rintro _ h4 ⟨W,⟨ip,vs,rfl,sl,_,s4,d4⟩,⟨hno,_⟩|⟨_,rfl⟩⟩
 . exact absurd made13 hno
 have w1:outE W13=0:=w13.1
 have w2:outL W13=[⟨3,0,0,⟨0,0,false⟩,⟨0,0,false⟩,3,9⟩,⟨1,1,1,⟨0,0,false⟩,⟨1,0,false⟩,9,13⟩]:=w13.2
 unfold W13 C13 at w1 w2
 rw [w2]at sl
 rw [w1]
 obtain ⟨sa,cap,rfl,_⟩:=sl.len (by decide)
 have see:=sl.see (G:=G) (by decide) (s4.in 0 rfl)
 obtain ⟨b,o,rfl,x0,x1,x2,x3,x4,x5,x6,x7,x8,x9,x10⟩:=Sees.mvx see (i:=0) rfl
 obtain ⟨b',o',e',y0,y1,y2,y3,y4,y5,y6,y7,y8,y9,y10⟩:=Sees.mvx see (i:=1) rfl
 cases e'
 simp only [Nat.zero_mul,Nat.add_zero,Nat.one_mul]at x0 x1 x2 x3 x4 x5 x6 x7 x8 x9 x10 y0 y1 y2 y3 y4 y5 y6 y7 y8 y9 y10
 try simp only [fh,Nat.reduceAdd,ix40 (by decide:(0:Int)<=0) (by decide:(0:Int)<(2:Nat)),ix40 (by decide:(0:Int)<=1) (by decide:(1:Int)<(2:Nat)),Int.toNat_zero,Nat.zero_mul,List.length_cons,List.length_nil,x0,x9,x10,y0,y10]
 have htwo:(((2:Nat):Int)==2)=true:=rfl
 try simp only [fh,htwo,show Int.toNat 1=1 from rfl,Nat.one_mul,ix40 (by decide:(0:Int)<=0) (by decide:(0:Int)<(2:Nat)),ix40 (by decide:(0:Int)<=1) (by decide:(1:Int)<(2:Nat)),Int.toNat_zero,Nat.zero_mul,List.length_cons,List.length_nil,x0,x9,x10,y0,y10]
 exact l1.trans ((s3.in 2 rfl).trans (s4.in 1 rfl))
def jr:=jq bC (jq (jq (jq (jq @al186 (jq @Ts @Tr)) (jq @bne_self_eq_false.{0} (jq @ae5 @aw6))) (jq (jq @cf24 (jq @cf25 @cf50)) (jq @cf91 (jq @cf92 @S5)))) (jq (jq (jq @fa186_0 (jq @Sw @Su)) (jq @Ss (jq @Bu @Ei))) (jq (jq @ld186 (jq @ld186p @ld3)) (jq (jq @ld3p @ln114) (jq @Z6 @st186w)))))
def WB (x:Want):Prop:=Bd x.c/\Bd x.f/\Bd x.t
def othN (n:Nat) (l:List Want):Nat->Tb
 |0=>List.replicate n []
 |i+1=>match l[i]? with
  |some x=>(jn (othN n l i) (1+((i % 3:Nat):Int)) [⟨x.c % (n:Int),x.f,x.t⟩]).2
  |none=>othN n l i
def tabO (n:Nat) (l:List Want):Tb:=othN n l (min 30 l.length)
theorem N5 {n:Nat} {l:List Want}:∀i:Nat,iu (othN n l i)/\Few (othN n l i) i/\(othN n l i).length=n
 |0=>⟨Hu,fun L hL=>by rw [List.eq_of_mem_replicate hL];exact Nat.le_refl _,List.length_replicate ..⟩
 |i+1=>by
  obtain ⟨g,f,e⟩:=N5 (n:=n) (l:=l) i
  unfold othN
  split
  . rename_i x hx
    obtain ⟨g1,f1,l1⟩:=ad7 (r:=1+((i % 3:Nat):Int)) (l:=[⟨x.c % (n:Int),x.f,x.t⟩]) g f
    exact ⟨g1,f1,l1.trans e⟩
  . exact ⟨g,fun L hL=>Nat.le_succ_of_le (f L hL),e⟩
theorem tabO_ok (n:Nat) (l:List Want):iu (tabO n l)/\Few (tabO n l) 100/\(tabO n l).length=n:=by
 obtain ⟨g,f,e⟩:=N5 (n:=n) (l:=l) (min 30 l.length)
 exact ⟨g,fun L hL=>by have:=f L hL;omega,e⟩
theorem tmod3 {i:Nat}:((i:Int)).tmod 3=((i % 3:Nat):Int):=by rw [Int.tmod_eq_emod_of_nonneg (by omega)];omega
theorem Rf {G h:Hp} {v lv:Value} {C:Conf} {l:List Want} (hv:CV G h v C) (sm:SmO C) (hl:vm Rv.xy G lv l) (hb:∀x∈l,WB x):
 al P_ G 56 #[v,lv] h (fun u h'=>∃a1 a2 t1 t2,u = .tuple #[.pointer (some ⟨t1,0,none⟩),.pointer (some ⟨t2,0,none⟩),.bool true]/\
  Rv.Tab 124 a1 t1 (tabO (C.w*C.h).toNat l)/\Rv.Tab 188 a2 t2 (tabO (C.w*C.h).toNat l)/\HL.Sep [a1,a2,h] h'/\Dis G h'):=by
 obtain ⟨ab,cb,ap,cp,ar,cr,az,cs,rfl,ca⟩:=hv
 obtain ⟨n1,n2,n3,n4⟩:=ag8 sm
 refine al.assume fun d=>enter56 (by simp) ?_
 unfold S56
 simp (disch:=first|decide|omega) only [jr]
 intro xc hxc gxc
 have s0:=(HL.Sep.one (h:=h)).past (o := .cells #[C.w,C.h,C.ht,.slice ab C.bl.length cb,.slice ap C.po.length cp,.slice ar C.ro.length cr,.slice az C.st.length cs,C.un,C.ac,C.sp,C.tu,C.ho,C.qu,C.re,C.bu,.bool C.back] 26 (0,0)) hxc
 generalize e1:Hp.set h xc _=h1 at*
 obtain ⟨l1,d1,bc1⟩:=boxed e1 hxc d gxc
 have cc:∀{h':Hp},h1.le h'->∀k,af G h' ⟨xc,k,none⟩=_:=fun l k=>aj (ai (l _ _ bc1))
 try simp (disch:=first|decide|omega) only [jr,Nat.reduceAdd,Nat.reduceMul,cc (Hp.le.refl _)]
 first|rw [n3]|rw [<- n4]
 generalize hn:(C.w*C.h).toNat=n at*
 refine (Rv.si (n:=n) (by omega) (by omega)).mono ?_
 rintro _ h2 ⟨a1,t1,rfl,tab1,s2,d2⟩
 try simp (disch:=first|decide|omega) only [jr,cc (s2.in 1 rfl)]
 first|rw [n3]|rw [<- n4]
 refine (Rv.Z3 (n:=n) (by omega) (by omega)).mono ?_
 rintro _ h3 ⟨a2,t2,rfl,tab2,s3,d3⟩
 try simp (disch:=first|decide|omega) only [jr,Nat.reduceAdd,Nat.reduceMul]
 have s4:HL.Sep [a1,a2,h1] h3:=(HL.Sep.open (L:=[a1,h1]) (R:=[a2]) s3.swap s2).sel [0,2,1] (by decide) rfl
 unfold aA7
 generalize hKK:retK P_ G _ _=KK
 obtain ⟨la,lc,rfl,_⟩:=(hl h d).len
 refine b8 (fun m p h'=>∃(i:Nat) (a1 a2:Hp),m=30-i/\i<=30/\i<=l.length/\p 1 = .slice la l.length lc/\p 2 = .pointer (some ⟨xc,0,none⟩)/\p 7 = .pointer (some ⟨t1,0,none⟩)/\p 9 = .pointer (some ⟨t2,0,none⟩)/\p 10 = .int .i64 i/\
  Rv.Tab 124 a1 t1 (othN n l i)/\Rv.Tab 188 a2 t2 (othN n l i)/\HL.Sep [a1,a2,h1] h'/\Dis G h') ?_ (m:=30)
  ⟨0,a1,a2,rfl,by omega,by omega,by simp (disch:=decide) only [jr],by simp (disch:=decide) only [jr],by simp (disch:=decide) only [jr],by simp (disch:=decide) only [jr],by simp only [jr];rfl,tab1,tab2,s4,d3⟩
 clear tab1 tab2 s4 d3 s3 d2 s2
 rintro m p h4 ⟨i,a1,a2,rfl,hi,hil,g1,g2,g7,g9,g10,tab1,tab2,s,d4⟩ X hX
 obtain ⟨gT,fT,lT⟩:=N5 (n:=n) (l:=l) i
 have fin:¬(i<l.length/\i<30)->othN n l i=tabO n l:=fun hh=>by
  unfold tabO
  congr 1
  omega
 have hnext:∀x,l[i]?=some x->othN n l (i+1)=(jn (othN n l i) (1+((i % 3:Nat):Int)) [⟨x.c % (n:Int),x.f,x.t⟩]).2:=fun x hx=>by
  show (match l[i]? with|some x=>_|none=>_)=_
  rw [hx]
 generalize hT:othN n l i=T at*
 unfold aA6
 simp only [jr,g10,g1]
 have go:¬(i<l.length/\i<30)->∀r':Rg,r' 7 = .pointer (some ⟨t1,0,none⟩)->r' 9 = .pointer (some ⟨t2,0,none⟩)->bn 0 (bv (Vw G KK) KK) (.exit 0) r' h4:=fun hh r' e7 e9=>by
  try simp only [jr]
  unfold Vw
  rw [<- hKK]
  try simp (disch:=decide) only [jr,e7,e9]
  have s5:=((s.sel (L':=[h1,a1,a2]) [2,0,1] (by decide) rfl).cut l1).sel (L':=[a1,a2,h]) [1,2,0] (by decide) rfl
  refine ⟨a1,a2,t1,t2,rfl,?_,?_,s5,d4⟩
  . rw [<- fin hh];exact tab1
  . rw [<- fin hh];exact tab2
 by_cases q1:(i:Int)<l.length
 rotate_left
 . try simp only [jr,i8 q1,dw]
   exact go (by omega) _ (by simp (disch:=decide) only [jr,g7]) (by simp (disch:=decide) only [jr,g9])
 by_cases q2:(i:Int)<30
 rotate_left
 . try simp only [jr,je q1,i8 q2]
   exact go (by omega) _ (by simp (disch:=decide) only [jr,g7]) (by simp (disch:=decide) only [jr,g9])
 try simp only [jr,je q1,je q2]
 obtain ⟨y,hy⟩:∃y,l[i]?=some y:=⟨_,List.getElem?_eq_getElem (by omega)⟩
 have hyb:=hb y (List.mem_of_getElem? hy)
 obtain ⟨b,o,rfl,c0,c1,c2⟩:=Rv.Sees.want (hl h4 d4) hy
 have hnx:=hnext y hy
 have hi3:i % 3<3:=Nat.mod_lt _ (by decide)
 generalize hr:i % 3=j at*
 have ht3:((i:Int)).tmod 3=(j:Int):=by rw [tmod3,hr]
 unfold M1
 simp (disch:=first|decide|exact ao|exact am|omega|rfl) only [jr,g1,g10,Hm (Int.natCast_nonneg i) q1,c0,c1,c2]
 intro x hx gx
 try simp (disch:=first|decide|omega) only [jr,Nat.reduceAdd,Nat.reduceMul]
 generalize e5:Hp.set h4 x _=h5 at*
 obtain ⟨l5,d5,bx5⟩:=boxed e5 hx d4 gx
 have s5:=s.past (o := .cells #[y.c,y.f,y.t] 186 (0,0)) hx
 rw [e5]at s5
 have cx5:∀k,af G h5 ⟨x,k,none⟩=_:=fun k=>aj (ai bx5)
 try simp (disch:=first|decide|omega) only [jr,cx5,g2,cc (s5.in 2 rfl)]
 first|rw [n3]|rw [<- n4]
 refine (Hb (a:=y.c) (n:=(n:Int)) hyb.1 (by omega) (by omega)).mono ?_
 rintro _ h5 ⟨rfl,rfl⟩
 try simp (disch:=first|decide|omega) only [jr,Nat.reduceAdd,Nat.reduceMul]
 rw [bz sz3 rfl bx5 (by simp)]
 try simp only [jr]
 rw [<- e5,set_set]
 generalize e7:Hp.set h4 x _=h7
 obtain ⟨l7,d7,bx7⟩:=boxed e7 hx d4 gx
 have s7:=s.new (o := .cells #[.int .i64 (y.c % (n:Int)),y.f,y.t] 186 (0,0)) hx
 rw [show h4.set x (.cells #[.int .i64 (y.c % (n:Int)),y.f,y.t] 186 (0,0))=h7 from e7]at s7
 refine ⟨noHp.set x (.cells #[.int .i64 (y.c % (n:Int)),y.f,y.t] 186 (0,0)),s7.in 0 rfl,?_⟩
 have cx7:∀k,af G (noHp.set x (.cells #[.int .i64 (y.c % (n:Int)),y.f,y.t] 186 (0,0))) ⟨x,k,none⟩=_:=fun k=>aj (ai ag)
 try simp only [jr,g10,cx7,ht3]
 intro w hw gw
 have s8:=(s7.new (o := .cells #[.int .i64 (y.c % (n:Int)),y.f,y.t] 75 (0,0)) hw)
 have d8:=d7.set (o := .cells #[.int .i64 (y.c % (n:Int)),y.f,y.t] 75 (0,0)) gw
 try simp (disch:=first|decide|omega) only [jr,Nat.reduceAdd,Nat.reduceMul]
 generalize Hp.set h7 w _=h8 at s8 d8 ⊢
 rw [g7]
 refine (Rv.Vb (r:=1+(j:Int)) (l:=[⟨y.c % (n:Int),y.f,y.t⟩]) tab1 (s8.sel [2,0,1,3,4] (by decide) rfl) (Gt (w:=⟨y.c % (n:Int),y.f,y.t⟩)) gT fT (by simp;omega)).mono ?_
 rintro _ h9 ⟨rfl,a1',tab1',s9,d9⟩
 refine ⟨s9.in 2 rfl,?_⟩
 try simp (disch:=first|decide|omega) only [jr,Nat.reduceAdd,Nat.reduceMul,g10,cx7,ht3]
 intro w2 hw2 gw2
 have s10:=(s9.new (o := .cells #[.int .i64 (y.c % (n:Int)),y.f,y.t] 186 (0,0)) hw2)
 have d10:=d9.set (o := .cells #[.int .i64 (y.c % (n:Int)),y.f,y.t] 186 (0,0)) gw2
 try simp (disch:=first|decide|omega) only [jr,Nat.reduceAdd,Nat.reduceMul]
 generalize Hp.set h9 w2 _=h10 at s10 d10 ⊢
 rw [g9]
 refine (Rv.Q3 (r:=1+(j:Int)) (l:=[⟨y.c % (n:Int),y.f,y.t⟩]) tab2 (s10.sel [4,0,1,5] (by decide) rfl) (Gt (w:=⟨y.c % (n:Int),y.f,y.t⟩)) gT fT (by simp;omega)).mono ?_
 rintro _ h11 ⟨rfl,a2',tab2',s11,d11⟩
 try simp only [jr]
 unfold M0
 try simp (disch:=first|decide|omega) only [jr,g10]
 refine hX (30-(i+1)) _ _ (by omega) ⟨i+1,a1',a2',rfl,by omega,by omega,by simp (disch:=decide) only [jr,g1],by simp (disch:=decide) only [jr,g2],by simp (disch:=decide) only [jr,g7],by simp (disch:=decide) only [jr,g9],by simp only [jr];rfl,?_,?_,s11.sel [2,0,3] (by decide) rfl,d11⟩
 . rw [hnx];exact tab1'
 . rw [hnx];exact tab2'
section
variable {C:Conf}
def oneR (C:Conf) (p:Pose) (t:Int) (m:Move):Bool:=decide (m.f=p)&&(decide (t<=m.a)&&(decide (m.a<m.e)&&(decide (m.e<FV)&&(fc C m&&decide (m.e=m.a+fk C m)))))
def kx (C:Conf):Pose->Int->List Move->Bool
 |_,_,[]=>true
 |p,t,m::M=>oneR C p t m&&kx C m.t m.e M
theorem tq {p:Pose} {t:Int} {m:Move} {M:List Move}:kx C p t (m::M)=(oneR C p t m&&kx C m.t m.e M):=rfl
theorem ve {p:Pose} {m:Move} {w:List Move}:endP p (m::w)=endP m.t w:=by
 cases w with
 |nil=>rfl
 |cons x w=>rfl
theorem ad1 {t:Int} {m:Move} {w:List Move}:endT t (m::w)=endT m.e w:=by
 cases w with
 |nil=>rfl
 |cons x w=>rfl
theorem G0:∀{w M:List Move} {p:Pose} {t:Int},kx C p t (w++M)=(kx C p t w&&kx C (endP p w) (endT t w) M)
 |[],M,p,t=>by rw [List.nil_append];rfl
 |m::w,M,p,t=>by
  rw [List.cons_append,tq,tq,G0,ve,ad1,Bool.and_assoc]
theorem S7:∀{w M:List Move} {p:Pose},endP p (w++M)=endP (endP p w) M
 |[],M,p=>rfl
 |m::w,M,p=>by rw [List.cons_append,ve,ve,S7]
theorem yr {p:Pose} {t:Int} {m:Move}:oneR C p t m=true↔m.f=p/\t<=m.a/\m.a<m.e/\m.e<FV/\fc C m=true/\m.e=m.a+fk C m:=by
 unfold oneR
 simp only [Bool.and_eq_true,decide_eq_true_eq]
theorem Uh {w:List Move} {p:Pose} {t t':Int} (h:t'<=t) (hr:kx C p t w=true):kx C p t' w=true:=by
 cases w with
 |nil=>rfl
 |cons m w=>
  unfold kx at hr ⊢
  rw [Bool.and_eq_true,yr]at hr ⊢
  exact ⟨⟨hr.1.1,by omega,hr.1.2.2⟩,hr.2⟩
theorem Ky:∀{w:List Move} {p:Pose} {t:Int},(∀j m,w[j]?=some m->oneR C (Ax p w j) (mu t w j) m=true)->kx C p t w=true
 |[],_,_,_=>rfl
 |m::w,p,t,h=>by
  unfold kx
  rw [Bool.and_eq_true]
  refine ⟨h 0 m rfl,Ky fun j x hx=>?_⟩
  have:=h (j+1) x hx
  cases j with
  |zero=>exact this
  |succ j=>exact this
theorem zw (mk:dh C) {T:Tb} (gt:iu T) {rb t:Int} {p gp:Pose} {any:Bool} {w:List Move} (h:j5 C (some T) rb p t gp any = .ok w):
 kx C p t w=true/\0<=t/\t<FV/\0<=endT t w/\t<=endT t w/\endT t w<FV/\fq C p=true/\fq C (endP p w)=true/\(∀m∈w,m.k=1\/m.k=2)/\((endP p w).x,(endP p w).y)=(gp.x,gp.y)/\(any=false->endP p w=gp):=by
 obtain ⟨⟨a1,a2,a3,a4,a5⟩,h2,s,h3,h4,h5,h6,h7,h8⟩:=L0 mk gt h
 have hr:kx C p t w=true:=Ky fun j m hm=>by
  have o:=h2 j m hm
  exact yr.2 ⟨o.f,o.at_,o.e2.1,o.e2.2,o.leg,o.e⟩
 have hle:t<=endT t w:=by
  have key:∀j,j<=w.length->t<=mu t w j:=by
   intro j
   induction j with
   |zero=>intro _;exact Int.le_refl _
   |succ j ih=>
    intro hj
    obtain ⟨m,hm⟩:∃m,w[j]?=some m:=⟨_,List.getElem?_eq_getElem (by omega)⟩
    have o:=h2 j m hm
    have:=ih (by omega)
    have a:=o.at_
    have b:=o.e2.1
    show t<=(w.getD j zM).e
    rw [List.getD_eq_getElem?_getD,hm]
    show t<=m.e
    omega
  exact key _ (Nat.le_refl _)
 have hlt:endT t w<FV:=by
  by_cases hw:w=[]
  . subst hw;exact a4
  . have hl:=List.length_pos_iff.2 hw
    obtain ⟨m,hm⟩:∃m,w[w.length-1]?=some m:=⟨_,List.getElem?_eq_getElem (by omega)⟩
    rw [La hm hw]
    exact (h2 _ _ hm).e2.2
 have hg:((endP p w).x,(endP p w).y)=(gp.x,gp.y)/\(any=false->endP p w=gp):=by
  unfold ml at h6
  simp only [Bool.and_eq_true,Bool.or_eq_true,beq_iff_eq]at h6
  rcases h6.1 with ⟨⟨e1,e2⟩,e3⟩|⟨e1,e2,e3⟩
  . refine ⟨by rw [e1,e2],fun _=>?_⟩
    exact yn e1 e2 e3
  . refine ⟨by rw [e2,e3],fun e=>?_⟩
    rw [e]at e1;cases e1
 refine ⟨hr,a3,a4,h8,hle,hlt,a5,h7,fun m hm=>?_,hg⟩
 obtain ⟨j,hj⟩:=List.getElem?_of_mem hm
 exact (h2 j m hj).k
theorem T7 {k:Int} {p:Pose} {t:Int} (hk:k=3\/k=4):fk C (uj C k p t)=C.ho:=by
 unfold fk uj
 rw [if_neg (by show ¬k=1;omega),if_neg (by show ¬k=2;omega),if_pos (by exact hk)]
theorem T6 {k:Int} {p:Pose} {t:Int} (hk:k=3\/k=4) (hf:fq C p=true):fc C (uj C k p t)=true:=by
 unfold fc uj
 simp only
 rw [hf,if_neg (by omega),if_neg (by omega)]
 simp [hk]
theorem ho_bd (mk:dh C):1<=C.ho/\C.ho<=16000:=by
 obtain ⟨_,_,_,_,h1,h2⟩:=Uc mk
 omega
theorem Hv (mk:dh C) {T:Tb} (gt:iu T) {rb:Int} {hm:Pose}:∀{S:List Stp} {p:Pose} {t:Int} {l L:List Move},(∀s∈S,yu s=true)->goR C T rb hm S p t l = .ok L->
 ∃M,L=l++M/\kx C p t M=true/\endP p M=hm/\0<=t/\t<FV/\fq C p=true
 |[],p,t,l,L,_,h=>by
  unfold goR at h
  cases hw:j5 C (some T) rb p t hm false with
  |no e=>rw [hw]at h;cases h
  |ok w=>
   rw [hw]at h
   cases h
   obtain ⟨h1,h2,h3,h4,h5,h6,h7,h8,h9,h10,h11⟩:=zw mk gt hw
   exact ⟨w,rfl,h1,h11 rfl,h2,h3,h7⟩
 |s::S,p,t,l,L,hS,h=>by
  unfold goR at h
  cases hw:j5 C (some T) rb p t ⟨s.x,s.y,false⟩ true with
  |no e=>rw [hw]at h;cases h
  |ok w=>
   rw [hw]at h
   simp only at h
   obtain ⟨h1,h2,h3,h4,h5,h6,h7,h8,h9,h10,h11⟩:=zw mk gt hw
   obtain ⟨M,rfl,r1,r2,r3,r4,r5⟩:=Hv mk gt (fun x hx=>hS x (.tail _ hx)) h
   have hk:s.k=3\/s.k=4:=by
    have:=hS s (.head _)
    unfold yu at this
    simpa using this
   obtain ⟨o1,o2⟩:=ho_bd mk
   have es:=Nw h4 (show 0<=C.ho by omega) r4
   refine ⟨w++([uj C s.k (endP p w) (endT t w)]++M),by simp,?_,?_,h2,h3,h7⟩
   . rw [G0,h1,Bool.true_and,List.singleton_append]
     show (oneR C _ _ _&&kx C _ _ M)=true
     rw [Bool.and_eq_true]
     refine ⟨yr.2 ⟨rfl,Int.le_refl _,?_,?_,T6 hk h8,?_⟩,r1⟩
     . show endT t w<sumI (endT t w) C.ho;omega
     . exact r4
     . rw [T7 hk];exact es
   . rw [S7,List.singleton_append,ve]
     exact r2
theorem al2 (mk:dh C) {m:Move} (hl:fc C m=true):MB m/\fq C m.t=true:=by
 have hl0:=hl
 unfold fc at hl
 rw [Bool.and_eq_true]at hl
 obtain ⟨hf,hl⟩:=hl
 have pf:=Ou mk hf
 by_cases h1:m.k=1
 . rw [if_pos h1,Bool.and_eq_true]at hl
   obtain ⟨n1,n2⟩:=dp.1 hl.1
   exact ⟨⟨by unfold Bd;omega,pf⟩,(Tv mk hl0 h1).2.2.1⟩
 . rw [if_neg h1]at hl
   by_cases h2:m.k=2
   . rw [if_pos h2]at hl
     simp only [Bool.and_eq_true,decide_eq_true_eq]at hl
     exact ⟨⟨by rw [hl.2.1];unfold Bd;omega,pf⟩,(Mg mk hl0 h2).2.2.1⟩
   . rw [if_neg h2]at hl
     simp only [Bool.and_eq_true,decide_eq_true_eq]at hl
     exact ⟨⟨by rw [hl.2.1];unfold Bd;omega,pf⟩,by rw [hl.2.2.2];exact hf⟩
theorem G2:∀{w:List Move} {p:Pose} {t:Int},kx C p t w=true->∀m∈w,t<=m.a/\m.a<m.e/\m.e<FV/\fc C m=true
 |[],_,_,_,_,h=>by cases h
 |x::w,p,t,h,m,hm=>by
  rw [tq,Bool.and_eq_true,yr]at h
  obtain ⟨⟨h1,h2,h3,h4,h5,h6⟩,h7⟩:=h
  rcases List.mem_cons.1 hm with rfl|hm
  . exact ⟨h2,h3,h4,h5⟩
  . obtain ⟨a,b,c,d⟩:=G2 h7 m hm
    exact ⟨by omega,b,c,d⟩
def Bs (m:Move):Bool:=decide (m.k=3\/m.k=4)
def ox (C:Conf):List Stp->List Move->Prop
 |S,[]=>S=[]
 |S,m::M=>if Bs m=true then match S with
  |s::S'=>s.k=m.k/\s.x=m.f.x/\s.y=m.f.y/\m.e-m.a=C.ho/\ox C S' M
  |[]=>False
  else ox C S M
theorem xz {S:List Stp} {M:List Move}:∀{w:List Move},(∀m∈w,m.k=1\/m.k=2)->ox C S M->ox C S (w++M)
 |[],_,h=>h
 |m::w,hw,h=>by
  rw [List.cons_append]
  unfold ox
  have hm:=hw m (.head _)
  rw [if_neg (by unfold Bs;simp;omega)]
  exact xz (fun m hm=>hw m (.tail _ hm)) h
theorem Ls (mk:dh C) {T:Tb} (gt:iu T) {rb:Int} {hm:Pose}:∀{S:List Stp} {p:Pose} {t:Int} {l L:List Move},(∀s∈S,yu s=true)->goR C T rb hm S p t l = .ok L->
 ∃M,L=l++M/\ox C S M
 |[],p,t,l,L,_,h=>by
  unfold goR at h
  cases hw:j5 C (some T) rb p t hm false with
  |no e=>rw [hw]at h;cases h
  |ok w=>
   rw [hw]at h
   cases h
   obtain ⟨h1,h2,h3,h4,h5,h6,h7,h8,h9,h10,h11⟩:=zw mk gt hw
   refine ⟨w,rfl,?_⟩
   have:=xz (C:=C) (S:=[]) (M:=[]) h9 rfl
   rw [List.append_nil]at this
   exact this
 |s::S,p,t,l,L,hS,h=>by
  unfold goR at h
  cases hw:j5 C (some T) rb p t ⟨s.x,s.y,false⟩ true with
  |no e=>rw [hw]at h;cases h
  |ok w=>
   rw [hw]at h
   simp only at h
   obtain ⟨h1,h2,h3,h4,h5,h6,h7,h8,h9,h10,h11⟩:=zw mk gt hw
   obtain ⟨M,rfl,r1⟩:=Ls mk gt (fun x hx=>hS x (.tail _ hx)) h
   obtain ⟨M',hM',r2,r3,r4,r5,r6⟩:=Hv mk gt (fun x hx=>hS x (.tail _ hx)) h
   have hk:s.k=3\/s.k=4:=by
    have:=hS s (.head _)
    unfold yu at this
    simpa using this
   obtain ⟨o1,o2⟩:=ho_bd mk
   have es:=Nw h4 (show 0<=C.ho by omega) r5
   simp only [Prod.mk.injEq]at h10
   refine ⟨w++(uj C s.k (endP p w) (endT t w)::M),by simp,xz h9 ?_⟩
   unfold ox
   rw [if_pos (by unfold Bs uj;simpa using hk)]
   refine ⟨rfl,h10.1.symm,h10.2.symm,?_,r1⟩
   show sumI (endT t w) C.ho-endT t w=C.ho
   omega
theorem Z1 {T:Tb} {rb t:Int} {p hm:Pose} {S:List Stp} {L:List Move} (h:vn C T rb p t S hm = .ok L):(∀s∈S,yu s=true)/\goR C T rb hm S p t [] = .ok L/\L.length<=4096:=by
 unfold vn at h
 split at h
 . rename_i ha
   refine ⟨List.all_eq_true.1 ha,?_⟩
   cases hg:goR C T rb hm S p t []with
   |no e=>rw [hg]at h;cases h
   |ok l=>
    rw [hg]at h
    simp only at h
    split at h
    . cases h
    . cases h;exact ⟨rfl,by omega⟩
 . cases h
theorem Lu (mk:dh C) {T:Tb} (gt:iu T) {rb:Int} {hm:Pose}:∀{S:List Stp} {p:Pose} {t e:Int} {l:List Move},goR C T rb hm S p t l = .no e->e=1\/e=6\/e=7\/e=18
 |[],p,t,e,l,h=>by
  rw [W5]at h
  cases hw:j5 C (some T) rb p t hm false with
  |no e'=>rw [hw]at h;cases h;exact qx mk gt hw
  |ok w=>rw [hw]at h;cases h
 |s::S,p,t,e,l,h=>by
  rw [R9]at h
  cases hw:j5 C (some T) rb p t ⟨s.x,s.y,false⟩ true with
  |no e'=>rw [hw]at h;cases h;exact qx mk gt hw
  |ok w=>rw [hw]at h;exact Lu mk gt h
theorem Qz (mk:dh C) {T:Tb} (gt:iu T) {rb t e:Int} {p hm:Pose} {S:List Stp} (h:vn C T rb p t S hm = .no e):e≠0:=by
 unfold vn at h
 split at h
 . cases hg:goR C T rb hm S p t []with
   |no e'=>
    rw [hg]at h
    cases h
    have:=Lu mk gt hg
    omega
   |ok l=>
    rw [hg]at h
    simp only at h
    split at h<;>cases h
    decide
 . cases h
   decide
end
def nf:=jq bC (jq (jq (jq (jq (jq @Bool.and_self @Vk) (jq @beq_self_eq_true.{0} @vh)) (jq (jq @bne_self_eq_false.{0} @Tn) (jq @aw7 @cf21))) (jq (jq (jq @cf24 @cf25) (jq @cf28 @cf32)) (jq (jq @cf33 @cf34) (jq @S5 (jq @S3 @Ic))))) (jq (jq (jq (jq @Bu @Ei) (jq @Ef @ix40)) (jq (jq @W3 @ld119) (jq @ld26 (jq @Hj @xj)))) (jq (jq (jq @ld3 @tw) (jq @ld3p @Wy)) (jq (jq @ln40 @ln40p) (jq @ln59 (jq @ne48p @jt))))))
theorem Sees.first {α:Type} {c:Cod α} {G h:Hp} {a:Option Addr} {len cap:Nat} {L:List α} (s:Sees c G h (.slice a len cap) L) {k:Nat} (hk:k<=L.length):Sees c G h (.slice a k k) (L.take k):=by
 obtain ⟨a',cap',e,h1,h2⟩:=s
 cases e
 refine ⟨a,k,by rw [List.length_take,Nat.min_eq_left hk],by rw [List.length_take];omega,?_⟩
 rcases h2 with rfl|⟨b,o,rfl,hc⟩
 . exact .inl (by simp)
 . refine .inr ⟨b,o,rfl,fun i x hx j hj=>hc i x ?_ j hj⟩
   rw [List.getElem?_take]at hx
   split at hx
   . exact hx
   . cases hx
theorem eostp:fg P_ 119 stpC.n 24:=eo119
theorem eostp2:fg P_ 175 stpC.n 24:=eo175
theorem T5 {G h:Hp} {sv:Value} {L:List Stp} (hl:Sees stpC G h sv L):
 al P_ G 33 #[sv] h (fun u h'=>∃ia va ib vb,u = .tuple #[va,vb]/\Slc stpC 119 ia va (L.take 4)/\Slc stpC 175 ib vb (L.take 4)/\HL.Sep [ia,ib,h] h'/\Dis G h'):=by
 obtain ⟨sa,sc,rfl,_⟩:=id hl
 refine al.assume fun d=>enter33 (by simp) ?_
 unfold S33
 generalize hKK:retK P_ G _ _=KK
 refine b8 (fun m p h'=>∃(i:Nat) (ia va ib vb:_),m=4-i/\i<=4/\i<=L.length/\p 0 = .slice sa L.length sc/\p 4=va/\p 5=vb/\p 6 = .int .i64 i/\Slc stpC 119 ia va (L.take i)/\Slc stpC 175 ib vb (L.take i)/\HL.Sep [ia,ib,h] h'/\Dis G h') ?_ (m:=4)
  ⟨0,noHp,_,noHp,_,rfl,by omega,by omega,by simp (disch:=decide) only [nf],by simp (disch:=decide) only [nf],by simp (disch:=decide) only [nf],by simp only [nf]<;>rfl,Slc.nil,Slc.nil,HL.Sep.one.none.none,d⟩
 rintro m p h1 ⟨i,ia,va,ib,vb,rfl,hi,hil,p0,p4,p5,p6,slA,slB,s,d1⟩ X hX
 unfold aC9
 simp only [nf,p0,p6]
 have go:¬(i<L.length/\i<4)->∀r':Rg,r' 4=va->r' 5=vb->bn 0 (bv (V2 G KK) KK) (.exit 0) r' h1:=fun hh r' e4 e5=>by
  try simp only [nf]
  unfold V2
  rw [<- hKK]
  obtain ⟨a1,c1,rfl,_⟩:=id (slA.len (by decide))
  obtain ⟨a2,c2,rfl,_⟩:=id (slB.len (by decide))
  have e:L.take i=L.take 4:=by
   by_cases h4:i=4
   . rw [h4]
   . have:i=L.length:=by omega
     rw [this,List.take_length,List.take_of_length_le (by omega)]
  rw [e]at slA slB e4 e5
  try simp (disch:=decide) only [nf,e4,e5]
  exact ⟨ia,_,ib,_,rfl,slA,slB,s,d1⟩
 by_cases q1:(i:Int)<L.length
 rotate_left
 . try simp only [nf,i8 q1,dw]
   exact go (by omega) _ (by simp (disch:=decide) only [nf,p4]) (by simp (disch:=decide) only [nf,p5])
 by_cases q2:(i:Int)<4
 rotate_left
 . try simp only [nf,je q1,i8 q2]
   exact go (by omega) _ (by simp (disch:=decide) only [nf,p4]) (by simp (disch:=decide) only [nf,p5])
 obtain ⟨z,hz⟩:∃z,L[i]?=some z:=⟨_,List.getElem?_eq_getElem (by omega)⟩
 obtain ⟨b,o,rfl,c0,c1,c2⟩:=Sees.stp (hl.up (s.in 2 rfl) d1) hz
 try simp only [nf,je q1,je q2]
 unfold Nh
 obtain ⟨a1,cp1,rfl,_⟩:=id (slA.len (by decide))
 obtain ⟨a2,cp2,rfl,_⟩:=id (slB.len (by decide))
 try simp (disch:=first|decide|omega) only [nf,p0,p6,p4,ix59 (Int.natCast_nonneg i) q1,c0,c1,c2]
 intro x hx gx
 try simp (disch:=first|decide|omega) only [nf,Nat.reduceAdd,Nat.reduceMul]
 have s2:=s.new (o := .cells #[z.x,z.y,z.k] 119 (0,0)) hx
 have d2:=d1.set (o := .cells #[z.x,z.y,z.k] 119 (0,0)) gx
 generalize Hp.set h1 x _=h2 at*
 refine dm stpC (by decide) (M:=[z]) un59 eostp (by decide) (by decide) (s2.sel (L':=[ia,noHp.set x _,ib,h]) [1,0,2,3] (by decide) rfl) d2 slA (Sees.row (c:=stpC) (L:=[z]) (s2.at 0 rfl ag) rfl (Nat.le_refl _)) (by simp;omega) fun v3 i3 h3 o3 s3 d3=>?_
 obtain ⟨b',o',e',c0',c1',c2'⟩:=Sees.stp (hl.up (s3.in 3 rfl) d3) hz
 cases e'
 obtain ⟨a3,cp3,rfl,_⟩:=id (o3.len (by decide))
 try simp only [nf,p0,p5,p6,W3 (Int.natCast_nonneg i) q1,c0',c1',c2']
 intro y hy gy
 try simp (disch:=first|decide|omega) only [nf,Nat.reduceAdd,Nat.reduceMul]
 have s4:=s3.new (o := .cells #[z.x,z.y,z.k] 175 (0,0)) hy
 have d4:=d3.set (o := .cells #[z.x,z.y,z.k] 175 (0,0)) gy
 generalize Hp.set h3 y _=h4 at*
 refine dm stpC (by decide) (M:=[z]) un60 eostp2 (by decide) (by decide) (s4.sel (L':=[ib,noHp.set y _,i3,h]) [3,0,1,4] (by decide) rfl) d4 slB (Sees.row (c:=stpC) (L:=[z]) (s4.at 0 rfl ag) rfl (Nat.le_refl _)) (by simp;omega) fun v5 i5 h5 o5 s5 d5=>?_
 try simp (disch:=first|decide|omega) only [nf,Nat.reduceAdd,Nat.reduceMul]
 unfold Ng
 try simp (disch:=first|decide|omega) only [nf,p6]
 have et:L.take (i+1)=L.take i++[z]:=by rw [List.take_add_one,hz];rfl
 refine hX (4-(i+1)) _ _ (by omega) ⟨i+1,i3,.slice a3 (L.take i++[z]).length cp3,i5,v5,rfl,by omega,by omega,by simp (disch:=decide) only [nf,p0],by simp (disch:=decide) only [nf],by simp (disch:=decide) only [nf],by simp only [nf]<;>rfl,by rw [et];exact o3,by rw [et];exact o5,s5.sel [2,0,3] (by decide) rfl,d5⟩
end Go.Proofs.YtfflipnhffknnaaGreatDoor
end
section
namespace Go.Proofs.YtfflipnhffknnaaGreatDoor
open Go Go.HL
section
variable (G:Hp) (K:EK) (r:Rg) (h:Hp)
end
end Go.Proofs.YtfflipnhffknnaaGreatDoor
end
section
namespace Go.Proofs.YtfflipnhffknnaaGreatDoor
open Go Go.HL Go.Proofs.Resv Go.Proofs.Srch
def gk:=jq bC (jq (jq (jq (jq @Bool.and_true (jq @al48 @vh)) (jq (jq @ax5 @bne_self_eq_false.{0}) (jq @cf30 @cf37))) (jq (jq (jq @cf45 @cf46) (jq @cf78 @cf79)) (jq (jq @Xp @O0) (jq @U5 @Oz)))) (jq (jq (jq @W6 (jq @Oy @Ox)) (jq (jq @ld26 @Hj) (jq @ld3 @ld30))) (jq (jq (jq @tw @ld3p) (jq @ld48 @Wy)) (jq (jq @ln40 @ne30p) (jq @ne_eq.{1} @Kv)))))
abbrev D5 (m:Move):Obj := .cells #[m.k,m.d,m.n,m.f.x,m.f.y,.bool m.f.d,m.t.x,m.t.y,.bool m.t.d,m.a,m.e] 48 (0,0)
theorem aa1 {p q:Pose}:(!(p.x==q.x&&p.y==q.y&&p.d==q.d))=decide (p≠q):=by rw [uo,decide_not]
theorem Ug {G h a q:Hp} {v mv:Value} {C:Conf} {kp:Nat} {p:Pose} {M:List Move} (hv:CV G q v C) (st:jb G) (hro:∀p∈C.ro,PB p) (hsl:C.st.length<=100000000000000) (mk:dh C) (kpk:KP a kp C.un C.ac C.sp) (sm:Sees jw G q mv M) (hb:∀m∈M,MB m) (hml:M.length<=1000000000) (s0:HL.Sep [a,q] h):
 al P_ G 35 #[v,.pointer (some ⟨kp,0,none⟩),kz p,mv] h (fun u h'=>u = .bool (kx C p 0 M)/\∃a',KP a' kp C.un C.ac C.sp/\HL.Sep [a',q] h'/\Dis G h'):=by
 obtain ⟨ab,cb,ap,cp,ar,cr,az,cs,rfl,ca⟩:=hv
 obtain ⟨sa,sc,rfl,_⟩:=id sm
 refine al.assume fun d=>enter35 (by simp) ?_
 unfold S35
 simp only [gk]
 intro xc hxc gxc
 have s1:=s0.swap.grow (o:=zg C ab cb ap cp ar cr az cs) hxc
 have lq1:q.le (q.set xc (zg C ab cb ap cp ar cr az cs)):=di ((s0.in 1 rfl).none hxc)
 have q1:(q.set xc (zg C ab cb ap cp ar cr az cs)) xc=some (zg C ab cb ap cp ar cr az cs):=ag
 generalize e1:Hp.set h xc _=h1 at*
 obtain ⟨l1,d1,_⟩:=boxed e1 hxc d gxc
 generalize q.set xc (zg C ab cb ap cp ar cr az cs)=B at*
 intro xf hxf gxf
 have s2:=s1.new (o:=gu p) hxf
 generalize e2:Hp.set h1 xf _=h2 at*
 obtain ⟨l2,d2,_⟩:=boxed e2 hxf d1 gxf
 have cc2:∀k,af G h2 ⟨xc,k,none⟩=_:=fun k=>aj (ai (s2.in 1 rfl _ _ q1))
 have caq:∀{h':Hp},B.le h'->Dis G h'->CA G h' C ab cb ap cp ar cr az cs:=fun l d=>ca.up (lq1.trans l) d
 try simp only [gk,cc2]
 refine (si (caq (s2.in 1 rfl) d2).cv st hro hsl).mono ?_
 rintro _ h3 ⟨l3,d3,⟨_,ga,gb,kb,rfl,go,s3⟩|⟨hno,rfl⟩⟩
 rotate_left
 . exact absurd mk hno
 have s4:=s3.swap.open s2
 obtain ⟨Q,sQ,tQ⟩:=HL.Sep.pack [B,ga] (R:=[noHp.set xf (gu p),a]) (s4.sel [1,3,0,2] (by decide) rfl)
 have dQ:Dis G Q:=fun y o hy=>d3 y o (sQ.hd _ _ hy)
 have lBQ:B.le Q:=tQ.in 0 rfl
 have gsQ:=go.gs (G:=G) |>.up (tQ.in 1 rfl) dQ
 try simp only [gk]
 unfold aC6
 generalize hKK:retK P_ G _ _=KK
 try simp (disch:=decide) only [gk]
 refine b8 (fun m r h'=>∃(i:Nat) (pz:Pose) (tz:Int) (a':Hp),m=M.length-i/\i<=M.length/\r 1 = .pointer (some ⟨kp,0,none⟩)/\r 4 = .pointer (some ⟨xc,0,none⟩)/\r 6 = .pointer (some ⟨xf,0,none⟩)/\r 9 = .pointer (some ⟨gb,0,none⟩)/\r 11 = .int .i64 tz/\r 25 = .slice sa M.length sc/\r 26 = .int .i64 M.length/\r 27 = .int .i64 i/\0<=tz/\KP a' kp C.un C.ac C.sp/\HL.Sep [noHp.set xf (gu pz),a',Q] h'/\Dis G h'/\kx C pz tz (M.drop i)=kx C p 0 M) ?_ (m:=M.length)
  ⟨0,p,0,a,rfl,Nat.zero_le _,by simp (disch:=decide) only [gk],by simp (disch:=decide) only [gk],by simp (disch:=decide) only [gk],by simp (disch:=decide) only [gk],by simp (disch:=decide) only [gk],by simp (disch:=decide) only [gk],by simp (disch:=decide) only [gk]<;>rfl,by simp only [gk]<;>rfl,Int.le_refl _,kpk,sQ.sel [1,2,0] (by decide) rfl,d3,by simp⟩
 clear s4 s3 s2 s1
 rintro m r h4 ⟨i,pz,tz,a1,rfl,hi,r1,r4,r6,r9,r11,r25,r26,r27,htz,kpk1,s,d4,hgo⟩ X hX
 have lQ4:Q.le h4:=s.in 2 rfl
 unfold aC4
 simp only [gk,r26,r27]
 refine bm (fun hlt=>?_) (fun hge=>?_)
 rotate_left
 . obtain rfl:i=M.length:=by omega
   rw [List.drop_length]at hgo
   try simp (disch:=first|decide|omega) only [gk,Nat.reduceAdd,Nat.reduceMul]
   unfold aC5
   rw [<- hKK]
   try simp only [gk]
   exact ⟨by rw [<- hgo];rfl,a1,kpk1,((s.sel (L':=[Q,a1]) [2,1] (by decide) rfl).cut (lq1.trans lBQ)).swap,d4⟩
 obtain ⟨z,hz⟩:∃z,M[i]?=some z:=⟨_,List.getElem?_eq_getElem (by omega)⟩
 have zb:=hb z (List.mem_of_getElem? hz)
 have hdrop:M.drop i=z::M.drop (i+1):=by
  rw [List.drop_eq_getElem_cons (by omega)]
  congr 1
  exact Option.some.inj ((List.getElem?_eq_getElem (by omega)).symm.trans hz)
 rw [hdrop,tq]at hgo
 obtain ⟨b,o,rfl,y0,y1,y2,y3,y4,y5,y6,y7,y8,y9,y10⟩:=Sees.mvx (sm.up ((lq1.trans lBQ).trans lQ4) d4) hz
 unfold Na
 try simp -implicitDefEqProofs (maxSteps:=2000000) (disch:=first|decide|with_reducible exact Nat.ne_of_beq_eq_false rfl|exact ao|exact am|omega|rfl|(simp;done)|fail) only [gk,Nat.reduceAdd,r25,r27,r6,ix40 (Int.natCast_nonneg i) hlt,y0,y1,y2,y3,y4,y5,y6,y7,y8,y9,y10]
 intro x hx gx
 have s5:=s.new (o:=D5 z) hx
 have d5:=d4.set (o:=D5 z) gx
 try simp (disch:=first|decide|omega) only [gk,Nat.reduceAdd,Nat.reduceMul]
 generalize Hp.set h4 x _=h5 at*
 obtain ⟨U,sU,tU⟩:=HL.Sep.pack [noHp.set x (D5 z),noHp.set xf (gu pz),Q] (R:=[a1]) (s5.sel [0,1,3,2] (by decide) rfl)
 have dU:Dis G U:=fun y o hy=>d5 y o (sU.hd _ _ hy)
 have lQU:Q.le U:=tU.in 2 rfl
 refine ⟨U,sU.in 0 rfl,?_⟩
 have cx:∀k,af G U ⟨x,k,none⟩=_:=fun k=>aj (ai (tU.at 0 rfl ag))
 have cf:∀k,af G U ⟨xf,k,none⟩=_:=fun k=>aj (ai (tU.at 1 rfl ag))
 have cc:∀k,af G U ⟨xc,k,none⟩=_:=fun k=>aj (ai (lQU _ _ (lBQ _ _ q1)))
 have no:∀{a' h':Hp},(kx C p 0 M=false)->KP a' kp C.un C.ac C.sp->HL.Sep [a',U] h'->Dis G h'->∀r':Rg,r' 8 = .bool false->KK .ret r' h':=fun hf k' s' d' r' e8=>by
  rw [<- hKK]
  try simp only [gk,e8]
  exact ⟨by rw [hf],_,k',(s'.swap.cut ((lq1.trans lBQ).trans lQU)).swap,d'⟩
 have noc:∀{A B:Bool},(A&&B)=kx C p 0 M->A=false->kx C p 0 M=false:=fun e h=>by rw [<- e,h];rfl
 try simp only [gk,r6,cx,cf,aa1]
 by_cases g1:z.f=pz
 rotate_left
 . try simp only [gk,show decide (z.f≠pz)=true from decide_eq_true g1,dw]
   exact no (noc hgo (by unfold oneR;rw [decide_eq_false g1];rfl)) kpk1 sU.swap d5 _ (by simp only [gk])
 try simp only [gk,show decide (z.f≠pz)=false from decide_eq_false (fun h=>h g1),cx,r11]
 by_cases g2:z.a<tz
 . try simp only [gk,je g2,dw]
   exact no (noc hgo (by unfold oneR;rw [decide_eq_false (show ¬tz<=z.a by omega)];simp)) kpk1 sU.swap d5 _ (by simp only [gk])
 try simp only [gk,i8 g2,cx]
 by_cases g3:z.e<=z.a
 . try simp only [gk,je g3,dw]
   exact no (noc hgo (by unfold oneR;rw [decide_eq_false (show ¬z.a<z.e by omega)];simp)) kpk1 sU.swap d5 _ (by simp only [gk])
 try simp only [gk,i8 g3,cx]
 by_cases g4:z.e>=4611686018427387904
 . try simp only [gk,je g4,dw]
   exact no (noc hgo (by unfold oneR;rw [decide_eq_false (show ¬z.e<FV by unfold FV;omega)];simp)) kpk1 sU.swap d5 _ (by simp only [gk])
 try simp only [gk,i8 g4,cx,r9]
 refine (Hg (m:=z) (gsQ.up (lQU.trans (sU.in 0 rfl)) d5) st ⟨zb.n,zb.f⟩).mono ?_
 rintro _ h5 ⟨rfl,rfl⟩
 refine ⟨sU.in 0 rfl,?_⟩
 rw [Hh mk zb.f]
 cases hl:fc C z with
 |false=>
  try simp only [gk,dw]
  exact no (noc hgo (by unfold oneR;rw [hl];simp)) kpk1 sU.swap d5 _ (by simp only [gk])
 |true=>
 have hw:IntKind.i64.wrap (z.e-z.a)=z.e-z.a:=ky (by omega) (by omega)
 try simp only [gk,cx,cc,r1,r4,hw]
 refine (Hl (m:=z) (caq (lBQ.trans (lQU.trans (sU.in 0 rfl))) d5).cv kpk1 sU.swap zb.n).mono ?_
 rintro _ h6 ⟨rfl,a6,kpk6,s6,d6⟩
 refine ⟨s6.in 1 rfl,?_⟩
 by_cases g5:z.e-z.a=fk C z
 rotate_left
 . try simp only [gk,show (z.e-z.a != fk C z)=true by simp [g5]]
   exact no (noc hgo (by unfold oneR;rw [decide_eq_false (show ¬z.e=z.a+fk C z by omega)];simp)) kpk6 s6 d6 _ (by simp only [gk])
 try simp only [gk,show (z.e-z.a != fk C z)=false by rw [<- g5];exact bne_self_eq_false _]
 have h1R:oneR C pz tz z=true:=yr.2 ⟨g1,by omega,by omega,by unfold FV;omega,hl,by omega⟩
 rw [h1R,Bool.true_and]at hgo
 unfold M8
 have s7:=s6.swap.open tU
 refine ⟨noHp.set x (D5 z),s7.in 0 rfl,?_⟩
 have cx7:∀k,af G (noHp.set x (D5 z)) ⟨x,k,none⟩=_:=fun k=>aj (ai ag)
 try simp (disch:=decide) only [gk,Nat.reduceAdd,cx7,r6]
 have bf:=s7.at 1 rfl ag
 rw [Bm (p:=z.t) bf]
 have s8:=(s7.sel (L':=[noHp.set xf (gu pz),noHp.set x (D5 z),Q,a6]) [1,0,2,3] (by decide) rfl).put (o:=gu z.t) ag
 rw [set_set]at s8
 have d8:=d6.set (o:=gu z.t) (d6 _ _ bf)
 refine ⟨s8.in 1 rfl,?_⟩
 try simp (disch:=first|decide|omega) only [gk,Nat.reduceAdd,Nat.reduceMul]
 unfold M9
 try simp (disch:=first|decide|omega) only [gk,r27]
 exact hX (M.length-(i+1)) _ _ (by omega) ⟨i+1,z.t,z.e,a6,rfl,by omega,by simp (disch:=decide) only [gk,r1],by simp (disch:=decide) only [gk,r4],by simp (disch:=decide) only [gk,r6],by simp (disch:=decide) only [gk,r9],by simp (disch:=decide) only [gk],by simp (disch:=decide) only [gk,r25],by simp (disch:=decide) only [gk,r26],by simp only [gk]<;>rfl,by omega,kpk6,s8.sel [0,3,2] (by decide) rfl,d8,hgo⟩
theorem Mb {G h k a q:Hp} {C:Conf} {u:Value} (co:CopyR G h C u k) (s:HL.Sep [a,q] h):∃Q,HL.Sep [a,Q] k/\q.le Q/\Dis G k/\Dis G Q/\CV G Q u C:=by
 obtain ⟨⟨pb,pp_,pr,pz,vb,vp,vr,vz,eu,ob,op,or,oz,sp⟩,dk⟩:=co
 have s1:=HL.Sep.open (L:=[a,q]) (R:=[pb,pp_,pr,pz]) (sp.sel [4,0,1,2,3] (by decide) rfl) s
 obtain ⟨Q,sQ,tQ⟩:=HL.Sep.pack [q,pb,pp_,pr,pz] (R:=[a]) (s1.sel [1,2,3,4,5,0] (by decide) rfl)
 have dQ:Dis G Q:=fun x o hx=>dk x o (sQ.hd _ _ hx)
 have coB:CO noHp C u Q pb pp_ pr pz vb vp vr vz:=⟨eu,ob,op,or,oz,(tQ.sel (L':=[pb,pp_,pr,pz]) [1,2,3,4] (by decide) rfl).none.sel [1,2,3,4,0] (by decide) rfl⟩
 exact ⟨Q,sQ.swap,tQ.in 0 rfl,dk,dQ,coB.cv (Hp.le.refl _)⟩
def ec:=jq bC (jq (jq (jq (jq (jq @Bool.and_self @al30) (jq @vh (jq @bne_self_eq_false.{0} @cf21))) (jq (jq @cf28 @cf29) (jq @cf32 (jq @cf33 @cf34)))) (jq (jq (jq @cf35 @cf56) (jq @eq30p (jq @Xp @ex2))) (jq (jq @S3 @Ic) (jq @Sn (jq @H5 @O2))))) (jq (jq (jq (jq @O1 @F4) (jq @Ef (jq @fa48_0p @O0))) (jq (jq @U5 @U4) (jq @W6 (jq @Ox @ix40)))) (jq (jq (jq @ld26 @Hj) (jq @xj (jq @ld3 @ld30))) (jq (jq @tw (jq @ld3p @ln40)) (jq @ln59p (jq @ne28p @yd))))))
theorem N0 {G h Q a:Hp} {C:Conf} {p:Pose} {t:Int} {S:List Stp} {M:List Move} {sa ma:Option Addr} {sc mc xp xc:Nat} {ab:Option Addr} {cb:Nat} {ap:Option Addr} {cp:Nat} {ar:Option Addr} {cr:Nat} {az:Option Addr} {cs:Nat}
 (sS:Sees stpC G Q (.slice sa S.length sc) S) (sM:Sees jw G Q (.slice ma M.length mc) M) (hok:ox C S M) (hr:∀m∈M,t<=m.a/\m.a<m.e/\m.e<FV) (ht:0<=t) (hMl:M.length<=1000000) (hSl:S.length<=1000000) (bc:Q xc=some (zg C ab cb ap cp ar cr az cs))
 (s:HL.Sep [noHp.set xp (gu p),a,Q] h) (d:Dis G h) {X:Exit->Rg->Hp->Prop} {r:Rg} (g3:r 3 = .int .i64 t) (g6:r 6 = .pointer (some ⟨xc,0,none⟩)) (g18:r 18 = .slice sa S.length sc) (g20:r 20 = .slice ma M.length mc) (g22:r 22 = .int .i64 0) (g23:r 23 = .pointer (some ⟨xp,0,none⟩)) (g24:r 24 = .int .i64 0)
 (H:∀(r':Rg) (h':Hp),(∀y,1<=y->y<=21->r' y=r y)->r' 22 = .int .i64 S.length->r' 23=r 23->HL.Sep [noHp.set xp (gu (endP p M)),a,Q] h'->Dis G h'->X (.exit 0) r' h'):
 ci (V5 G) r h X:=by
 refine b8 (fun m p' h'=>∃(i n:Nat) (pz:Pose),m=M.length-i/\i<=M.length/\n<=S.length/\(∀y,1<=y->y<=21->p' y=r y)/\p' 22 = .int .i64 n/\p' 23=r 23/\p' 24 = .int .i64 i/\ox C (S.drop n) (M.drop i)/\endP pz (M.drop i)=endP p M/\HL.Sep [noHp.set xp (gu pz),a,Q] h'/\Dis G h') ?_ (m:=M.length)
  ⟨0,0,p,rfl,Nat.zero_le _,Nat.zero_le _,fun _ _ _=>rfl,g22,rfl,g24,hok,rfl,s,d⟩
 clear s d hok
 rintro m p' h1 ⟨i,n,pz,rfl,hi,hn,hp,p22,p23,p24,hok,hend,s,d⟩ Y hY
 have p3:=(hp 3 (by decide) (by decide)).trans g3
 have p6:=(hp 6 (by decide) (by decide)).trans g6
 have p18:=(hp 18 (by decide) (by decide)).trans g18
 have p20:=(hp 20 (by decide) (by decide)).trans g20
 rw [g23]at p23
 unfold V5
 simp (disch:=decide) only [ec,p20,p24]
 refine bm (fun hlt=>?_) (fun hge=>?_)
 rotate_left
 . obtain rfl:i=M.length:=by omega
   rw [List.drop_length]at hok hend
   unfold ox at hok
   have hnS:n=S.length:=by
    have:=congrArg List.length hok
    rw [List.length_drop,List.length_nil]at this
    omega
   try simp (disch:=first|decide|exact ao|exact am|omega|rfl) only [ec,Nat.reduceAdd,Nat.reduceMul]
   refine H _ h1 (fun y h1 h2=>by simp (disch:=omega) only [au];exact hp y h1 h2) (by simp (disch:=first|decide|omega) only [ec,p22,hnS]) (by simp (disch:=first|decide|omega) only [ec,p23,g23]) ?_ d
   rw [<- hend];exact s
 obtain ⟨z,hz⟩:∃z,M[i]?=some z:=⟨_,List.getElem?_eq_getElem (by omega)⟩
 obtain ⟨hz1,hz2,hz3⟩:=hr z (List.mem_of_getElem? hz)
 have hdrop:M.drop i=z::M.drop (i+1):=by
  rw [List.drop_eq_getElem_cons (by omega)]
  congr 1
  exact Option.some.inj ((List.getElem?_eq_getElem (by omega)).symm.trans hz)
 rw [hdrop]at hok hend
 rw [ve]at hend
 obtain ⟨b,o,rfl,y0,y1,y2,y3,y4,y5,y6,y7,y8,y9,y10⟩:=Sees.mvx (sM.up (s.in 2 rfl) d) hz
 have fin:∀(n':Nat) (r':Rg),n'<=S.length->ox C (S.drop n') (M.drop (i+1))->(∀y,1<=y->y<=21->r' y=r y)->r' 22 = .int .i64 n'->r' 23 = .pointer (some ⟨xp,0,none⟩)->r' 24 = .int .i64 i->Ar G (bv Y X) r' h1:=fun n' r' hn' hok' hr' e22 e23 e24=>by
  have e3:=(hr' 3 (by decide) (by decide)).trans g3
  have e20:=(hr' 20 (by decide) (by decide)).trans g20
  unfold Ar
  try simp (disch:=decide) only [ec,e3,e20,e24,ix40 (Int.natCast_nonneg i) hlt,y9]
  try simp (disch:=decide) only [ec,i8 (show ¬z.a<t by omega)]
  unfold Nl
  try simp (disch:=first|decide|exact ao|exact am|omega|rfl) only [ec,e20,e23,e24,ix40 (Int.natCast_nonneg i) hlt,y6,y7,y8]
  have bp:=s.at 0 rfl ag
  rw [Bm (p:=z.t) bp]
  have s2:=s.put (o:=gu z.t) ag
  rw [set_set]at s2
  have d2:=d.set (o:=gu z.t) (d _ _ bp)
  try simp -implicitDefEqProofs (maxSteps:=2000000) (disch:=first|decide|with_reducible exact Nat.ne_of_beq_eq_false rfl|exact ao|exact am|omega|rfl|(simp;done)|fail) only [ec,Nat.reduceAdd,Nat.reduceMul]
  unfold Nm
  try simp -implicitDefEqProofs (maxSteps:=2000000) (disch:=first|decide|with_reducible exact Nat.ne_of_beq_eq_false rfl|exact ao|exact am|omega|rfl|(simp;done)|fail) only [ec,e24]
  exact hY (M.length-(i+1)) _ _ (by omega) ⟨i+1,n',z.t,rfl,by omega,hn',fun y h1 h2=>by simp (disch:=omega) only [au];exact hr' y h1 h2,by simp (disch:=first|decide|exact ao|exact am|omega|rfl) only [ec,e22],by simp (disch:=first|decide|exact ao|exact am|omega|rfl) only [ec,e23,g23],by simp (disch:=first|decide|exact ao|exact am|omega|rfl) only [ec]<;>rfl,hok',hend,s2,d2⟩
 unfold Nn
 have cc:∀k,af G h1 ⟨xc,k,none⟩=_:=fun k=>aj (ai (s.at 2 rfl bc))
 try simp -implicitDefEqProofs (maxSteps:=2000000) (disch:=first|decide|with_reducible exact Nat.ne_of_beq_eq_false rfl|exact ao|exact am|omega|rfl|(simp;done)|fail) only [ec,p20,p24,ix40 (Int.natCast_nonneg i) hlt,y0]
 unfold ox at hok
 by_cases hst:Bs z=true
 rotate_left
 . rw [if_neg hst]at hok
   have k3:z.k≠3:=fun h=>hst (by unfold Bs;simp [h])
   have k4:z.k≠4:=fun h=>hst (by unfold Bs;simp [h])
   try simp -implicitDefEqProofs (maxSteps:=2000000) (disch:=first|decide|with_reducible exact Nat.ne_of_beq_eq_false rfl|exact ao|exact am|omega|rfl|(simp;done)|fail) only [ec,show (z.k==3)=false by simp [k3],y0]
   try simp -implicitDefEqProofs (maxSteps:=2000000) (disch:=first|decide|with_reducible exact Nat.ne_of_beq_eq_false rfl|exact ao|exact am|omega|rfl|(simp;done)|fail) only [ec,show (z.k==4)=false by simp [k4]]
   exact fin n _ hn hok (fun y h1 h2=>by simp (disch:=omega) only [au];exact hp y h1 h2) (by simp -implicitDefEqProofs (maxSteps:=2000000) (disch:=first|decide|with_reducible exact Nat.ne_of_beq_eq_false rfl|exact ao|exact am|omega|rfl|(simp;done)|fail) only [ec,p22]) (by simp -implicitDefEqProofs (maxSteps:=2000000) (disch:=first|decide|with_reducible exact Nat.ne_of_beq_eq_false rfl|exact ao|exact am|omega|rfl|(simp;done)|fail) only [ec,p23]) (by simp -implicitDefEqProofs (maxSteps:=2000000) (disch:=first|decide|with_reducible exact Nat.ne_of_beq_eq_false rfl|exact ao|exact am|omega|rfl|(simp;done)|fail) only [ec,p24])
 rw [if_pos hst]at hok
 have hk:z.k=3\/z.k=4:=by unfold Bs at hst;simpa using hst
 have hnlt:n<S.length:=by
  by_cases hc:n<S.length
  . exact hc
  . rw [List.drop_of_length_le (by omega)]at hok
    exact hok.elim
 have hSd:S.drop n=S[n]::S.drop (n+1):=List.drop_eq_getElem_cons hnlt
 have hq:S[n]?=some S[n]:=List.getElem?_eq_getElem hnlt
 rw [hSd]at hok
 simp only at hok
 generalize S[n]=q at*
 obtain ⟨o1,o2,o3,o4,o5⟩:=hok
 obtain ⟨b2,o2',rfl,c0,c1,c2⟩:=Sees.stp (sS.up (s.in 2 rfl) d) hq
 have hw:IntKind.i64.wrap (z.e-z.a)=C.ho:=by rw [ky (by unfold FV at hz3;omega) (by unfold FV at hz3;omega)];exact o4
 have hnn:(n:Int)<S.length:=by omega
 have go:∀r':Rg,(∀y,1<=y->y<=21->r' y=r y)->r' 22 = .int .i64 n->r' 23 = .pointer (some ⟨xp,0,none⟩)->r' 24 = .int .i64 i->B2 G (bv Y X) r' h1:=fun r' hr' e22 e23 e24=>by
  unfold B2
  try simp -implicitDefEqProofs (maxSteps:=2000000) (disch:=first|decide|with_reducible exact Nat.ne_of_beq_eq_false rfl|exact ao|exact am|omega|rfl|(simp;done)|fail) only [ec,e22]
  exact fin (n+1) _ (by omega) o5 (fun y h1 h2=>by simp (disch:=omega) only [au];exact hr' y h1 h2) (by simp (disch:=first|decide|exact ao|exact am|omega|rfl) only [ec]<;>rfl) (by simp -implicitDefEqProofs (maxSteps:=2000000) (disch:=first|decide|with_reducible exact Nat.ne_of_beq_eq_false rfl|exact ao|exact am|omega|rfl|(simp;done)|fail) only [ec,e23]) (by simp -implicitDefEqProofs (maxSteps:=2000000) (disch:=first|decide|with_reducible exact Nat.ne_of_beq_eq_false rfl|exact ao|exact am|omega|rfl|(simp;done)|fail) only [ec,e24])
 have t1:(q.k != z.k)=false:=by rw [o1];exact bne_self_eq_false _
 have t2:(q.x==z.f.x)=true:=by rw [o2];exact beq_self_eq_true _
 have t3:(q.y==z.f.y)=true:=by rw [o3];exact beq_self_eq_true _
 have t4:(C.ho != C.ho)=false:=bne_self_eq_false _
 by_cases k3:z.k=3
 . try simp -implicitDefEqProofs (maxSteps:=2000000) (disch:=first|decide|with_reducible exact Nat.ne_of_beq_eq_false rfl|exact ao|exact am|omega|rfl|(simp;done)|fail) only [ec,show (z.k==3)=true by simp [k3],dw,p6,p18,p20,p22,p24,i8 (show ¬(n:Int)>=S.length by omega),W3 (Int.natCast_nonneg n) hnn,Rz (Int.natCast_nonneg i) hlt,y0,y3,y4,y9,y10,c0,c1,c2,t1,t2,t3,cc,hw,t4]
   exact go _ (fun y h1 h2=>by simp (disch:=omega) only [au];exact hp y h1 h2) (by simp -implicitDefEqProofs (maxSteps:=2000000) (disch:=first|decide|with_reducible exact Nat.ne_of_beq_eq_false rfl|exact ao|exact am|omega|rfl|(simp;done)|fail) only [ec,p22]) (by simp -implicitDefEqProofs (maxSteps:=2000000) (disch:=first|decide|with_reducible exact Nat.ne_of_beq_eq_false rfl|exact ao|exact am|omega|rfl|(simp;done)|fail) only [ec,p23]) (by simp -implicitDefEqProofs (maxSteps:=2000000) (disch:=first|decide|with_reducible exact Nat.ne_of_beq_eq_false rfl|exact ao|exact am|omega|rfl|(simp;done)|fail) only [ec,p24])
 . have k4:z.k=4:=by omega
   try simp -implicitDefEqProofs (maxSteps:=2000000) (disch:=first|decide|with_reducible exact Nat.ne_of_beq_eq_false rfl|exact ao|exact am|omega|rfl|(simp;done)|fail) only [ec,show (z.k==3)=false by simp [k3],y0]
   try simp -implicitDefEqProofs (maxSteps:=2000000) (disch:=first|decide|with_reducible exact Nat.ne_of_beq_eq_false rfl|exact ao|exact am|omega|rfl|(simp;done)|fail) only [ec,show (z.k==4)=true by simp [k4],p6,p18,p20,p22,p24,i8 (show ¬(n:Int)>=S.length by omega),W3 (Int.natCast_nonneg n) hnn,Rz (Int.natCast_nonneg i) hlt,y0,y3,y4,y9,y10,c0,c1,c2,t1,t2,t3,cc,hw,t4]
   exact go _ (fun y h1 h2=>by simp (disch:=omega) only [au];exact hp y h1 h2) (by simp -implicitDefEqProofs (maxSteps:=2000000) (disch:=first|decide|with_reducible exact Nat.ne_of_beq_eq_false rfl|exact ao|exact am|omega|rfl|(simp;done)|fail) only [ec,p22]) (by simp -implicitDefEqProofs (maxSteps:=2000000) (disch:=first|decide|with_reducible exact Nat.ne_of_beq_eq_false rfl|exact ao|exact am|omega|rfl|(simp;done)|fail) only [ec,p23]) (by simp -implicitDefEqProofs (maxSteps:=2000000) (disch:=first|decide|with_reducible exact Nat.ne_of_beq_eq_false rfl|exact ao|exact am|omega|rfl|(simp;done)|fail) only [ec,p24])
theorem Nz {G:Hp} {v lv sv:Value} {C:Conf} {p hm:Pose} {t:Int} {l:List Want} {S:List Stp} (pp:PB p) (ph:PB hm) (hl:vm Rv.xy G lv l) (hlb:∀x∈l,WB x) (hs:vm stpC G sv S) (hS:∀s∈S,StpB s) (st:jb G) (hv:CV G noHp v C) (fit:Fit0 C) (hro:∀p∈C.ro,PB p):
 al P_ G 19 #[v,lv,kz p,t,sv,kz hm] noHp (fun u _=>u = .bool true):=by
 have hv0:=hv
 obtain ⟨ab,cb,ap,cp,ar,cr,az,cs,rfl,ca⟩:=hv
 refine al.assume fun d=>enter19 (by simp) ?_
 unfold S19
 simp only [ec]
 intro xc hxc gxc x1 hx1 gx1 x2 hx2 gx2
 generalize e1:Hp.set noHp xc _=h1 at*
 obtain ⟨l1,d1,q1⟩:=boxed e1 hxc d gxc
 generalize e2:Hp.set h1 x1 _=h2 at*
 obtain ⟨l2,d2,q2⟩:=boxed e2 hx1 d1 gx1
 generalize e3:Hp.set h2 x2 _=hz at*
 obtain ⟨l3,dz,q3⟩:=boxed e3 hx2 d2 gx2
 have L:=l1.trans (l2.trans (l3))
 have bc:=l3 _ _ (l2 _ _ (q1))
 have b1:=l3 _ _ (q2)
 have b2:=q3
 have cc:∀{h':Hp},hz.le h'->∀k,af G h' ⟨xc,k,none⟩=_:=fun l k=>aj (ai (l _ _ bc))
 have c1:∀{h':Hp},hz.le h'->∀k,af G h' ⟨x1,k,none⟩=_:=fun l k=>aj (ai (l _ _ b1))
 have c2:∀{h':Hp},hz.le h'->∀k,af G h' ⟨x2,k,none⟩=_:=fun l k=>aj (ai (l _ _ b2))
 have ca0:=ca.up L dz
 have lz:=Hp.le.refl hz
 have aw:∀{h:Hp} {K:VK},(∀h',K (.bool true) h')->al P_ G 32 #[] h K:=fun hK=>(awake13 st).mono fun u h' e=>by rw [e.1];exact hK h'
 have hsl:C.st.length<=100000000000000:=by have:=fit.st;unfold Room at this;omega
 try simp only [ec,cc lz]
 refine (small12 ca0.cv).mono ?_
 rintro _ hz ⟨⟨b,rfl,hb⟩,rfl⟩
 cases b with
 |false=>
  try simp only [ec,dw]
  exact aw fun h'=>by simp only [ec]
 |true=>
 have sm:=hb rfl
 have mk:dh C:=Rp.2 sm.may
 have kb:KB C.un C.ac C.sp:=kb_of mk
 try simp only [ec]
 unfold aE1
 try simp (disch:=decide) only [ec,cc lz]
 refine (Rf ca0.cv sm hl hlb).mono ?_
 rintro _ h4 ⟨a1,a2,t1,t2,rfl,tab1,tab2,s4,d4⟩
 have l4:=s4.in 2 rfl
 obtain ⟨gT,fT,lT⟩:=tabO_ok (C.w*C.h).toNat l
 have tv4:∀{h':Hp},h4.le h'->Dis G h'->TabV G h' (.pointer (some ⟨t1,0,none⟩)) (some (tabO (C.w*C.h).toNat l)):=fun l d=>⟨t1,rfl,(tab1.see (s4.in 0 rfl)).up l d,gT,fT⟩
 generalize tabO (C.w*C.h).toNat l=T at*
 try simp only [ec,cc l4]
 refine (Ru (U:=C.un) (A:=C.ac) (V:=C.sp)).mono ?_
 rintro _ h5 (⟨_,ak,kp,rfl,kpk,s5,d5⟩|⟨hno,_⟩)
 rotate_left
 . exact absurd kb hno
 have l5:=s5.in 1 rfl
 try simp only [ec]
 unfold aE0
 try simp (disch:=decide) only [ec]
 refine (T5 (hs h5 d5)).mono ?_
 rintro _ h6 ⟨ia,va,ib,vb,rfl,slA,slB,s6,d6⟩
 obtain ⟨aa,ac,rfl,hac⟩:=id (slA.len (by decide))
 have hS4:∀s∈S.take 4,StpB s:=fun s h=>hS s (List.mem_of_mem_take h)
 have hl4:(S.take 4).length<=4:=by rw [List.length_take];omega
 generalize S.take 4=S4 at*
 have s7:=HL.Sep.open (L:=[ak,h4]) (R:=[ia,ib]) (s6.sel (L':=[h5,ia,ib]) [2,0,1] (by decide) rfl) s5
 obtain ⟨Q6,sQ6,tQ6⟩:=HL.Sep.pack [h4,ia] (R:=[ak]) (s7.sel [1,2,0] (by decide) rfl)
 have l6:h4.le h6:=(tQ6.in 0 rfl).trans (sQ6.in 0 rfl)
 try simp only [ec,cc (l4.trans l6)]
 refine (A3 (ca0.up (l4.trans l6) d6).cv fit).mono ?_
 rintro u7 k7 co7
 obtain ⟨Q7,sQ7,lQ7,dk7,dQ7,cv7⟩:=Mb co7 sQ6.swap
 have lk7:h6.le k7:=by obtain ⟨⟨_,_,_,_,_,_,_,_,co⟩,_⟩:=co7;exact co.sep.in 4 rfl
 refine ⟨lk7,?_⟩
 try simp only [ec,c1 (l4.trans l6),c2 (l4.trans l6)]
 refine (Gw (T:=T) (p:=p) (hm:=hm) (rb:=0) (t:=t) (S:=S4) (cv7.up (sQ7.in 1 rfl) dk7) st hro fit (fun _=>sm.bu) (tv4 (l6.trans lk7) dk7) pp ph (slA.see (by decide) ((tQ6.in 1 rfl).trans (lQ7.trans (sQ7.in 1 rfl)))) hS4 (by omega)).mono ?_
 rintro _ m7 ⟨W,⟨ip7,vs7,rfl,sl7,ll7,sm7,dm7⟩,⟨hno,_⟩|⟨_,hW⟩⟩
 . exact absurd mk hno
 try simp only [ec]
 cases W with
 |no e1=>
  have hne:e1≠0:=Qz mk gT hW.symm
  obtain ⟨wa,wc,rfl,_⟩:=id (sl7.len (by decide))
  try simp only [ec,show outE (Res.no (M:=Move) e1)=e1 from rfl,show (e1 != 0)=true by simp [hne],show (outL (Res.no (M:=Move) e1)).length=0 from rfl,show (((0:Nat):Int)==0)=true from rfl]
  exact aw fun h'=>by simp only [ec]
 |ok M=>
 replace sl7:Slc jw 48 ip7 vs7 M:=sl7
 replace ll7:M.length<=4096:=ll7
 obtain ⟨hS5,hgo,_⟩:=Z1 hW.symm
 obtain ⟨M',e1',r1,r2,r3,r4,r5⟩:=Hv mk gT hS5 hgo
 obtain ⟨M'',e1'',hok⟩:=Ls mk gT hS5 hgo
 rw [List.nil_append]at e1' e1''
 subst e1'
 subst e1''
 have hall:=G2 r1
 have hMB:∀m∈M,MB m:=fun m hm=>(al2 mk (hall m hm).2.2.2).1
 obtain ⟨wa,wc,rfl,_⟩:=id (sl7.len (by decide))
 have s8:=HL.Sep.open (L:=[ak,Q7]) (R:=[ip7]) sm7.swap sQ7
 obtain ⟨Q,sQ,tQ⟩:=HL.Sep.pack [Q7,ip7] (R:=[ak]) (s8.sel [1,2,0] (by decide) rfl)
 have lhzQ:hz.le Q:=l4.trans ((tQ6.in 0 rfl).trans (lQ7.trans (tQ.in 0 rfl)))
 have dQ:Dis G Q:=fun y o hy=>dm7 y o (sQ.hd _ _ hy)
 try simp only [ec,show outE (Res.ok M)=0 from rfl,show ((0:Int) != 0)=false from rfl]
 unfold aD9
 try simp (disch:=first|decide|exact ao|exact am|omega|rfl) only [ec,c1 (lhzQ.trans (sQ.in 0 rfl))]
 intro xp hxp gxp
 have s9:=sQ.swap.new (o:=gu p) hxp
 have d9:=dm7.set (o:=gu p) gxp
 try simp (disch:=first|decide|omega) only [ec,Nat.reduceAdd,Nat.reduceMul]
 generalize Hp.set m7 xp _=h9 at*
 refine N0 (C:=C) (p:=p) (t:=t) (S:=S4) (M:=M) (xp:=xp) (xc:=xc) (Q:=Q) (a:=ak) (slA.see (by decide) ((tQ6.in 1 rfl).trans (lQ7.trans (tQ.in 0 rfl)))) (sl7.see (by decide) (tQ.in 1 rfl)) hok (fun m hm=>⟨(hall m hm).1,(hall m hm).2.1,(hall m hm).2.2.1⟩) r3 (by omega) (by omega) (lhzQ _ _ bc) s9 d9 (by simp (disch:=decide) only [ec]) (by simp (disch:=decide) only [ec]) (by simp (disch:=decide) only [ec]) (by simp (disch:=decide) only [ec]) (by simp (disch:=decide) only [ec]) (by simp (disch:=decide) only [ec]) (by simp only [ec]<;>rfl) fun r' h' hr' e22 e23 s10 d10=>?_
 have f6:=hr' 6 (by decide) (by decide)
 have f8:=hr' 8 (by decide) (by decide)
 have f11:=hr' 11 (by decide) (by decide)
 have f16:=hr' 16 (by decide) (by decide)
 have f18:=hr' 18 (by decide) (by decide)
 have f20:=hr' 20 (by decide) (by decide)
 simp (disch:=omega) only [au,af9]at f6 f8 f11 f16 f18 f20 e23
 rw [r2]at s10
 try simp only [ec]
 unfold aD8
 have lz10:hz.le h':=lhzQ.trans (s10.in 2 rfl)
 have cxp:∀k,af G h' ⟨xp,k,none⟩=_:=fun k=>aj (ai (s10.at 0 rfl ag))
 have t1:(((S4.length:Nat):Int)==((S4.length:Nat):Int))=true:=beq_self_eq_true _
 have t2:(hm.x==hm.x)=true:=beq_self_eq_true _
 have t3:(hm.y==hm.y)=true:=beq_self_eq_true _
 have t4:(hm.d==hm.d)=true:=beq_self_eq_true _
 try simp only [ec,e22,e23,f18,f6,f11,f8,f16,f20,t1,t2,t3,t4,cxp,c2 lz10,cc lz10]
 refine (A3 (ca0.up lz10 d10).cv fit).mono ?_
 rintro u11 k11 co11
 obtain ⟨Y,sY,tY⟩:=HL.Sep.pack [noHp.set xp (gu hm),Q] (R:=[ak]) (s10.sel [0,2,1] (by decide) rfl)
 obtain ⟨Q11,sQ11,lQ11,dk11,dQ11,cv11⟩:=Mb co11 sY.swap
 have lk11:h'.le k11:=by obtain ⟨⟨_,_,_,_,_,_,_,_,co⟩,_⟩:=co11;exact co.sep.in 4 rfl
 refine ⟨lk11,?_⟩
 try simp only [ec,c1 lz10,f16,f20]
 refine (Ug (p:=p) (M:=M) cv11 st hro hsl mk kpk (sl7.see (by decide) ((tQ.in 1 rfl).trans ((tY.in 1 rfl).trans lQ11))) hMB (by omega) sQ11).mono ?_
 rintro _ h12 ⟨rfl,_⟩
 rw [Uh r3 r1]
 try simp only [ec]
 exact aw fun h'=>by simp only [ec]
end Go.Proofs.YtfflipnhffknnaaGreatDoor
end
section
namespace Go.Proofs.YtfflipnhffknnaaGreatDoor
open Go Go.HL Go.ChangeShapes Go.WideShapes Go.RowKit
theorem aj1:ownKnob P_.godebug=none:=by kernel_rfl
theorem al7:laidOutB P_=true:=by kernel_rfl
theorem am3:P_.globalNamed "skep/grid.steps" = some 0:=by kernel_rfl
theorem tSteps:(P_.globals[0]?).map (·.type)=some 245:=by kernel_rfl
abbrev Lm:List (String × DataW Unit):=[("skep/grid.steps",Rows.laid_skep_grid_steps)]
theorem av8 (os:Os) (args:Array Value):laidMetH P_ Lm ((World.doorLaid P_ 400 os).forCall (fun _ _=>0) ⟨#[],args,[]⟩).memory:=
 laidMetH_of_parts3 (fuel:=8) (laidMet_of_run' 8 (by kernel_rfl) (by kernel_rfl)) (by kernel_rfl) (by kernel_rfl)
theorem Tc {H:Type} {enc:TypeId × Value->H} {P:Program} {w:World} {base:Nat} {spare:Nat->Bool} {held:Bool} {e:TypeId} {fuel:Nat} {cs:List Value} {y:DataW H × List MemPlace} {tos:List (TypeId × Nat)} (ht:gi P e=some tos)
 (h:DataW.trod enc P w base spare held fuel e cs=some y):cs.length=P.cellsOf e/\∃(xs:List (DataW H × List MemPlace)) (m:Nat),y=(.agg (xs.map (·.1)),xs.flatMap (·.2))/\xs.length=tos.length/\∀(i:Nat) (t o:Nat),tos[i]?=some (t,o)->DataW.trod enc P w base spare held m t ((cs.drop o).take (P.cellsOf t))=xs[i]?:=by
 unfold gi at ht
 split at ht
 . rename_i fs hfs
   obtain ⟨xs,n,_,h0,h1,h2,h3⟩:=DataW.trod_struct hfs h
   simp only [Option.some.injEq]at ht
   subst ht
   refine ⟨h1,xs,n,h0,by simp [h2],fun i t o hi=>?_⟩
   rw [List.getElem?_map,Array.getElem?_toList]at hi
   cases q:fs[i]? with
   |none=>rw [q]at hi;cases hi
   |some f=>
    rw [q]at hi
    simp only [Option.map_some,Option.some.injEq,Prod.mk.injEq]at hi
    obtain ⟨rfl,rfl⟩:=hi
    exact h3 i f q
 . cases ht
theorem un3i:P_.underlying 3=some (.int .i64):=by kernel_rfl
theorem c3:P_.cellsOf 3=1:=by kernel_rfl
theorem c28:P_.cellsOf 28=2:=by kernel_rfl
theorem c81:P_.cellsOf 245=8:=by kernel_rfl
theorem sf28:gi P_ 28=some [(3,0),(3,1)]:=by kernel_rfl
theorem Ck {H:Type} {enc:TypeId × Value->H} {w:World} {base:Nat} {spare:Nat->Bool} {held:Bool} {m:Nat} {cs:List Value} {x:DataW H × List MemPlace} {a b:Int}
 (h:DataW.trod enc P_ w base spare held m 28 cs=some x) (e:x.1 = .agg [.lit (.int .i64 a),.lit (.int .i64 b)]):cs=[.int .i64 a,.int .i64 b]:=by
 obtain ⟨hl,xs,n,rfl,hxl,d⟩:=Tc sf28 h
 rw [c28]at hl
 match cs,hl,xs,hxl with
 |[v0,v1],_,[x0,x1],_=>
 have h0:=d 0 3 0 rfl
 have h1:=d 1 3 1 rfl
 rw [c3]at h0 h1
 obtain ⟨k0,e0,f0,_⟩:=DataW.trod_int un3i (show DataW.trod _ _ _ _ _ _ n 3 _=some x0 from h0)
 obtain ⟨k1,e1,f1,_⟩:=DataW.trod_int un3i (show DataW.trod _ _ _ _ _ _ n 3 _=some x1 from h1)
 simp at e0 e1
 subst e0 e1 f0 f1
 simp at e
 obtain ⟨rfl,rfl⟩:=e
 rfl
theorem len8 {α:Type} {L:List α} (h:L.length=8):∃a b c d e f g i,L=[a,b,c,d,e,f,g,i]:=by
 match L,h with
 |[a,b,c,d,e,f,g,i],_=>exact ⟨a,b,c,d,e,f,g,i,rfl⟩
theorem of_laid {W:World} (h:laidMetH P_ Lm W):jb (ground W):=by
 rw [MakeChecks.laidMetH_plain _ _ _ (by kernel_rfl)]at h
 obtain ⟨ps,⟨g0,t0,cs0,f0,p0,q0,hg0,ht0,hv0,hd0,_,_⟩,_,_⟩:=h
 obtain rfl:=Option.some.inj (am3.symm.trans hg0)
 obtain rfl:=Option.some.inj (tSteps.symm.trans ht0)
 obtain ⟨xs,m,rfl,hx,hl,hxl,hel⟩:=DataW.trod_array un81 hd0
 rw [c81]at hl
 rw [c28]at hel
 simp only [Prod.mk.injEq]at hx
 obtain ⟨hx,_⟩:=hx
 have hobj:∃e f,W.heap[0]?=some (.cells cs0 e f):=by
  unfold World.var? at hv0
  rw [am3]at hv0
  simp only [Option.bind_some]at hv0
  split at hv0
  . rename_i c e f hc
    cases hv0
    exact ⟨e,f,hc⟩
  . cases hv0
 obtain ⟨e,f,hobj⟩:=hobj
 refine ⟨e,f,?_⟩
 show W.heap[0]?=_
 rw [hobj]
 match xs,hxl with
 |[x0,x1,x2,x3],_=>
 have h0:=hel 0 (by decide)
 have h1:=hel 1 (by decide)
 have h2:=hel 2 (by decide)
 have h3:=hel 3 (by decide)
 unfold Rows.laid_skep_grid_steps at hx
 simp only [List.map_cons,List.map_nil,DataW.agg.injEq,List.cons.injEq]at hx
 have k0:=Ck (show DataW.trod _ _ _ _ _ _ m 28 _=some x0 from h0) hx.1.symm
 have k1:=Ck (show DataW.trod _ _ _ _ _ _ m 28 _=some x1 from h1) hx.2.1.symm
 have k2:=Ck (show DataW.trod _ _ _ _ _ _ m 28 _=some x2 from h2) hx.2.2.1.symm
 have k3:=Ck (show DataW.trod _ _ _ _ _ _ m 28 _=some x3 from h3) hx.2.2.2.1.symm
 obtain ⟨cs⟩:=cs0
 obtain ⟨a0,a1,a2,a3,a4,a5,a6,a7,rfl⟩:=len8 hl
 simp at k0 k1 k2 k3
 obtain ⟨rfl,rfl⟩:=k0
 obtain ⟨rfl,rfl⟩:=k1
 obtain ⟨rfl,rfl⟩:=k2
 obtain ⟨rfl,rfl⟩:=k3
 rfl
section
theorem uw {H:Type} {P:Program} {ts:List TypeId} {ds:List (DataW H)} (h:(DataW.weightsEach P ts ds).all (· <= reachBytes)=true) {j:Nat} {t:TypeId} {d:DataW H} (ht:ts[j]?=some t) (hd:ds[j]?=some d):qk P t d:=fun n hn=>by
 simpa using List.all_eq_true.1 h n (DataW.weights_mem_each ht hd n hn)
theorem yt {P:Program} {w:World} {r:Reach} {base:Nat} {t:TypeId} {v:Value} {tos:List (TypeId × Nat)} (ht:gi P t=some tos) (hv:Value.okWide P w r base t v):∃cs:Array Value,v = .agg cs:=by
 unfold gi at ht
 split at ht
 . rename_i fs hfs
   obtain ⟨cs,rfl,_⟩:=okWide_struct hfs hv
   exact ⟨cs,rfl⟩
 . cases ht
theorem sf30:gi P_ 30=some [(28,0),(4,2)]:=by kernel_rfl
theorem sf95:gi P_ 234=some [(28,0),(168,2)]:=by kernel_rfl
theorem sf26:gi P_ 26=some [(3,0),(3,1),(3,2),(22,3),(22,4),(23,5),(24,6),(3,7),(3,8),(3,9),(3,10),(3,11),(3,12),(3,13),(3,14),(4,15)]:=by kernel_rfl
theorem un4b:P_.underlying 4=some .bool:=by kernel_rfl
theorem c4:P_.cellsOf 4=1:=by kernel_rfl
theorem c22:P_.cellsOf 22=1:=by kernel_rfl
theorem c23:P_.cellsOf 23=1:=by kernel_rfl
theorem c24:P_.cellsOf 24=1:=by kernel_rfl
theorem c26:P_.cellsOf 26=16:=by kernel_rfl
theorem c30:P_.cellsOf 30=3:=by kernel_rfl
theorem c57:P_.cellsOf 168=1:=by kernel_rfl
theorem c95:P_.cellsOf 234=3:=by kernel_rfl
section
variable {H:Type} {enc:TypeId × Value->H} {w:World} {base:Nat} {spare:Nat->Bool} {held:Bool}
theorem len2 {α:Type} {L:List α} (h:L.length=2):∃a b,L=[a,b]:=by
 match L,h with
 |[a,b],_=>exact ⟨a,b,rfl⟩
theorem len3 {α:Type} {L:List α} (h:L.length=3):∃a b c,L=[a,b,c]:=by
 match L,h with
 |[a,b,c],_=>exact ⟨a,b,c,rfl⟩
theorem zh {m:Nat} {cs:List Value} {y:DataW H × List MemPlace} (h:DataW.trod enc P_ w base spare held m 28 cs=some y):∃c:Cell,cs=dl.enc c/\Bd c.1/\Bd c.2:=by
 obtain ⟨hl,d⟩:=we sf28 h
 rw [c28]at hl
 obtain ⟨v0,v1,rfl⟩:=len2 hl
 obtain ⟨m0,z0,e0⟩:=d 0 _ _ rfl
 obtain ⟨m1,z1,e1⟩:=d 1 _ _ rfl
 rw [c3]at e0 e1
 obtain ⟨x0,f0,b0⟩:=ku un3i e0
 obtain ⟨x1,f1,b1⟩:=ku un3i e1
 simp at f0 f1
 subst f0 f1
 exact ⟨(x0,x1),rfl,b0,b1⟩
theorem Ra {m:Nat} {cs:List Value} {y:DataW H × List MemPlace} (h:DataW.trod enc P_ w base spare held m 30 cs=some y):∃p:Pose,cs=yo.enc p/\PB p:=by
 obtain ⟨hl,d⟩:=we sf30 h
 rw [c30]at hl
 obtain ⟨v0,v1,v2,rfl⟩:=len3 hl
 obtain ⟨m0,z0,e0⟩:=d 0 _ _ rfl
 obtain ⟨m1,z1,e1⟩:=d 1 _ _ rfl
 rw [c28]at e0
 rw [c4]at e1
 obtain ⟨c,f0,b0⟩:=zh e0
 obtain ⟨b,f1⟩:=Td un4b e1
 simp [dl]at f0 f1
 obtain ⟨rfl,rfl⟩:=f0
 subst f1
 exact ⟨⟨c.1,c.2,b⟩,rfl,b0⟩
def RawOk (G:Hp) (r:Raw):Prop:=∃L:List Int,r.n=L.length/\Room L.length 8/\∀h,Dis G h->Sees icC G h (.slice r.a r.n r.c) L
theorem Co {n bytes:Nat} (h:n*bytes<=reachBytes) (hb:bytes<=40):Room n bytes:=by
 unfold Room
 rw [show reachBytes=140737488351232 from rfl]at h
 rw [Nat.add_mul,Nat.mul_assoc]
 have:192*bytes<=7680:=by omega
 omega
theorem raw_dec {m:Nat} {cs:List Value} {y:DataW H × List MemPlace} (h:DataW.trod enc P_ w base spare held m 234 cs=some y) (hw:qk P_ 234 y.1):∃r:Raw,cs=rawC.enc r/\RawOk (ground w) r:=by
 obtain ⟨hl,d⟩:=Go.HL.Fd sf95 h hw
 rw [c95]at hl
 obtain ⟨v0,v1,v2,rfl⟩:=len3 hl
 obtain ⟨m0,z0,e0,_⟩:=d 0 _ _ rfl
 obtain ⟨m1,z1,e1,w1⟩:=d 1 _ _ rfl
 rw [c28]at e0
 rw [c57]at e1
 obtain ⟨c,f0,b0⟩:=zh e0
 obtain ⟨a,n,cap,L,f1,hL,hs,hg,_⟩:=tf icC (fun _=>True) Gg c3 (by decide) (fun _ _ _ h _=>let ⟨x,e,_⟩:=ku un3i h;⟨x,e,trivial⟩) e1 w1
 simp [dl]at f0 f1
 obtain ⟨rfl,rfl⟩:=f0
 subst f1
 rw [show P_.bytesOf 3=8 by kernel_rfl]at hs
 subst hL
 exact ⟨⟨c.1,c.2,a,L.length,cap⟩,rfl,L,rfl,Co hs (by decide),hg⟩
theorem len16 {α:Type} {L:List α} (h:L.length=16):∃a b c d e f g i j k l m n o p q,L=[a,b,c,d,e,f,g,i,j,k,l,m,n,o,p,q]:=by
 match L,h with
 |[a,b,c,d,e,f,g,i,j,k,l,m,n,o,p,q],_=>exact ⟨a,b,c,d,e,f,g,i,j,k,l,m,n,o,p,q,rfl⟩
theorem aw3 {m:Nat} {cs:List Value} {y:DataW H × List MemPlace} (h:DataW.trod enc P_ w base spare held m 26 cs=some y) (hw:qk P_ 26 y.1):
 ∃C:Conf,(∀h,Dis (ground w) h->CV (ground w) h (.agg cs.toArray) C)/\Fit0 C/\∀p∈C.ro,PB p:=by
 obtain ⟨hl,d⟩:=Go.HL.Fd sf26 h hw
 rw [c26]at hl
 obtain ⟨v0,v1,v2,v3,v4,v5,v6,v7,v8,v9,v10,v11,v12,v13,v14,v15,rfl⟩:=len16 hl
 obtain ⟨_,_,e0,_⟩:=d 0 _ _ rfl
 obtain ⟨_,_,e1,_⟩:=d 1 _ _ rfl
 obtain ⟨_,_,e2,_⟩:=d 2 _ _ rfl
 obtain ⟨_,_,e3,w3⟩:=d 3 _ _ rfl
 obtain ⟨_,_,e4,w4⟩:=d 4 _ _ rfl
 obtain ⟨_,_,e5,w5⟩:=d 5 _ _ rfl
 obtain ⟨_,_,e6,w6⟩:=d 6 _ _ rfl
 obtain ⟨_,_,e7,_⟩:=d 7 _ _ rfl
 obtain ⟨_,_,e8,_⟩:=d 8 _ _ rfl
 obtain ⟨_,_,e9,_⟩:=d 9 _ _ rfl
 obtain ⟨_,_,e10,_⟩:=d 10 _ _ rfl
 obtain ⟨_,_,e11,_⟩:=d 11 _ _ rfl
 obtain ⟨_,_,e12,_⟩:=d 12 _ _ rfl
 obtain ⟨_,_,e13,_⟩:=d 13 _ _ rfl
 obtain ⟨_,_,e14,_⟩:=d 14 _ _ rfl
 obtain ⟨_,_,e15,_⟩:=d 15 _ _ rfl
 simp only [c3,c4,c22,c23,c24]at e0 e1 e2 e3 e4 e5 e6 e7 e8 e9 e10 e11 e12 e13 e14 e15
 obtain ⟨x0,f0,_⟩:=ku un3i e0
 obtain ⟨x1,f1,_⟩:=ku un3i e1
 obtain ⟨x2,f2,_⟩:=ku un3i e2
 obtain ⟨ab,nb,cb,B,f3,hB,sB,gB,_⟩:=tf dl (fun _=>True) un22 c28 (by decide) (fun _ _ _ h _=>let ⟨x,e,_⟩:=zh h;⟨x,e,trivial⟩) e3 w3
 obtain ⟨ap,np,cp,PO,f4,hP,sP,gP,_⟩:=tf dl (fun _=>True) un22 c28 (by decide) (fun _ _ _ h _=>let ⟨x,e,_⟩:=zh h;⟨x,e,trivial⟩) e4 w4
 obtain ⟨ar,nr,cr,R,f5,hR,sR,gR,qR⟩:=tf yo PB un23 c30 (by decide) (fun _ _ _ h _=>Ra h) e5 w5
 obtain ⟨az,nz,cz,Z,f6,hZ,sZ,gZ,qZ⟩:=tf rawC (RawOk (ground w)) un24 c95 (by decide) (fun _ _ _ h hw=>raw_dec h hw) e6 w6
 obtain ⟨x7,f7,_⟩:=ku un3i e7
 obtain ⟨x8,f8,_⟩:=ku un3i e8
 obtain ⟨x9,f9,_⟩:=ku un3i e9
 obtain ⟨x10,f10,_⟩:=ku un3i e10
 obtain ⟨x11,f11,_⟩:=ku un3i e11
 obtain ⟨x12,f12,_⟩:=ku un3i e12
 obtain ⟨x13,f13,_⟩:=ku un3i e13
 obtain ⟨x14,f14,_⟩:=ku un3i e14
 obtain ⟨x15,f15⟩:=Td un4b e15
 simp at f0 f1 f2 f3 f4 f5 f6 f7 f8 f9 f10 f11 f12 f13 f14 f15
 subst f0 f1 f2 f3 f4 f5 f6 f7 f8 f9 f10 f11 f12 f13 f14 f15
 subst hB hP hR hZ
 rw [show P_.bytesOf 28=16 by kernel_rfl]at sB sP
 rw [show P_.bytesOf 30=24 by kernel_rfl]at sR
 rw [show P_.bytesOf 234=40 by kernel_rfl]at sZ
 obtain ⟨S,hS,qS⟩:=F3 (Q:=fun i (s:Cell × List Int)=>∀r,Z[i]?=some r->(r.x,r.y)=s.1/\r.n=s.2.length/\Room s.2.length 8/\∀h,Dis (ground w) h->Sees icC (ground w) h (.slice r.a s.2.length r.c) s.2) Z.length (fun i hi=>by
  obtain ⟨L,e,rm,se⟩:=qZ _ (List.getElem_mem hi)
  refine ⟨((Z[i].x,Z[i].y),L),fun r hr=>?_⟩
  rw [List.getElem?_eq_getElem hi]at hr
  cases hr
  exact ⟨rfl,e,rm,fun h d=>by rw [<- e];exact se h d⟩)
 refine ⟨⟨x0,x1,x2,B,PO,R,S,x7,x8,x9,x10,x11,x12,x13,x14,x15⟩,fun h d=>⟨ab,cb,ap,cp,ar,cr,az,cz,by simp only [Tf,hS],gB h d,gP h d,gR h d,Z,by show Sees rawC _ h (.slice az S.length cz) Z;rw [hS];exact gZ h d,fun i r s hr hs=>?_⟩,⟨Co sB (by decide),Co sP (by decide),Co sR (by decide),by show Room S.length 40;rw [hS];exact Co sZ (by decide),fun s hs=>?_⟩,qR⟩
 . obtain ⟨a,b,c,e⟩:=qS i s hs r hr
   exact ⟨a,b,e h d⟩
 . obtain ⟨i,hi⟩:=List.getElem?_of_mem hs
   have hi2:i<Z.length:=by rw [<- hS];exact (List.getElem?_eq_some_iff.1 hi).1
   exact (qS i s hi _ (List.getElem?_eq_getElem hi2)).2.2.1
theorem Rb {r:Reach} {b0:Nat} {v:Value} {d:DataW H} {ps:List MemPlace} (k:Value.okWide P_ w r b0 30 v) (h:DataW.Trod enc P_ w base spare held 30 v d ps):∃p:Pose,v=kz p/\PB p:=by
 obtain ⟨cs,rfl⟩:=yt sf30 k
 obtain ⟨m,h⟩:=h
 obtain ⟨c,e,b⟩:=Ra (cs:=cs.toList) h
 exact ⟨c,by rw [<- Array.toArray_toList (xs:=cs),e];rfl,b⟩
theorem int_arg {r:Reach} {b0:Nat} {v:Value} {d:DataW H} {ps:List MemPlace} (k:Value.okWide P_ w r b0 3 v) (h:DataW.Trod enc P_ w base spare held 3 v d ps):∃n:Int,v = .int .i64 n/\Bd n:=by
 obtain ⟨n,rfl,rfl,rfl,wf⟩:=open_int un3i k h
 exact ⟨n,rfl,by simpa [Lit.wf,IntKind.min,IntKind.max,IntKind.signed,IntKind.bits,Bd]using wf⟩
theorem aw4 {r:Reach} {b0:Nat} {v:Value} {d:DataW H} {ps:List MemPlace} (k:Value.okWide P_ w r b0 26 v) (h:DataW.Trod enc P_ w base spare held 26 v d ps) (hl:qk P_ 26 d):
 ∃C:Conf,(∀h,Dis (ground w) h->CV (ground w) h v C)/\Fit0 C/\∀p∈C.ro,PB p:=by
 obtain ⟨cs,rfl⟩:=yt sf26 k
 obtain ⟨m,h⟩:=h
 obtain ⟨C,hC,f,hp⟩:=aw3 (cs:=cs.toList) h hl
 exact ⟨C,fun h d=>by simpa using hC h d,f,hp⟩
end
end
section
section
variable {H:Type} {enc:TypeId × Value->H} {w:World} {base:Nat} {spare:Nat->Bool} {held:Bool}
end
end
end Go.Proofs.YtfflipnhffknnaaGreatDoor
end
section
namespace Go.Proofs.YtfflipnhffknnaaGreatDoor
open Go Go.HL Go.ChangeShapes Go.WideShapes Go.RowKit Go.Proofs.Resv
section
theorem cw3:P_.cellsOf 186=3:=by kernel_rfl
theorem sfw3:gi P_ 186=some [(3,0),(3,1),(3,2)]:=by kernel_rfl
theorem cstp:P_.cellsOf 119=3:=by kernel_rfl
theorem sfstp:gi P_ 119=some [(28,0),(3,2)]:=by kernel_rfl
section
variable {H:Type} {enc:TypeId × Value->H} {w:World} {base:Nat} {spare:Nat->Bool} {held:Bool}
theorem ag4 {m:Nat} {cs:List Value} {y:DataW H × List MemPlace} (h:DataW.trod enc P_ w base spare held m 119 cs=some y):∃x:Stp,cs=stpC.enc x/\StpB x:=by
 obtain ⟨hl,d⟩:=we sfstp h
 rw [cstp]at hl
 obtain ⟨v0,v1,v2,rfl⟩:=len3 hl
 obtain ⟨m0,z0,e0⟩:=d 0 _ _ rfl
 obtain ⟨m1,z1,e1⟩:=d 1 _ _ rfl
 rw [c28]at e0
 rw [c3]at e1
 obtain ⟨c,f0,b0⟩:=zh e0
 obtain ⟨x1,f1,b1⟩:=ku un3i e1
 simp [dl]at f0 f1
 obtain ⟨rfl,rfl⟩:=f0
 subst f1
 exact ⟨⟨c.1,c.2,x1⟩,rfl,b0⟩
theorem Zq {r:Reach} {b0:Nat} {v:Value} {d:DataW H} {ps:List MemPlace} (k:Value.okWide P_ w r b0 59 v) (h:DataW.Trod enc P_ w base spare held 59 v d ps):∃l:List Stp,vm stpC (ground w) v l/\∀x∈l,StpB x:=by
 obtain ⟨a,len,cap,rfl⟩:=okWide_slice un59 k
 obtain ⟨m,h⟩:=h
 obtain ⟨a',len',cap',L,e,hl,_,hg,hq⟩:=L6 stpC StpB un59 cstp (by decide) (fun _ _ _ h=>ag4 h) h
 simp [Value.cells]at e
 obtain ⟨rfl,rfl,rfl⟩:=e
 exact ⟨L,hg,hq⟩
theorem oth_dec {m:Nat} {cs:List Value} {y:DataW H × List MemPlace} (h:DataW.trod enc P_ w base spare held m 186 cs=some y):∃x:Want,cs=Rv.xy.enc x/\WB x:=by
 obtain ⟨hl,d⟩:=we sfw3 h
 rw [cw3]at hl
 obtain ⟨v0,v1,v2,rfl⟩:=len3 hl
 obtain ⟨m0,z0,e0⟩:=d 0 _ _ rfl
 obtain ⟨m1,z1,e1⟩:=d 1 _ _ rfl
 obtain ⟨m2,z2,e2⟩:=d 2 _ _ rfl
 rw [c3]at e0 e1 e2
 obtain ⟨x0,f0,b0⟩:=ku un3i e0
 obtain ⟨x1,f1,b1⟩:=ku un3i e1
 obtain ⟨x2,f2,b2⟩:=ku un3i e2
 simp at f0 f1 f2
 subst f0 f1 f2
 exact ⟨⟨x0,x1,x2⟩,rfl,b0,b1,b2⟩
theorem oth_arg {r:Reach} {b0:Nat} {v:Value} {d:DataW H} {ps:List MemPlace} (k:Value.okWide P_ w r b0 114 v) (h:DataW.Trod enc P_ w base spare held 114 v d ps):∃l:List Want,vm Rv.xy (ground w) v l/\∀x∈l,WB x:=by
 obtain ⟨a,len,cap,rfl⟩:=okWide_slice Wa k
 obtain ⟨m,h⟩:=h
 obtain ⟨a',len',cap',L,e,hl,_,hg,hq⟩:=L6 Rv.xy WB Wa cw3 (by decide) (fun _ _ _ h=>oth_dec h) h
 simp [Value.cells]at e
 obtain ⟨rfl,rfl,rfl⟩:=e
 exact ⟨L,hg,hq⟩
end
end
end Go.Proofs.YtfflipnhffknnaaGreatDoor
end

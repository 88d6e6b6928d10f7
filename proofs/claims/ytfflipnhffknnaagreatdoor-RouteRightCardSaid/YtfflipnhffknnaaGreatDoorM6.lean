/- Texts of the proof, one behind the other. -/
import Derived.Test.YtfflipnhffknnaaGreatDoorH3
import Derived.Test.YtfflipnhffknnaaGreatDoorM5
import Derived.Test.YtfflipnhffknnaaGreatDoorH4
import Derived.Test.YtfflipnhffknnaaGreatDoorM4
import Derived.Test.YtfflipnhffknnaaGreatDoorM3
import Derived.Test.YtfflipnhffknnaaGreatDoorM1
set_option linter.unusedSimpArgs false
set_option linter.unusedVariables false
set_option maxRecDepth 100000
set_option maxHeartbeats 8000000
set_option linter.defProp false
section
namespace Go.Proofs.YtfflipnhffknnaaGreatDoor.Hw
open Go Go.HL Go.Proofs.Wt
def bRtH:=jq bC (jq (jq (jq (jq (jq @List.length_cons.{0} (jq @List.length_nil.{0} @al139)) (jq (jq @al227 @Ed) (jq @bd218_0 @bd227_))) (jq (jq @Uv (jq @kf @bin_quo)) (jq (jq @bne_self_eq_false.{0} @ab5) (jq @C2 @cf117)))) (jq (jq (jq @cf118 (jq @cf119 @cf147)) (jq (jq @cf148 @cf64) (jq @eq132s @eq140s))) (jq (jq @fa137_0 (jq @fa137_1 @Wn)) (jq (jq @Wm @fa218_0) (jq @al4 @fa218_1))))) (jq (jq (jq (jq @al3 (jq @fa218_2 @al2)) (jq (jq @fa227_0 @al1) (jq @fa227_1 @ix216))) (jq (jq @ix216p (jq @ld139 @ld139p)) (jq (jq @ld140 @ld140p) (jq @ld216 @ld216p)))) (jq (jq (jq @ld227p (jq @ld3 @ld3p)) (jq (jq @ln216 @jo) (jq @ii @xu))) (jq (jq (jq @uh @ls) (jq @lr @ji)) (jq (jq @ad6 @st227w) (jq @st3s @true_and))))))
def itC:Cod It:=⟨4,fun x=>[.int .i64 x.k,.int .i64 x.m,.int .i64 x.s,.int .i64 x.n],fun _=>rfl,fun _ v hv=>by simp at hv;rcases hv with rfl|rfl|rfl|rfl<;>rfl⟩
theorem eoitem:gu P_ 227 itC.n 32:=eo227
structure HA (h:Hp) (hp bp cap:Nat) (L:List It) (n:Int) (t:List Value):Prop where
 hd:h hp=some (.cells #[.func (.func 64) #[] #[],.slice (some ⟨bp,0,none⟩) L.length cap,n] 218 (0,0))
 row:h bp=some (.cells (itC.rows L++t).toArray 227 (0,0))
theorem HA.ne {h:Hp} {hp bp cap:Nat} {L:List It} {n:Int} {t:List Value} (a:HA h hp bp cap L n t):hp≠bp:=fun e=>by
 have h1:=a.hd
 have h2:=a.row
 rw [e,h2]at h1
 simp at h1
theorem HA.le {h h':Hp} {hp bp cap:Nat} {L:List It} {n:Int} {t:List Value} (a:HA h hp bp cap L n t) (l:h.le h'):HA h' hp bp cap L n t:=⟨l _ _ a.hd,l _ _ a.row⟩
theorem K9 {G h:Hp} {a0 a1 a2 b0 b1 b2:Int}:aj P_ G 64 #[.agg #[a0,a1,a2],.agg #[b0,b1,b2]] h (fun v h'=>v = .bool ((⟨a0,a1,a2,0⟩:It).b4 ⟨b0,b1,b2,0⟩)/\h'=h):=by
 refine quietly (enter64 (by simp) ?_)
 unfold S64
 simp only [bRtH]
 intro x hx gx y hy gy
 have hxy:x≠y:=i4 hy
 have lf:=(b8 (o := .cells #[a0,a1,a2] 139 (0,0)) hx).trans (b8 (o := .cells #[b0,b1,b2] 139 (0,0)) hy)
 simp only [bRtH,al hxy]
 by_cases h1:a0=b0
 . subst h1
   simp only [bRtH,al hxy]
   by_cases h2:a1=b1
   . subst h2
     simp only [bRtH,al hxy]
     unfold az1
     simp (disch:=decide) only [bRtH,Nat.reduceAdd,al hxy]
     refine ⟨?_,lf⟩
     simp [It.b4]
   . rw [show (a1 != b1)=true by simpa using h2]
     simp only [bRtH,al hxy]
     refine ⟨?_,lf⟩
     simp [It.b4,h2]
 . rw [show (a0 != b0)=true by simpa using h1]
   simp only [bRtH,al hxy]
   refine ⟨?_,lf⟩
   simp [It.b4,h1]
theorem it0 {L:List It} {t:List Value} {i:Nat} {x:It} (hi:L[i]?=some x):(itC.rows L++t)[i*4]?=some (.int .i64 x.k):=itC.rows_get (j:=0) hi (by decide)
theorem it1 {L:List It} {t:List Value} {i:Nat} {x:It} (hi:L[i]?=some x):(itC.rows L++t)[i*4+1]?=some (.int .i64 x.m):=itC.rows_get (j:=1) hi (by decide)
theorem it2 {L:List It} {t:List Value} {i:Nat} {x:It} (hi:L[i]?=some x):(itC.rows L++t)[i*4+2]?=some (.int .i64 x.s):=itC.rows_get (j:=2) hi (by decide)
theorem it3 {L:List It} {t:List Value} {i:Nat} {x:It} (hi:L[i]?=some x):(itC.rows L++t)[i*4+3]?=some (.int .i64 x.n):=itC.rows_get (j:=3) hi (by decide)
theorem Ig {G h:Hp} {hp bp cap:Nat} {L:List It} {n:Int} {t:List Value} (a:HA h hp bp cap L n t) {i j:Nat} {x y:It} (hi:L[i]?=some x) (hj:L[j]?=some y):
 aj P_ G 148 #[.pointer (some ⟨hp,0,none⟩),i,j] h (fun v h'=>v = .bool (x.lt y)/\h'=h):=by
 have hil:i<L.length:=(List.getElem?_eq_some_iff.1 hi).1
 have hjl:j<L.length:=(List.getElem?_eq_some_iff.1 hj).1
 have c1:∀k,aa G h ⟨hp,k,none⟩=_:=fun k=>ai (ag a.hd)
 have c2:∀k,aa G h ⟨bp,k,none⟩=_:=fun k=>ai (ag a.row)
 refine quietly (ap9 (by simp) ?_)
 unfold S148
 simp -implicitDefEqProofs (maxSteps:=2000000) (disch:=first|decide|with_reducible exact Nat.ne_of_beq_eq_false rfl|exact ao|exact am|omega|rfl|(simp;done)|fail) only [bRtH,c1]
 simp only [bRtH,c2,it0 hi,it1 hi,it2 hi,it3 hi,it0 hj,it1 hj,it2 hj,it3 hj]
 intro p hp' gp q hq gq
 have hpq:p≠q:=i4 hq
 have hq':=i6 hq
 have e1:hp≠p:=gf a.hd hp'
 have e2:hp≠q:=gf a.hd hq'
 simp (disch:=first|decide|exact ao|exact am|omega|rfl) only [bRtH,dm hpq]
 refine ⟨((Hp.le.refl h).set hp').set hq',?_⟩
 simp only [bRtH,al hpq,al e1,al e2,c1]
 refine K9.mono ?_
 rintro _ _ ⟨rfl,rfl⟩
 have b4':∀x y:It,(⟨x.k,x.m,x.s,0⟩:It).b4 ⟨y.k,y.m,y.s,0⟩=x.b4 y:=fun _ _=>rfl
 rw [b4']
 refine pf (fun hlt=>?_) (fun hge=>?_)
 . exact ⟨by simp [It.lt,hlt],((Hp.le.refl h).set hp').set hq'⟩
 simp only [bRtH,al hpq,al e1,al e2,c1]
 refine K9.mono ?_
 rintro _ _ ⟨rfl,rfl⟩
 rw [b4']
 refine pf (fun hlt=>?_) (fun hge2=>?_)
 . exact ⟨by simp [It.lt,hlt,hge],((Hp.le.refl h).set hp').set hq'⟩
 unfold Xn
 simp (disch:=decide) only [bRtH,al hpq,al e1,al e2,c1]
 exact ⟨by simp [It.lt,hge,hge2],((Hp.le.refl h).set hp').set hq'⟩
theorem Ds {G h:Hp} {hp bp cap:Nat} {L:List It} {n:Int} {t:List Value} (a:HA h hp bp cap L n t) {i j:Nat} {x y:It} (hi:L[i]?=some x) (hj:L[j]?=some y):
 aj P_ G 118 #[.pointer (some ⟨hp,0,none⟩),i,j] h (fun v h'=>h'=h.set bp (.cells (itC.rows ((L.set i y).set j x)++t).toArray 227 (0,0))):=by
 have hil:i<L.length:=(List.getElem?_eq_some_iff.1 hi).1
 have hjl:j<L.length:=(List.getElem?_eq_some_iff.1 hj).1
 have c1:∀k,aa G h ⟨hp,k,none⟩=_:=fun k=>ai (ag a.hd)
 have c2:∀k,aa G h ⟨bp,k,none⟩=_:=fun k=>ai (ag a.row)
 refine as7 (by simp) ?_
 unfold S118
 simp (disch:=first|decide|omega) only [bRtH,c1]
 simp only [bRtH,c2,it0 hi,it1 hi,it2 hi,it3 hi,it0 hj,it1 hj,it2 hj,it3 hj]
 refine Eq.mpr (At itC (x:=y) Gh a.row hil) ?_
 refine Eq.mpr (At itC (x:=x) Gh af (by simpa using hjl)) ?_
 rw [set_set]
theorem HA.swap {h:Hp} {hp bp cap:Nat} {L L':List It} {n:Int} {t:List Value} (a:HA h hp bp cap L n t) (hl:L'.length=L.length):HA (h.set bp (.cells (itC.rows L'++t).toArray 227 (0,0))) hp bp cap L' n t:=
 ⟨by rw [au a.ne,hl];exact a.hd,af⟩
theorem tdiv2 {m:Nat}:((m:Int)).tdiv 2=((m / 2:Nat):Int):=by
 rw [Int.tdiv_eq_ediv_of_nonneg (by omega)];omega
theorem up_spec {G h:Hp} {hp bp cap:Nat} {L:List It} {n:Int} {t:List Value} (a:HA h hp bp cap L n t) (hL:L.length<=68719476736) {i:Nat} (hi:i<L.length):
 aj P_ G 147 #[.pointer (some ⟨hp,0,none⟩),i] h (fun v h'=>h'=h.set bp (.cells (itC.rows (jw L i)++t).toArray 227 (0,0))):=by
 refine aq0 (by simp) ?_
 unfold S147
 refine ci (fun m r h'=>m<L.length/\r 0 = .pointer (some ⟨hp,0,none⟩)/\r 1 = .int .i64 m/\∃M,M.length=L.length/\h'=h.set bp (.cells (itC.rows M++t).toArray 227 (0,0))/\jw M m=jw L i) ?_ (m:=i) ⟨hi,rfl,rfl,L,rfl,(xh a.row).symm,rfl⟩
 rintro m r h' ⟨hm,e0,e1,M,hM,rfl,hs⟩ X hX
 have a':=a.swap hM
 unfold Xo
 simp only [bRtH,e0,e1]
 by_cases h0:0<m
 . rw [iy (show (m:Int)>0 by omega)]
   obtain ⟨k,rfl⟩:∃k,m=k+1:=⟨m-1,by omega⟩
   have hk:((k+1:Nat):Int)-1=(k:Int):=by omega
   simp (disch:=first|decide|omega) only [bRtH,hk,tdiv2]
   obtain ⟨x,hx⟩:∃x,M[k+1]?=some x:=⟨_,List.getElem?_eq_getElem (by omega)⟩
   obtain ⟨y,hy⟩:∃y,M[k / 2]?=some y:=⟨_,List.getElem?_eq_getElem (by omega)⟩
   refine (Ig a' hx hy).mono ?_
   rintro _ _ ⟨rfl,rfl⟩
   have ea:qr M (k+1) (k / 2)=x.lt y:=by simp [qr,hx,hy]
   refine pf (fun hlt=>?_) (fun hge=>?_)
   . unfold I1
     simp (disch:=first|decide|omega) only [bRtH,e0,e1,hk,tdiv2]
     refine (Ds a' hx hy).mono ?_
     rintro _ _ rfl
     refine hX (k / 2) _ _ (by omega) ⟨by omega,by simp (disch:=decide) only [bRtH,e0],by simp only [bRtH],nl M (k+1) (k / 2),by rw [dj];exact hM,?_,?_⟩
     . rw [set_set];simp [nl,hx,hy]
     . rw [<- hs]
       conv=>rhs;rw [jw]
       rw [dif_pos ⟨by omega,by rw [show k+1-1=k by omega,ea];exact hlt⟩]
       rfl
   . have e:jw M (k+1)=M:=by rw [jw,dif_neg];rw [show k+1-1=k by omega,ea,hge];simp
     rw [<- hs,e]
 . rw [i9 (show ¬(m:Int)>0 by omega)]
   simp only [bRtH]
   have e:jw M m=M:=by rw [jw,dif_neg (by omega)]
   rw [<- hs,e]
def HR (h:Hp) (hp:Nat) (L:List It) (n:Int) (ob:Option Nat):Prop:=
 ∃sl,h hp=some (.cells #[.func (.func 64) #[] #[],sl,n] 218 (0,0))/\Own itC 227 h sl L ob
theorem HR.HA {h:Hp} {hp:Nat} {L:List It} {n:Int} {b:Nat} (a:HR h hp L n (some b)):∃cap t,HA h hp b cap L n t/\(itC.rows L++t).length=cap*4:=by
 obtain ⟨sl,h1,cap,t,rfl,h2,h3⟩:=a
 exact ⟨cap,t,⟨h1,h2⟩,h3⟩
theorem um {G h:Hp}:aj P_ G 63 #[.func (.func 64) #[] #[]] h (fun v h'=>∃x,v = .pointer (some ⟨x,0,none⟩)/\h x=none/\G x=none/\h'=h.set x (.cells #[.func (.func 64) #[] #[],.slice none 0 0,(0:Int)] 218 (0,0))):=by
 refine enter63 (by simp) ?_
 unfold S63
 simp only [bRtH]
 intro x hx gx
 exact ⟨x,rfl,hx,gx,rfl⟩
theorem Zl {G h:Hp} {hp:Nat} {L:List It} {n:Int} {ob:Option Nat} (a:HR h hp L n ob) (hL:L.length<=34359738368) (hn0:0<=n) (hn:n<=68719476736) {k m s:Int}:
 aj P_ G 116 #[.pointer (some ⟨hp,0,none⟩),.agg #[k,m,s]] h (fun v h'=>∃b cap ts,(ob=some b\/(h b=none/\G b=none))/\(itC.rows (jw (L++[⟨k,m,s,n⟩]) L.length)++ts).length=cap*4/\
  h'=(h.set hp (.cells #[.func (.func 64) #[] #[],.slice (some ⟨b,0,none⟩) (L.length+1) cap,.int .i64 (n+1)] 218 (0,0))).set b (.cells (itC.rows (jw (L++[⟨k,m,s,n⟩]) L.length)++ts).toArray 227 (0,0))):=by
 obtain ⟨sl,h1,o⟩:=a
 have c1:∀k,aa G h ⟨hp,k,none⟩=_:=fun k=>ai (ag h1)
 refine aj.less (as9 (by simp) (R:=fun v hf=>∃b cap ts,(ob=some b\/(h b=none/\G b=none))/\(itC.rows (jw (L++[⟨k,m,s,n⟩]) L.length)++ts).length=cap*4/\
  ((h.set hp (.cells #[.func (.func 64) #[] #[],.slice (some ⟨b,0,none⟩) (L.length+1) cap,.int .i64 (n+1)] 218 (0,0))).set b (.cells (itC.rows (jw (L++[⟨k,m,s,n⟩]) L.length)++ts).toArray 227 (0,0))).le hf) ?_)
  (fun v hf ⟨b,cap,ts,h1,h2,h3⟩=>⟨_,h3,b,cap,ts,h1,h2,rfl⟩)
 unfold S116
 simp only [bRtH]
 intro x hx gx
 have e1:hp≠x:=gf h1 hx
 simp only [bRtH,al e1,c1]
 unfold Yk
 simp (disch:=decide) only [bRtH,al e1,c1]
 intro q hq gq
 have exq:x≠q:=i4 hq
 have hq':=i6 hq
 have e2:hp≠q:=gf h1 hq'
 have o':Own itC 227 ((h.set x (.cells #[k,m,s] 139 (0,0))).set q (.cells #[k,m,s,n] 227 (0,0))) sl L ob:=by
  cases ob with
  |none=>exact o
  |some b=>
   obtain ⟨cap,t,r1,r2,r3⟩:=o
   exact ⟨cap,t,r1,by rw [au (gf r2 hq'),au (gf r2 hx)];exact r2,r3⟩
 refine Ff itC (M:=[⟨k,m,s,n⟩]) Vg eoitem (by decide) o' ⟨rfl,.inr ⟨q,0,1,rfl,fun j hj=>?_⟩⟩ (by simp) (by simp;omega) ?_
 . rw [Nat.zero_add,Ag];rfl
 intro b cap ts hb hlen
 have e3:hp≠b:=by
  rcases hb with hb|⟨hb,_⟩
  . subst hb
    obtain ⟨_,_,_,r2,_⟩:=o
    intro e
    rw [e,r2]at h1
    simp at h1
  . exact gf h1 (i6 (i6 hb))
 have hb2:ob=some b\/(h b=none/\G b=none):=hb.imp id fun ⟨u,v⟩=>⟨i6 (i6 u),v⟩
 simp only [dm e3,dm e2,dm e1]
 rw [di sz216 rfl h1 (by simp)]
 simp (disch:=first|decide|omega) only [bRtH,dm e3,dm e2,dm e1,al e1,al e2,al e3]
 have hLl:(L++[⟨k,m,s,n⟩]:List It).length=L.length+1:=by simp
 have a2:HA ((((h.set hp (.cells #[.func (.func 64) #[] #[],.slice (some ⟨b,0,none⟩) (L.length+1) cap,.int .i64 (n+1)] 218 (0,0))).set x (.cells #[k,m,s] 139 (0,0))).set q (.cells #[k,m,s,n] 227 (0,0))).set b
  (.cells (itC.rows (L++[⟨k,m,s,n⟩])++ts).toArray 227 (0,0))) hp b cap (L++[⟨k,m,s,n⟩]) (n+1) ts:=
  ⟨by rw [au e3,au e2,au e1,af,hLl],af⟩
 try simp -implicitDefEqProofs (maxSteps:=2000000) (disch:=first|decide|with_reducible exact Nat.ne_of_beq_eq_false rfl|exact ao|exact am|omega|rfl|(simp;done)|fail) only [bRtH,Nat.reduceAdd,Nat.reduceMul,al e1,al e2,al e3]
 rw [show ((L.length+1:Nat):Int)-1=(L.length:Int)by omega]
 refine (up_spec a2 (by simp;omega) (by simp)).mono ?_
 rintro _ _ rfl
 refine ⟨b,cap,ts,hb2,?_,?_⟩
 . rw [List.length_append,itC.rows_length]at hlen ⊢
   rw [tw]
   exact hlen
 . rw [set_set]
   refine Hp.le.both ?_
   intro y o hy
   by_cases e4:y=hp
   . subst e4
     rw [af]at hy
     rw [au e2,au e1,af]
     exact hy
   . rw [au e4]at hy
     rw [au (gf hy hq'),au (gf hy hx),au e4]
     exact hy
theorem ar0 {G h:Hp} {x y:Value} {K:VK}:wpH P_ G (Instr.index 110 (.agg #[x,y]) (.int .i64 0)) h K=K x h:=by kernel_rfl
theorem ar1 {G h:Hp} {x y:Value} {K:VK}:wpH P_ G (Instr.index 110 (.agg #[x,y]) (.int .i64 1)) h K=K y h:=by kernel_rfl
theorem Zx {G h:Hp} {hp bp cap:Nat} {M:List It} {n:Int} {t:List Value} (a:HA h hp bp cap M n t) (hM:M.length<=68719476736) {r:Rg} {K:EK} {q k f j:Nat} (g0:r 0 = .pointer (some ⟨hp,0,none⟩))
 (g14:r 14 = .agg #[.int .i64 (2*j+1),.int .i64 (2*j+2)]) (g15:r 15 = .int .i64 q) (hk:(q=0/\k=2*j+1)\/(q=1/\k=2*j+2)) (g4:r 4 = .int .i64 f) (hf:k<M.length->f<M.length)
 (H:∀r',r' 0=r 0->r' 1=r 1->r' 14=r 14->r' 15 = .int .i64 (q+1)->r' 4 = .int .i64 (ij M f k:Nat)->K .normal r' h):ue G K r h:=by
 have c1:∀k,aa G h ⟨hp,k,none⟩=_:=fun k=>ai (ag a.hd)
 have ei:∀(K:Value->Hp->Prop),wpH P_ G (Instr.index 110 (r 14) (r 15)) h K=K (k:Nat) h:=by
  intro K
  rw [g14,g15]
  rcases hk with ⟨rfl,rfl⟩|⟨rfl,rfl⟩
  . exact ar0
  . exact ar1
 have q1:(q:Int)+1<=2:=by omega
 unfold ue
 simp only [bRtH,ei,g0,g4,c1]
 by_cases hlt:k<M.length
 . rw [iy (show (k:Int)<(M.length:Int)by omega)]
   simp only [bRtH]
   obtain ⟨x,hx⟩:∃x,M[k]?=some x:=⟨_,List.getElem?_eq_getElem hlt⟩
   obtain ⟨y,hy⟩:∃y,M[f]?=some y:=⟨_,List.getElem?_eq_getElem (hf hlt)⟩
   refine (Ig a hx hy).mono ?_
   rintro _ _ ⟨rfl,rfl⟩
   have ea:qr M k f=x.lt y:=by simp [qr,hx,hy]
   refine pf (fun e=>?_) (fun e=>?_)
   . unfold od
     simp (disch:=first|decide|omega) only [bRtH,g15]
     refine H _ (by simp (disch:=decide) only [bRtH]) (by simp (disch:=decide) only [bRtH]) (by simp (disch:=decide) only [bRtH]) (by simp only [bRtH]) ?_
     simp (disch:=decide) only [bRtH]
     simp [ij,hlt,ea,e]
   . unfold od
     simp (disch:=first|decide|omega) only [bRtH,g15]
     refine H _ (by simp (disch:=decide) only [bRtH]) (by simp (disch:=decide) only [bRtH]) (by simp (disch:=decide) only [bRtH]) (by simp only [bRtH]) ?_
     simp (disch:=decide) only [bRtH,g4]
     simp [ij,hlt,ea,e]
 . rw [i9 (show ¬(k:Int)<(M.length:Int)by omega)]
   simp only [bRtH]
   unfold od
   simp (disch:=first|decide|omega) only [bRtH,g15]
   refine H _ (by simp (disch:=decide) only [bRtH]) (by simp (disch:=decide) only [bRtH]) (by simp (disch:=decide) only [bRtH]) (by simp only [bRtH]) ?_
   simp (disch:=decide) only [bRtH,g4]
   simp [ij,hlt]
theorem aa7 {G h:Hp} {hp bp cap:Nat} {L:List It} {n:Int} {t:List Value} (a:HA h hp bp cap L n t) (hL:L.length<=68719476736) {i:Nat} (hi:i<=L.length):
 aj P_ G 119 #[.pointer (some ⟨hp,0,none⟩),i] h (fun v h'=>h'=h.set bp (.cells (itC.rows (i8 L i)++t).toArray 227 (0,0))):=by
 refine as6 (by simp) ?_
 unfold S119
 refine ci (fun m r h'=>∃j:Nat,j<=L.length/\m=L.length-j/\r 0 = .pointer (some ⟨hp,0,none⟩)/\r 1 = .int .i64 j/\∃M,M.length=L.length/\h'=h.set bp (.cells (itC.rows M++t).toArray 227 (0,0))/\i8 M j=i8 L i) ?_ (m:=L.length-i) ⟨i,hi,rfl,rfl,rfl,L,rfl,(xh a.row).symm,rfl⟩
 rintro m r h' ⟨j,hj,rfl,e0,e1,M,hM,rfl,hs⟩ X hX
 have a':=a.swap hM
 have c1:∀k,aa G (h.set bp (.cells (itC.rows M++t).toArray 227 (0,0))) ⟨hp,k,none⟩=_:=fun k=>ai (ag a'.hd)
 unfold Yi
 simp (disch:=first|decide|omega) only [bRtH,e0,e1]
 refine ci (fun m r' h'=>∃q:Nat,q<=2/\m=2-q/\r' 0 = .pointer (some ⟨hp,0,none⟩)/\r' 1 = .int .i64 j/\r' 14 = .agg #[.int .i64 (2*j+1),.int .i64 (2*j+2)]/\r' 15 = .int .i64 q/\
  r' 4 = .int .i64 (if q=0 then j else if q=1 then ij M j (2*j+1)else lj M j:Nat)/\h'=h.set bp (.cells (itC.rows M++t).toArray 227 (0,0))) ?_ (m:=2) ⟨0,by omega,rfl,by simp (disch:=decide) only [bRtH,e0],by simp (disch:=decide) only [bRtH,e1],by simp (disch:=decide) only [bRtH],by simp only [bRtH];rfl,by simp (disch:=decide) only [bRtH,e1],rfl⟩
 rintro m r' h' ⟨q,hq,rfl,f0,f1,f14,f15,f4,rfl⟩ Y hY
 unfold Jq
 have f4j:∃f:Nat,r' 4 = .int .i64 f/\f<=M.length/\(f=j\/f<M.length):=by
  refine ⟨_,f4,?_⟩
  have h1:=m9 M j
  have h2:=zl M j (2*j+1)
  split
  . omega
  . split<;>omega
 obtain ⟨f,f4',hf1,hf2⟩:=f4j
 have hf:(if q=0 then j else if q=1 then ij M j (2*j+1)else lj M j)=f:=by rw [f4]at f4';have:=congrArg (fun v=>match v with | .int _ x=>x|_=>0) f4';simp only at this;omega
 simp only [bRtH,f15]
 by_cases hq2:q<2
 . rw [iy (show (q:Int)<2 by omega)]
   simp only [bRtH]
   refine Zx a' (by omega) (q:=q) (k:=2*j+1+q) (f:=f) (j:=j) (by simp (disch:=decide) only [bRtH,f0]) (by simp (disch:=decide) only [bRtH,f14]) (by simp (disch:=decide) only [bRtH,f15]) (by omega) (by simp (disch:=decide) only [bRtH,f4']) (by omega) ?_
   intro r2 g0 g1 g14 g15 g4
   refine hY (2-(q+1)) _ _ (by omega) ⟨q+1,by omega,rfl,by rw [g0];simp (disch:=decide) only [bRtH,f0],by rw [g1];simp (disch:=decide) only [bRtH,f1],by rw [g14];simp (disch:=decide) only [bRtH,f14],by rw [g15];rfl,?_,rfl⟩
   rw [g4,<- hf]
   rcases (show q=0\/q=1 by omega)with rfl|rfl<;>rfl
 . have q2:q=2:=by omega
   subst q2
   rw [i9 (show ¬((2:Nat):Int)<2 by omega)]
   have hff:lj M j=f:=by simpa using hf
   simp only [bRtH]
   unfold Js
   simp (disch:=decide) only [bRtH,f4',f1]
   by_cases hfj:f=j
   . rw [show ((f:Int)==(j:Int))=true by simp [hfj]]
     simp only [bRtH]
     have e:i8 M j=M:=by rw [i8,dif_pos (by rw [hff,hfj])]
     rw [<- hs,e]
   . rw [show ((f:Int)==(j:Int))=false by simp;omega]
     simp only [bRtH]
     unfold Jr
     have hfo:=(m9 M j).resolve_left (by rw [hff];exact hfj)
     rw [hff]at hfo
     obtain ⟨x,hx⟩:∃x,M[j]?=some x:=⟨_,List.getElem?_eq_getElem (by omega)⟩
     obtain ⟨y,hy⟩:∃y,M[f]?=some y:=⟨_,List.getElem?_eq_getElem (by omega)⟩
     simp (disch:=decide) only [bRtH,f0,f1,f4']
     refine (Ds a' hx hy).mono ?_
     rintro _ _ rfl
     refine hX (L.length-f) _ _ (by omega) ⟨f,by omega,rfl,by simp (disch:=decide) only [bRtH,f0],by simp only [bRtH,f4'],nl M j f,by rw [dj];exact hM,?_,?_⟩
     . rw [set_set];simp [nl,hx,hy]
     . rw [<- hs]
       conv=>rhs;rw [i8]
       rw [dif_neg (by rw [hff];exact hfj),hff]
def pkV:List It->Value
 |[] => .tuple #[.agg #[(0:Int),(0:Int),(0:Int)],.bool false]
 |x::_ => .tuple #[.agg #[x.k,x.m,x.s],.bool true]
theorem HR.slice {h:Hp} {hp:Nat} {L:List It} {n:Int} {ob:Option Nat} (a:HR h hp L n ob):∃sa cap,h hp=some (.cells #[.func (.func 64) #[] #[],.slice sa L.length cap,n] 218 (0,0)):=by
 obtain ⟨sl,h1,o⟩:=a
 cases ob with
 |none=>obtain ⟨rfl,rfl⟩:=o;exact ⟨none,0,h1⟩
 |some b=>obtain ⟨cap,t,rfl,_⟩:=o;exact ⟨_,cap,h1⟩
theorem Kv {G h:Hp} {hp:Nat} {L:List It} {n:Int} {ob:Option Nat} (a:HR h hp L n ob):aj P_ G 117 #[.pointer (some ⟨hp,0,none⟩)] h (fun v h'=>v=pkV L/\h'=h):=by
 obtain ⟨sa,cap,h1⟩:=a.slice
 have c1:∀k,aa G h ⟨hp,k,none⟩=_:=fun k=>ai (ag h1)
 refine quietly (as8 (by simp) ?_)
 unfold S117
 simp (disch:=decide) only [bRtH]
 intro x hx gx
 have e1:hp≠x:=gf h1 hx
 simp only [bRtH,al e1,c1]
 cases L with
 |nil=>
  simp only [bRtH,show (((0:Nat):Int)==0)=true from rfl]
  intro y hy gy
  have e2:x≠y:=i4 hy
  simp (disch:=first|decide|exact ao|exact am|omega|rfl) only [bRtH,al e2,dm e2]
  exact ⟨rfl,((Hp.le.refl h).set hx).set (i6 hy)⟩
 |cons z L=>
  simp only [bRtH,show ((((z::L).length:Nat):Int)==0)=false by simp only [List.length_cons,beq_eq_false_iff_ne,ne_eq];omega]
  unfold Yj
  cases ob with
  |none=>obtain ⟨_,_,_,hL⟩:=a;cases hL
  |some b=>
   obtain ⟨cap',t,ha,_⟩:=a.HA
   have h2:=ha.hd
   rw [h1]at h2
   have e3:sa=some ⟨b,0,none⟩/\cap=cap':=by simpa using h2
   obtain ⟨rfl,rfl⟩:=e3
   have c2:∀k,aa G h ⟨b,k,none⟩=_:=fun k=>ai (ag ha.row)
   have e4:b≠x:=gf ha.row hx
   have i0:=it0 (t:=t) (show (z::L)[0]?=some z from rfl)
   have i1:=it1 (t:=t) (show (z::L)[0]?=some z from rfl)
   have i2:=it2 (t:=t) (show (z::L)[0]?=some z from rfl)
   rw [Nat.zero_mul]at i0 i1 i2
   rw [Nat.zero_add]at i1 i2
   have hlen:(0:Int)<((z::L).length:Nat):=by simp only [List.length_cons];omega
   simp (disch:=first|decide|omega) only [bRtH,al e1,al e4,c1,ix216 (Int.le_refl 0) hlen,Int.toNat_zero,Nat.zero_mul]
   simp (disch:=first|decide|exact ao|exact am|omega|rfl) only [bRtH,al e1,al e4,c2,i0,i1,i2]
   exact ⟨rfl,(Hp.le.refl h).set hx⟩
theorem pop_nil {G h:Hp} {hp:Nat} {n:Int} {ob:Option Nat} (a:HR h hp [] n ob):aj P_ G 68 #[.pointer (some ⟨hp,0,none⟩)] h (fun v h'=>v=pkV []/\h'=h):=by
 refine quietly (Ww (by simp) ?_)
 unfold S68
 simp (disch:=decide) only [bRtH]
 intro x hx gx
 obtain ⟨sl,h1,o⟩:=a
 have e1:hp≠x:=gf h1 hx
 have a':HR (h.set x (.cells #[(0:Int),(0:Int),(0:Int)] 139 (0,0))) hp [] n ob:=by
  refine ⟨sl,by rw [au e1];exact h1,?_⟩
  cases ob with
  |none=>exact o
  |some b=>obtain ⟨cap,t,q1,q2,q3⟩:=o;exact ⟨cap,t,q1,by rw [au (gf q2 hx)];exact q2,q3⟩
 refine (Kv a').mono ?_
 rintro _ _ ⟨rfl,rfl⟩
 simp (disch:=first|decide|exact ao|exact am|omega|rfl) only [bRtH,pkV]
 intro y hy gy
 have e2:x≠y:=i4 hy
 simp (disch:=first|decide|exact ao|exact am|omega|rfl) only [bRtH,Bool.not_false,al e2,dm e2]
 exact ((Hp.le.refl h).set hx).set (i6 hy)
theorem HR.keep {h h':Hp} {hp:Nat} {L:List It} {n:Int} {ob:Option Nat} (a:HR h hp L n ob) (e1:h' hp=h hp) (e2:∀b,ob=some b->h' b=h b):HR h' hp L n ob:=by
 obtain ⟨sl,h1,o⟩:=a
 refine ⟨sl,by rw [e1];exact h1,?_⟩
 cases ob with
 |none=>exact o
 |some b=>obtain ⟨cap,t,q1,q2,q3⟩:=o;exact ⟨cap,t,q1,by rw [e2 b rfl];exact q2,q3⟩
theorem HR.new {h:Hp} {hp:Nat} {L:List It} {n:Int} {ob:Option Nat} (a:HR h hp L n ob) {x:Nat} {o:Obj} (hx:h x=none):HR (h.set x o) hp L n ob:=by
 obtain ⟨sa,cap,h1⟩:=a.slice
 refine a.keep (by rw [au (gf h1 hx)]) (fun b hb=>?_)
 subst hb
 obtain ⟨sl,_,cap,t,_,q2,_⟩:=a
 rw [au (gf q2 hx)]
theorem af8 {G h:Hp} {hp b cap:Nat} {x:It} {L:List It} {n:Int} {t:List Value} (a:HA h hp b cap (x::L) n t) (hlen:(itC.rows (x::L)++t).length=cap*4) (hL:L.length<=34359738368):
 aj P_ G 68 #[.pointer (some ⟨hp,0,none⟩)] h (fun v h'=>v=pkV (x::L)/\∃ts,(itC.rows (popL (x::L))++ts).length=cap*4/\
  h'=(h.set hp (.cells #[.func (.func 64) #[] #[],.slice (some ⟨b,0,none⟩) L.length cap,n] 218 (0,0))).set b (.cells (itC.rows (popL (x::L))++ts).toArray 227 (0,0))):=by
 refine aj.less (Ww (by simp) (R:=fun v hf=>v=pkV (x::L)/\∃ts,(itC.rows (popL (x::L))++ts).length=cap*4/\
  ((h.set hp (.cells #[.func (.func 64) #[] #[],.slice (some ⟨b,0,none⟩) L.length cap,n] 218 (0,0))).set b (.cells (itC.rows (popL (x::L))++ts).toArray 227 (0,0))).le hf) ?_)
  (fun v hf ⟨h1,ts,h2,h3⟩=>⟨_,h3,h1,ts,h2,rfl⟩)
 unfold S68
 simp (disch:=decide) only [bRtH]
 intro y hy gy
 have ehy:hp≠y:=gf a.hd hy
 have eby:b≠y:=gf a.row hy
 have ehb:=a.ne
 have aHR:HR h hp (x::L) n (some b):=⟨_,a.hd,cap,t,rfl,a.row,hlen⟩
 refine (Kv (aHR.new hy)).mono ?_
 rintro _ _ ⟨rfl,rfl⟩
 simp (disch:=first|decide|exact ao|exact am|omega|rfl) only [bRtH,pkV]
 intro z hz gz
 have eyz:y≠z:=i4 hz
 have hz':=i6 hz
 have ehz:hp≠z:=gf a.hd hz'
 have ebz:b≠z:=gf a.row hz'
 have c1:∀k,aa G h ⟨hp,k,none⟩=_:=fun k=>ai (ag a.hd)
 try simp (disch:=first|decide|omega) only [bRtH,Nat.reduceAdd,Nat.reduceMul,Bool.not_true]
 unfold ay9
 simp (disch:=first|decide|omega) only [bRtH,al ehy,al ehz,c1]
 rw [show (((L.length+1:Nat):Int)-1)=((L.length:Nat):Int)by omega]
 have a1:HA ((h.set y (.cells #[(0:Int),(0:Int),(0:Int)] 139 (0,0))).set z (.cells #[x.k,x.m,x.s] 139 (0,0))) hp b cap (x::L) n t:=
  ⟨by rw [au ehz,au ehy];exact a.hd,by rw [au ebz,au eby];exact a.row⟩
 obtain ⟨l,hl⟩:∃l,(x::L)[L.length]?=some l:=⟨_,List.getElem?_eq_getElem (by simp)⟩
 refine (Ds a1 (i:=0) (j:=L.length) rfl hl).mono ?_
 rintro _ _ rfl
 have hM:((x::L).set 0 l).set L.length x=nl (x::L) 0 L.length:=by
  unfold nl
  rw [hl]
  rfl
 rw [hM]
 have hMl:(nl (x::L) 0 L.length).length=L.length+1:=by rw [dj];rfl
 have hcap:L.length+1<=cap:=by
  rw [List.length_append,itC.rows_length]at hlen
  simp only [List.length_cons,itC]at hlen
  omega
 generalize hMM:nl (x::L) 0 L.length=M at*
 have hi:((L.length:Nat):Int)<(((x::L).length:Nat):Int):=by simp only [List.length_cons];omega
 simp (disch:=first|decide|omega) only [bRtH,al ehb,al ehy,al ehz,c1,ix216 (Int.natCast_nonneg L.length) hi]
 refine Eq.mpr (At itC (x:=⟨0,0,0,0⟩) Gh af (by omega)) ?_
 rw [set_set]
 simp only [bRtH,al ehb,al ehy,al ehz,c1]
 rw [xf Vg Gh (Int.natCast_nonneg L.length) (by omega)]
 simp only [dm ehb,dm ehz,dm ehy]
 rw [di sz216 rfl a.hd (by simp)]
 have hset:M.set L.length ⟨0,0,0,0⟩=M.dropLast++[⟨0,0,0,0⟩]:=by
  have:=ai5 M ⟨0,0,0,0⟩ (by intro e;rw [e]at hMl;simp at hMl)
  rwa [hMl]at this
 have hrow:itC.rows (M.set L.length ⟨0,0,0,0⟩)++t=itC.rows M.dropLast++(([.int .i64 0,.int .i64 0,.int .i64 0,.int .i64 0]:List Value)++t):=by
  rw [hset,itC.rows_append,itC.rows_single,List.append_assoc]
  rfl
 have hdl:M.dropLast.length=L.length:=by rw [List.length_dropLast,hMl];rfl
 simp only [bRtH,hrow]
 have a2:HA ((((h.set hp (.cells #[.func (.func 64) #[] #[],.slice (some ⟨b,0,none⟩) L.length cap,n] 218 (0,0))).set y (.cells #[(0:Int),(0:Int),(0:Int)] 139 (0,0))).set z (.cells #[x.k,x.m,x.s] 139 (0,0))).set b
  (.cells (itC.rows M.dropLast++(([.int .i64 0,.int .i64 0,.int .i64 0,.int .i64 0]:List Value)++t)).toArray 227 (0,0))) hp b cap M.dropLast n (([.int .i64 0,.int .i64 0,.int .i64 0,.int .i64 0]:List Value)++t):=
  ⟨by rw [au ehb,au ehz,au ehy,af,hdl],af⟩
 refine (aa7 a2 (by omega) (i:=0) (by omega)).mono ?_
 rintro _ _ rfl
 have hpop:i8 M.dropLast 0=popL (x::L):=by
  unfold popL
  rw [show (x::L).length-1=L.length from rfl,hMM]
 rw [hpop]
 simp (disch:=first|decide|exact ao|exact am|omega|rfl) only [bRtH,set_set,al (Ne.symm ebz),al (Ne.symm eby),al eyz,al (Ne.symm eyz),dm (Ne.symm eby),dm eyz]
 refine ⟨_,?_,Hp.le.both ?_⟩
 . have h3:=congrArg List.length hrow
   rw [List.length_append,List.length_append,itC.rows_length,itC.rows_length,List.length_set,hMl,hdl]at h3
   rw [List.length_append,itC.rows_length]at hlen ⊢
   rw [yd]
   simp only [List.length_cons,Nat.add_sub_cancel]at hlen ⊢
   omega
 . refine Hp.le.set (Hp.le.set ?_ ?_) ?_
   . exact Hp.le.refl _
   . rw [au (Ne.symm ehy)];exact hy
   . rw [au (Ne.symm ehz)];exact hz'
def HP (a:Hp) (hp:Nat) (L:List It) (n:Int):Prop:=∃ob,HR a hp L n ob
theorem hr_of {h:Hp} {hp b cap:Nat} {L:List It} {n:Int} {ts:List Value} (ne:hp≠b) (hlen:(itC.rows L++ts).length=cap*4):
 HR ((h.set hp (.cells #[.func (.func 64) #[] #[],.slice (some ⟨b,0,none⟩) L.length cap,n] 218 (0,0))).set b (.cells (itC.rows L++ts).toArray 227 (0,0))) hp L n (some b):=
 ⟨_,by rw [au ne,af],cap,ts,rfl,af,hlen⟩
theorem hpush {G h a:Hp} {R:List Hp} {hp:Nat} {L:List It} {n k m s:Int} (p:HP a hp L n) (sp:Sep (a::R) h) (hL:L.length<=34359738368) (hn0:0<=n) (hn:n<=68719476736):
 aj P_ G 116 #[.pointer (some ⟨hp,0,none⟩),.agg #[k,m,s]] h (fun v h'=>∃a',HP a' hp (jw (L++[⟨k,m,s,n⟩]) L.length) (n+1)/\Sep (a'::R) h'/\Dis G h'):=by
 obtain ⟨ob,hr⟩:=p
 refine (Sep.on sp (Zl hr hL hn0 hn)).mono ?_
 rintro v h' ⟨a',⟨b,cap,ts,hb,hlen,rfl⟩,s',d'⟩
 refine ⟨_,⟨some b,?_⟩,s',d'⟩
 have ne:hp≠b:=by
  rcases hb with rfl|⟨hb,_⟩
  . obtain ⟨_,_,ha,_⟩:=hr.HA
    exact ha.ne
  . obtain ⟨sl,h1,_⟩:=hr
    exact gf h1 hb
 have hl:(jw (L++[⟨k,m,s,n⟩]) L.length).length=L.length+1:=by rw [tw];simp
 rw [<- hl]
 exact hr_of ne hlen
theorem ai9 {G h a:Hp} {R:List Hp} {hp:Nat} {n:Int} (p:HP a hp [] n) (sp:Sep (a::R) h):
 aj P_ G 68 #[.pointer (some ⟨hp,0,none⟩)] h (fun v h'=>v=pkV []/\h'=h):=by
 obtain ⟨ob,hr⟩:=p
 refine pop_nil (ob:=ob) (n:=n) ?_
 obtain ⟨sl,h1,o⟩:=hr
 exact ⟨sl,sp.hd _ _ h1,Own.le o sp.hd⟩
theorem hpop {G h a:Hp} {R:List Hp} {hp:Nat} {x:It} {L:List It} {n:Int} (p:HP a hp (x::L) n) (sp:Sep (a::R) h) (hL:L.length<=34359738368):
 aj P_ G 68 #[.pointer (some ⟨hp,0,none⟩)] h (fun v h'=>v=pkV (x::L)/\∃a',HP a' hp (popL (x::L)) n/\Sep (a'::R) h'/\Dis G h'):=by
 obtain ⟨ob,hr⟩:=p
 cases ob with
 |none=>obtain ⟨sl,_,_,hL⟩:=hr;cases hL
 |some b=>
  obtain ⟨cap,t,ha,hlen⟩:=hr.HA
  refine (Sep.on sp (af8 ha hlen hL)).mono ?_
  rintro v h' ⟨a',⟨rfl,ts,hlen',rfl⟩,s',d'⟩
  refine ⟨rfl,_,⟨some b,?_⟩,s',d'⟩
  have hl:(popL (x::L)).length=L.length:=by rw [yd];rfl
  rw [<- hl]
  exact hr_of ha.ne hlen'
end Go.Proofs.YtfflipnhffknnaaGreatDoor.Hw
end
section
namespace Go.Proofs.YtfflipnhffknnaaGreatDoor
open Go Go.HL Go.Proofs.Resv Go.Proofs.Srch
abbrev Nd:=Int × Int
abbrev ndV (c:Nd):Value := .agg #[c.1,c.2]
theorem deqnode (d:Nat) {x0 y0:Int} {x1 y1:Int}:Det P_ (Op.equalIn (d+1+1) 137 (.agg #[x0,x1]) (.agg #[y0,y1])) ((x0==y0)&&((x1==y1)&&true)):=by
 refine vo Tryz.underlying137 (by kernel_rfl) ?_
 refine pt (by decide) (iz Tryz.underlying3 rfl rfl) (iz Tryz.underlying3 rfl rfl) (vq (d:=d+0) Tryz.underlying3) ?_
 refine pt (by decide) (iz Tryz.underlying3 rfl rfl) (iz Tryz.underlying3 rfl rfl) (vq (d:=d+0) Tryz.underlying3) ?_
 exact F4
theorem N1:Nb P_ 137 (fun c:Nd=>ndV c):=by
 refine ⟨⟨_,Tryz.underlying137⟩,fun a b=>?_,fun b a=>⟨by intro G h K;kernel_rfl,by intro G h K;kernel_rfl⟩,fun a=>?_⟩
 . have:=deqnode 9998 (x0:=a.1) (x1:=a.2) (y0:=b.1) (y1:=b.2)
   rw [Bool.and_true]at this
   exact this
 . rw [show (10000:Nat)=9999+1 from rfl]
   simp [Instr.sameBits]
abbrev SS:=List (St Pose Move)
def ul (w k:Nat) (x:St Pose Move):Nd:=(numP w k x.p,(x.i:Int))
def im (w k:Nat) (S:SS) (b:Int):Nd:=if b<0 then (0,0)else match S[b.toNat]? with
 |some y=>ul w k y
 |none=>(0,0)
def stpL (f:Nd) (m:Move) (a:Int) (dn:Bool):List Value:=[.int .i64 f.1,.int .i64 f.2,.int .i64 m.k,.int .i64 m.d,.int .i64 m.n,.int .i64 m.f.x,.int .i64 m.f.y,.bool m.f.d,.int .i64 m.t.x,.int .i64 m.t.y,.bool m.t.d,.int .i64 m.a,.int .i64 m.e,.int .i64 a,.bool dn]
abbrev pk (f:Nd) (m:Move) (a:Int) (dn:Bool):Obj := .cells (stpL f m a dn).toArray 146 (0,0)
def entV (e:Nd × Nat):Nd × Value:=(e.1,.pointer (some ⟨e.2,0,none⟩))
structure StE (w k:Nat) (b:Hp) (E:List (Nd × Nat)) (S:SS):Prop where
 len:E.length=S.length
 nod:(E.map (·.2)).Nodup
 cel:∀(i:Nat) (e:Nd × Nat) (x:St Pose Move),E[i]?=some e->S[i]?=some x->e.1=ul w k x/\b e.2=some (pk (im w k S x.b) x.mv x.a x.dn)
def StP (w k:Nat) (a:Hp) (mt:Nat) (S:SS):Prop:=∃o E b,KMap (fun c:Nd=>ndV c) o (E.map entV)/\HL.Sep [noHp.set mt o,b] a/\StE w k b E S
theorem Hm {α β:Type} {pe:α->Bool} {ps:β->Bool}:∀{E:List α} {S:List β},E.length=S.length->(∀(j:Nat) (e:α) (x:β),E[j]?=some e->S[j]?=some x->pe e=ps x)->E.findIdx? pe=S.findIdx? ps
 |[],[],_,_=>rfl
 |[],_::_,h,_=>by simp at h
 |_::_,[],h,_=>by simp at h
 |e::E,x::S,h,hp=>by
  rw [List.findIdx?_cons,List.findIdx?_cons,hp 0 e x rfl rfl,Hm (E:=E) (S:=S) (by simpa using h) (fun j e x he hx=>hp (j+1) e x he hx)]
theorem StE.key {w k:Nat} {f:Nat->Nat->Int} {b:Hp} {E:List (Nd × Nat)} {S:SS} (s:StE w k b E S) (hS:∀x∈S,df w k f x.p=true) {p:Pose} (hp:df w k f p=true) {i:Nat}:
 kidx (E.map entV) (numP w k p,(i:Int))=key S p i:=by
 unfold kidx Srch.key
 rw [List.findIdx?_map]
 refine Hm s.len fun j e x he hx=>?_
 obtain ⟨h1,_⟩:=s.cel j e x he hx
 show (e.1==(numP w k p,(i:Int)))=Rp p i x
 rw [h1]
 unfold ul Rp
 have hxf:=hS x (List.mem_of_getElem? hx)
 rw [Bool.eq_iff_iff]
 simp only [beq_iff_eq,Prod.mk.injEq,Bool.and_eq_true,decide_eq_true_eq]
 constructor
 . rintro ⟨h2,h3⟩;exact ⟨uj hxf hp h2,by omega⟩
 . rintro ⟨rfl,rfl⟩;exact ⟨rfl,rfl⟩
theorem StE.get {w k:Nat} {f:Nat->Nat->Int} {b:Hp} {E:List (Nd × Nat)} {S:SS} (s:StE w k b E S) (hS:∀x∈S,df w k f x.p=true) {p:Pose} (hp:df w k f p=true) {i:Nat}:
 (Srch.key S p i=none/\kget (E.map entV) (numP w k p,(i:Int))=none)\/
 ∃j e x,Srch.key S p i=some j/\E[j]?=some e/\S[j]?=some x/\kget (E.map entV) (numP w k p,(i:Int))=some (.pointer (some ⟨e.2,0,none⟩))/\b e.2=some (pk (im w k S x.b) x.mv x.a x.dn):=by
 unfold kget
 rw [s.key hS hp]
 cases h:Srch.key S p i with
 |none=>exact .inl ⟨rfl,rfl⟩
 |some j=>
  obtain ⟨x,hx,_,_⟩:=ru h
  have hj:j<E.length:=by rw [s.len];exact (List.getElem?_eq_some_iff.1 hx).1
  obtain ⟨e,he⟩:∃e,E[j]?=some e:=⟨_,List.getElem?_eq_getElem hj⟩
  refine .inr ⟨j,e,x,rfl,he,hx,?_,(s.cel j e x he hx).2⟩
  simp [List.getElem?_map,he,entV]
theorem Ry {w k:Nat} {S:SS} {y:St Pose Move} {b:Int} (hb:b<0\/b.toNat<S.length):im w k (S++[y]) b=im w k S b:=by
 unfold im
 split
 . rfl
 . rename_i h
   rw [List.getElem?_append_left (by omega)]
theorem Cq {w k:Nat} {S:SS} {j:Nat} {x y:St Pose Move} {b:Int} (hx:S[j]?=some x) (h1:y.p=x.p) (h2:y.i=x.i):im w k (S.set j y) b=im w k S b:=by
 unfold im
 split
 . rfl
 . by_cases hj:j=b.toNat
   . subst hj
     rw [List.getElem?_set_self (List.getElem?_eq_some_iff.1 hx).1,hx]
     simp [ul,h1,h2]
   . rw [List.getElem?_set_ne hj]
theorem Kz {α:Type} {x:α}:∀{L:List α} {j:Nat},L.Nodup->x∉L->(L.set j x).Nodup
 |[],j,h,_=>by simp
 |a::L,0,h,hn=>by
  rw [List.set_cons_zero]
  exact List.nodup_cons.2 ⟨fun hm=>hn (.tail _ hm),(List.nodup_cons.1 h).2⟩
 |a::L,j+1,h,hn=>by
  rw [List.set_cons_succ]
  refine List.nodup_cons.2 ⟨fun hm=>?_,Kz (List.nodup_cons.1 h).2 (fun hm=>hn (.tail _ hm))⟩
  rcases List.mem_or_eq_of_mem_set hm with h1|h1
  . exact (List.nodup_cons.1 h).1 h1
  . exact hn (h1 ▸ .head _)
theorem StE.put {w k:Nat} {f:Nat->Nat->Int} {b:Hp} {E:List (Nd × Nat)} {S:SS} (s:StE w k b E S) (hS:∀x∈S,df w k f x.p=true) (hby:∀x∈S,x.b<0\/x.b.toNat<S.length) {p:Pose} (hp:df w k f p=true) {i:Nat} {sp:Sp} {t:Int} {m:Move} {bi:Int} (hbi:bi<0\/bi.toNat<S.length) {x1:Nat} (hx1:b x1=none)
 (hlt:∀j x,Srch.key S p i=some j->S[j]?=some x->t<x.a/\x.dn=false):
 ∃E',kput (E.map entV) (numP w k p,(i:Int)) (.pointer (some ⟨x1,0,none⟩))=E'.map entV/\StE w k (b.set x1 (pk (im w k S bi) m t false)) E' (wh S p i sp t m bi):=by
 have hno:x1∉E.map (·.2):=fun hm=>by
  obtain ⟨e,he,rfl⟩:=List.mem_map.1 hm
  obtain ⟨j,hj,rfl⟩:=List.getElem_of_mem he
  have:=(s.cel j _ _ (List.getElem?_eq_getElem hj) (List.getElem?_eq_getElem (by rw [<- s.len];exact hj))).2
  rw [hx1]at this;cases this
 have hne:∀(j:Nat) (e:Nd × Nat),E[j]?=some e->e.2≠x1:=fun j e he h=>hno (by rw [<- h];exact List.mem_map.2 ⟨e,List.mem_of_getElem? he,rfl⟩)
 unfold kput wh
 rw [s.key hS hp]
 cases h:Srch.key S p i with
 |none=>
  refine ⟨E++[((numP w k p,(i:Int)),x1)],by simp [entV],⟨by simp [s.len],?_,fun j e x he hx=>?_⟩⟩
  . rw [List.map_append,List.nodup_append]
    refine ⟨s.nod,by simp,?_⟩
    intro a ha b' hb' e
    simp at hb'
    subst hb';subst e
    exact hno ha
  . by_cases hj:j<E.length
    . rw [List.getElem?_append_left hj]at he
      rw [List.getElem?_append_left (by rw [<- s.len];exact hj)]at hx
      obtain ⟨h1,h2⟩:=s.cel j e x he hx
      rw [au (hne j e he),Ry (hby x (List.mem_of_getElem? hx))]
      exact ⟨h1,h2⟩
    . rw [List.getElem?_append_right (by omega)]at he
      rw [List.getElem?_append_right (by rw [<- s.len];omega),<- s.len]at hx
      have hj0:j-E.length=0:=by have:=(List.getElem?_eq_some_iff.1 he).1;simp at this;omega
      rw [hj0]at he hx
      cases he
      cases hx
      exact ⟨rfl,by rw [af,Ry hbi]⟩
 |some j=>
  obtain ⟨x,hx,e1,e2⟩:=ru h
  obtain ⟨hlt',hdn⟩:=hlt j x h hx
  have hjS:j<S.length:=(List.getElem?_eq_some_iff.1 hx).1
  have hjE:j<E.length:=by rw [s.len];exact hjS
  simp only [hx,if_pos hlt']
  refine ⟨E.set j ((numP w k p,(i:Int)),x1),by rw [List.map_set];rfl,⟨by simp [s.len],?_,fun l e y he hy=>?_⟩⟩
  . rw [List.map_set]
    exact Kz s.nod hno
  . by_cases hl:j=l
    . subst hl
      rw [List.getElem?_set_self hjE]at he
      rw [List.getElem?_set_self hjS]at hy
      cases he
      cases hy
      refine ⟨by simp [ul,e1,e2],?_⟩
      have e3:({ x with a:=t,mv:=m,b:=bi }:St Pose Move).p=x.p:=rfl
      have e4:({ x with a:=t,mv:=m,b:=bi }:St Pose Move).i=x.i:=rfl
      rw [af,Cq (y:={ x with a:=t,mv:=m,b:=bi }) hx e3 e4,hdn]
    . rw [List.getElem?_set_ne hl]at he hy
      obtain ⟨h1,h2⟩:=s.cel l e y he hy
      have e3:({ x with a:=t,mv:=m,b:=bi }:St Pose Move).p=x.p:=rfl
      have e4:({ x with a:=t,mv:=m,b:=bi }:St Pose Move).i=x.i:=rfl
      rw [au (hne l e he),Cq (y:={ x with a:=t,mv:=m,b:=bi }) hx e3 e4]
      exact ⟨h1,h2⟩
def lu:=jq bC (jq (jq (jq (jq @al137 @ac4) (jq @Ux (jq @pu @cf115))) (jq (jq @cf116 (jq @cf65 @cf66)) (jq @Hv (jq @an2 @fa146_2)))) (jq (jq (jq @Wl (jq @T1 @ld132p)) (jq @Tz (jq @ld3 @ld30))) (jq (jq @ld4 (jq @jo @ii)) (jq @ls (jq @ji @st137w)))))
theorem unmt:P_.underlying 131=some (.map 137 149):=by kernel_rfl
theorem zerot:ou P_ 149=some (.pointer none):=by kernel_rfl
abbrev stepV (f:Nd) (m:Move):Value := .agg #[f.1,f.2,m.k,m.d,m.n,m.f.x,m.f.y,.bool m.f.d,m.t.x,m.t.y,.bool m.t.d,m.a,m.e,(0:Int),.bool false]
def Kept (q:Par) (c:Cs) (S:SS):Prop:=∀x∈S,(mget c.L1 (numP q.w q.k x.p)).isSome=true/\mget c.L3 (numP q.w q.k x.p)=some (jy x.p)
theorem Kept.le {q:Par} {c c':Cs} {S:SS} (k:Kept q c S) (l:c.le c'):Kept q c' S:=fun x hx=>by
 obtain ⟨h1,h2⟩:=k x hx
 cases h:mget c.L1 (numP q.w q.k x.p)with
 |none=>rw [h]at h1;cases h1
 |some v=>exact ⟨by rw [l.l1 _ _ h];rfl,l.l3 _ _ h2⟩
theorem Kept.note {q:Par} {c:Cs} {S:SS} (k:Kept q c S) {p:Pose} (h1:(mget c.L1 (numP q.w q.k p)).isSome=true) (h3:mget c.L3 (numP q.w q.k p)=some (jy p)) {t:Int} {m:Move} {b:Int}:Kept q c (note q.E S p t m b):=by
 intro x hx
 unfold Srch.note at hx
 split at hx
 . unfold wh at hx
   split at hx
   . split at hx
     . rename_i y hy
       split at hx
       . rcases List.mem_or_eq_of_mem_set hx with h|h
         . exact k x h
         . subst h;exact k y (List.mem_of_getElem? hy)
       . exact k x hx
     . exact k x hx
   . rcases List.mem_append.1 hx with h|h
     . exact k x h
     . rw [List.mem_singleton]at h;subst h;exact ⟨h1,h3⟩
 . exact k x hx
structure Srs (q:Par) (a ae ah:Hp) (ms mw mp mt hp:Nat) (c:Cs) (S:SS) (L:List Go.Proofs.Wt.It) (n:Int):Prop where
 ch:Ch q a ms mw mp c
 st:StP q.w q.k ae mt S
 hp:Hw.HP ah hp L n
 ok:Go.Proofs.Wt.vk L
 qi:QI q.E L S
 kept:Kept q c S
 n0:0<=n
 ln:(L.length:Int)<=n
theorem Ko {q:Par} (gt:ja q.T) (fw:Few q.T 100) (p:Pose):(ku q.w q.k q.T q.r p).length<=1000000:=by
 unfold ku
 have:=Cr gt fw q.r ((bo p).map (numI q.w q.k))
 rw [List.length_map,show (bo p).length=2 from rfl]at this
 omega
theorem StE.le {w k:Nat} {b b':Hp} {E:List (Nd × Nat)} {S:SS} (s:StE w k b E S) (l:b.le b'):StE w k b' E S:=
 ⟨s.len,s.nod,fun i e x he hx=>let ⟨h1,h2⟩:=s.cel i e x he hx;⟨h1,l _ _ h2⟩⟩
theorem G0 {G h a ae ah:Hp} {R:List Hp} {q:Par} {sp kp ms mw mp mt hp:Nat} {c:Cs} {S:SS} {L:List Go.Proofs.Wt.It} {n t lo t0:Int} {p p0:Pose} {m z:Move} {b:Int} (ss:Srs q a ae ah ms mw mp mt hp c S L n) (bg:Bg G q sp kp ms mw mp mt hp)
 (v:Inv q.E p0 t0 z lo S) (hlo:lo<=t) (hpf:df q.w q.k q.f p=true) (hn:n<=34359738368) (hb:b<0\/b.toNat<S.length) (s:HL.Sep (a::ae::ah::R) h):
 aj P_ G 67 #[.pointer (some ⟨sp,0,none⟩),jy p,t,stepV (im q.w q.k S b) m] h (fun _ h'=>∃a' ae' ah' c' L' n',Srs q a' ae' ah' ms mw mp mt hp c' (note q.E S p t m b) L' n'/\c.le c'/\c'.L2=c.L2/\n<=n'/\n'<=n+1/\HL.Sep (a'::ae'::ah'::R) h'/\Dis G h'):=by
 obtain ⟨ab,cb,ap,cp,ar,cr,az,cs,gp,tp,hbg⟩:=id bg.ex
 obtain ⟨ch,stp,hpp,hok,qi,kept,hn0,hln⟩:=ss
 have hS:∀x∈S,df q.w q.k q.f x.p=true:=v.ok
 have hby:∀x∈S,x.b<0\/x.b.toNat<S.length:=fun x hx=>by
  rcases v.by_ x hx with ⟨h,_⟩|⟨y,h0,hy,_⟩
  . left;omega
  . exact .inr (List.getElem?_eq_some_iff.1 hy).1
 refine aj.assume fun d=>enter67 (by simp) ?_
 unfold S67
 simp only [lu]
 intro xp hxp gxp x1 hx1 gx1
 have s1:=(s.new (o := .cells #[p.x,p.y,.bool p.d] 30 (0,0)) hxp).new (o := .cells (stpL (im q.w q.k S b) m 0 false).toArray 146 (0,0)) hx1
 have d1:=(d.set (o := .cells #[p.x,p.y,.bool p.d] 30 (0,0)) gxp).set (o := .cells (stpL (im q.w q.k S b) m 0 false).toArray 146 (0,0)) gx1
 simp only [stpL]at s1 d1
 generalize Hp.set (Hp.set h xp _) x1 _=h1 at s1 d1 ⊢
 have cx1:∀k,aa G h1 ⟨xp,k,none⟩=_:=fun k=>ai (ag (s1.at 1 rfl af))
 try simp only [lu,cx1]
 have s1':=Sep.fr (R:=R) [_,_,_,_,_] s1 [2,3,4,1,0] (by decide) rfl
 refine (lm ch bg s1' hpf).mono ?_
 rintro u h2 ⟨a2,c2,ch2,cl2,e2,g1,g3,s2,d2⟩
 have sl:=ch2.look1 hpf g1
 try simp (disch:=first|decide|omega) only [lu,Nat.reduceAdd,Nat.reduceMul]
 refine (E3 (t:=t) (sl.see (by decide) (ch2.pool.trans (s2.in 0 rfl))) (by have:=Ko bg.gt bg.fw p;omega)).mono ?_
 rintro _ h2 ⟨rfl,rfl⟩
 try simp only [lu]
 cases hi:inside (ku q.w q.k q.T q.r p) t with
 |none=>
  have e:insI (ku q.w q.k q.T q.r p) t = -1:=by unfold insI;rw [hi]
  rw [e]
  try simp only [lu,show decide ((-1:Int)<0)=true from rfl]
  have en:note q.E S p t m b=S:=by
   unfold Srch.note
   have:inside (q.E.spans p) t=none:=hi
   rw [this]
  rw [en]
  exact ⟨a2,ae,ah,c2,L,n,⟨ch2,stp,hpp,hok,qi,kept.le cl2,hn0,hln⟩,cl2,e2,by omega,by omega,Sep.fr (R:=R) [_,_,_,_,_] s2 [0,1,2] (by decide) rfl,d2⟩
 |some i=>
  have e:insI (ku q.w q.k q.T q.r p) t=(i:Int):=by unfold insI;rw [hi]
  rw [e]
  try simp only [lu,show decide ((i:Int)<0)=false from decide_eq_false (by omega)]
  unfold az0
  have cx2:∀k,aa G h2 ⟨xp,k,none⟩=_:=fun k=>ai (ag (s2.at 3 rfl af))
  try simp (disch:=decide) only [lu,cx2]
  refine (yg ch2 bg s2 hpf).mono ?_
  rintro _ h3 ⟨rfl,a3,c3,ch3,cl3,f1,f2,f3,g33,s3,d3⟩
  try simp (disch:=first|decide|exact ao|exact am|omega|rfl) only [lu]
  intro xn hxn gxn
  obtain ⟨o,E,bb,km,sb,se⟩:=stp
  have s4:=s3.new (o := .cells #[(numP q.w q.k p),i] 137 (0,0)) hxn
  have d4:=d3.set (o := .cells #[(numP q.w q.k p),i] 137 (0,0)) gxn
  generalize Hp.set h3 xn _=h4 at s4 d4 ⊢
  have s5:=(Sep.fr (R:=R) [noHp.set xn (.cells #[(numP q.w q.k p),i] 137 (0,0)),a3,ae,ah,noHp.set xp (.cells #[p.x,p.y,.bool p.d] 30 (0,0)),noHp.set x1 (.cells (stpL (im q.w q.k S b) m 0 false).toArray 146 (0,0))] s4 [2,1,3,5,0] (by decide) rfl).open sb
  have b4:=ux (hbg h4 d4).2.1
  have hmt:h4 mt=some o:=s5.at 0 rfl af
  have hl:∀K,pw P_ G h4 (Instr.lookup 131 (.map (some mt)) (.agg #[(numP q.w q.k p),(i:Int)]) true) K=K (.tuple #[(kget (E.map entV) (numP q.w q.k p,(i:Int))).getD (.pointer none),.bool (kget (E.map entV) (numP q.w q.k p,(i:Int))).isSome]):=fun K=>
   N3 N1 unmt zerot (ag hmt) km (k:=(numP q.w q.k p,(i:Int)))
  have en:note q.E S p t m b=wh S p i ((ku q.w q.k q.T q.r p).getD i (0,0)) t m b:=by
   unfold Srch.note
   have:inside (q.E.spans p) t=some i:=hi
   rw [this]
   rfl
  have k2:Qz q.E S p t=some i->(∀j x,Srch.key S p i=some j->S[j]?=some x->t<x.a/\x.dn=false)->∀r':Rg,r' 0 = .pointer (some ⟨sp,0,none⟩)->r' 2 = .int .i64 t->r' 7 = .pointer (some ⟨x1,0,none⟩)->r' 9 = .pointer (some ⟨xn,0,none⟩)->
   U6 G (retK P_ G [] fun _ h'=>∃a' ae' ah' c' L' n',Srs q a' ae' ah' ms mw mp mt hp c' (note q.E S p t m b) L' n'/\c.le c'/\c'.L2=c.L2/\n<=n'/\n'<=n+1/\HL.Sep (a'::ae'::ah'::R) h'/\Dis G h') r' h4:=by
   intro hpu hlt r' e0 e2' e7 e9
   unfold U6
   simp only [lu,e0,e2',e7,e9]
   have hx14:h4 x1=some (.cells (stpL (im q.w q.k S b) m 0 false).toArray 146 (0,0)):=s5.at 4 rfl af
   rw [di sz3 rfl hx14 (by simp [stpL])]
   have hset:(stpL (im q.w q.k S b) m 0 false).set 13 (.int .i64 t)=stpL (im q.w q.k S b) m t false:=rfl
   rw [hset]
   have s6:=(s5.pick 4 rfl rfl).put (o:=pk (im q.w q.k S b) m t false) af
   rw [set_set]at s6
   have d6:Dis G (h4.set x1 (pk (im q.w q.k S b) m t false)):=d4.set (d4 _ _ hx14)
   generalize Hp.set h4 x1 _=h6 at s6 d6 ⊢
   have b6:=ux (hbg h6 d6).2.1
   have cn6:∀k,aa G h6 ⟨xn,k,none⟩=_:=fun k=>ai (ag (s6.at 5 rfl af))
   have hmt6:h6 mt=some o:=s6.at 1 rfl af
   try simp only [lu,b6.mt,cn6]
   refine Tw N1 unmt hmt6 km (k:=(numP q.w q.k p,(i:Int))) fun o' mo'=>?_
   have s7:=(s6.pick 1 rfl rfl).put (o:=o') af
   rw [set_set]at s7
   have d7:Dis G (h6.set mt o'):=d6.set (d6 _ _ hmt6)
   generalize Hp.set h6 mt o'=h7 at s7 d7 ⊢
   have b7:=ux (hbg h7 d7).2.1
   have cn7:∀k,aa G h7 ⟨xn,k,none⟩=_:=fun k=>ai (ag (s7.at 5 rfl af))
   try simp only [lu,b7.hp,cn7]
   refine (Hw.hpush (k:=t) (m:=numP q.w q.k p) (s:=(i:Int)) hpp (s7.pick 4 rfl rfl) (by omega) hn0 (by omega)).mono ?_
   rintro _ h8 ⟨ah8,hp8,s8,d8⟩
   try simp (disch:=first|decide|omega) only [lu,Nat.reduceAdd,Nat.reduceMul]
   obtain ⟨E',hk',se'⟩:=se.put (f:=q.f) hS hby hpf (i:=i) (sp:=(ku q.w q.k q.T q.r p).getD i (0,0)) (t:=t) (m:=m) (bi:=b) hb (x1:=x1) (by
    rcases (s8.pick 2 rfl rfl).apart (b:=bb) (by simp) x1 with e|e
    . rw [af]at e;cases e
    . exact e) hlt
   rw [hk']at mo'
   obtain ⟨b9,s9,t9⟩:=Sep.pack [noHp.set x1 (pk (im q.w q.k S b) m t false),bb] (R:=noHp.set mt o'::a3::ah8::R) (Sep.fr (R:=R) [ah8,noHp.set mt o',noHp.set x1 (pk (im q.w q.k S b) m t false),bb,a3,noHp.set xn (.cells #[(numP q.w q.k p),i] 137 (0,0))] s8 [2,3,1,4,0] (by decide) rfl)
   obtain ⟨ae9,s10,t10⟩:=Sep.pack [noHp.set mt o',b9] (R:=a3::ah8::R) s9.swap
   have l9:(bb.set x1 (pk (im q.w q.k S b) m t false)).le b9:=fun y ob hy=>by
    by_cases hyx:y=x1
    . subst hyx
      rw [af]at hy
      cases hy
      exact t9.at 0 rfl af
    . rw [au hyx]at hy
      exact t9.in 1 rfl _ _ hy
   obtain ⟨hok',hperm⟩:=Go.Proofs.Wt.push_ok (x:=⟨t,numP q.w q.k p,(i:Int),n⟩) hok
   refine ⟨a3,ae9,ah8,c3,_,n+1,⟨ch3,⟨o',E',b9,mo',t10,?_⟩,hp8,hok',?_,?_,by omega,?_⟩,cl2.trans cl3,by rw [f2,e2],by omega,by omega,Sep.fr (R:=R) [ae9,a3,ah8] s10 [1,0,2] (by decide) rfl,d8⟩
   . rw [en];exact se'.le l9
   . refine note_q (n:=n) qi ?_
     rw [hpu]
     exact hperm
   . exact (kept.le (cl2.trans cl3)).note (by rw [cl3.l1 _ _ g1];rfl) g33
   . rw [Go.Proofs.Wt.tw];simp only [List.length_append,List.length_cons,List.length_nil];omega
  have stay:note q.E S p t m b=S->∃a' ae' ah' c' L' n',Srs q a' ae' ah' ms mw mp mt hp c' (note q.E S p t m b) L' n'/\c.le c'/\c'.L2=c.L2/\n<=n'/\n'<=n+1/\HL.Sep (a'::ae'::ah'::R) h4/\Dis G h4:=fun e=>by
   rw [e]
   obtain ⟨ae9,s9,t9⟩:=Sep.pack [noHp.set mt o,bb] (R:=a3::ah::R) (Sep.fr (R:=R) [noHp.set mt o,bb,a3,ah,noHp.set x1 (.cells (stpL (im q.w q.k S b) m 0 false).toArray 146 (0,0)),noHp.set xn (.cells #[(numP q.w q.k p),i] 137 (0,0))] s5 [0,1,2,3] (by decide) rfl)
   exact ⟨a3,ae9,ah,c3,L,n,⟨ch3,⟨o,E,bb,km,t9,se⟩,hpp,hok,qi,kept.le (cl2.trans cl3),hn0,hln⟩,cl2.trans cl3,by rw [f2,e2],by omega,by omega,Sep.fr (R:=R) [ae9,a3,ah] s9 [1,0,2] (by decide) rfl,d4⟩
  try simp only [lu,b4.mt,hl]
  rcases se.get (f:=q.f) hS hpf (i:=i)with ⟨hk,hg⟩|⟨j,e',x,hk,he,hx,hg,hbx⟩
  . rw [hg]
    try simp only [lu,Option.getD_none,Option.isSome_none]
    refine k2 ?_ (fun j x h=>by rw [hk]at h;cases h) _ (by simp (disch:=decide) only [lu]) (by simp (disch:=decide) only [lu]) (by simp (disch:=decide) only [lu]) (by simp (disch:=decide) only [lu])
    unfold Qz
    have:inside (q.E.spans p) t=some i:=hi
    rw [this]
    simp only
    rw [hk]
  . rw [hg]
    have hx4:h4 e'.2=some (pk (im q.w q.k S x.b) x.mv x.a x.dn):=s5.at 1 rfl hbx
    have cd:aa G h4 ⟨e'.2,14,none⟩=some (.bool x.dn):=by rw [ai (ag hx4)];rfl
    have ca:aa G h4 ⟨e'.2,13,none⟩=some (.int .i64 x.a):=by rw [ai (ag hx4)];rfl
    try simp only [lu,Option.getD_some,Option.isSome_some,cd,ca]
    have hxm:=List.mem_of_getElem? hx
    cases hdn:x.dn with
    |true=>
     try simp only [lu,fg]
     refine stay ?_
     rw [en]
     unfold wh
     rw [hk]
     simp only [hx]
     rw [if_neg (by have:=v.dn x hxm hdn;omega)]
    |false=>
     try simp only [lu,ca]
     by_cases hle:x.a<=t
     . try simp only [lu,iy hle]
       refine stay ?_
       rw [en]
       unfold wh
       rw [hk]
       simp only [hx]
       rw [if_neg (by omega)]
     . try simp only [lu,i9 hle]
       refine k2 ?_ (fun j2 x2 h2 hx2=>by rw [hk]at h2;cases h2;rw [hx]at hx2;cases hx2;exact ⟨by omega,hdn⟩) _ (by simp (disch:=decide) only [lu]) (by simp (disch:=decide) only [lu]) (by simp (disch:=decide) only [lu]) (by simp (disch:=decide) only [lu])
       unfold Qz
       have:inside (q.E.spans p) t=some i:=hi
       rw [this]
       simp only
       rw [hk]
       simp only [hx]
       rw [if_pos (by omega)]
def jc:=jq bC (jq (jq (jq (jq @al151 @al48) (jq @ac3 (jq @tq @kf))) (jq (jq @cf67 (jq @cf77 @Oq)) (jq @Oo (jq @fa232_0 @fa232_1)))) (jq (jq (jq @Ue @ak4) (jq @Ud (jq @ld137 @ld151))) (jq (jq @ld3 (jq @ld30 @ld48)) (jq @Te (jq @st3s @Qa)))))
abbrev WayT:=Move × Pose × Int × List Sp
abbrev wayO (m:Move) (d:Int) (a:Option Addr) (n c:Nat):Obj := .cells #[m.k,m.d,m.n,m.f.x,m.f.y,.bool m.f.d,m.t.x,m.t.y,.bool m.t.d,m.a,m.e,d,.slice a n c] 232 (0,0)
structure Fbx (q:Par) (Bx:Hp) (xn xo:Nat) (x:St Pose Move):Prop where
 n:Bx xn=some (.cells #[(numP q.w q.k x.p),(x.i:Int)] 137 (0,0))
 o:Bx xo=some (.cells #[x.s.1,x.s.2] 151 (0,0))
theorem Lj {α β:Type} {f:β->α->β} {S:β} {L:List α} {i:Nat} {s:α} (h:L[i]?=some s):(L.take (i+1)).foldl f S=f ((L.take i).foldl f S) s:=by
 rw [List.take_add_one,h,List.foldl_append];rfl
theorem from_in {G h a ae ah Bx:Hp} {R:List Hp} {q:Par} {sp kp ms mw mp mt hp xn xo xw:Nat} {c:Cs} {S:SS} {L:List Go.Proofs.Wt.It} {n t0:Int} {p0:Pose} {z:Move} {x:St Pose Move} {k:Nat} {y:WayT} {sa:Option Addr} {cap:Nat} {KK:EK}
 (ss:Srs q a ae ah ms mw mp mt hp c S L n) (bg:Bg G q sp kp ms mw mp mt hp) (ok:px q.E) (v:Inv q.E p0 t0 z x.a S) (hx:S[k]?=some x) (hd:x.dn=true) (ha:0<=x.a) (hox:df q.w q.k q.f x.p=true) (hy:y∈q.E.ways x.p) (hy1:y.2.1=y.1.t)
 (fb:Fbx q Bx xn xo x) (hw:Bx xw=some (wayO y.1 y.2.2.1 sa y.2.2.2.length cap)) (sl:Slc lw 151 c.P (.slice sa y.2.2.2.length cap) y.2.2.2) (hn:n+y.2.2.2.length<=34359738368)
 (s:HL.Sep (a::ae::ah::Bx::R) h) (d:Dis G h) (r:Rg) (g0:r 0 = .pointer (some ⟨sp,0,none⟩)) (g2:r 2 = .int .i64 x.a) (g4:r 4 = .pointer (some ⟨xn,0,none⟩)) (g7:r 7 = .pointer (some ⟨xo,0,none⟩)) (g9:r 9 = .pointer (some ⟨xw,0,none⟩)) (g38:r 38 = .slice sa y.2.2.2.length cap) (g39:r 39 = .int .i64 y.2.2.2.length) (g40:r 40 = .int .i64 0)
 (H:∀(r':Rg) h' a' ae' ah' c' L' n',Srs q a' ae' ah' ms mw mp mt hp c' (rx q.E x k S y) L' n'->Inv q.E p0 t0 z x.a (rx q.E x k S y)->(rx q.E x k S y)[k]?=some x->c.le c'->n<=n'->n'<=n+y.2.2.2.length->HL.Sep (a'::ae'::ah'::Bx::R) h'->Dis G h'->
  r' 0=r 0->r' 2=r 2->r' 4=r 4->r' 7=r 7->r' 31=r 31->r' 32=r 32->r' 33=r 33->KK (.exit 2) r' h'):
 dc (Ef G) r h KK:=by
 have hn0:=ss.n0
 refine ci (fun m r' h'=>∃(i:Nat) (a' ae' ah':Hp) (c':Cs) (L':List Go.Proofs.Wt.It) (n':Int),m=y.2.2.2.length-i/\i<=y.2.2.2.length/\Srs q a' ae' ah' ms mw mp mt hp c' ((y.2.2.2.take i).foldl (ic q.E x k y) S) L' n'/\Inv q.E p0 t0 z x.a ((y.2.2.2.take i).foldl (ic q.E x k y) S)/\((y.2.2.2.take i).foldl (ic q.E x k y) S)[k]?=some x/\
  c.le c'/\n<=n'/\n'<=n+i/\HL.Sep (a'::ae'::ah'::Bx::R) h'/\Dis G h'/\r' 0=r 0/\r' 2=r 2/\r' 4=r 4/\r' 7=r 7/\r' 9=r 9/\r' 31=r 31/\r' 32=r 32/\r' 33=r 33/\r' 38=r 38/\r' 39=r 39/\r' 40 = .int .i64 i) ?_ (m:=y.2.2.2.length)
  ⟨0,a,ae,ah,c,L,n,rfl,by omega,ss,v,hx,.refl _,by omega,by omega,s,d,rfl,rfl,rfl,rfl,rfl,rfl,rfl,rfl,rfl,rfl,g40⟩
 rintro m r1 h1 ⟨i,a1,ae1,ah1,c1,L1,n1,rfl,hi,ss1,v1,hx1,cl1,hn1,hn2,s1,d1,e0,e2,e4,e7,e9,e31,e32,e33,e38,e39,e40⟩ X hX
 unfold Ef
 simp only [jc,e39,g39,e40]
 refine bh (fun hlt=>?_) (fun hge=>?_)
 rotate_left
 . obtain rfl:i=y.2.2.2.length:=by omega
   rw [List.take_length]at ss1 v1 hx1
   exact H _ _ a1 ae1 ah1 c1 L1 n1 ss1 v1 hx1 cl1 hn1 hn2 s1 d1 (by simp (disch:=decide) only [jc,e0]) (by simp (disch:=decide) only [jc,e2]) (by simp (disch:=decide) only [jc,e4]) (by simp (disch:=decide) only [jc,e7]) (by simp (disch:=decide) only [jc,e31]) (by simp (disch:=decide) only [jc,e32]) (by simp (disch:=decide) only [jc,e33])
 obtain ⟨sx,hsx⟩:∃u,y.2.2.2[i]?=some u:=⟨_,List.getElem?_eq_getElem (by omega)⟩
 obtain ⟨b,o,rfl,z1,z2⟩:=Sees.span ((sl.le cl1.p).see (G:=G) (by decide) (ss1.ch.pool.trans (s1.in 0 rfl))) hsx
 have hstep:=Lj (f:=ic q.E x k y) (S:=S) hsx
 have hsm:=List.mem_of_getElem? hsx
 unfold Dg
 simp (disch:=first|decide|exact ao|exact am|omega|rfl) only [jc,e38,g38,e40,Ro (Int.natCast_nonneg i) hlt,z1,z2]
 intro zb hzb gzb
 have s2:=s1.past (o := .cells #[sx.1,sx.2] 151 (0,0)) hzb
 have d2:=d1.set (o := .cells #[sx.1,sx.2] 151 (0,0)) gzb
 have hzs:(h1.set zb (.cells #[sx.1,sx.2] 151 (0,0))) zb=some (.cells #[sx.1,sx.2] 151 (0,0)):=af
 generalize Hp.set h1 zb _=h2 at s2 d2 hzs ⊢
 have cz:∀k,aa G h2 ⟨zb,k,none⟩=_:=fun k=>ai (ag hzs)
 have co:∀k,aa G h2 ⟨xo,k,none⟩=_:=fun k=>ai (ag (s2.at 3 rfl fb.o))
 have cw:∀k,aa G h2 ⟨xw,k,none⟩=_:=fun k=>ai (ag (s2.at 3 rfl hw))
 have next:∀(r':Rg) h3 a3 ae3 ah3 c3 L3 n3,Srs q a3 ae3 ah3 ms mw mp mt hp c3 (ic q.E x k y ((y.2.2.2.take i).foldl (ic q.E x k y) S) sx) L3 n3->c1.le c3->n1<=n3->n3<=n1+1->HL.Sep (a3::ae3::ah3::Bx::R) h3->Dis G h3->
  r' 0=r1 0->r' 2=r1 2->r' 4=r1 4->r' 7=r1 7->r' 9=r1 9->r' 31=r1 31->r' 32=r1 32->r' 33=r1 33->r' 38=r1 38->r' 39=r1 39->r' 40=r1 40->
  nk G (bw X KK) r' h3:=by
  intro r' h3 a3 ae3 ah3 c3 L3 n3 ss3 cl3 m1 m2 s3 d3 w0 w2 w4 w7 w9 w31 w32 w33 w38 w39 w40
  unfold nk
  simp (disch:=first|decide|omega) only [jc,w40,e40]
  have vv:=Gm ok v1 hx1 hd ha hox hy (k:=k) hsm
  refine hX (y.2.2.2.length-(i+1)) _ _ (by omega) ⟨i+1,a3,ae3,ah3,c3,L3,n3,rfl,by omega,by rw [hstep];exact ss3,by rw [hstep];exact vv.1,by rw [hstep];exact vv.2,cl1.trans cl3,by omega,by omega,s3,d3,by simp (disch:=decide) only [jc,w0,e0],by simp (disch:=decide) only [jc,w2,e2],by simp (disch:=decide) only [jc,w4,e4],by simp (disch:=decide) only [jc,w7,e7],by simp (disch:=decide) only [jc,w9,e9],by simp (disch:=decide) only [jc,w31,e31],by simp (disch:=decide) only [jc,w32,e32],by simp (disch:=decide) only [jc,w33,e33],by simp (disch:=decide) only [jc,w38,e38],by simp (disch:=decide) only [jc,w39,e39],by simp only [jc];rfl⟩
 have skip:ic q.E x k y ((y.2.2.2.take i).foldl (ic q.E x k y) S) sx=(y.2.2.2.take i).foldl (ic q.E x k y) S->Srs q a1 ae1 ah1 ms mw mp mt hp c1 (ic q.E x k y ((y.2.2.2.take i).foldl (ic q.E x k y) S) sx) L1 n1:=fun e=>by rw [e];exact ss1
 try simp only [jc,cz,e7,g7,co]
 by_cases h1:sx.1<x.s.1
 . try simp only [jc,iy h1,fg]
   exact next _ h2 a1 ae1 ah1 c1 L1 n1 (skip (by unfold ic;rw [if_pos (.inl h1)])) (.refl _) (by omega) (by omega) s2 d2 (by simp (disch:=omega) only [aq]) (by simp (disch:=omega) only [aq]) (by simp (disch:=omega) only [aq]) (by simp (disch:=omega) only [aq]) (by simp (disch:=omega) only [aq]) (by simp (disch:=omega) only [aq]) (by simp (disch:=omega) only [aq]) (by simp (disch:=omega) only [aq]) (by simp (disch:=omega) only [aq]) (by simp (disch:=omega) only [aq]) (by simp (disch:=omega) only [aq])
 try simp only [jc,i9 h1,cz,co]
 by_cases h2':sx.2>x.s.2
 . try simp only [jc,iy h2']
   exact next _ h2 a1 ae1 ah1 c1 L1 n1 (skip (by unfold ic;rw [if_pos (.inr h2')])) (.refl _) (by omega) (by omega) s2 d2 (by simp (disch:=omega) only [aq]) (by simp (disch:=omega) only [aq]) (by simp (disch:=omega) only [aq]) (by simp (disch:=omega) only [aq]) (by simp (disch:=omega) only [aq]) (by simp (disch:=omega) only [aq]) (by simp (disch:=omega) only [aq]) (by simp (disch:=omega) only [aq]) (by simp (disch:=omega) only [aq]) (by simp (disch:=omega) only [aq]) (by simp (disch:=omega) only [aq])
 try simp only [jc,i9 h2']
 unfold Df
 try simp (disch:=decide) only [jc,cz,e2,g2,e9,g9,cw,max2w]
 refine (Rv.ad2 (a:=max x.a sx.1) (b:=y.2.2.1)).mono ?_
 rintro _ h2 ⟨rfl,rfl⟩
 have hst:ic q.E x k y ((y.2.2.2.take i).foldl (ic q.E x k y) S) sx=if sumI (max x.a sx.1) y.2.2.1>sx.2\/sumI (max x.a sx.1) y.2.2.1>=FV then (y.2.2.2.take i).foldl (ic q.E x k y) S else note q.E ((y.2.2.2.take i).foldl (ic q.E x k y) S) y.2.1 (sumI (max x.a sx.1) y.2.2.1) (q.E.stamp y.1 (max x.a sx.1) (sumI (max x.a sx.1) y.2.2.1)) k:=by
  unfold ic
  rw [if_neg (by omega)]
 have hlst:=(ok.lasts _ y hy).1
 try simp only [jc,cz]
 obtain ⟨ev,hev⟩:∃ev,ev=sumI (max x.a sx.1) y.2.2.1:=⟨_,rfl⟩
 rw [<- hev]at hst ⊢
 have hgt:ev<FV->max x.a sx.1<ev:=fun h=>by rw [hev]at h ⊢;exact Gk (by omega) hlst h
 have skip2:(ev>sx.2\/ev>=FV)->∀(r':Rg),r' 0=r1 0->r' 2=r1 2->r' 4=r1 4->r' 7=r1 7->r' 9=r1 9->r' 31=r1 31->r' 32=r1 32->r' 33=r1 33->r' 38=r1 38->r' 39=r1 39->r' 40=r1 40->nk G (bw X KK) r' h2:=fun he r' w0 w2 w4 w7 w9 w31 w32 w33 w38 w39 w40=>
  next r' h2 a1 ae1 ah1 c1 L1 n1 (skip (by rw [hst,if_pos he])) (.refl _) (by omega) (by omega) s2 d2 w0 w2 w4 w7 w9 w31 w32 w33 w38 w39 w40
 by_cases q1:max x.a sx.1>=sx.2
 . have hq:ev>sx.2\/ev>=FV:=by
    by_cases hf:ev<FV
    . have:=hgt hf;exact .inl (by omega)
    . exact .inr (by omega)
   try simp only [jc,iy q1,fg]
   refine skip2 hq _ (by simp (disch:=omega) only [aq]) (by simp (disch:=omega) only [aq]) (by simp (disch:=omega) only [aq]) (by simp (disch:=omega) only [aq]) (by simp (disch:=omega) only [aq]) (by simp (disch:=omega) only [aq]) (by simp (disch:=omega) only [aq]) (by simp (disch:=omega) only [aq]) (by simp (disch:=omega) only [aq]) (by simp (disch:=omega) only [aq]) (by simp (disch:=omega) only [aq])
 try simp only [jc,i9 q1,cz]
 by_cases q2:ev>sx.2
 . try simp only [jc,iy q2,fg]
   refine skip2 (.inl q2) _ (by simp (disch:=omega) only [aq]) (by simp (disch:=omega) only [aq]) (by simp (disch:=omega) only [aq]) (by simp (disch:=omega) only [aq]) (by simp (disch:=omega) only [aq]) (by simp (disch:=omega) only [aq]) (by simp (disch:=omega) only [aq]) (by simp (disch:=omega) only [aq]) (by simp (disch:=omega) only [aq]) (by simp (disch:=omega) only [aq]) (by simp (disch:=omega) only [aq])
 try simp only [jc,i9 q2]
 by_cases q3:ev>=4611686018427387904
 . try simp only [jc,iy q3]
   refine skip2 (.inr q3) _ (by simp (disch:=omega) only [aq]) (by simp (disch:=omega) only [aq]) (by simp (disch:=omega) only [aq]) (by simp (disch:=omega) only [aq]) (by simp (disch:=omega) only [aq]) (by simp (disch:=omega) only [aq]) (by simp (disch:=omega) only [aq]) (by simp (disch:=omega) only [aq]) (by simp (disch:=omega) only [aq]) (by simp (disch:=omega) only [aq]) (by simp (disch:=omega) only [aq])
 try simp only [jc,i9 q3]
 rw [if_neg (show ¬(ev>sx.2\/ev>=FV)by unfold FV;omega)]at hst
 unfold De
 have cn:∀k,aa G h2 ⟨xn,k,none⟩=_:=fun k=>ai (ag (s2.at 3 rfl fb.n))
 try simp -implicitDefEqProofs (maxSteps:=2000000) (disch:=first|decide|with_reducible exact Nat.ne_of_beq_eq_false rfl|exact ao|exact am|omega|rfl|(simp;done)|fail) only [jc,Nat.reduceAdd,e0,g0,e4,g4,e9,g9,cw]
 intro xm hxm gxm
 have s3:=s2.past (o:=ny (xd y.1 (max x.a sx.1) ev)) hxm
 have d3:=d2.set (o:=ny (xd y.1 (max x.a sx.1) ev)) gxm
 simp only [xd]at s3 d3
 generalize Hp.set h2 xm _=h3 at s3 d3 ⊢
 have cn3:∀k,aa G h3 ⟨xn,k,none⟩=_:=fun k=>ai (ag (s3.at 3 rfl fb.n))
 try simp (disch:=first|decide|omega) only [jc,cn3]
 have hkl:k<((y.2.2.2.take i).foldl (ic q.E x k y) S).length:=(List.getElem?_eq_some_iff.1 hx1).1
 have hfk:im q.w q.k ((y.2.2.2.take i).foldl (ic q.E x k y) S) (k:Int)=ul q.w q.k x:=by
  unfold im
  rw [if_neg (by omega),Int.toNat_natCast,hx1]
 have hft:df q.w q.k q.f y.1.t=true:=by rw [<- hy1];exact ok.to _ hox y hy
 have hlo:x.a<=ev:=by have:=hgt (by unfold FV;omega);omega
 have hr:=G0 (p:=y.1.t) (t:=ev) (m:=xd y.1 (max x.a sx.1) ev) (b:=(k:Int)) ss1 bg v1 hlo hft (by omega) (.inr (by simpa using hkl)) s3
 rw [hfk]at hr
 simp only [ul,xd]at hr
 refine hr.mono ?_
 rintro _ h4 ⟨a4,ae4,ah4,c4,L4,n4,ss4,cl4,l24,m1,m2,s4,d4⟩
 refine next _ h4 a4 ae4 ah4 c4 L4 n4 (by rw [hst,hy1];exact ss4) cl4 m1 m2 s4 d4 (by simp (disch:=omega) only [aq]) (by simp (disch:=omega) only [aq]) (by simp (disch:=omega) only [aq]) (by simp (disch:=omega) only [aq]) (by simp (disch:=omega) only [aq]) (by simp (disch:=omega) only [aq]) (by simp (disch:=omega) only [aq]) (by simp (disch:=omega) only [aq]) (by simp (disch:=omega) only [aq]) (by simp (disch:=omega) only [aq]) (by simp (disch:=omega) only [aq])
def Fc:=jq bC (jq (jq @al232 (jq @fa232_2 @ld142)) (jq @ld232 (jq @ln142 @st232w)))
theorem Sees.way {G h:Hp} {sa:Option Addr} {cap n:Nat} {L:List RawW} (s:Sees rq G h (.slice sa n cap) L) {i:Nat} {x:RawW} (hx:L[i]?=some x):
 ∃b o,sa=some ⟨b,o,none⟩/\∀j,j<13->aa G h ⟨b,o+i*13+j,none⟩=(rq.enc x)[j]?:=by
 obtain ⟨s',cap',e,_,hc⟩:=s
 cases e
 rcases hc with rfl|⟨b,o,rfl,hc⟩
 . simp at hx
 . exact ⟨b,o,rfl,fun j hj=>hc i x hx j hj⟩
theorem Fx {q:Par} {p:Pose} {j:Nat} {y:WayT} (h:(qj q.C q.w q.k q.f q.T q.r p)[j]?=some y):∃m,m∈kz q.w q.k q.f p/\y=wayE q.C q.w q.k q.f q.T q.r m:=by
 unfold qj at h
 rw [List.getElem?_map]at h
 cases hm:(kz q.w q.k q.f p)[j]? with
 |none=>rw [hm]at h;cases h
 |some m=>rw [hm]at h;cases h;exact ⟨m,List.mem_of_getElem? hm,rfl⟩
theorem Yy {q:Par} (gt:ja q.T) (fw:Few q.T 100) (hw:q.w<=16) (hk:q.k<=16) (m:Move):(wayE q.C q.w q.k q.f q.T q.r m).2.2.2.length<=30301:=by
 show (lh q.T q.r ((jv q.w q.k q.f m).map (numI q.w q.k))).length<=30301
 have h1:=Cr gt fw q.r ((jv q.w q.k q.f m).map (numI q.w q.k))
 rw [List.length_map]at h1
 have h2:=Kn (w:=q.w) (k:=q.k) (f:=q.f) (m:=m) hw hk
 have h3:(jv q.w q.k q.f m).length*(100+1)<=300*101:=Nat.mul_le_mul h2 (by omega)
 omega
theorem Ua {α β:Type} {f:β->α->β} {S:β} {L:List α} {i:Nat} {s:α} (h:L[i]?=some s):(L.take (i+1)).foldl f S=f ((L.take i).foldl f S) s:=Lj h
theorem aj5 {G h a ae ah Bx:Hp} {R:List Hp} {q:Par} {sp kp ms mw mp mt hp xn xo:Nat} {c:Cs} {S:SS} {L:List Go.Proofs.Wt.It} {n t0:Int} {p0:Pose} {z:Move} {x:St Pose Move} {k:Nat} {raws:List RawW} {sa:Option Addr} {cap:Nat} {KK:EK}
 (ss:Srs q a ae ah ms mw mp mt hp c S L n) (bg:Bg G q sp kp ms mw mp mt hp) (ok:px q.E) (v:Inv q.E p0 t0 z x.a S) (hx:S[k]?=some x) (hd:x.dn=true) (ha:0<=x.a) (hox:df q.w q.k q.f x.p=true) (hw16:q.w<=16) (hk16:q.k<=16)
 (fb:Fbx q Bx xn xo x) (wsl:Slc rq 232 c.P (.slice sa raws.length cap) raws) (hrl:raws.length=(qj q.C q.w q.k q.f q.T q.r x.p).length)
 (hraw:∀(i:Nat) (x':RawW) (y:WayT),raws[i]?=some x'->(qj q.C q.w q.k q.f q.T q.r x.p)[i]?=some y->x'.m=y.1/\x'.d=y.2.2.1/\x'.n=y.2.2.2.length/\Slc lw 151 c.P (.slice x'.a x'.n x'.c) y.2.2.2) (hn:n<=34000000000)
 (s:HL.Sep (a::ae::ah::Bx::R) h) (d:Dis G h) (r:Rg) (g0:r 0 = .pointer (some ⟨sp,0,none⟩)) (g2:r 2 = .int .i64 x.a) (g4:r 4 = .pointer (some ⟨xn,0,none⟩)) (g7:r 7 = .pointer (some ⟨xo,0,none⟩)) (g31:r 31 = .slice sa raws.length cap) (g32:r 32 = .int .i64 raws.length) (g33:r 33 = .int .i64 0)
 (H:∀(r':Rg) h' a' ae' ah' c' L' n',Srs q a' ae' ah' ms mw mp mt hp c' (yp q.E x k S) L' n'->c.le c'->n<=n'->n'<=n+2000000->HL.Sep (a'::ae'::ah'::Bx::R) h'->Dis G h'->KK (.exit 0) r' h'):
 dc (U4 G) r h KK:=by
 have hn0:=ss.n0
 have hml:(qj q.C q.w q.k q.f q.T q.r x.p).length<=65:=by unfold qj;rw [List.length_map];exact K5
 refine ci (fun m r' h'=>∃(j:Nat) (a' ae' ah':Hp) (c':Cs) (L':List Go.Proofs.Wt.It) (n':Int),m=raws.length-j/\j<=raws.length/\Srs q a' ae' ah' ms mw mp mt hp c' (((qj q.C q.w q.k q.f q.T q.r x.p).take j).foldl (rx q.E x k) S) L' n'/\Inv q.E p0 t0 z x.a (((qj q.C q.w q.k q.f q.T q.r x.p).take j).foldl (rx q.E x k) S)/\(((qj q.C q.w q.k q.f q.T q.r x.p).take j).foldl (rx q.E x k) S)[k]?=some x/\
  c.le c'/\n<=n'/\n'<=n+j*30301/\HL.Sep (a'::ae'::ah'::Bx::R) h'/\Dis G h'/\r' 0=r 0/\r' 2=r 2/\r' 4=r 4/\r' 7=r 7/\r' 31=r 31/\r' 32=r 32/\r' 33 = .int .i64 j) ?_ (m:=raws.length)
  ⟨0,a,ae,ah,c,L,n,rfl,by omega,ss,v,hx,.refl _,by omega,by omega,s,d,rfl,rfl,rfl,rfl,rfl,rfl,g33⟩
 rintro m r1 h1 ⟨j,a1,ae1,ah1,c1,L1,n1,rfl,hj,ss1,v1,hx1,cl1,hn1,hn2,s1,d1,e0,e2,e4,e7,e31,e32,e33⟩ X hX
 unfold U4
 simp only [Fc,e32,g32,e33]
 refine bh (fun hlt=>?_) (fun hge=>?_)
 rotate_left
 . obtain rfl:j=raws.length:=by omega
   rw [hrl,List.take_length]at ss1
   exact H _ _ a1 ae1 ah1 c1 L1 n1 ss1 cl1 hn1 (by omega) s1 d1
 obtain ⟨y,hy⟩:∃u,(qj q.C q.w q.k q.f q.T q.r x.p)[j]?=some u:=⟨_,List.getElem?_eq_getElem (by omega)⟩
 obtain ⟨xr,hxr⟩:∃u,raws[j]?=some u:=⟨_,List.getElem?_eq_getElem (by omega)⟩
 obtain ⟨q1,q2,q3,q4⟩:=hraw j xr y hxr hy
 obtain ⟨mv,hmv,hye⟩:=Fx hy
 have hym:y∈q.E.ways x.p:=List.mem_of_getElem? hy
 have hyl:y.2.2.2.length<=30301:=by rw [hye];exact Yy bg.gt bg.fw hw16 hk16 mv
 have hstep:((qj q.C q.w q.k q.f q.T q.r x.p).take (j+1)).foldl (rx q.E x k) S=rx q.E x k (((qj q.C q.w q.k q.f q.T q.r x.p).take j).foldl (rx q.E x k) S) y:=Ua hy
 obtain ⟨b,o,rfl,hc⟩:=Sees.way ((wsl.le cl1.p).see (G:=G) (by decide) (ss1.ch.pool.trans (s1.in 0 rfl))) hxr
 have cr:∀(i:Nat),i<13->aa G h1 ⟨b,o+j*13+i,none⟩=(rq.enc xr)[i]?:=hc
 have cr0:=cr 0 (by decide)
 have cr1:=cr 1 (by decide)
 have cr2:=cr 2 (by decide)
 have cr3:=cr 3 (by decide)
 have cr4:=cr 4 (by decide)
 have cr5:=cr 5 (by decide)
 have cr6:=cr 6 (by decide)
 have cr7:=cr 7 (by decide)
 have cr8:=cr 8 (by decide)
 have cr9:=cr 9 (by decide)
 have cr10:=cr 10 (by decide)
 have cr11:=cr 11 (by decide)
 have cr12:=cr 12 (by decide)
 simp only [rq,Nat.add_zero,List.getElem?_cons_zero,List.getElem?_cons_succ]at cr0 cr1 cr2 cr3 cr4 cr5 cr6 cr7 cr8 cr9 cr10 cr11 cr12
 unfold Mm
 simp (disch:=first|decide|exact ao|exact am|omega|rfl) only [Fc,e31,g31,e33,ix229 (Int.natCast_nonneg j) hlt,cr0,cr1,cr2,cr3,cr4,cr5,cr6,cr7,cr8,cr9,cr10,cr11,cr12]
 intro xw hxw gxw
 have s2:=s1.new (o:=wayO xr.m xr.d xr.a xr.n xr.c) hxw
 have d2:=d1.set (o:=wayO xr.m xr.d xr.a xr.n xr.c) gxw
 have hws:(h1.set xw (wayO xr.m xr.d xr.a xr.n xr.c)) xw=some (wayO xr.m xr.d xr.a xr.n xr.c):=af
 simp only [wayO]at s2 d2 hws
 generalize Hp.set h1 xw _=h2 at s2 d2 hws ⊢
 have hws':=hws
 generalize hob:Obj.cells #[xr.m.k,xr.m.d,xr.m.n,xr.m.f.x,xr.m.f.y,.bool xr.m.f.d,xr.m.t.x,xr.m.t.y,.bool xr.m.t.d,xr.m.a,xr.m.e,xr.d,.slice xr.a xr.n xr.c] 232 (0,0)=ob at s2 d2 hws
 have s3:=HL.Sep.fr [noHp.set xw ob,a1,ae1,ah1,Bx] (R:=R) s2 [4,0,1,2,3] (by decide) rfl
 obtain ⟨Bx',s4,t4⟩:=HL.Sep.pack [Bx,noHp.set xw ob] (R:=a1::ae1::ah1::R) s3
 have s5:=HL.Sep.fr [Bx',a1,ae1,ah1] (R:=R) s4 [1,2,3,0] (by decide) rfl
 have hbw:Bx' xw=some (wayO y.1 y.2.2.1 xr.a y.2.2.2.length xr.c):=by
  have:=t4.at 1 rfl (x:=xw) (o:=ob) af
  rw [this,<- hob,q1,q2,q3]
 have fb':Fbx q Bx' xn xo x:=⟨t4.at 0 rfl fb.n,t4.at 0 rfl fb.o⟩
 rw [q3]at q4
 have hyp:y.2.1=y.1.t:=by rw [hye];rfl
 refine from_in ss1 bg ok v1 hx1 hd ha hox hym hyp fb' hbw (q4.le cl1.p) (by omega) s5 d2 _ (by simp (disch:=omega) only [aq,e0,g0]) (by simp (disch:=omega) only [aq,e2,g2]) (by simp (disch:=omega) only [aq,e4,g4]) (by simp (disch:=omega) only [aq,e7,g7]) (by simp (disch:=decide) only [Fc]) (by simp (disch:=decide) only [Fc,q3]) (by simp (disch:=decide) only [Fc,q3]) (by simp only [Fc]) ?_
 intro r3 h3 a3 ae3 ah3 c3 L3 n3 ss3 v3 hx3 cl3 m1 m2 s6 d6 f0 f2 f4 f7 f31 f32 f33
 have s7:HL.Sep (Bx'::a3::ae3::ah3::R) h3:=HL.Sep.fr [a3,ae3,ah3,Bx'] (R:=R) s6 [3,0,1,2] (by decide) rfl
 have s8:HL.Sep (a3::ae3::ah3::Bx::R) h3:=HL.Sep.fr [Bx,noHp.set xw ob,a3,ae3,ah3] (R:=R) (HL.Sep.open (L:=[Bx,noHp.set xw ob]) (R:=a3::ae3::ah3::R) s7 t4) [2,3,4,0] (by decide) rfl
 simp (disch:=omega) only [aq]at f0 f2 f4 f7 f31 f32 f33
 show Eg G (bw X KK) r3 h3
 unfold Eg
 simp (disch:=first|decide|omega) only [Fc,f33,e33]
 refine hX (raws.length-(j+1)) _ _ (by omega) ⟨j+1,a3,ae3,ah3,c3,L3,n3,rfl,by omega,by rw [hstep];exact ss3,by rw [hstep];exact v3,by rw [hstep];exact hx3,cl1.trans cl3,by omega,by omega,s8,d6,by simp (disch:=omega) only [aq,f0,e0],by simp (disch:=omega) only [aq,f2,e2],by simp (disch:=omega) only [aq,f4,e4],by simp (disch:=omega) only [aq,f7,e7],by simp (disch:=omega) only [aq,f31,e31],by simp (disch:=omega) only [aq,f32,e32],by simp only [Fc];rfl⟩
def wt:=jq bC (jq (jq (jq (jq @al151 @al30) (jq @cf121 @cf66)) (jq (jq @Hx @Se) (jq @Sd @D0))) (jq (jq (jq @T2 @ld151p) (jq @ld30 @wp)) (jq (jq @ld3p @ln229) (jq @ii (jq @Te @xe)))))
theorem join3 {a b c h:Hp} {R:List Hp} (s:HL.Sep (a::b::c::R) h):∃q:Hp,a.le q/\b.le q/\c.le q/\∀h':Hp,a.le h'->b.le h'->c.le h'->q.le h':=by
 have a1:p9 a b:=s.apart (by simp)
 have a2:p9 a c:=s.apart (by simp)
 have a3:p9 b c:=s.drop.apart (by simp)
 have a4:p9 a (b.join c):=fun x=>by
  rcases a1 x with e|e
  . exact .inl e
  . rcases a2 x with e'|e'
    . exact .inl e'
    . right;unfold Hp.join;rw [e];exact e'
 refine ⟨a.join (b.join c),Hp.le_join,Hp.le_join.trans (Hp.le_join2 a4),(Hp.le_join2 a3).trans (Hp.le_join2 a4),fun h' l1 l2 l3 x o e=>?_⟩
 unfold Hp.join at e
 cases hx:a x with
 |some u=>rw [hx]at e;cases e;exact l1 _ _ hx
 |none=>
  rw [hx]at e
  simp only at e
  cases hy:b x with
  |some u=>rw [hy]at e;cases e;exact l2 _ _ hy
  |none=>rw [hy]at e;exact l3 _ _ e
theorem Z8 {G h a ae ah ak:Hp} {R:List Hp} {q:Par} {sp kp ms mw mp mt hp:Nat} {c:Cs} {S:SS} {L:List Go.Proofs.Wt.It} {n t0:Int} {p0:Pose} {z:Move} {x:St Pose Move} {k:Nat}
 (ss:Srs q a ae ah ms mw mp mt hp c S L n) (kpk:KP ak kp q.C.un q.C.ac q.C.sp) (bg:Bg G q sp kp ms mw mp mt hp) (ok:px q.E) (v:Inv q.E p0 t0 z x.a S) (hx:S[k]?=some x) (hd:x.dn=true) (ha:0<=x.a) (hn:n<=34000000000)
 (s:HL.Sep (a::ae::ah::ak::R) h):
 aj P_ G 70 #[.pointer (some ⟨sp,0,none⟩),ndV (ul q.w q.k x),x.a] h (fun _ h'=>∃a' ae' ah' ak' c' L' n',Srs q a' ae' ah' ms mw mp mt hp c' (yp q.E x k S) L' n'/\KP ak' kp q.C.un q.C.ac q.C.sp/\c.le c'/\n<=n'/\n'<=n+2000000/\HL.Sep (a'::ae'::ah'::ak'::R) h'/\Dis G h'):=by
 obtain ⟨ab,cb,ap,cp,ar,cr,az,cs,gp,tp,hbg⟩:=id bg.ex
 have hxm:=List.mem_of_getElem? hx
 have hox:df q.w q.k q.f x.p=true:=v.ok x hxm
 obtain ⟨hsi,hs1,hs2⟩:=v.at_ x hxm
 obtain ⟨hk1,hk3⟩:=ss.kept x hxm
 refine aj.assume fun d=>enter70 (by simp) ?_
 obtain ⟨_,_,gs,_⟩:=hbg h d
 have hw16:=gs.w2
 have hk16:=gs.k2
 unfold S70
 simp only [ul]
 simp only [wt]
 intro xn hxn gxn
 have s1:=s.new (o := .cells #[(numP q.w q.k x.p),(x.i:Int)] 137 (0,0)) hxn
 have d1:=d.set (o := .cells #[(numP q.w q.k x.p),(x.i:Int)] 137 (0,0)) gxn
 generalize hon:Obj.cells #[(numP q.w q.k x.p),(x.i:Int)] 137 (0,0)=on at s1 d1 ⊢
 generalize Hp.set h xn _=h1 at s1 d1 ⊢
 have cn1:∀k,aa G h1 ⟨xn,k,none⟩=_:=fun k=>ai (ag ((s1.at 0 rfl af).trans (by rw [hon])))
 obtain ⟨o1,o2,o3,m1,m2,m3,sa⟩:=id ss.ch.sep
 have hmp:h1 mp=some o3:=(HL.Sep.open (s1.pick 1 rfl rfl) sa).at 2 rfl af
 have b1:=ux (hbg h1 d1).2.1
 try simp only [wt,b1.mp,cn1]
 rw [E0 unmp un3r zerop (ag hmp) m3,hk3,Option.getD_some]
 intro xp hxp gxp
 try simp (disch:=first|decide|exact ao|exact am|omega|rfl) only [wt]
 have s2:=s1.new (o := .cells #[x.p.x,x.p.y,.bool x.p.d] 30 (0,0)) hxp
 have d2:=d1.set (o := .cells #[x.p.x,x.p.y,.bool x.p.d] 30 (0,0)) gxp
 generalize hop:Obj.cells #[x.p.x,x.p.y,.bool x.p.d] 30 (0,0)=op at s2 d2 ⊢
 generalize Hp.set h1 xp _=h2 at s2 d2 ⊢
 have s2o:HL.Sep ([noHp.set ms o1,noHp.set mw o2,noHp.set mp o3,c.P]++([noHp.set xp op,noHp.set xn on,ae,ah,ak]++R)) h2:=HL.Sep.open (R:=[noHp.set xp op,noHp.set xn on,ae,ah,ak]++R) (s2.pick 2 rfl rfl) sa
 obtain ⟨q9,l1,l2,l3,l4⟩:=join3 (R:=[]) (HL.Sep.sel (L':=[noHp.set xn on,noHp.set xp op,c.P]) (HL.Sep.take s2o 6 rfl) [5,4,3] (by decide) rfl)
 have lq2:q9.le h2:=l4 h2 (s2.in 1 rfl) (s2.in 0 rfl) (ss.ch.pool.trans (s2.in 2 rfl))
 have cq:∀k,aa G q9 ⟨xp,k,none⟩=_:=fun k=>ai (ag ((l2 _ _ af).trans (by rw [hop])))
 have cqn:∀k,aa G q9 ⟨xn,k,none⟩=_:=fun k=>ai (ag ((l1 _ _ af).trans (by rw [hon])))
 refine ⟨q9,lq2,?_⟩
 try simp only [wt,cq]
 refine (lm ss.ch bg (HL.Sep.fr (R:=R) [noHp.set xp op,noHp.set xn on,a,ae,ah,ak] s2 [2,3,4,5,1,0] (by decide) rfl) hox).mono ?_
 rintro u h3 ⟨a3,c3,ch3,cl3,e2,hu,hu3,s3,d3⟩
 have s3:HL.Sep (a3::ae::ah::ak::noHp.set xn on::noHp.set xp op::R) h3:=s3
 refine ⟨l4 h3 (s3.in 4 rfl) (s3.in 5 rfl) (cl3.p.trans (ch3.pool.trans (s3.in 0 rfl))),?_⟩
 obtain ⟨u0,hu0⟩:=Option.isSome_iff_exists.1 hk1
 have huu:=cl3.l1 _ _ hu0
 rw [hu]at huu
 cases huu
 have slu:=ss.ch.look1 hox hu0
 obtain ⟨sv,cv,rfl,_⟩:=slu.len (by decide)
 have hsi':(ku q.w q.k q.T q.r x.p)[x.i]?=some x.s:=hsi
 obtain ⟨b,o,rfl,z1,z2⟩:=Sees.span (slu.see (G:=G) (by decide) l3) hsi'
 have hlt:=(List.getElem?_eq_some_iff.1 hsi').1
 have hlti:(x.i:Int)<((ku q.w q.k q.T q.r x.p).length:Int):=Int.ofNat_lt.2 hlt
 simp (disch:=first|decide|exact ao|exact am|omega|rfl) only [wt,cqn,Ro (Int.natCast_nonneg x.i) hlti,z1,z2]
 intro xo hxo gxo
 have s4:=s3.new (o := .cells #[x.s.1,x.s.2] 151 (0,0)) hxo
 have d4:=d3.set (o := .cells #[x.s.1,x.s.2] 151 (0,0)) gxo
 generalize hoo:Obj.cells #[x.s.1,x.s.2] 151 (0,0)=oo at s4 d4 ⊢
 generalize Hp.set h3 xo _=h4 at s4 d4 ⊢
 have s4:HL.Sep (noHp.set xo oo::a3::ae::ah::ak::noHp.set xn on::noHp.set xp op::R) h4:=s4
 have cx4:∀k,aa G h4 ⟨xp,k,none⟩=_:=fun k=>ai (ag ((s4.at 6 rfl af).trans (by rw [hop])))
 try simp only [wt,cx4]
 refine (Qd ch3 kpk bg (HL.Sep.fr (R:=R) [noHp.set xo oo,a3,ae,ah,ak,noHp.set xn on,noHp.set xp op] s4 [1,4,2,3,0,5,6] (by decide) rfl) hox).mono ?_
 rintro u h5 ⟨a5,ak5,c5,ch5,kp5,cl5,e5,hu5,s5,d5⟩
 have s5:HL.Sep (a5::ak5::ae::ah::noHp.set xo oo::noHp.set xn on::noHp.set xp op::R) h5:=s5
 obtain ⟨raws,wsl,hrl,hraw⟩:=ch5.look2 hox hu5
 obtain ⟨sw,cw,rfl,_⟩:=wsl.len (by decide)
 try simp only [wt]
 have cl:=cl3.trans cl5
 have ss5:Srs q a5 ae ah ms mw mp mt hp c5 S L n:=⟨ch5,ss.st,ss.hp,ss.ok,ss.qi,ss.kept.le cl,ss.n0,ss.ln⟩
 have s6:HL.Sep ([noHp.set xn on,noHp.set xo oo]++(a5::ae::ah::ak5::R)) h5:=HL.Sep.fr (R:=R) [a5,ak5,ae,ah,noHp.set xo oo,noHp.set xn on,noHp.set xp op] s5 [5,4,0,2,3,1] (by decide) rfl
 obtain ⟨Bx,s7,t7⟩:=HL.Sep.pack [noHp.set xn on,noHp.set xo oo] (R:=a5::ae::ah::ak5::R) s6
 have fb:Fbx q Bx xn xo x:=⟨(t7.at 0 rfl af).trans (by rw [hon]),(t7.at 1 rfl af).trans (by rw [hoo])⟩
 refine aj5 ss5 bg ok v hx hd ha hox hw16 hk16 fb wsl hrl hraw hn (R:=ak5::R) (HL.Sep.fr (R:=R) [Bx,a5,ae,ah,ak5] s7 [1,2,3,0,4] (by decide) rfl) d5 _ (by simp (disch:=omega) only [aq];rfl) (by simp (disch:=omega) only [aq];rfl) (by simp (disch:=decide) only [wt]) (by simp (disch:=decide) only [wt]) (by simp (disch:=decide) only [wt]) (by simp (disch:=decide) only [wt]) (by simp only [wt]) ?_
 intro r' h8 a8 ae8 ah8 c8 L8 n8 ss8 cl8 m1 m2 s8 d8
 exact ⟨a8,ae8,ah8,ak5,c8,L8,n8,ss8,kp5,cl.trans cl8,m1,m2,HL.Sep.fr (R:=R) [a8,ae8,ah8,Bx,ak5] s8 [0,1,2,4] (by decide) rfl,d8⟩
end Go.Proofs.YtfflipnhffknnaaGreatDoor
end
section
namespace Go.Proofs.YtfflipnhffknnaaGreatDoor
open Go Go.HL
def uy:=jq bC (jq (jq @ix40p @ld48p) (jq @ln40 (jq @ls @ji)))
def rf {α:Type} (L M:List α) (i:Nat):Prop:=M.length=L.length/\∀p:Nat,p<L.length->M[p]?=if p<i\/L.length-i<=p then L[L.length-1-p]? else L[p]?
theorem rf.zero {α:Type} {L:List α}:rf L L 0:=⟨rfl,fun p hp=>by rw [if_neg (by omega)]⟩
theorem rf.all {α:Type} {L M:List α} {i:Nat} (f:rf L M i) (h:L.length<=2*i+1):M=L.reverse:=by
 refine List.ext_getElem? fun p=>?_
 by_cases hp:p<L.length
 . rw [f.2 p hp,List.getElem?_reverse hp]
   split
   . rfl
   . congr 1
     omega
 . rw [List.getElem?_eq_none (by rw [f.1];omega),List.getElem?_eq_none (by simp;omega)]
theorem rf.next {α:Type} {L M:List α} {i:Nat} {x y:α} (f:rf L M i) (h:2*i+1<L.length) (hx:M[i]?=some x) (hy:M[L.length-1-i]?=some y):rf L ((M.set i y).set (L.length-1-i) x) (i+1):=by
 refine ⟨by rw [List.length_set,List.length_set,f.1],fun p hp=>?_⟩
 have e1:L[i]?=some x:=by rw [<- hx,f.2 i (by omega),if_neg (by omega)]
 have e2:L[L.length-1-i]?=some y:=by rw [<- hy,f.2 _ (by omega),if_neg (by omega)]
 by_cases h1:p=L.length-1-i
 . subst h1
   rw [List.getElem?_set_self (by rw [List.length_set,f.1];omega),if_pos (by omega),show L.length-1-(L.length-1-i)=i by omega,e1]
 . rw [List.getElem?_set_ne (by omega)]
   by_cases h2:p=i
   . subst h2
     rw [List.getElem?_set_self (by rw [f.1];omega),if_pos (by omega),e2]
   . rw [List.getElem?_set_ne (by omega),f.2 p hp]
     by_cases h3:p<i\/L.length-i<=p
     . rw [if_pos h3,if_pos (by omega)]
     . rw [if_neg h3,if_neg (by omega)]
theorem Sees.mvx {G h:Hp} {sa:Option Addr} {cap n:Nat} {L:List Move} (s:Sees mu G h (.slice sa n cap) L) {i:Nat} {m:Move} (hx:L[i]?=some m):
 ∃b o,sa=some ⟨b,o,none⟩/\aa G h ⟨b,o+i*11,none⟩=some (.int .i64 m.k)/\aa G h ⟨b,o+i*11+1,none⟩=some (.int .i64 m.d)/\aa G h ⟨b,o+i*11+2,none⟩=some (.int .i64 m.n)/\aa G h ⟨b,o+i*11+3,none⟩=some (.int .i64 m.f.x)/\aa G h ⟨b,o+i*11+4,none⟩=some (.int .i64 m.f.y)/\aa G h ⟨b,o+i*11+5,none⟩=some (.bool m.f.d)/\aa G h ⟨b,o+i*11+6,none⟩=some (.int .i64 m.t.x)/\aa G h ⟨b,o+i*11+7,none⟩=some (.int .i64 m.t.y)/\aa G h ⟨b,o+i*11+8,none⟩=some (.bool m.t.d)/\aa G h ⟨b,o+i*11+9,none⟩=some (.int .i64 m.a)/\aa G h ⟨b,o+i*11+10,none⟩=some (.int .i64 m.e):=by
 obtain ⟨s',cap',e,_,hc⟩:=s
 cases e
 rcases hc with rfl|⟨b,o,rfl,hc⟩
 . simp at hx
 . have e2:=fun j hj=>hc i m hx j hj
   exact ⟨b,o,rfl,e2 0 (by decide),e2 1 (by decide),e2 2 (by decide),e2 3 (by decide),e2 4 (by decide),e2 5 (by decide),e2 6 (by decide),e2 7 (by decide),e2 8 (by decide),e2 9 (by decide),e2 10 (by decide)⟩
theorem Vk {G h:Hp} {b i:Nat} {M:List Move} {t:List Value} {j:Move} {K:Unit->Hp->Prop} (hb:h b=some (.cells (mu.rows M++t).toArray 48 (0,0))) (hi:i<M.length):
 wpH P_ G (Instr.storeAt 48 (.pointer (some ⟨b,i*11,none⟩)) (Cg j)) h K=K () (h.set b (.cells (mu.rows (M.set i j)++t).toArray 48 (0,0))):=by
 rw [qk (n:=11) sz48 hb rfl (by rw [List.length_append,mu.rows_length,show mu.n=11 from rfl];omega) (by intro v hv;simp [Value.cells]at hv;rcases hv with rfl|rfl|rfl|rfl|rfl|rfl|rfl|rfl|rfl|rfl|rfl<;>rfl)]
 have:=mu.rows_put (t:=t) (x:=j) hi
 rw [<- this]
 rfl
theorem Zg {G h a:Hp} {R:List Hp} {v:Value} {L:List Move} (s:HL.Sep (a::R) h) (o:Slc mu 48 a v L) (hL:L.length<=1000000):aj P_ G 120 #[v] h (fun u h'=>∃a',Slc mu 48 a' v L.reverse/\HL.Sep (a'::R) h'/\Dis G h'):=by
 refine aj.assume fun d=>as5 (by simp) ?_
 unfold S120
 obtain ⟨sa,cap,rfl,_⟩:=o.len (by decide)
 simp (disch:=first|decide|omega) only [uy]
 generalize hKK:retK P_ G _ _=KK
 refine ci (fun m q h3=>∃(i:Nat) (a:Hp) (M:List Move),m=L.length-i/\2*i<=L.length+1/\q 0 = .slice sa L.length cap/\q 2 = .int .i64 i/\q 3 = .int .i64 ((L.length:Int)-1-i)/\Slc mu 48 a (.slice sa L.length cap) M/\rf L M i/\HL.Sep (a::R) h3/\Dis G h3) ?_
  (m:=L.length) ⟨0,a,L,rfl,by omega,by simp (disch:=decide) only [uy],by simp (disch:=decide) only [uy]<;>rfl,by simp only [uy];simp,o,rf.zero,s,d⟩
 clear s o d
 rintro m q h3 ⟨i,a,M,rfl,hi,q0,q2,q3,o,fl,s3,d3⟩ X HX
 unfold Yh
 simp only [uy,q2,q3]
 refine bh (fun hlt=>?_) (fun hge=>?_)
 rotate_left
 . try simp (disch:=first|decide|omega) only [uy,Nat.reduceAdd,Nat.reduceMul]
   rw [<- hKK]
   try simp only [uy]
   rw [fl.all (by omega)]at o
   exact ⟨a,o,s3,d3⟩
 have hij:2*i+1<L.length:=by omega
 obtain ⟨j,ej⟩:∃j:Nat,j=L.length-1-i:=⟨_,rfl⟩
 have ejn:(L.length:Int)-1-(i:Int)=(j:Int):=by omega
 rw [ejn]at q3
 have hil:(i:Int)<L.length:=by omega
 have hjl:(j:Int)<L.length:=by omega
 obtain ⟨x,hx⟩:∃x,M[i]?=some x:=⟨_,List.getElem?_eq_getElem (by rw [fl.1];omega)⟩
 obtain ⟨y,hy⟩:∃y,M[j]?=some y:=⟨_,List.getElem?_eq_getElem (by rw [fl.1];omega)⟩
 have sv:=o.sees (G:=G) (by decide) (s3.in 0 rfl)
 obtain ⟨b,of,rfl,x0,x1,x2,x3,x4,x5,x6,x7,x8,x9,x10⟩:=Sees.mvx sv hx
 obtain ⟨b',of',e',y0,y1,y2,y3,y4,y5,y6,y7,y8,y9,y10⟩:=Sees.mvx sv hy
 cases e'
 obtain ⟨ob,o'⟩:=o
 cases ob with
 |none=>exact absurd o'.2 (fun e=>by rw [e]at hx;simp at hx)
 |some ob=>
 obtain ⟨cap',t,e9,hb,hbl⟩:=o'
 rw [fl.1]at e9
 simp only [Value.slice.injEq,Option.some.injEq,Addr.mk.injEq,and_true,true_and]at e9
 obtain ⟨⟨rfl,rfl⟩,rfl⟩:=e9
 rw [Nat.zero_add]at x0 x1 x2 x3 x4 x5 x6 x7 x8 x9 x10 y0 y1 y2 y3 y4 y5 y6 y7 y8 y9 y10
 have hb3:=s3.at 0 rfl hb
 unfold Jp
 simp (disch:=first|decide|omega) only [uy,q0,q2,q3,ix40 (Int.natCast_nonneg i) hil,ix40 (Int.natCast_nonneg j) hjl,Int.toNat_natCast,x0,x1,x2,x3,x4,x5,x6,x7,x8,x9,x10,y0,y1,y2,y3,y4,y5,y6,y7,y8,y9,y10]
 rw [Vk (j:=y) hb3 (by rw [fl.1];omega)]
 have s4:=s3.put (o := .cells (mu.rows (M.set i y)++t).toArray 48 (0,0)) hb
 have d4:=d3.set (o := .cells (mu.rows (M.set i y)++t).toArray 48 (0,0)) (d3 _ _ hb3)
 generalize Hp.set h3 b _=h4 at s4 d4 ⊢
 try simp (disch:=first|decide|omega) only [uy,Nat.reduceAdd,Nat.reduceMul,q0,q3,ix40 (Int.natCast_nonneg j) hjl,Int.toNat_natCast]
 rw [Vk (j:=x) (s4.at 0 rfl af) (by rw [List.length_set,fl.1];omega)]
 have s5:=s4.put (o := .cells (mu.rows ((M.set i y).set j x)++t).toArray 48 (0,0)) af
 rw [set_set]at s5
 have d5:=d4.set (o := .cells (mu.rows ((M.set i y).set j x)++t).toArray 48 (0,0)) (d4 _ _ (s4.at 0 rfl af))
 generalize Hp.set h4 b _=h5 at s5 d5 ⊢
 have fn:=fl.next hij hx (by rw [<- ej];exact hy)
 rw [<- ej]at fn
 unfold Jo
 simp (disch:=first|decide|omega) only [uy,q2,q3]
 refine HX (L.length-(i+1)) _ _ (by omega) ⟨i+1,_,_,rfl,by omega,by simp (disch:=decide) only [uy,q0],by simp (disch:=decide) only [uy]<;>rfl,by simp only [uy]<;>(congr 1;omega),⟨some b,cap,t,by rw [fn.1],af,?_⟩,fn,s5,d5⟩
 rw [<- hbl,List.length_append,List.length_append,mu.rows_length,mu.rows_length,List.length_set,List.length_set]
end Go.Proofs.YtfflipnhffknnaaGreatDoor
end
section
namespace Go.Proofs.YtfflipnhffknnaaGreatDoor
open Go Go.HL Go.Proofs.Resv Go.Proofs.Srch
def sf:=jq bC (jq (jq (jq @bne_self_eq_false.{0} (jq @av0 @cf120)) (jq @Hv (jq @am9 @fa146_1))) (jq (jq @Ba (jq @T1 @Tz)) (jq (jq @ld3 @ld48) (jq @jo @ii))))
theorem Uc:∀(n:Nat) (L:List Nat),L.Nodup->(∀x∈L,x<n)->L.length<=n
 |0,L,_,h=>by
  cases L with
  |nil=>simp
  |cons x L=>exact absurd (h x (.head _)) (by omega)
 |n+1,L,hn,h=>by
  by_cases hm:n∈L
  . have h1:=Uc n (L.erase n) (hn.erase n) (fun x hx=>by
     have h2:=h x (List.mem_of_mem_erase hx)
     have h3:x≠n:=(List.Nodup.mem_erase_iff hn).1 hx |>.1
     omega)
    rw [List.length_erase_of_mem hm]at h1
    have:=List.length_pos_of_mem hm
    omega
  . have:=Uc n L hn (fun x hx=>by
     have h2:=h x hx
     have h3:x≠n:=fun e=>hm (e▸hx)
     omega)
    omega
theorem Nw {w k:Nat} {f:Nat->Nat->Int} {p:Pose} (h:df w k f p=true) (hw:w<=16) (hk:k<=16):0<=numP w k p/\numP w k p<512:=by
 obtain ⟨e1,_,_,e4⟩:=yh (zr h)
 have:w*k<=16*16:=Nat.mul_le_mul hw hk
 unfold numP
 rw [e1]
 split<;>omega
theorem Td {q:Par} {p0:Pose} {t0 lo:Int} {z:Move} {S:SS} (v:Inv q.E p0 t0 z lo S) (gt:ja q.T) (fw:Few q.T 100) (hw:q.w<=16) (hk:q.k<=16):S.length<=110000:=by
 have hsl:∀x∈S,x.i<204:=fun x hx=>by
  have h1:=(List.getElem?_eq_some_iff.1 (v.at_ x hx).1).1
  have h2:(q.E.spans x.p).length=(lh q.T q.r ((bo x.p).map (numI q.w q.k))).length:=rfl
  have h3:=Cr gt fw q.r ((bo x.p).map (numI q.w q.k))
  rw [List.length_map,show (bo x.p).length=2 from rfl]at h3
  omega
 have h1:=Uc (512*204) (S.map fun x=>(numP q.w q.k x.p).toNat*204+x.i) ?_ ?_
 . rw [List.length_map]at h1;omega
 . refine List.Pairwise.map _ ?_ (List.pairwise_iff_getElem.2 fun i j hi hj hij=>?_) (R:=fun x y:St Pose Move=>x∈S/\y∈S/\¬(x.p=y.p/\x.i=y.i))
   . rintro x y ⟨hx,hy,hne⟩ e
     have b1:=Nw (v.ok x hx) hw hk
     have b2:=Nw (v.ok y hy) hw hk
     have c1:=hsl x hx
     have c2:=hsl y hy
     refine hne ⟨uj (v.ok x hx) (v.ok y hy) ?_,?_⟩<;>omega
   . exact ⟨List.getElem_mem hi,List.getElem_mem hj,List.pairwise_iff_getElem.1 v.keys i j hi hj hij⟩
 . intro n hn
   obtain ⟨x,hx,rfl⟩:=List.mem_map.1 hn
   have b1:=Nw (v.ok x hx) hw hk
   have c1:=hsl x hx
   omega
theorem Yx {q:Par} {p:Pose} {y:WayT} (h:y∈q.E.ways p):y.1.k≠0:=by
 obtain ⟨i,hi⟩:=List.getElem?_of_mem h
 obtain ⟨m,hm,rfl⟩:=Fx hi
 show m.k≠0
 obtain ⟨_,⟨d,n,_,_,_,_,rfl⟩|⟨_,rfl⟩⟩:=zn hm
 . show (1:Int)≠0;decide
 . show (2:Int)≠0;decide
theorem N2 {l:List (Nat × St Pose Move)}:(mr l).length<=l.length:=by
 induction l with
 |nil=>simp [mr]
 |cons x l ih=>
  cases l with
  |nil=>simp [mr]
  |cons y l=>simp only [mr,List.length_cons]at ih ⊢;omega
theorem Kw {G h a ae ah:Hp} {R:List Hp} {q:Par} {sp kp ms mw mp mt hp:Nat} {c:Cs} {S:SS} {L:List Go.Proofs.Wt.It} {n t0 lo:Int} {p0:Pose} {z:Move} {x:St Pose Move} {k:Nat}
 (ss:Srs q a ae ah ms mw mp mt hp c S L n) (bg:Bg G q sp kp ms mw mp mt hp) (v:Inv q.E p0 t0 z lo S) (hz:z.k=0) (hx:S[k]?=some x) (s:HL.Sep (a::ae::ah::R) h):
 aj P_ G 69 #[.pointer (some ⟨sp,0,none⟩),ndV (ul q.w q.k x)] h (fun u h'=>∃ip,Slc mu 48 ip u (path S S.length k [])/\(path S S.length k []).length<=110000/\HL.Sep (ip::a::ae::ah::R) h'/\Dis G h'):=by
 obtain ⟨ab,cb,ap,cp,ar,cr,az,cs,gp,tp,hbg⟩:=id bg.ex
 refine aj.assume fun d=>enter69 (by simp) ?_
 obtain ⟨_,_,gs,_⟩:=hbg h d
 have hS:∀x∈S,df q.w q.k q.f x.p=true:=v.ok
 have hSl:=Td v bg.gt bg.fw gs.w2 gs.k2
 obtain ⟨l,hch,hll⟩:=Lu v hx
 have hpath:=G5 hch S.length [] hll
 rw [List.append_nil]at hpath
 rw [hpath]
 have hml:=N2 (l:=l)
 obtain ⟨o,E,bb,km,sb,se⟩:=id ss.st
 unfold S69
 simp only [ul]
 simp only [sf]
 intro xn hxn gxn
 have s1:=s.past (o := .cells #[(numP q.w q.k x.p),(x.i:Int)] 137 (0,0)) hxn
 have d1:=d.set (o := .cells #[(numP q.w q.k x.p),(x.i:Int)] 137 (0,0)) gxn
 have hns:(h.set xn (.cells #[(numP q.w q.k x.p),(x.i:Int)] 137 (0,0))) xn=some (.cells #[(numP q.w q.k x.p),(x.i:Int)] 137 (0,0)):=af
 generalize Hp.set h xn _=h1 at s1 d1 hns ⊢
 have cn1:∀k,aa G h1 ⟨xn,k,none⟩=_:=fun k=>ai (ag hns)
 have b1:=ux (hbg h1 d1).2.1
 have hmt:h1 mt=some o:=(s1.pick 1 rfl rfl).open sb |>.at 0 rfl af
 have look:∀{h':Hp} {k':Nat} {x':St Pose Move},HL.look G h' mt=some o->S[k']?=some x'->∃e,E[k']?=some e/\bb e.2=some (pk (im q.w q.k S x'.b) x'.mv x'.a x'.dn)/\∀K,pw P_ G h' (Instr.lookup 131 (.map (some mt)) (.agg #[(numP q.w q.k x'.p),(x'.i:Int)]) false) K=K (.pointer (some ⟨e.2,0,none⟩)):=by
  intro h' k' x' hm hx'
  have hk:=ai8 v hx'
  rcases se.get (f:=q.f) hS (hS _ (List.mem_of_getElem? hx')) (i:=x'.i)with ⟨h0,_⟩|⟨j,e,y,h1,h2,h3,h4,h5⟩
  . rw [hk]at h0;cases h0
  . rw [hk]at h1
    cases h1
    rw [hx']at h3
    cases h3
    refine ⟨e,h2,h5,fun K=>?_⟩
    have:=Ez (K:=K) N1 unmt zerot hm km (k:=(numP q.w q.k x'.p,(x'.i:Int)))
    rw [h4,Option.getD_some]at this
    exact this
 obtain ⟨e0,he0,hb0,lk0⟩:=look (ag hmt) hx
 try simp only [sf,b1.mt,cn1,lk0]
 have kind:∀{k':Nat} {x':St Pose Move},S[k']?=some x'->(x'.b<0->x'.mv.k=0)/\(0<=x'.b->x'.mv.k≠0):=by
  intro k' x' hx'
  rcases v.by_ x' (List.mem_of_getElem? hx')with ⟨h1,_,_,h2⟩|⟨y,h1,_,_,_,⟨w,hw,_,_,_,_,_,_,_,_,hm⟩⟩
  . exact ⟨fun _=>by rw [h2];exact hz,fun h=>by omega⟩
  . refine ⟨fun h=>by omega,fun _=>?_⟩
    rw [hm]
    exact Yx hw
 generalize hKK:bj 0 _=KK
 refine ci (fun m r' h'=>∃(k':Nat) (x':St Pose Move) (l':List (Nat × St Pose Move)) (e':Nd × Nat) (ip:Hp) (M:List Move),m=l'.length/\Dr S k' l'/\S[k']?=some x'/\bb e'.2=some (pk (im q.w q.k S x'.b) x'.mv x'.a x'.dn)/\Slc mu 48 ip (r' 5) M/\M++mr l'=mr l/\r' 0 = .pointer (some ⟨sp,0,none⟩)/\r' 6 = .pointer (some ⟨e'.2,0,none⟩)/\HL.Sep (ip::a::ae::ah::R) h'/\Dis G h') ?_ (m:=l.length)
  ⟨k,x,l,e0,noHp,[],rfl,hch,hx,hb0,by simp (disch:=decide) only [sf];exact Slc.nil,rfl,by simp (disch:=decide) only [sf],by simp only [sf],s1.none,d1⟩
 rintro m r1 h2 ⟨k',x',l',e',ip,M,rfl,hc',hx',hbe,om,hM,e0',e6,s2,d2⟩ X hX
 unfold ay8
 have hbe2:h2 e'.2=some (pk (im q.w q.k S x'.b) x'.mv x'.a x'.dn):=(s2.pick 2 rfl rfl).open sb |>.at 1 rfl hbe
 have ce2:∀k,aa G h2 ⟨e'.2,k,none⟩=_:=fun k=>ai (ag hbe2)
 simp only [stpL]at ce2
 simp only [sf,e6,ce2]
 have hMl:M.length<=110000:=by
  have:=congrArg List.length hM
  rw [List.length_append]at this
  omega
 cases hc' with
 |start h0 hb=>
  rename_i x''
  rw [hx']at h0
  cases h0
  have hk0:=(kind hx').1 hb
  try simp only [sf,hk0,decide_true,Bool.not_true]
  rw [<- hKK]
  show U5 G _ _ _
  unfold U5
  simp (disch:=decide) only [sf]
  rw [show mr [(k',x')]=[]from rfl,List.append_nil]at hM
  subst hM
  refine (Zg s2 om (by omega)).mono ?_
  rintro _ h3 ⟨ip3,om3,s3,d3⟩
  try simp (disch:=first|decide|omega) only [sf,Nat.reduceAdd,Nat.reduceMul]
  exact ⟨ip3,om3,by rw [List.length_reverse];omega,s3,d3⟩
 |@step _ j x'' l'' h0 hb hc2=>
  rw [hx']at h0
  cases h0
  have hk0:=(kind hx').2 (by omega)
  try simp only [sf,show (x'.mv.k != 0)=true from by simpa using hk0]
  unfold Mo
  try simp (disch:=decide) only [sf,Nat.reduceAdd,e6,ce2]
  intro b hb' gb
  have s3:=s2.past (o := .cells #[x'.mv.k,x'.mv.d,x'.mv.n,x'.mv.f.x,x'.mv.f.y,.bool x'.mv.f.d,x'.mv.t.x,x'.mv.t.y,.bool x'.mv.t.d,x'.mv.a,x'.mv.e] 48 (0,0)) hb'
  have d3:=d2.set (o := .cells #[x'.mv.k,x'.mv.d,x'.mv.n,x'.mv.f.x,x'.mv.f.y,.bool x'.mv.f.d,x'.mv.t.x,x'.mv.t.y,.bool x'.mv.t.d,x'.mv.a,x'.mv.e] 48 (0,0)) gb
  have hbs:(h2.set b (.cells #[x'.mv.k,x'.mv.d,x'.mv.n,x'.mv.f.x,x'.mv.f.y,.bool x'.mv.f.d,x'.mv.t.x,x'.mv.t.y,.bool x'.mv.t.d,x'.mv.a,x'.mv.e] 48 (0,0))) b=_:=af
  generalize Hp.set h2 b _=h3 at s3 d3 hbs ⊢
  refine dw mu (by decide) un40 eomove (by decide) (by decide) (M:=[x'.mv]) s3 d3 om (Sees.row (c:=mu) (L:=[x'.mv]) hbs rfl (Nat.le_refl _)) (by simp;omega) fun v4 a4 h4 o4 s4 d4=>?_
  obtain ⟨y,hy⟩:∃y,S[j]?=some y:=by cases hc2<;>exact ⟨_,by assumption⟩
  obtain ⟨e1,he1,hb1,lk1⟩:=look (h':=h4) (ag ((s4.pick 2 rfl rfl).open sb |>.at 0 rfl af)) hy
  have hbe4:h4 e'.2=some (pk (im q.w q.k S x'.b) x'.mv x'.a x'.dn):=(s4.pick 2 rfl rfl).open sb |>.at 1 rfl hbe
  have hfr:im q.w q.k S x'.b=ul q.w q.k y:=by
   unfold im
   rw [if_neg (by omega),hb,Int.toNat_natCast,hy]
  rw [hfr]at hbe4
  have ce4:∀k,aa G h4 ⟨e'.2,k,none⟩=_:=fun k=>ai (ag hbe4)
  simp only [stpL,ul]at ce4
  have b4:=ux (hbg h4 d4).2.1
  unfold Mn
  try simp (disch:=decide) only [sf,e0',e6,b4.mt,ce4,lk1]
  refine hX l''.length _ _ (by simp) ⟨j,y,l'',e1,a4,M++[x'.mv],rfl,hc2,hy,hb1,by simp (disch:=decide) only [sf];exact o4,?_,by simp (disch:=decide) only [sf,e0'],by simp only [sf],s4,d4⟩
  rw [<- hM,List.append_assoc]
  congr 1
  cases hc2<;>rfl
def bRtS:=jq bC (jq (jq (jq (jq (jq @Bool.and_true @al139) (jq @al30 (jq @cf66 @cf68))) (jq (jq @cf69 (jq @cf70 @eq28)) (jq @eq30 (jq @Hx @Hv)))) (jq (jq (jq @Wo @Se) (jq @Sd (jq @Wn @an1))) (jq (jq @Wm (jq @an0 @am8)) (jq @Wl (jq @am7 @Sc))))) (jq (jq (jq (jq @F3 @ub) (jq @ak9 (jq @ak6 @D0))) (jq (jq @T2 (jq @T1 @ld132)) (jq @ld137 (jq @Tz @ld28)))) (jq (jq (jq @ld3 (jq @ld30 @wp)) (jq @ld3p (jq @ld4 @ld4p))) (jq (jq @jo (jq @ii @lr)) (jq @vc (jq @ad6 @xe))))))
theorem StE.look {w k:Nat} {f:Nat->Nat->Int} {b:Hp} {E:List (Nd × Nat)} {S:SS} (s:StE w k b E S) (hS:∀x∈S,df w k f x.p=true) {j:Nat} {x:St Pose Move} (hx:S[j]?=some x) (hk:Srch.key S x.p x.i=some j):
 ∃e,E[j]?=some e/\b e.2=some (pk (im w k S x.b) x.mv x.a x.dn)/\kget (E.map entV) (numP w k x.p,(x.i:Int))=some (.pointer (some ⟨e.2,0,none⟩)):=by
 rcases s.get (f:=f) hS (hS _ (List.mem_of_getElem? hx)) (i:=x.i)with ⟨h0,_⟩|⟨j',e,y,h1,h2,h3,h4,h5⟩
 . rw [hk]at h0;cases h0
 . rw [hk]at h1
   cases h1
   rw [hx]at h3
   cases h3
   exact ⟨e,h2,h5,h4⟩
theorem StE.done {w k:Nat} {b:Hp} {E:List (Nd × Nat)} {S:SS} (s:StE w k b E S) {j:Nat} {x:St Pose Move} {e:Nd × Nat} (hx:S[j]?=some x) (he:E[j]?=some e):
 StE w k (b.set e.2 (pk (im w k S x.b) x.mv x.a true)) E (take S j x):=by
 have hjS:j<S.length:=(List.getElem?_eq_some_iff.1 hx).1
 have e3:({ x with dn:=true }:St Pose Move).p=x.p:=rfl
 have e4:({ x with dn:=true }:St Pose Move).i=x.i:=rfl
 refine ⟨by unfold take;rw [List.length_set];exact s.len,s.nod,fun i e' y he' hy=>?_⟩
 unfold take at hy ⊢
 by_cases hij:j=i
 . subst hij
   rw [List.getElem?_set_self hjS]at hy
   rw [he]at he'
   cases he'
   cases hy
   refine ⟨(s.cel j e x he hx).1,?_⟩
   rw [af,Cq (y:={ x with dn:=true }) hx e3 e4]
 . rw [List.getElem?_set_ne hij]at hy
   obtain ⟨h1,h2⟩:=s.cel i e' y he' hy
   have hne:e'.2≠e.2:=fun h=>by
    have hl1:=(List.getElem?_eq_some_iff.1 he).1
    have hl2:=(List.getElem?_eq_some_iff.1 he').1
    have a1:(E.map (·.2))[j]?=some e.2:=by rw [List.getElem?_map,he];rfl
    have a2:(E.map (·.2))[i]?=some e'.2:=by rw [List.getElem?_map,he'];rfl
    rw [h,<- a1]at a2
    exact hij ((List.getElem?_inj (by simpa using hl1) s.nod).1 a2.symm)
   rw [au hne,Cq (y:={ x with dn:=true }) hx e3 e4]
   exact ⟨h1,h2⟩
def outL:Res Move->List Move
 | .ok l=>l
 | .no _=>[]
def outE:Res Move->Int
 | .ok _=>0
 | .no e=>e
structure Fz (G B:Hp) (q:Par) (sp kp ms mw mp mt hp xc xg:Nat) (gp:Pose) (any:Bool):Prop where
 bg:∀A h,HL.Sep [A,B] h->Dis G h->Bg (HL.under G h A) q sp kp ms mw mp mt hp
 rd:∃g tp,∀h,B.le h->Dis G h->BC G h sp g kp tp q.r ms mw mp mt hp
 gt:ja q.T
 fw:Few q.T 100
 w2:q.w<=16
 k2:q.k<=16
 bud:∀h,B.le h->Dis G h->aa G h ⟨xc,14,none⟩=some (.int .i64 q.C.bu)
 aim:B xg=some (.cells #[gp.x,gp.y,.bool gp.d,.bool any] 45 (0,0))
def lg (gp:Pose) (any:Bool) (p:Pose) (s:Sp):Bool:=((p.x==gp.x&&p.y==gp.y&&p.d==gp.d)||(any&&(p.x==gp.x&&p.y==gp.y)))&&(s.2==FV)
theorem Qj {P M:Type} [DecidableEq P] {E:Env P M} {goal:P->Sp->Bool} {n:Nat} {S:List (St P M)} {k:Nat} {x:St P M} (h:least E S=some (k,x)) (hg:goal x.p x.s=true):run E goal (n+1) S = .ok (path (take S k x) S.length k []):=by
 conv=>lhs;unfold run
 rw [h]
 simp only [hg,if_true]
theorem run_on {P M:Type} [DecidableEq P] {E:Env P M} {goal:P->Sp->Bool} {n:Nat} {S:List (St P M)} {k:Nat} {x:St P M} (h:least E S=some (k,x)) (hg:goal x.p x.s=false):run E goal (n+1) S=run E goal n (yp E { x with dn:=true } k (take S k x)):=by
 conv=>lhs;unfold run
 rw [h]
 simp [hg]
def OutR (G:Hp) (B:Hp) (W:Res Move) (u:Value) (h':Hp):Prop:=∃ip vs,u = .tuple #[vs,(outE W)]/\Slc mu 48 ip vs (outL W)/\(outL W).length<=110000/\HL.Sep [ip,B] h'/\Dis G h'
theorem Qo {G h A B a ae ah ak:Hp} {q:Par} {sp kp ms mw mp mt hp xc xg:Nat} {gp:Pose} {any:Bool} {c:Cs} {S:SS} {L:List Go.Proofs.Wt.It} {n t0 lo:Int} {p0:Pose} {z:Move} {N:Nat}
 (fz:Fz G B q sp kp ms mw mp mt hp xc xg gp any) (ok:px q.E) (ht0:0<=t0) (hN:(N:Int)=q.C.bu) (hN1:1<=N) (hN2:N<=4000) (hz:z.k=0)
 (ss:Srs q a ae ah ms mw mp mt hp c S L n) (kpk:KP ak kp q.C.un q.C.ac q.C.sp) (v:Inv q.E p0 t0 z lo S) (hn:n<=1)
 (sA:HL.Sep [a,ae,ah,ak] A) (s:HL.Sep [A,B] h) (d:Dis G h) (r:Rg) (g19:r 19 = .pointer (some ⟨sp,0,none⟩)) (g6:r 6 = .pointer (some ⟨xc,0,none⟩)) (g11:r 11 = .pointer (some ⟨xg,0,none⟩)) (g20:r 20 = .int .i64 0) (g15:r 15 = .int .i64 6) {Q:Value->Hp->Prop} (HQ:∀u h',OutR G B (run q.E (lg gp any) N S) u h'->Q u h'):
 dc (Vb G) r h (bj 0 (bw (El G (retK P_ G [.tmp 12,.tmp 13] Q)) (tz (retK P_ G [.tmp 12,.tmp 13] Q)))):=by
 obtain ⟨g,tp,hrd⟩:=fz.rd
 generalize hW:run q.E (lg gp any) N S=W at HQ
 generalize hKR:retK P_ G [.tmp 12,.tmp 13] Q=KR
 generalize hKK:bj 0 _=KK
 refine ci (fun m r' h'=>∃(i:Nat) (S':SS) (A' a' ae' ah' ak':Hp) (c':Cs) (L':List Go.Proofs.Wt.It) (n' lo':Int),m=(N-i)*40000000000+L'.length/\i<N/\run q.E (lg gp any) (N-i) S'=W/\Srs q a' ae' ah' ms mw mp mt hp c' S' L' n'/\KP ak' kp q.C.un q.C.ac q.C.sp/\Inv q.E p0 t0 z lo' S'/\n'<=1+i*2000000/\
  HL.Sep [a',ae',ah',ak'] A'/\HL.Sep [A',B] h'/\Dis G h'/\r' 19 = .pointer (some ⟨sp,0,none⟩)/\r' 6 = .pointer (some ⟨xc,0,none⟩)/\r' 11 = .pointer (some ⟨xg,0,none⟩)/\r' 20 = .int .i64 i/\r' 15 = .int .i64 6) ?_ (m:=N*40000000000+L.length)
  ⟨0,S,A,a,ae,ah,ak,c,L,n,lo,by simp,by omega,hW,ss,kpk,v,by omega,sA,s,d,g19,g6,g11,g20,g15⟩
 clear ss kpk v sA s d g19 g6 g11 g20 g15 hW
 rintro m r1 h1 ⟨i,S1,A1,a1,ae1,ah1,ak1,c1,L1,n1,lo1,rfl,hi,hW,ss,kpk,v,hn1,sA,s,d,e19,e6,e11,e20,e15⟩ X hX
 have b1:=hrd h1 (s.in 1 rfl) d
 unfold Vb
 simp only [bRtS,e19,b1.hp]
 obtain ⟨N',hN'⟩:∃N',N-i=N'+1:=⟨N-i-1,by omega⟩
 have sAh:HL.Sep [ah1,a1,ae1,ak1] A1:=sA.sel [2,0,1,3] (by decide) rfl
 have hLn:=ss.ln
 cases L1 with
 |nil=>
  refine (Hw.ai9 ss.hp (HL.Sep.open (R:=[B]) s sAh)).mono ?_
  rintro _ h2 ⟨rfl,rfl⟩
  simp only [Hw.pkV]
  try simp (disch:=first|decide|exact ao|exact am|omega|rfl) only [bRtS]
  intro xw hxw gxw
  have s2:=s.past (o := .cells #[(0:Int),(0:Int),(0:Int)] 139 (0,0)) hxw
  have d2:=d.set (o := .cells #[(0:Int),(0:Int),(0:Int)] 139 (0,0)) gxw
  generalize Hp.set h2 xw _=h3 at s2 d2 ⊢
  rw [<- hKK]
  show El G KR _ _
  unfold El
  have hr:W = .no 6:=by
   rw [<- hW,hN']
   unfold run
   rw [af7 ss.qi]
  rw [<- hKR]
  simp (disch:=decide) only [bRtS,e15]
  exact HQ _ _ ⟨noHp,_,by rw [hr];rfl,by rw [hr];exact Slc.nil,by rw [hr];simp [outL],(s2.drop).none,d2⟩
 |cons w L1=>
  obtain ⟨wk,wm,ws,wn⟩:=w
  obtain ⟨hok',hperm,hmin⟩:=Go.Proofs.Wt.pop_ok ss.ok
  obtain ⟨k,x,hxk,em,es,hstale,hfresh⟩:=popQ ok v ss.qi hmin (L':=Go.Proofs.Wt.popL (⟨wk,wm,ws,wn⟩::L1)) (List.Perm.cons_inv hperm).symm
  have em':wm=numP q.w q.k x.p:=em.symm
  have es':ws=(x.i:Int):=es.symm
  subst em' es'
  have hxm:=List.mem_of_getElem? hxk
  have hpl:=Go.Proofs.Wt.yd (⟨wk,numP q.w q.k x.p,(x.i:Int),wn⟩::L1)
  simp only [List.length_cons]at hpl hLn
  refine (Sep.on s (Hw.hpop (G:=HL.under G h1 A1) ss.hp sAh (by omega))).mono ?_
  rintro _ h2 ⟨A2,⟨rfl,ah2,hp2,sA2,dA2⟩,s2,d2⟩
  have sA2:HL.Sep [ah2,a1,ae1,ak1] A2:=sA2
  simp only [Hw.pkV]
  try simp (disch:=first|decide|exact ao|exact am|omega|rfl) only [bRtS]
  intro xw hxw gxw
  have s3:=s2.new (o := .cells #[wk,(numP q.w q.k x.p),(x.i:Int)] 139 (0,0)) hxw
  have d3:=d2.set (o := .cells #[wk,(numP q.w q.k x.p),(x.i:Int)] 139 (0,0)) gxw
  generalize how:Obj.cells #[wk,(numP q.w q.k x.p),(x.i:Int)] 139 (0,0)=ow at s3 d3 ⊢
  generalize Hp.set h2 xw _=h3 at s3 d3 ⊢
  have s3:HL.Sep [A2,B,noHp.set xw ow] h3:=s3.sel [1,2,0] (by decide) rfl
  have cw3:∀k,aa G h3 ⟨xw,k,none⟩=_:=fun k=>ai (ag ((s3.at 2 rfl af).trans (by rw [how])))
  have b3:=hrd h3 (s3.in 1 rfl) d3
  obtain ⟨o,E,bb,km,sb,se⟩:=id ss.st
  have sAe:HL.Sep [ae1,a1,ah2,ak1] A2:=sA2.sel [2,1,0,3] (by decide) rfl
  have sAo:HL.Sep [noHp.set mt o,bb,a1,ah2,ak1] A2:=HL.Sep.open (L:=[noHp.set mt o,bb]) (R:=[a1,ah2,ak1]) sAe sb
  have hmt3:h3 mt=some o:=(s3.in 0 rfl) _ _ (sAo.at 0 rfl af)
  obtain ⟨e,he,hbe,hkg⟩:=se.look (f:=q.f) v.ok hxk (ai8 v hxk)
  have hbe3:h3 e.2=some (pk (im q.w q.k S1 x.b) x.mv x.a x.dn):=(s3.in 0 rfl) _ _ (sAo.at 1 rfl hbe)
  have ce3:∀k,aa G h3 ⟨e.2,k,none⟩=_:=fun k=>ai (ag hbe3)
  simp only [stpL]at ce3
  have lk3:∀K,pw P_ G h3 (Instr.lookup 131 (.map (some mt)) (.agg #[(numP q.w q.k x.p),(x.i:Int)]) false) K=K (.pointer (some ⟨e.2,0,none⟩)):=by
   intro K
   have:=Ez (G:=G) (K:=K) N1 unmt zerot (ag hmt3) km (k:=(numP q.w q.k x.p,(x.i:Int)))
   rw [hkg,Option.getD_some]at this
   exact this
  unfold M7
  try simp (disch:=decide) only [bRtS,Nat.reduceAdd,e19,b3.mt,cw3,lk3,ce3]
  have stale:(x.dn=true\/x.a≠wk)->∀r':Rg,r' 19 = .pointer (some ⟨sp,0,none⟩)->r' 6 = .pointer (some ⟨xc,0,none⟩)->r' 11 = .pointer (some ⟨xg,0,none⟩)->r' 20 = .int .i64 i->r' 15 = .int .i64 6->X r' h3:=by
   intro hs r' w19 w6 w11 w20 w15
   exact hX ((N-i)*40000000000+(Go.Proofs.Wt.popL (⟨wk,numP q.w q.k x.p,(x.i:Int),wn⟩::L1)).length) _ _ (by rw [hpl];simp only [List.length_cons];omega)
    ⟨i,S1,A2,a1,ae1,ah2,ak1,c1,_,n1,lo1,rfl,hi,hW,⟨ss.ch,ss.st,hp2,hok',hstale hs,ss.kept,ss.n0,by rw [hpl];omega⟩,kpk,v,hn1,sA2.sel [1,2,0,3] (by decide) rfl,s3.sel [0,1] (by decide) rfl,d3,w19,w6,w11,w20,w15⟩
  cases hdn:x.dn with
  |true=>
   try simp only [bRtS,fg]
   exact stale (.inl hdn) _ (by simp (disch:=omega) only [aq,e19]) (by simp (disch:=omega) only [aq,e6]) (by simp (disch:=omega) only [aq,e11]) (by simp (disch:=omega) only [aq,e20]) (by simp (disch:=omega) only [aq,e15])
  |false=>
  try simp only [bRtS,ce3,cw3]
  by_cases hxa:x.a=wk
  rotate_left
  . try simp only [bRtS,show (x.a != wk)=true from by simpa using hxa]
    exact stale (.inr hxa) _ (by simp (disch:=omega) only [aq,e19]) (by simp (disch:=omega) only [aq,e6]) (by simp (disch:=omega) only [aq,e11]) (by simp (disch:=omega) only [aq,e20]) (by simp (disch:=omega) only [aq,e15])
  subst hxa
  try simp only [bRtS,show (x.a != x.a)=false from by simp]
  obtain ⟨hle,hq2⟩:=hfresh hdn rfl
  obtain ⟨v2,hx2⟩:=Gg v hle
  suffices k8:∀r':Rg,r' 19 = .pointer (some ⟨sp,0,none⟩)->r' 6 = .pointer (some ⟨xc,0,none⟩)->r' 11 = .pointer (some ⟨xg,0,none⟩)->r' 20 = .int .i64 i->r' 15 = .int .i64 6->r' 21 = .pointer (some ⟨xw,0,none⟩)->r' 23 = .pointer (some ⟨e.2,0,none⟩)->Ek G (bw X KK) r' h3 from
   k8 _ (by simp (disch:=omega) only [aq,e19]) (by simp (disch:=omega) only [aq,e6]) (by simp (disch:=omega) only [aq,e11]) (by simp (disch:=omega) only [aq,e20]) (by simp (disch:=omega) only [aq,e15]) (by simp (disch:=decide) only [bRtS]) (by simp (disch:=decide) only [bRtS])
  clear stale
  intro r2 f19 f6 f11 f20 f15 f21 f23
  unfold Ek
  simp (disch:=decide) only [bRtS,f23]
  rw [di sz4 rfl hbe3 (by simp [stpL])]
  have hset:(stpL (im q.w q.k S1 x.b) x.mv x.a x.dn).set 14 (.bool true)=stpL (im q.w q.k S1 x.b) x.mv x.a true:=rfl
  rw [hset]
  have s4:=s3.put (o:=pk (im q.w q.k S1 x.b) x.mv x.a true) (sAo.at 1 rfl hbe)
  have d4:=d3.set (o:=pk (im q.w q.k S1 x.b) x.mv x.a true) (d3 _ _ hbe3)
  have sA4:=(HL.Sep.sel (L':=[bb,noHp.set mt o,a1,ah2,ak1]) sAo [1,0,2,3,4] (by decide) rfl).put (o:=pk (im q.w q.k S1 x.b) x.mv x.a true) hbe
  have se4:=se.done hxk he
  generalize bb.set e.2 _=bb4 at sA4 se4
  generalize A2.set e.2 _=A4 at s4 sA4
  generalize Hp.set h3 e.2 _=h4 at s4 d4 ⊢
  obtain ⟨ae4,sA5,t5⟩:=HL.Sep.pack [noHp.set mt o,bb4] (R:=[a1,ah2,ak1]) (sA4.sel [1,0,2,3,4] (by decide) rfl)
  have sA5:HL.Sep [a1,ae4,ah2,ak1] A4:=sA5.sel [1,0,2,3] (by decide) rfl
  have ss4:Srs q a1 ae4 ah2 ms mw mp mt hp c1 (take S1 k x) (Go.Proofs.Wt.popL (⟨x.a,numP q.w q.k x.p,(x.i:Int),wn⟩::L1)) n1:=⟨ss.ch,⟨o,E,bb4,km,t5,se4⟩,hp2,hok',hq2,fun y hy=>by
   obtain ⟨j,hj⟩:=List.getElem?_of_mem hy
   unfold take at hj
   by_cases hkj:k=j
   . subst hkj
     rw [List.getElem?_set_self (List.getElem?_eq_some_iff.1 hxk).1]at hj
     cases hj
     exact ss.kept x hxm
   . rw [List.getElem?_set_ne hkj]at hj
     exact ss.kept y (List.mem_of_getElem? hj),ss.n0,by rw [hpl];omega⟩
  obtain ⟨o1,o2,o3,m1,m2,m3,sa⟩:=id ss.ch.sep
  have sA6:HL.Sep [noHp.set ms o1,noHp.set mw o2,noHp.set mp o3,c1.P,ae4,ah2,ak1] A4:=HL.Sep.open (L:=[noHp.set ms o1,noHp.set mw o2,noHp.set mp o3,c1.P]) (R:=[ae4,ah2,ak1]) sA5 sa
  have hmp:h4 mp=some o3:=(s4.in 0 rfl) _ _ (sA6.at 2 rfl af)
  have b4:=hrd h4 (s4.in 1 rfl) d4
  obtain ⟨hk1,hk3⟩:=ss.kept x hxm
  have cw4:∀k,aa G h4 ⟨xw,k,none⟩=_:=fun k=>ai (ag ((s4.at 2 rfl af).trans (by rw [how])))
  try simp -implicitDefEqProofs (maxSteps:=2000000) (disch:=first|decide|with_reducible exact Nat.ne_of_beq_eq_false rfl|exact ao|exact am|omega|rfl|(simp;done)|fail) only [bRtS,Nat.reduceAdd,f20,f19,b4.mp,f21,cw4]
  rw [E0 unmp un3r zerop (ag hmp) m3,hk3,Option.getD_some]
  intro xp hxp gxp
  try simp (disch:=first|decide|exact ao|exact am|omega|rfl) only [bRtS]
  have s5:=s4.new (o := .cells #[x.p.x,x.p.y,.bool x.p.d] 30 (0,0)) hxp
  have d5:=d4.set (o := .cells #[x.p.x,x.p.y,.bool x.p.d] 30 (0,0)) gxp
  generalize hop:Obj.cells #[x.p.x,x.p.y,.bool x.p.d] 30 (0,0)=op at s5 d5 ⊢
  generalize Hp.set h4 xp _=h5 at s5 d5 ⊢
  have s5:HL.Sep [A4,B,noHp.set xw ow,noHp.set xp op] h5:=s5.sel [1,2,3,0] (by decide) rfl
  have cp5:∀k,aa G h5 ⟨xp,k,none⟩=_:=fun k=>ai (ag ((s5.at 3 rfl af).trans (by rw [hop])))
  have cw5:∀k,aa G h5 ⟨xw,k,none⟩=_:=fun k=>ai (ag ((s5.at 2 rfl af).trans (by rw [how])))
  have cg5:∀k,aa G h5 ⟨xg,k,none⟩=_:=fun k=>ai (ag (s5.at 1 rfl fz.aim))
  have hA0:0<=x.a:=by
   obtain ⟨z1,z2,_⟩:=v.at_ x hxm
   have:=(ok.pos _ _ (List.mem_of_getElem? z1)).1
   omega
  have k9:lg gp any x.p x.s=false->∀(r':Rg) (h' A' a':Hp) (c':Cs),Srs q a' ae4 ah2 ms mw mp mt hp c' (take S1 k x) (Go.Proofs.Wt.popL (⟨x.a,numP q.w q.k x.p,(x.i:Int),wn⟩::L1)) n1->HL.Sep [a',ae4,ah2,ak1] A'->HL.Sep [A',B,noHp.set xw ow] h'->Dis G h'->r' 19 = .pointer (some ⟨sp,0,none⟩)->r' 6 = .pointer (some ⟨xc,0,none⟩)->r' 11 = .pointer (some ⟨xg,0,none⟩)->r' 20 = .int .i64 ((i:Int)+1)->r' 15 = .int .i64 6->r' 21 = .pointer (some ⟨xw,0,none⟩)->Ej G (bw X KK) r' h':=by
   intro hg r' h' A' a' c' ss' sA' s' d' w19 w6 w11 w20 w15 w21
   have hrun:W=run q.E (lg gp any) N' (yp q.E { x with dn:=true } k (take S1 k x)):=by
    rw [<- hW,hN',run_on hle hg]
   have cb:=fz.bud h' (s'.in 1 rfl) d'
   unfold Ej
   try simp only [bRtS,w6,w20,cb]
   by_cases hb:(i:Int)+1=q.C.bu
   . try simp only [bRtS,show ((i:Int)+1==q.C.bu)=true from by simpa using hb]
     rw [<- hKK]
     show El G KR _ _
     unfold El
     have hN0:N'=0:=by omega
     subst hN0
     rw [<- hKR]
     simp (disch:=decide) only [bRtS]
     exact HQ _ _ ⟨noHp,_,by rw [hrun];rfl,by rw [hrun];exact Slc.nil,by rw [hrun];simp [run,outL],(s'.sel [1] (by decide) rfl).none,d'⟩
   . try simp only [bRtS,show ((i:Int)+1==q.C.bu)=false from by simpa using hb]
     unfold Ip
     have cw':∀k,aa G h' ⟨xw,k,none⟩=_:=fun k=>ai (ag ((s'.at 2 rfl af).trans (by rw [how])))
     try simp (disch:=decide) only [bRtS,Nat.reduceAdd,w19,w21,cw']
     have bg:=fz.bg A' h' (s'.sel [0,1] (by decide) rfl) d'
     refine (Sep.on s' (Z8 (G:=HL.under G h' A') (R:=[]) (x:={ x with dn:=true }) ss' kpk bg ok v2 hx2 rfl hA0 (by omega) sA')).mono ?_
     rintro _ h7 ⟨A7,⟨a7,ae7,ah7,ak7,c7,L7,n7,ss7,kp7,_,m1,m2,sA7,_⟩,s7,d7⟩
     try simp (disch:=first|decide|omega) only [bRtS,Nat.reduceAdd,Nat.reduceMul]
     have v7:=(Gc ok (k:=k) (x:={ x with dn:=true }) rfl hA0 (v.ok x hxm) (q.E.ways x.p) (fun _ h=>h) v2 hx2).1
     have ln7:=ss7.ln
     refine hX ((N-(i+1))*40000000000+L7.length) _ _ (by omega) ⟨i+1,_,A7,a7,ae7,ah7,ak7,c7,L7,n7,x.a,rfl,by omega,?_,ss7,kp7,v7,by omega,sA7,s7.sel [0,1] (by decide) rfl,d7,by simp (disch:=omega) only [aq,w19],by simp (disch:=omega) only [aq,w6],by simp (disch:=omega) only [aq,w11],by simp (disch:=omega) only [aq,w20];rfl,by simp (disch:=omega) only [aq,w15]⟩
     rw [show N-(i+1)=N' by omega]
     exact hrun.symm
  try simp only [bRtS,cp5,f11,cg5]
  have sJ:HL.Sep [noHp.set xp op,noHp.set xw ow,c1.P] h5:=HL.Sep.sel (HL.Sep.open (R:=[B,noHp.set xw ow,noHp.set xp op]) s5 sA6) [9,8,3] (by decide) rfl
  cases hD:(x.p.x==gp.x&&x.p.y==gp.y&&x.p.d==gp.d)with
  |true=>
   try simp only [bRtS,Nat.reduceAdd,fg]
   obtain ⟨q9,l1,l2,l3,l4⟩:=join3 (R:=[]) sJ
   have lq2:q9.le h5:=l4 h5 (s5.in 3 rfl) (s5.in 2 rfl) ((sA6.in 3 rfl).trans (s5.in 0 rfl))
   have cq:∀k,aa G q9 ⟨xp,k,none⟩=_:=fun k=>ai (ag ((l1 _ _ af).trans (by rw [hop])))
   have cqn:∀k,aa G q9 ⟨xw,k,none⟩=_:=fun k=>ai (ag ((l2 _ _ af).trans (by rw [how])))
   refine ⟨q9,lq2,?_⟩
   try simp only [bRtS,cq,f19,fg]
   refine (Sep.on s5 (lm (G:=HL.under G h5 A4) (R:=[ae4,ah2,ak1]) ss4.ch (fz.bg A4 h5 (s5.sel [0,1] (by decide) rfl) d5) sA5 (v.ok x hxm))).mono ?_
   rintro u h6 ⟨A6,⟨a6,c6,ch6,cl6,e2,hu,hu3,sA7,_⟩,s6,d6⟩
   refine ⟨l4 h6 (s6.in 3 rfl) (s6.in 2 rfl) (cl6.p.trans (ch6.pool.trans ((sA7.in 0 rfl).trans (s6.in 0 rfl)))),?_⟩
   obtain ⟨u0,hu0⟩:=Option.isSome_iff_exists.1 hk1
   have huu:=cl6.l1 _ _ hu0
   rw [hu]at huu
   cases huu
   have slu:=ss.ch.look1 (v.ok x hxm) hu0
   obtain ⟨sv,cv,rfl,_⟩:=slu.len (by decide)
   have hsi':(ku q.w q.k q.T q.r x.p)[x.i]?=some x.s:=(v.at_ x hxm).1
   obtain ⟨b,o,rfl,z1,z2⟩:=Sees.span (slu.see (G:=G) (by decide) l3) hsi'
   have hlti:(x.i:Int)<((ku q.w q.k q.T q.r x.p).length:Int):=Int.ofNat_lt.2 (List.getElem?_eq_some_iff.1 hsi').1
   try simp (disch:=first|decide|omega) only [bRtS,cqn,Ro (Int.natCast_nonneg x.i) hlti,z1,z2,fg]
   have ss6:Srs q a6 ae4 ah2 ms mw mp mt hp c6 (take S1 k x) (Go.Proofs.Wt.popL (⟨x.a,numP q.w q.k x.p,(x.i:Int),wn⟩::L1)) n1:=⟨ch6,ss4.st,ss4.hp,ss4.ok,ss4.qi,ss4.kept.le cl6,ss4.n0,ss4.ln⟩
   by_cases hfv:x.s.2=4611686018427387904
   . have hg:lg gp any x.p x.s=true:=by unfold lg FV;rw [hfv];rw [hD];rfl
     try simp only [bRtS,show (x.s.2==4611686018427387904)=true from by simpa using hfv]
     have cw6:∀k,aa G h6 ⟨xw,k,none⟩=_:=fun k=>ai (ag ((s6.at 2 rfl af).trans (by rw [how])))
     try simp only [bRtS,f21,f19,cw6]
     refine (Sep.on s6 (Kw (G:=HL.under G h6 A6) (R:=[ak1]) ss6 (fz.bg A6 h6 (s6.sel [0,1] (by decide) rfl) d6) v2 hz hx2 sA7)).mono ?_
     rintro u h8 ⟨A8,⟨ip,sl8,hl8,sA8,_⟩,s8,d8⟩
     have hrun:W = .ok (path (take S1 k x) S1.length k []):=by
      rw [<- hW,hN',Qj hle hg]
     have hlen:(take S1 k x).length=S1.length:=by unfold take;rw [List.length_set]
     rw [hlen]at sl8 hl8
     rw [<- hKK,<- hKR]
     try simp (disch:=decide) only [bRtS]
     exact HQ _ _ ⟨ip,_,by rw [hrun];rfl,by rw [hrun];exact sl8,by rw [hrun];exact hl8,(s8.cut (sA8.in 0 rfl)).sel [0,1] (by decide) rfl,d8⟩
   . try simp only [bRtS,show (x.s.2==4611686018427387904)=false from by simpa using hfv]
     exact k9 (by unfold lg FV;rw [show (x.s.2==4611686018427387904)=false from by simpa using hfv,Bool.and_false]) _ h6 A6 a6 c6 ss6 sA7 (s6.sel [0,1,2] (by decide) rfl) d6 (by simp (disch:=omega) only [aq,f19]) (by simp (disch:=omega) only [aq,f6]) (by simp (disch:=omega) only [aq,f11]) (by simp (disch:=decide) only [bRtS]) (by simp (disch:=omega) only [aq,f15]) (by simp (disch:=omega) only [aq,f21])
  |false=>
   try simp only [bRtS,cg5]
   cases hany:any with
   |false=>
    try simp only [bRtS,fg]
    refine ⟨h5,Hp.le.refl _,?_⟩
    try simp (disch:=first|decide|omega) only [bRtS,Nat.reduceAdd,Nat.reduceMul,fg]
    exact k9 (by unfold lg;rw [hD,hany];rfl) _ h5 A4 a1 c1 ss4 sA5 (s5.sel [0,1,2] (by decide) rfl) d5 (by simp (disch:=omega) only [aq,f19]) (by simp (disch:=omega) only [aq,f6]) (by simp (disch:=omega) only [aq,f11]) (by simp (disch:=decide) only [bRtS]) (by simp (disch:=omega) only [aq,f15]) (by simp (disch:=omega) only [aq,f21])
   |true=>
    try simp only [bRtS,cp5,cg5,f11]
    cases hC:(x.p.x==gp.x&&x.p.y==gp.y)with
    |true=>
     try simp only [bRtS,Nat.reduceAdd]
     obtain ⟨q9,l1,l2,l3,l4⟩:=join3 (R:=[]) sJ
     have lq2:q9.le h5:=l4 h5 (s5.in 3 rfl) (s5.in 2 rfl) ((sA6.in 3 rfl).trans (s5.in 0 rfl))
     have cq:∀k,aa G q9 ⟨xp,k,none⟩=_:=fun k=>ai (ag ((l1 _ _ af).trans (by rw [hop])))
     have cqn:∀k,aa G q9 ⟨xw,k,none⟩=_:=fun k=>ai (ag ((l2 _ _ af).trans (by rw [how])))
     refine ⟨q9,lq2,?_⟩
     try simp only [bRtS,cq,f19,fg]
     refine (Sep.on s5 (lm (G:=HL.under G h5 A4) (R:=[ae4,ah2,ak1]) ss4.ch (fz.bg A4 h5 (s5.sel [0,1] (by decide) rfl) d5) sA5 (v.ok x hxm))).mono ?_
     rintro u h6 ⟨A6,⟨a6,c6,ch6,cl6,e2,hu,hu3,sA7,_⟩,s6,d6⟩
     refine ⟨l4 h6 (s6.in 3 rfl) (s6.in 2 rfl) (cl6.p.trans (ch6.pool.trans ((sA7.in 0 rfl).trans (s6.in 0 rfl)))),?_⟩
     obtain ⟨u0,hu0⟩:=Option.isSome_iff_exists.1 hk1
     have huu:=cl6.l1 _ _ hu0
     rw [hu]at huu
     cases huu
     have slu:=ss.ch.look1 (v.ok x hxm) hu0
     obtain ⟨sv,cv,rfl,_⟩:=slu.len (by decide)
     have hsi':(ku q.w q.k q.T q.r x.p)[x.i]?=some x.s:=(v.at_ x hxm).1
     obtain ⟨b,o,rfl,z1,z2⟩:=Sees.span (slu.see (G:=G) (by decide) l3) hsi'
     have hlti:(x.i:Int)<((ku q.w q.k q.T q.r x.p).length:Int):=Int.ofNat_lt.2 (List.getElem?_eq_some_iff.1 hsi').1
     try simp (disch:=first|decide|omega) only [bRtS,cqn,Ro (Int.natCast_nonneg x.i) hlti,z1,z2,fg]
     have ss6:Srs q a6 ae4 ah2 ms mw mp mt hp c6 (take S1 k x) (Go.Proofs.Wt.popL (⟨x.a,numP q.w q.k x.p,(x.i:Int),wn⟩::L1)) n1:=⟨ch6,ss4.st,ss4.hp,ss4.ok,ss4.qi,ss4.kept.le cl6,ss4.n0,ss4.ln⟩
     by_cases hfv:x.s.2=4611686018427387904
     . have hg:lg gp any x.p x.s=true:=by unfold lg FV;rw [hfv];rw [hD,hany,hC];rfl
       try simp only [bRtS,show (x.s.2==4611686018427387904)=true from by simpa using hfv]
       have cw6:∀k,aa G h6 ⟨xw,k,none⟩=_:=fun k=>ai (ag ((s6.at 2 rfl af).trans (by rw [how])))
       try simp only [bRtS,f21,f19,cw6]
       refine (Sep.on s6 (Kw (G:=HL.under G h6 A6) (R:=[ak1]) ss6 (fz.bg A6 h6 (s6.sel [0,1] (by decide) rfl) d6) v2 hz hx2 sA7)).mono ?_
       rintro u h8 ⟨A8,⟨ip,sl8,hl8,sA8,_⟩,s8,d8⟩
       have hrun:W = .ok (path (take S1 k x) S1.length k []):=by
        rw [<- hW,hN',Qj hle hg]
       have hlen:(take S1 k x).length=S1.length:=by unfold take;rw [List.length_set]
       rw [hlen]at sl8 hl8
       rw [<- hKK,<- hKR]
       try simp (disch:=decide) only [bRtS]
       exact HQ _ _ ⟨ip,_,by rw [hrun];rfl,by rw [hrun];exact sl8,by rw [hrun];exact hl8,(s8.cut (sA8.in 0 rfl)).sel [0,1] (by decide) rfl,d8⟩
     . try simp only [bRtS,show (x.s.2==4611686018427387904)=false from by simpa using hfv]
       exact k9 (by unfold lg FV;rw [show (x.s.2==4611686018427387904)=false from by simpa using hfv,Bool.and_false]) _ h6 A6 a6 c6 ss6 sA7 (s6.sel [0,1,2] (by decide) rfl) d6 (by simp (disch:=omega) only [aq,f19]) (by simp (disch:=omega) only [aq,f6]) (by simp (disch:=omega) only [aq,f11]) (by simp (disch:=decide) only [bRtS]) (by simp (disch:=omega) only [aq,f15]) (by simp (disch:=omega) only [aq,f21])
    |false=>
     try simp only [bRtS]
     refine ⟨h5,Hp.le.refl _,?_⟩
     try simp (disch:=first|decide|omega) only [bRtS,Nat.reduceAdd,Nat.reduceMul,fg]
     exact k9 (by unfold lg;rw [hD,hany,hC];rfl) _ h5 A4 a1 c1 ss4 sA5 (s5.sel [0,1,2] (by decide) rfl) d5 (by simp (disch:=omega) only [aq,f19]) (by simp (disch:=omega) only [aq,f6]) (by simp (disch:=omega) only [aq,f11]) (by simp (disch:=decide) only [bRtS]) (by simp (disch:=omega) only [aq,f15]) (by simp (disch:=omega) only [aq,f21])
theorem ad8 {C:Conf} (mk:fc C):(1<=C.un/\C.un<=1000)/\(1<=C.ac/\C.ac<=1000)/\(1<=C.sp/\C.sp<=1000)/\(1<=C.tu/\C.tu<=1000)/\(1<=C.ho/\C.ho<=1000):=by
 have h:=mk.six
 simp only [List.mem_cons,List.not_mem_nil,or_false,forall_eq_or_imp,forall_eq,ax,Bool.and_eq_true,decide_eq_true_eq]at h
 omega
theorem Rj {C:Conf} (mk:fc C) {w k:Nat} {f:Nat->Nat->Int} {p:Pose} {m:Move} (h:m∈kz w k f p):1<=gi C m/\gi C m<=16000:=by
 obtain ⟨⟨a1,a2⟩,_,_,⟨b1,b2⟩,_⟩:=ad8 mk
 obtain ⟨_,⟨d,n,_,n1,n2,_,rfl⟩|⟨_,rfl⟩⟩:=zn h
 . obtain ⟨_,t2,t3⟩:=time_bd (A:=C.ac) (V:=C.sp) (n:=(n:Int)) a1 a2
   have e:gi C (uo p d n)=Er C.un C.ac C.sp n:=by unfold gi;exact if_pos rfl
   rw [e]
   exact ⟨t3 (by omega) (by omega),t2⟩
 . have e:gi C (mo p)=C.tu:=by
    unfold gi
    rw [if_neg (by show ¬((2:Int)=1);decide)]
    exact if_pos rfl
   rw [e]
   omega
theorem Yz {w k:Nat} {f:Nat->Nat->Int} {p:Pose} (h:wayB w k f (mo p)=true):df w k f (xa p)=true:=by
 unfold wayB at h
 simp only [Bool.and_eq_true]at h
 obtain ⟨_,h⟩:=h
 rw [if_neg (by show ¬((2:Int)=1);decide),show (mo p).k=2 from rfl,if_pos (rfl:(2:Int)=2)]at h
 simp only [Bool.and_eq_true,List.all_eq_true]at h
 obtain ⟨_,h,_⟩:=h
 have h1:∀c∈dv (p.x,p.y),nn w k f c=true:=h
 unfold df
 rw [Bool.and_eq_true]
 refine ⟨h1 _ (by simp [dv,xa]),h1 _ ?_⟩
 unfold east xa
 cases p.d<;>simp [dv]
theorem ao2 {q:Par} (mk:fc q.C) (gt:ja q.T):px q.E:=by
 refine ⟨fun p y hy=>?_,fun p s hs=>?_,fun p hp y hy=>?_,fun p p' hp hp' e=>uj (f:=q.f) hp hp' e⟩
 . obtain ⟨i,hi⟩:=List.getElem?_of_mem hy
   obtain ⟨m,hm,rfl⟩:=Fx hi
   have:=Rj mk hm
   exact ⟨this.1,Int.le_trans this.2 (by decide)⟩
 . have hr:Ris (q.E.spans p):=xt gt q.r _
   exact hr.bd s hs
 . obtain ⟨i,hi⟩:=List.getElem?_of_mem hy
   obtain ⟨m,hm,rfl⟩:=Fx hi
   show df q.w q.k q.f m.t=true
   obtain ⟨_,⟨d,n,_,_,_,ho,rfl⟩|⟨hb,rfl⟩⟩:=zn hm
   . exact ho
   . exact Yz hb
end Go.Proofs.YtfflipnhffknnaaGreatDoor
end
section
namespace Go.Proofs.YtfflipnhffknnaaGreatDoor
open Go Go.HL
theorem ca_nil {G h:Hp} {C:Conf} (h1:C.bl=[]) (h2:C.po=[]) (h3:C.ro=[]) (h4:C.st=[]):CA G h C none 0 none 0 none 0 none 0:=by
 obtain ⟨w,hh,ht,bl,po,ro,st,un,ac,sp,tu,ho,qu,re,bu,back⟩:=C
 subst h1 h2 h3 h4
 exact ⟨Slc.nil.sees (e:=28) (a:=noHp) (by decide) (fun _ _ e=>by cases e),Slc.nil.sees (e:=28) (a:=noHp) (by decide) (fun _ _ e=>by cases e),Slc.nil.sees (e:=30) (a:=noHp) (by decide) (fun _ _ e=>by cases e),[],Slc.nil.sees (e:=95) (a:=noHp) (by decide) (fun _ _ e=>by cases e),by simp⟩
theorem may_nil {C:Conf} (h1:C.bl=[]) (h2:C.po=[]) (h3:C.ro=[]) (h4:C.st=[]):Yv C↔nw C=true:=by
 refine ⟨fun m=>m.nums,fun n=>⟨n,by simp [h2],by simp [h3],by simp [h1],by simp [h1],by simp [h2],by simp [h3],by simp [h3],?_⟩⟩
 exact ⟨by simp [h4],by simp [h4],by simp [h4],by simp [h4],by simp [h4],by simp [h4]⟩
end Go.Proofs.YtfflipnhffknnaaGreatDoor
end
section
namespace Go.Proofs.YtfflipnhffknnaaGreatDoor
open Go Go.HL Go.Proofs.Resv Go.Proofs.Srch
def bRtT:=jq bC (jq (jq (jq (jq @sk @bd146_) (jq @cf29 @cf63)) (jq (jq @cf65 @cf66) (jq @cf67 @Wo))) (jq (jq (jq @Hr @Oj) (jq @Oi @ld26)) (jq (jq @ld3 @ld30) (jq @jo @lr))))
def zM:Move:=⟨0,0,0,⟨0,0,false⟩,⟨0,0,false⟩,0,0⟩
theorem kb_of {C:Conf} (mk:fc C):KB C.un C.ac C.sp:=by
 obtain ⟨⟨a1,a2⟩,⟨b1,b2⟩,⟨c1,c2⟩,_,_⟩:=ad8 mk
 exact ⟨a1,a2,b1,b2,c1,c2⟩
theorem mkmapR {T:TypeId} {G h:Hp} {K:VK}:wpH P_ G (Instr.makeMap T none) h K=∀x,h x=none->G x=none->K (.map (some x)) (h.set x (.map #[] 0)):=by
 simp [Instr.makeMap,bind,Sem.bind,pure,wpH,newObj]
theorem find_k3 {G h ga B0:Hp} {C:Conf} {T:Tb} {ab:Option Addr} {cb:Nat} {ap:Option Addr} {cp:Nat} {ar:Option Addr} {cr:Nat} {az:Option Addr} {cs:Nat} {xc xp xg tp gb kb w k:Nat} {f:Nat->Nat->Int} {p gp:Pose} {rb t:Int} {any:Bool}
 (st:j9 G) (mk:fc C) (hbu:C.bu<=4000) (gt:ja T) (fw:Few T 100) (go:GO ga gb kb w k f) (ca:CA G B0 C ab cb ap cp ar cr az cs) (ts:Rv.TSee G B0 tp T) (hpf:df w k f p=true) (ht0:0<=t) (ht1:t<FV)
 (bc:B0 xc=some (.cells #[C.w,C.h,C.ht,.slice ab C.bl.length cb,.slice ap C.po.length cp,.slice ar C.ro.length cr,.slice az C.st.length cs,C.un,C.ac,C.sp,C.tu,C.ho,C.qu,C.re,C.bu,.bool C.back] 26 (0,0)))
 (bp:B0 xp=some (.cells #[p.x,p.y,.bool p.d] 30 (0,0))) (bgl:B0 xg=some (.cells #[gp.x,gp.y,.bool gp.d,.bool any] 45 (0,0)))
 (s:HL.Sep [ga,B0] h) (d:Dis G h) (r:Rg) (g1:r 1 = .pointer (some ⟨tp,0,none⟩)) (g2:r 2 = .int .i64 rb) (g4:r 4 = .int .i64 t) (g6:r 6 = .pointer (some ⟨xc,0,none⟩)) (g9:r 9 = .pointer (some ⟨xp,0,none⟩)) (g11:r 11 = .pointer (some ⟨xg,0,none⟩)) (g14:r 14 = .pointer (some ⟨gb,0,none⟩)) {Q:Value->Hp->Prop} (HQ:∀u h',OutR G B0 (find (envE C w k f T rb) (lg gp any) p t zM C.bu.toNat) u h'->Q u h'):
 Vc G (retK P_ G [.tmp 12,.tmp 13] Q) r h:=by
 generalize hq:(⟨C,w,k,f,T,rb⟩:Par)=q
 have hE:envE C w k f T rb=q.E:=by rw [<- hq];rfl
 rw [hE]at HQ
 generalize hW:find q.E (lg gp any) p t zM C.bu.toNat=W at HQ
 generalize hKR:retK P_ G [.tmp 12,.tmp 13] Q=KR
 unfold Vc
 have cc:∀k,aa G h ⟨xc,k,none⟩=_:=fun k=>ai (ag (s.at 1 rfl bc))
 simp only [bRtT,g6,cc]
 refine (ai7 (U:=C.un) (A:=C.ac) (V:=C.sp)).mono ?_
 rintro _ h1 (⟨_,ak,kp,rfl,kpk,s1,d1⟩|⟨hno,_⟩)
 rotate_left
 . exact absurd (kb_of mk) hno
 have s1:HL.Sep [ak,ga,B0] h1:=HL.Sep.open (L:=[ga,B0]) (R:=[ak]) (s1.swap) s |>.sel [2,0,1] (by decide) rfl
 have cc1:∀k,aa G h1 ⟨xc,k,none⟩=_:=fun k=>ai (ag (s1.at 2 rfl bc))
 try simp only [bRtT,g6,cc1]
 simp only [mkmapR]
 intro ms hms gms mw hmw gmw mp hmp gmp mt hmt gmt
 have s2:=((((s1.new (o := .map #[] 0) hms).new (o := .map #[] 0) hmw).new (o := .map #[] 0) hmp).new (o := .map #[] 0) hmt)
 have d2:=((((d1.set (o := .map #[] 0) gms).set (o := .map #[] 0) gmw).set (o := .map #[] 0) gmp).set (o := .map #[] 0) gmt)
 generalize Hp.set (Hp.set (Hp.set (Hp.set h1 ms _) mw _) mp _) mt _=h2 at s2 d2 ⊢
 try simp only [bRtT,g14,g1,g2]
 intro sp hsp gsp
 have s3:=s2.new (o := .cells ((og C (.slice ab C.bl.length cb) (.slice ap C.po.length cp) (.slice ar C.ro.length cr) (.slice az C.st.length cs) (.pointer (some ⟨gb,0,none⟩)) kp tp rb ms mw mp mt 0).set 24 (.pointer none)).toArray 134 (0,0)) hsp
 have d3:=d2.set (o := .cells ((og C (.slice ab C.bl.length cb) (.slice ap C.po.length cp) (.slice ar C.ro.length cr) (.slice az C.st.length cs) (.pointer (some ⟨gb,0,none⟩)) kp tp rb ms mw mp mt 0).set 24 (.pointer none)).toArray 134 (0,0)) gsp
 simp only [og,List.set_cons_succ,List.set_cons_zero]at s3 d3
 generalize hos:Obj.cells (List.toArray [.int .i64 C.w,_,_,_,_,_,_,_,_,_,_,_,_,_,_,_,_,_,_,_,_,_,_,_,_]) 134 (0,0)=os at s3 d3 ⊢
 generalize Hp.set h2 sp _=h3 at s3 d3 ⊢
 refine (Hw.um (G:=G) (h:=h3)).mono ?_
 rintro _ _ ⟨hp,rfl,hhp,ghp,rfl⟩
 have s4:=s3.new (o := .cells #[.func (.func 64) #[] #[],.slice none 0 0,(0:Int)] 218 (0,0)) hhp
 have d4:=d3.set (o := .cells #[.func (.func 64) #[] #[],.slice none 0 0,(0:Int)] 218 (0,0)) ghp
 generalize hoh:Obj.cells #[.func (.func 64) #[] #[],.slice none 0 0,(0:Int)] 218 (0,0)=oh at s4 d4 ⊢
 generalize Hp.set h3 hp oh=h4 at s4 d4 ⊢
 try simp (disch:=first|decide|omega) only [bRtT,Nat.reduceAdd,Nat.reduceMul]
 have hs4:h4 sp=some os:=s4.at 1 rfl af
 subst hos
 rw [di sz132 rfl hs4 (by simp)]
 have s5:=(s4.pick 1 rfl rfl).put (o := .cells (og C (.slice ab C.bl.length cb) (.slice ap C.po.length cp) (.slice ar C.ro.length cr) (.slice az C.st.length cs) (.pointer (some ⟨gb,0,none⟩)) kp tp rb ms mw mp mt hp).toArray 134 (0,0)) af
 rw [set_set]at s5
 have d5:=d4.set (o := .cells (og C (.slice ab C.bl.length cb) (.slice ap C.po.length cp) (.slice ar C.ro.length cr) (.slice az C.st.length cs) (.pointer (some ⟨gb,0,none⟩)) kp tp rb ms mw mp mt hp).toArray 134 (0,0)) (d4 _ _ hs4)
 simp only [List.set_cons_succ,List.set_cons_zero]
 generalize hos:Obj.cells (og C (.slice ab C.bl.length cb) (.slice ap C.po.length cp) (.slice ar C.ro.length cr) (.slice az C.st.length cs) (.pointer (some ⟨gb,0,none⟩)) kp tp rb ms mw mp mt hp).toArray 134 (0,0)=os at s5 d5
 have hos':=hos
 simp only [og]at hos'
 rw [hos']
 generalize Hp.set h4 sp _=h5 at s5 d5 ⊢
 have s6:=s5.none.none.sel [7,6,5,0,4,1,3,8,2,9,10] (by decide) rfl
 clear s1 s2 s3 s4 s5 d1 d2 d3 d4 hs4 cc cc1
 obtain ⟨a,s7,ta⟩:=HL.Sep.pack [noHp.set ms (.map #[] 0),noHp.set mw (.map #[] 0),noHp.set mp (.map #[] 0),noHp] s6
 obtain ⟨ae,s8,tae⟩:=HL.Sep.pack [noHp.set mt (.map #[] 0),noHp] (R:=[a,noHp.set hp oh,ak,noHp.set sp os,ga,B0]) (s7.sel [1,2,0,3,4,5,6,7] (by decide) rfl)
 obtain ⟨A,s9,tA⟩:=HL.Sep.pack [a,ae,noHp.set hp oh,ak] (R:=[noHp.set sp os,ga,B0]) (s8.sel [1,0,2,3,4,5,6] (by decide) rfl)
 obtain ⟨B,s10,tB⟩:=HL.Sep.pack [noHp.set sp os,ga,B0] (R:=[A]) (s9.sel [1,2,3,0] (by decide) rfl)
 have s11:HL.Sep [A,B] h5:=s10.swap
 have lB0:B0.le B:=tB.in 2 rfl
 have dB:Dis G B:=fun x o hx=>d5 x o (s10.in 0 rfl x o hx)
 have hsB:B sp=some os:=tB.at 0 rfl af
 have bgA:∀A' h',HL.Sep [A',B] h'->Dis G h'->Bg (HL.under G h' A') q sp kp ms mw mp mt hp:=by
  intro A' h' s' d'
  subst hq
  refine Bg.of (tp:=tp) (gp:=gb) s' d' (ca.up lB0 dB) (fun j hj=>?_) ((go.le (tB.in 1 rfl)).gs) (ts.up lB0 dB) st gt fw
  rw [ai (ag (hsB.trans (by rw [<- hos])))]
 have cB:∀h',B.le h'->Dis G h'->BC G h' sp (.pointer (some ⟨gb,0,none⟩)) kp tp q.r ms mw mp mt hp:=by
  intro h' l' d'
  subst hq
  exact ux (C:=C) (vb := .slice ab C.bl.length cb) (vp := .slice ap C.po.length cp) (vr := .slice ar C.ro.length cr) (vz := .slice az C.st.length cs) fun j hj=>by
   rw [ai (ag ((l' _ _ hsB).trans (by rw [<- hos])))]
 have hC:q.C=C:=by rw [<- hq]
 have fz:Fz G B q sp kp ms mw mp mt hp xc xg gp any:=⟨bgA,⟨_,_,cB⟩,by rw [<- hq];exact gt,by rw [<- hq];exact fw,by rw [<- hq];exact go.w2,by rw [<- hq];exact go.k2,fun h' l' d'=>by rw [ai (ag (l' _ _ (lB0 _ _ bc))),hC];rfl,lB0 _ _ bgl⟩
 have c0:Ch q a ms mw mp ⟨[],[],[],noHp⟩:=⟨⟨_,_,_,⟨#[],0,rfl,rfl⟩,⟨#[],0,rfl,rfl⟩,⟨#[],0,rfl,rfl⟩,ta⟩,fun n v h=>by simp [mget]at h,fun n v h=>by simp [mget]at h,fun n v h=>by simp [mget]at h⟩
 have hpq:df q.w q.k q.f p=true:=by rw [<- hq];exact hpf
 have cp5:∀k,aa G h5 ⟨xp,k,none⟩=_:=fun k=>ai (ag ((s11.in 1 rfl) _ _ (lB0 _ _ bp)))
 try simp only [bRtT,g9,cp5]
 refine (Sep.on s11 (lm (G:=HL.under G h5 A) (R:=[ae,noHp.set hp oh,ak]) c0 (bgA A h5 s11 d5) tA hpq)).mono ?_
 rintro u h6 ⟨A6,⟨a6,c6,ch6,cl6,e2,hu,hu3,sA6,_⟩,s12,d6⟩
 have slu:=ch6.look1 hpq hu
 rw [g4]
 refine (E3 (t:=t) (slu.see (G:=G) (by decide) (ch6.pool.trans ((sA6.in 0 rfl).trans (s12.in 0 rfl)))) (by have:=Ko (q:=q) fz.gt fz.fw p;omega)).mono ?_
 rintro _ h6 ⟨rfl,rfl⟩
 try simp only [bRtT,g4]
 have hsp:q.E.spans p=ku q.w q.k q.T q.r p:=rfl
 cases hi:inside (ku q.w q.k q.T q.r p) t with
 |none=>
  have hw:W = .no 18:=by
   rw [<- hW]
   unfold find
   rw [hsp,hi]
  rw [show insI (ku q.w q.k q.T q.r p) t = -1 from by unfold insI;rw [hi]]
  rw [<- hKR]
  try simp (disch:=decide) only [bRtT]
  exact HQ _ _ ⟨noHp,_,by rw [hw];rfl,by rw [hw];exact Slc.nil,by rw [hw];simp [outL],((s12.drop).cut lB0).none,d6⟩
 |some i0=>
  rw [show insI (ku q.w q.k q.T q.r p) t=(i0:Int)from by unfold insI;rw [hi]]
  try simp only [bRtT,show decide ((i0:Int)<0)=false from decide_eq_false (by omega)]
  unfold aC2
  have cp6:∀k,aa G h6 ⟨xp,k,none⟩=_:=fun k=>ai (ag ((s12.in 1 rfl) _ _ (lB0 _ _ bp)))
  try simp (disch:=decide) only [bRtT,g9,cp6,g4]
  have ss0:Srs q a6 ae (noHp.set hp oh) ms mw mp mt hp c6 [] [] 0:=
   { ch:=ch6,st:=⟨.map #[] 0,[],noHp,KMap.empty,tae,⟨rfl,List.nodup_nil,fun i e x h=>by simp at h⟩⟩,hp:=⟨none,_,af.trans (by rw [<- hoh]),⟨rfl,rfl⟩⟩,
     ok:=fun j h1 h2=>absurd h2 (by simp),qi:=⟨(fun w hw=>nomatch hw),(fun x hx=>nomatch hx)⟩,kept:=(fun x hx=>nomatch hx),n0:=Int.le_refl _,ln:=Int.le_refl _ }
  have v0:Inv q.E p t zM t []:=⟨List.Pairwise.nil,(fun x hx=>nomatch hx),(fun x hx=>nomatch hx),(fun x hx=>nomatch hx),(fun x hx=>nomatch hx),(fun x hx=>nomatch hx)⟩
  have ok:px q.E:=ao2 (by rw [hC];exact mk) fz.gt
  have sA7:HL.Sep [a6,ae,noHp.set hp oh,ak] A6:=sA6
  have hr:=G0 (G:=HL.under G h6 A6) (R:=[ak]) (p:=p) (t:=t) (m:=zM) (b := -1) (lo:=t) (t0:=t) (p0:=p) (z:=zM) ss0 (bgA A6 h6 s12 d6) v0 (Int.le_refl _) hpq (by omega) (.inl (by decide)) sA7
  have hf:im q.w q.k [] (-1)=(0,0):=by unfold im;rw [if_pos (by decide)]
  rw [hf]at hr
  simp only [zM]at hr
  refine (Sep.on s12 hr).mono ?_
  rintro _ h7 ⟨A7,⟨a7,ae7,ah7,c7,L7,n7,ss7,_,_,m1,m2,sA8,_⟩,s13,d7⟩
  have v7:Inv q.E p t zM t (note q.E [] p t zM (-1)):=G7 v0 (Int.le_refl _) hpq (.inl ⟨rfl,rfl,rfl,rfl⟩)
  have hb:=mk.bu
  unfold ax at hb
  simp only [Bool.and_eq_true,decide_eq_true_eq]at hb
  try simp (disch:=first|decide|omega) only [bRtT,Nat.reduceAdd,Nat.reduceMul]
  subst hKR
  have hkq:KP ak kp q.C.un q.C.ac q.C.sp:=by rw [hC];exact kpk
  have ss7':Srs q a7 ae7 ah7 ms mw mp mt hp _ (note q.E [] p t zM (-1)) L7 n7:=ss7
  refine Qo (N:=C.bu.toNat) (t0:=t) fz ok ht0 (by rw [hC];omega) (by omega) (by omega) rfl ss7' hkq v7 (by omega) sA8 s13 d7 _ (by simp (disch:=decide) only [bRtT]) (by simp (disch:=omega) only [aq,g6]) (by simp (disch:=omega) only [aq,g11]) (by simp (disch:=decide) only [bRtT]) (by simp only [bRtT]) ?_
  intro u h' ho
  have hw:W=run q.E (lg gp any) C.bu.toNat (note q.E [] p t zM (-1)):=by
   rw [<- hW]
   unfold find
   rw [hsp,hi]
  have ho':OutR G B W u h':=by rw [hw];exact ho
  obtain ⟨ip,vs,e1,e2,e3,e4,e5⟩:=ho'
  exact HQ _ _ ⟨ip,vs,e1,e2,e3,(e4.swap.cut lB0).swap,e5⟩
def gn:=jq bC (jq (jq (jq (jq @H7 @uw) (jq @bne_self_eq_false.{0} (jq @cf26 @cf37))) (jq (jq @cf61 @cf62) (jq @eq34np (jq @eq34sp @Wh)))) (jq (jq (jq @We @ub) (jq @ak9 (jq @ak6 @ld26))) (jq (jq @ld28 (jq @ld30 @wp)) (jq @ld3p (jq @ld4 @lr)))))
def aimB (C:Conf) (gp:Pose) (any:Bool):Bool:=if any=true then nn (wC C) (kC C) (f3C C) (gp.x,gp.y)else df (wC C) (kC C) (f3C C) gp
def pq (C:Conf) (To:Option Tb) (rb:Int) (p:Pose) (t:Int) (gp:Pose) (any:Bool):Res Move:=match To with
 |none => .no 1
 |some T=>if (T.length:Int)≠C.w*C.h\/rb<0\/t<0\/t>=FV\/df (wC C) (kC C) (f3C C) p=false\/aimB C gp any=false then .no 1
  else find (envE C (wC C) (kC C) (f3C C) T rb) (lg gp any) p t zM C.bu.toNat
def FindR (G h:Hp) (C:Conf) (To:Option Tb) (rb:Int) (p:Pose) (t:Int) (gp:Pose) (any:Bool) (u:Value) (h':Hp):Prop:=
 ∃W,OutR G h W u h'/\((¬fc C/\W = .no 5)\/(fc C/\W=pq C To rb p t gp any))
def TabV (G h:Hp) (vt:Value):Option Tb->Prop
 |none=>vt = .pointer none
 |some T=>∃tp,vt = .pointer (some ⟨tp,0,none⟩)/\Rv.TSee G h tp T/\ja T/\Few T 100
theorem Lm {G h:Hp} {C:Conf} {v vt:Value} {To:Option Tb} {p gp:Pose} {rb t:Int} {any:Bool} (hv:CV G h v C) (st:j9 G) (hro:∀p∈C.ro,PB p) (hsl:C.st.length<=100000000000000) (hbu:fc C->C.bu<=4000)
 (tv:TabV G h vt To) (hp:PB p) (hgp:PB gp):
 aj P_ G 27 #[v,vt,rb,jy p,t,.agg #[gp.x,gp.y,.bool gp.d,.bool any]] h (FindR G h C To rb p t gp any):=by
 obtain ⟨ab,cb,ap,cp,ar,cr,az,cs,rfl,ca⟩:=hv
 refine aj.assume fun d=>enter27 (by simp) ?_
 unfold S27
 simp (disch:=decide) only [gn]
 intro xc hxc gxc xp hxp gxp xg hxg gxg
 have s1:=((HL.Sep.one (h:=h)).past (o := .cells #[C.w,C.h,C.ht,.slice ab C.bl.length cb,.slice ap C.po.length cp,.slice ar C.ro.length cr,.slice az C.st.length cs,C.un,C.ac,C.sp,C.tu,C.ho,C.qu,C.re,C.bu,.bool C.back] 26 (0,0)) hxc)
 generalize e1:Hp.set h xc _=h1 at*
 obtain ⟨l1,d1,bc1⟩:=boxed e1 hxc d gxc
 generalize e2:Hp.set h1 xp _=h2 at*
 obtain ⟨l2,d2,bp2⟩:=boxed e2 hxp d1 gxp
 generalize e3:Hp.set h2 xg _=h3 at*
 obtain ⟨l3,d3,bg3⟩:=boxed e3 hxg d2 gxg
 have bc3:=l3 _ _ (l2 _ _ bc1)
 have bp3:=l3 _ _ bp2
 have L:=l1.trans (l2.trans l3)
 have cc:∀j,aa G h3 ⟨xc,j,none⟩=_:=fun j=>ai (ag bc3)
 have cg:∀j,aa G h3 ⟨xg,j,none⟩=_:=fun j=>ai (ag bg3)
 clear s1
 try simp only [gn,cc]
 refine (um (ca.up L d3).cv st hro hsl).mono ?_
 rintro _ h4 ⟨l4,d4,⟨mk,ga,gb,kb,rfl,go,s4⟩|⟨hno,rfl⟩⟩
 rotate_left
 . try simp only [gn]
   exact ⟨.no 5,⟨noHp,_,rfl,Slc.nil,by simp [outL],(HL.Sep.one.none.swap.cut (L.trans l4)).swap,d4⟩,.inl ⟨hno,rfl⟩⟩
 try simp only [gn]
 have gs:=go.gs (G:=G)
 have gs4:=gs.up (s4.in 0 rfl) d4
 have cg4:∀j,aa G h4 ⟨xg,j,none⟩=_:=fun j=>ai (ag (s4.at 1 rfl bg3))
 unfold aC3
 try simp (disch:=decide) only [gn,cg4]
 have out1:pq C To rb p t gp any = .no 1->FindR G h C To rb p t gp any (.tuple #[.slice none 0 0,(1:Int)]) h4:=fun e=>
  ⟨.no 1,⟨noHp,_,rfl,Slc.nil,by simp [outL],(HL.Sep.one.none.swap.cut (L.trans l4)).swap,d4⟩,.inr ⟨mk,e.symm⟩⟩
 have cc4:∀j,aa G h4 ⟨xc,j,none⟩=_:=fun j=>ai (ag (s4.at 1 rfl bc3))
 have cp4:∀j,aa G h4 ⟨xp,j,none⟩=_:=fun j=>ai (ag (s4.at 1 rfl bp3))
 generalize hKR:retK P_ G [.tmp 12,.tmp 13] (FindR G h C To rb p t gp any)=KR
 suffices k2:∀r':Rg,r' 1=vt->r' 2 = .int .i64 rb->r' 4 = .int .i64 t->r' 6 = .pointer (some ⟨xc,0,none⟩)->r' 9 = .pointer (some ⟨xp,0,none⟩)->r' 11 = .pointer (some ⟨xg,0,none⟩)->r' 14 = .pointer (some ⟨gb,0,none⟩)->r' 16 = .bool (aimB C gp any)->Pb G KR r' h4 by
  refine (ng gs4 st hgp).mono ?_
  rintro _ h5 ⟨rfl,rfl⟩
  try simp only [gn,cg4]
  cases hany:any with
  |true=>
   try simp only [gn,cg4]
   refine (zm (c:=(gp.x,gp.y)) gs4).mono ?_
   rintro _ h6 ⟨rfl,rfl⟩
   exact k2 _ (by simp (disch:=decide) only [gn]) (by simp (disch:=decide) only [gn]) (by simp (disch:=decide) only [gn]) (by simp (disch:=decide) only [gn]) (by simp (disch:=decide) only [gn]) (by simp (disch:=decide) only [gn]) (by simp (disch:=decide) only [gn]) (by simp only [gn];simp [aimB,hany])
  |false=>
   try simp only [gn]
   exact k2 _ (by simp (disch:=decide) only [gn]) (by simp (disch:=decide) only [gn]) (by simp (disch:=decide) only [gn]) (by simp (disch:=decide) only [gn]) (by simp (disch:=decide) only [gn]) (by simp (disch:=decide) only [gn]) (by simp (disch:=decide) only [gn]) (by simp (disch:=decide) only [gn];simp [aimB,hany])
 intro r1 f1 f2 f4 f6 f9 f11 f14 f16
 unfold Pb
 refine ⟨h4,Hp.le.refl _,?_⟩
 try simp only [gn,f1]
 cases To with
 |none=>
  rw [show vt = .pointer none from tv]
  try simp only [gn,fg]
  rw [<- hKR]
  try simp (disch:=decide) only [gn]
  exact out1 rfl
 |some T=>
  obtain ⟨tp,rfl,ts,gt,fw⟩:=tv
  try simp only [gn]
  refine (Rv.oy (ts.up (L.trans l4) d4)).mono ?_
  rintro _ h5 ⟨rfl,rfl⟩
  refine ⟨Hp.le.refl _,?_⟩
  try simp only [gn,f6,cc4]
  have hw:IntKind.i64.wrap (C.w*C.h)=C.w*C.h:=by
   have a1:=gs.w1
   have a2:=gs.w2
   have a3:=gs.k1
   have a4:=gs.k2
   unfold wC at a1 a2
   unfold kC at a3 a4
   have b1:0<=C.w*C.h:=Int.mul_nonneg (by omega) (by omega)
   have b2:C.w*C.h<=16*16:=Int.mul_le_mul (by omega) (by omega) (by omega) (by omega)
   exact li (by omega) (by omega)
  rw [hw]
  by_cases q1:(T.length:Int)=C.w*C.h
  rotate_left
  . try simp only [gn,show ((T.length:Int) != C.w*C.h)=true from by simpa using q1,fg]
    rw [<- hKR]
    try simp (disch:=decide) only [gn]
    exact out1 (by unfold pq;exact if_pos (.inl q1))
  try simp only [gn,show ((T.length:Int) != C.w*C.h)=false from by simpa using q1,f2]
  by_cases q2:rb<0
  . try simp only [gn,iy q2,fg]
    rw [<- hKR]
    try simp (disch:=decide) only [gn]
    exact out1 (by unfold pq;exact if_pos (.inr (.inl q2)))
  try simp only [gn,i9 q2,f4]
  by_cases q3:t<0
  . try simp only [gn,iy q3,fg]
    rw [<- hKR]
    try simp (disch:=decide) only [gn]
    exact out1 (by unfold pq;exact if_pos (.inr (.inr (.inl q3))))
  try simp only [gn,i9 q3,f4]
  by_cases q4:t>=4611686018427387904
  . try simp only [gn,iy q4,fg]
    rw [<- hKR]
    try simp (disch:=decide) only [gn]
    exact out1 (by unfold pq;exact if_pos (.inr (.inr (.inr (.inl q4)))))
  try simp only [gn,i9 q4,f14,f9,cp4]
  refine (ng gs4 st hp).mono ?_
  rintro _ h6 ⟨rfl,rfl⟩
  cases q5:df (wC C) (kC C) (f3C C) p with
  |false=>
   try simp only [gn,fg]
   rw [<- hKR]
   try simp (disch:=decide) only [gn]
   exact out1 (by unfold pq;exact if_pos (.inr (.inr (.inr (.inr (.inl q5))))))
  |true=>
  try simp only [gn,f16]
  cases q6:aimB C gp any with
  |false=>
   try simp only [gn,q6]
   rw [<- hKR]
   try simp (disch:=decide) only [gn]
   exact out1 (by unfold pq;exact if_pos (.inr (.inr (.inr (.inr (.inr q6))))))
  |true=>
  try simp only [gn,q6]
  rw [<- hKR]
  have hfw:pq C (some T) rb p t gp any=find (envE C (wC C) (kC C) (f3C C) T rb) (lg gp any) p t zM C.bu.toNat:=by
   unfold pq
   refine if_neg ?_
   rintro (h|h|h|h|h|h)
   . exact h q1
   . exact q2 h
   . exact q3 h
   . exact q4 h
   . rw [q5]at h;cases h
   . rw [q6]at h;cases h
  refine find_k3 (T:=T) (rb:=rb) (p:=p) (gp:=gp) (any:=any) (t:=t) st mk (hbu mk) gt fw go (ca.up L d3) (ts.up L d3) q5 (by omega) (by unfold FV;omega) bc3 bp3 bg3 s4 d4 _ (by simp (disch:=omega) only [aq,f1]) (by simp (disch:=omega) only [aq,f2]) (by simp (disch:=omega) only [aq,f4]) (by simp (disch:=omega) only [aq,f6]) (by simp (disch:=omega) only [aq,f9]) (by simp (disch:=omega) only [aq,f11]) (by simp (disch:=omega) only [aq,f14]) ?_
  rintro u h' ⟨ip,vs,e1,e2,e3,e4,e5⟩
  exact ⟨_,⟨ip,vs,e1,e2,e3,(e4.swap.cut L).swap,e5⟩,.inr ⟨mk,hfw.symm⟩⟩
end Go.Proofs.YtfflipnhffknnaaGreatDoor
end
section
namespace Go.Proofs.YtfflipnhffknnaaGreatDoor
open Go Go.HL
section
variable (G:Hp) (K:EK) (r:Rg) (h:Hp)
def md12:Nat->Hint
 |6=>mh false [0,1,0,0,0,0,0,0,192,511,1023,2047,2047,4095,16383] [m_,e_,n_,n_,m_,n_,m_,n_,n_,e_,n_,n_,n_,n_,n_] [false,true,false,false,false,false,false,false,false,false,false,false,false,false,false] false
 |14=>mh true [0,1,3,7,15,31,63,127,255,511,511,2047,4095,8191,16383,32767,65535,32767,262143,524287,1048575,2097151,4194303,2097151,16777215,33554431,67108863,134217727,268435455,134217727,671088639,134217727,134217727,6576668671,16777215999,34359738367,68719476735,137438953471,274877906943,274877906943,274877906943,274877906943,2473901162495,274877906943,274877906943,17867063951359,70368744177663,140737488355327,281474976710655,562949953421311,1125899906842623,1125899906842623,1125899906842623,1125899906842623,1125899906842623,28147497671065599,1125899906842623,73183493944770559,1125899906842623,289356276058554367,1152921504606846975,2305843009213693951,4611686018427387903] [n_,m_,m_,n_,n_,m_,m_,n_,n_,m_,m_,e_,n_,n_,n_,n_,m_,m_,m_,n_,n_,n_,m_,n_,n_,n_,n_,n_,m_,n_,m_,m_,m_,e_,n_,m_,n_,n_,m_,n_,n_,m_,e_,n_,n_,m_,e_,n_,n_,n_,m_,n_,n_,m_,m_,e_,n_,m_,n_,m_,e_,n_,n_] [false,false,false,false,false,false,false,false,false,false,false,true,false,false,false,false,false,false,false,false,false,false,false,false,false,false,false,false,false,false,false,false,false,true,false,false,false,false,false,false,false,false,true,false,false,false,true,false,false,false,false,false,false,false,false,true,false,false,false,false,false,false,false] false
 |18=>mh false [0,1,0,4,15,31,63,127,255,255,1023,2047,4095,8191,16383,16383,16383,16383,147455,16383,1048575,2097151,4194303,8388607,16777215,33554431] [n_,m_,n_,m_,m_,n_,n_,n_,m_,m_,m_,n_,n_,n_,m_,n_,n_,m_,e_,n_,e_,n_,n_,e_,n_,n_] [false,false,false,false,false,false,false,false,false,false,false,false,false,false,false,false,false,false,true,false,false,false,false,false,false,false] false
 |_=>mh false [] [] [] false
def Vd:Prop:=
 p_ (Instr.fieldAt 30 (r 20) 0) h fun v24 h24=>
 w_ G h (Instr.loadAt 28 v24) h24 fun v25 h25=>
 p_ (Instr.fieldAt 30 (r 12) 0) h25 fun v26 h26=>
 w_ G h (Instr.loadAt 28 v26) h26 fun v27 h27=>
 bm P_ G h (xEq .eql 28 (.tmp 0) (.tmp 0) v25 v27) h27 fun v28 h28=>g_ v28 true (fun K1=>K1 (r 6) h28) h28 fun v29 h29=>g_ v28 true (fun K1=>K1 v29 h29) h29 fun v30 h30=>g_ v30 false (w_ G h (Instr.loadAt 30 (r 20)) h30) h30 fun v31 h31=>g_ v30 false (w_ G h (Instr.loadAt 30 (r 12)) h31) h31 fun v32 h32=>g_ v30 false (bm P_ G h (xEq .eql 30 (.tmp 0) (.tmp 0) v31 v32) h32) h32 fun v33 h33=>g_ v28 true (bm P_ noHp noHp (bf v30 (.bool true) v33) h33) h33 fun v34 h34=>
 bm P_ noHp noHp (bf v28 v34 (.bool false)) h34 fun v35 h35=>g_ v35 true (w_ G h (Instr.loadAt 26 (r 7)) h35) h35 fun v36 h36=>g_ v35 true (fun K1=>K1 (r 16) h36) h36 fun v37 h37=>g_ v35 true (fun K1=>K1 (r 2) h37) h37 fun v38 h38=>g_ v35 true (w_ G h (Instr.loadAt 30 (r 20)) h38) h38 fun v39 h39=>g_ v35 true (fun K1=>c_ G 40 #[v39] h39 fun v h'=>h.le h'/\K1 v h') h39 fun v40 h40=>g_ v35 true (fun K1=>K1 (r 21) h40) h40 fun v41 h41=>g_ v35 true (c_ G 47 #[v36,v37,v38,v40,v41,(.int .i64 4611686018427387904)] h41) h41 fun v42 h42=>
 bm P_ noHp noHp (bf v35 v42 (.bool false)) h42 fun v43 h43=>g_ v43 true (c_ G 23 #[] h43) h43 fun v44 h44=>
 bm P_ noHp noHp (bf v43 v44 (.bool false)) h44 fun v45 h45=>
 K .ret (u6 (u10 (u10 r 137 v24 138 v25 139 v26 140 v27 141 v28 142 v28 143 v29 144 v30 145 v31 146 v32) 147 v33 148 v34 149 v35 150 v35 151 v36 152 v37 153 v38 154 v39 155 v40 156 v41) 157 v42 158 v43 159 v43 160 v44 161 v45 14 v45) h45
def M9:Prop:=
 o_ G (binOp .add 3 (r 22) (.int .i64 1)) h fun v48 h48=>
 K .normal (u3 r 64 (r 22) 65 v48 22 v48) h48
def M8:Prop:=
 o_ G (Instr.fieldAt 48 (r 23) 4) h fun v109 h109=>o_ G (Instr.loadAt 30 v109) h109 fun v110 h110=>
 opH P_ G (su (Instr.storeAt 30 (r 20) v110)) h110 fun v111 h111=>o_ G (Instr.fieldAt 48 (r 23) 6) h111 fun v112 h112=>o_ G (Instr.loadAt 3 v112) h112 fun v113 h113=>
 M9 G K (u5 r 133 v109 134 v110 135 v112 136 v113 21 v113) h113
def Na:Prop:=
 o_ G (Instr.indexAt 40 (r 18) (r 22)) h fun v49 h49=>o_ G (Instr.loadAt 48 v49) h49 fun v50 h50=>o_ G (Instr.alloc 48 true (.tuple #[])) h50 fun v51 h51=>
 opH P_ G (su (Instr.storeAt 48 v51 v50)) h51 fun v52 h52=>
 p_ (Instr.fieldAt 48 v51 0) h52 fun v53 h53=>
 w_ G h52 (Instr.loadAt 3 v53) h53 fun v54 h54=>
 bm P_ G h52 (xEq .neq 3 (.tmp 0) (.const .nilFunc) v54 (.int .i64 1)) h54 fun v55 h55=>g_ v55 true (p_ (Instr.fieldAt 48 v51 0) h55) h55 fun v56 h56=>g_ v55 true (w_ G h52 (Instr.loadAt 3 v56) h56) h56 fun v57 h57=>g_ v55 true (bm P_ G h52 (xEq .neq 3 (.tmp 0) (.const .nilFunc) v57 (.int .i64 2)) h57) h57 fun v58 h58=>
 bm P_ noHp noHp (bf v55 v58 (.bool false)) h58 fun v59 h59=>g_ v59 false (w_ G h52 (Instr.loadAt 26 (r 7)) h59) h59 fun v60 h60=>g_ v59 false (w_ G h52 (Instr.loadAt 48 v51) h60) h60 fun v61 h61=>g_ v59 false (fun K1=>c_ G 45 #[v60,v61] h61 fun v h'=>h52.le h'/\K1 v h') h61 fun v62 h62=>g_ v59 false (p_ (Op.unary .not v62) h62) h62 fun v63 h63=>
 bm P_ noHp noHp (bf v59 (.bool true) v63) h63 fun v64 h64=>g_ v64 false (p_ (Instr.fieldAt 48 v51 3) h64) h64 fun v65 h65=>g_ v64 false (w_ G h52 (Instr.loadAt 30 v65) h65) h65 fun v66 h66=>g_ v64 false (w_ G h52 (Instr.loadAt 30 (r 20)) h66) h66 fun v67 h67=>g_ v64 false (bm P_ G h52 (xEq .neq 30 (.tmp 0) (.tmp 0) v66 v67) h67) h67 fun v68 h68=>
 bm P_ noHp noHp (bf v64 (.bool true) v68) h68 fun v69 h69=>g_ v69 false (p_ (Instr.fieldAt 48 v51 5) h69) h69 fun v70 h70=>g_ v69 false (w_ G h52 (Instr.loadAt 3 v70) h70) h70 fun v71 h71=>g_ v69 false (fun K1=>K1 (r 21) h71) h71 fun v72 h72=>g_ v69 false (p_ (binOp .lss 3 v71 v72) h72) h72 fun v73 h73=>
 bm P_ noHp noHp (bf v69 (.bool true) v73) h73 fun v74 h74=>g_ v74 false (p_ (Instr.fieldAt 48 v51 6) h74) h74 fun v75 h75=>g_ v74 false (w_ G h52 (Instr.loadAt 3 v75) h75) h75 fun v76 h76=>g_ v74 false (p_ (Instr.fieldAt 48 v51 5) h76) h76 fun v77 h77=>g_ v74 false (w_ G h52 (Instr.loadAt 3 v77) h77) h77 fun v78 h78=>g_ v74 false (w_ G h52 (Instr.loadAt 26 (r 7)) h78) h78 fun v79 h79=>g_ v74 false (w_ G h52 (Instr.loadAt 48 v51) h79) h79 fun v80 h80=>g_ v74 false (fun K1=>c_ G 46 #[v79,v80] h80 fun v h'=>h52.le h'/\K1 v h') h80 fun v81 h81=>g_ v74 false (p_ (binOp .add 3 v78 v81) h81) h81 fun v82 h82=>g_ v74 false (bm P_ G h52 (xEq .neq 3 (.tmp 0) (.tmp 0) v76 v82) h82) h82 fun v83 h83=>
 bm P_ noHp noHp (bf v74 (.bool true) v83) h83 fun v84 h84=>g_ v84 false (w_ G h52 (Instr.loadAt 26 (r 7)) h84) h84 fun v85 h85=>g_ v84 false (fun K1=>K1 (r 16) h85) h85 fun v86 h86=>g_ v84 false (fun K1=>K1 (r 2) h86) h86 fun v87 h87=>g_ v84 false (w_ G h52 (Instr.loadAt 30 (r 20)) h87) h87 fun v88 h88=>g_ v84 false (fun K1=>c_ G 40 #[v88] h88 fun v h'=>h52.le h'/\K1 v h') h88 fun v89 h89=>g_ v84 false (fun K1=>K1 (r 21) h89) h89 fun v90 h90=>g_ v84 false (p_ (Instr.fieldAt 48 v51 5) h90) h90 fun v91 h91=>g_ v84 false (w_ G h52 (Instr.loadAt 3 v91) h91) h91 fun v92 h92=>g_ v84 false (fun K1=>c_ G 47 #[v85,v86,v87,v89,v90,v92] h92 fun v h'=>h52.le h'/\K1 v h') h92 fun v93 h93=>g_ v84 false (p_ (Op.unary .not v93) h93) h93 fun v94 h94=>
 bm P_ noHp noHp (bf v84 (.bool true) v94) h94 fun v95 h95=>g_ v95 false (w_ G h52 (Instr.loadAt 26 (r 7)) h95) h95 fun v96 h96=>g_ v95 false (fun K1=>K1 (r 16) h96) h96 fun v97 h97=>g_ v95 false (fun K1=>K1 (r 2) h97) h97 fun v98 h98=>g_ v95 false (w_ G h52 (Instr.loadAt 26 (r 7)) h98) h98 fun v99 h99=>g_ v95 false (w_ G h52 (Instr.loadAt 48 v51) h99) h99 fun v100 h100=>g_ v95 false (fun K1=>c_ G 48 #[v99,v100] h100 fun v h'=>h52.le h'/\K1 v h') h100 fun v101 h101=>g_ v95 false (p_ (Instr.fieldAt 48 v51 5) h101) h101 fun v102 h102=>g_ v95 false (w_ G h52 (Instr.loadAt 3 v102) h102) h102 fun v103 h103=>g_ v95 false (p_ (Instr.fieldAt 48 v51 6) h103) h103 fun v104 h104=>g_ v95 false (w_ G h52 (Instr.loadAt 3 v104) h104) h104 fun v105 h105=>g_ v95 false (c_ G 47 #[v96,v97,v98,v101,v103,v105] h105) h105 fun v106 h106=>g_ v95 false (p_ (Op.unary .not v106) h106) h106 fun v107 h107=>
 bm P_ noHp noHp (bf v95 (.bool true) v107) h107 fun v108 h108=>
 (fun q=>cond v108
 (K .ret (upd q 14 (.bool false)) h108)
 (M8 G K q h108))
 (u8 (u10 (u10 (u10 (u10 (u10 (u10 r 66 (r 18) 67 (r 22) 68 v49 69 v50 23 v51 70 v53 71 v54 72 v55 73 v55 74 v56) 75 v57 76 v58 77 v59 78 v59 79 v60 80 v61 81 v62 82 v63 83 v64 84 v64) 85 v65 86 v66 87 v67 88 v68 89 v69 90 v69 91 v70 92 v71 93 v72 94 v73) 95 v74 96 v74 97 v75 98 v76 99 v77 100 v78 101 v79 102 v80 103 v81 104 v82) 105 v83 106 v84 107 v84 108 v85 109 v86 110 v87 111 v88 112 v89 113 v90 114 v91) 115 v92 116 v93 117 v94 118 v95 119 v95 120 v96 121 v97 122 v98 123 v99 124 v100) 125 v101 126 v102 127 v103 128 v104 129 v105 130 v106 131 v107 132 v108)
def aC7 (r:Rg) (h:Hp) (K:EK):Prop:=
 o_ G (Builtin.len_ #[40] 3 #[(r 18)]) h fun v46 h46=>o_ G (binOp .lss 3 (r 22) v46) h46 fun v47 h47=>
 cond v47
 (Na G K (u4 r 60 (r 22) 61 (r 18) 62 v46 63 v47) h47)
 (K (.exit 0) (u4 r 60 (r 22) 61 (r 18) 62 v46 63 v47) h47)
def aC8:Prop:=
 o_ G (Instr.loadAt 30 (r 10)) h fun v21 h21=>o_ G (Instr.alloc 30 true (.tuple #[])) h21 fun v22 h22=>
 opH P_ G (su (Instr.storeAt 30 v22 v21)) h22 fun v23 h23=>
 dc (aC7 G) (u5 r 58 v21 59 (r 4) 20 v22 21 (r 4) 22 (.int .i64 0)) h23 (bj 0 (bw (Vd G K) K))
def aC9:Prop:=
 w_ G h (Instr.loadAt 26 (r 7)) h fun v12 h12=>
 c_ G 28 #[v12] h12 fun v13 h13=>h.le h13/\
 w_ G h (Instr.loadAt 30 (r 10)) h13 fun v14 h14=>
 w_ G h (Instr.loadAt 30 (r 12)) h14 fun v15 h15=>
 p_ (Instr.build 45 #[(0,v15),(1,(r 6))]) h15 fun v16 h16=>
 c_ G 27 #[v13,(r 15),(r 2),v14,(r 4),v16] h16 fun v17 h17=>
 p_ (Instr.extract v17 0) h17 fun v18 h18=>
 p_ (Instr.extract v17 1) h18 fun v19 h19=>
 opH P_ G (xEq .neq 35 (.tmp 0) (.const .nilFunc) v19 (.int .i64 0)) h19 fun v20 h20=>
 cond v20
 (o_ G (Builtin.len_ #[40] 3 #[v18]) h20 fun v114 h114=>
 opH P_ G (xEq .eql 3 (.tmp 0) (.const .nilFunc) v114 (.int .i64 0)) h114 fun v115 h115=>g_ v115 true (c_ G 23 #[] h115) h115 fun v116 h116=>
 opH P_ G (bf v115 v116 (.bool false)) h116 fun v117 h117=>
 K .ret (u4 (u10 (u10 r 38 v12 39 v13 40 (r 15) 41 (r 2) 42 v14 43 (r 4) 44 v15 45 (r 6) 46 v16 47 v17) 37 v17 48 v18 49 v19 18 v18 19 v19 50 v19 51 v20 52 v18 53 v114 54 v115) 55 v115 56 v116 57 v117 14 v117) h117)
 (aC8 G K (u7 (u10 r 38 v12 39 v13 40 (r 15) 41 (r 2) 42 v14 43 (r 4) 44 v15 45 (r 6) 46 v16 47 v17) 37 v17 48 v18 49 v19 18 v18 19 v19 50 v19 51 v20) h20)
def aD0:Prop:=
 o_ G (Instr.loadAt 26 (r 7)) h fun v6 h6=>
 c_ G 42 #[v6,(r 1)] h6 fun v7 h7=>o_ G (Instr.extract v7 0) h7 fun v8 h8=>o_ G (Instr.extract v7 1) h8 fun v9 h9=>o_ G (Instr.extract v7 2) h9 fun v10 h10=>o_ G (Op.unary .not v10) h10 fun v11 h11=>
 (fun q=>cond v11
 (K .ret (upd q 14 (.bool false)) h11)
 (aC9 G K q h11))
 (u2 (u10 r 29 v6 30 (r 1) 31 v7 28 v7 32 v8 33 v9 34 v10 15 v8 16 v9 17 v10) 35 v10 36 v11)
def S12:Prop:=
 o_ G (Instr.box 26 (r 0)) h fun v0 h0=>o_ G (Instr.box 30 (r 3)) h0 fun v1 h1=>o_ G (Instr.box 30 (r 5)) h1 fun v2 h2=>o_ G (Instr.loadAt 26 v0) h2 fun v3 h3=>
 c_ G 21 #[v3] h3 fun v4 h4=>o_ G (Op.unary .not v4) h4 fun v5 h5=>
 cond v5
 (c_ G 23 #[] h5 fun v118 h118=>
 K .ret (u9 r 7 v0 10 v1 12 v2 14 (.bool false) 24 v3 25 v4 26 v5 27 v118 14 v118) h118)
 (aD0 G K (u7 r 7 v0 10 v1 12 v2 14 (.bool false) 24 v3 25 v4 26 v5) h5)
theorem enter12:Ent 162 12 [.tmp 14] S12:=ent_ (m:=md12) (c:=(Tryz.f12.body.getD .skip)) (fun _ _ _ _=>by kernel_rfl) Tryz.func12 rfl rfl rfl
def md23:Nat->Hint
 |_=>mh false [] [] [] false
def aC6:Prop:=
 o_ G (Instr.loadAt 26 (r 1)) h fun v10 h10=>o_ G (Instr.build 30 #[]) h10 fun v11 h11=>o_ G (Instr.build 28 #[(0,(.int .i64 1))]) h11 fun v12 h12=>o_ G (Instr.build 30 #[(0,v12)]) h12 fun v13 h13=>o_ G (Instr.build 45 #[(0,v13)]) h13 fun v14 h14=>
 c_ G 27 #[v10,(r 2),(.int .i64 0),v11,(.int .i64 5),v14] h14 fun v15 h15=>o_ G (Instr.extract v15 0) h15 fun v16 h16=>o_ G (Instr.extract v15 1) h16 fun v17 h17=>
 opH P_ G (xEq .eql 35 (.tmp 0) (.const .nilFunc) v17 (.int .i64 0)) h17 fun v18 h18=>g_ v18 true (fun K1=>K1 v16 h18) h18 fun v19 h19=>g_ v18 true (o_ G (Builtin.len_ #[40] 3 #[v19]) h19) h19 fun v20 h20=>g_ v18 true (opH P_ G (xEq .eql 3 (.tmp 0) (.const .nilFunc) v20 (.int .i64 1)) h20) h20 fun v21 h21=>
 opH P_ G (bf v18 v21 (.bool false)) h21 fun v22 h22=>g_ v22 true (fun K1=>K1 v16 h22) h22 fun v23 h23=>g_ v22 true (o_ G (Instr.indexAt 40 v23 (.int .i64 0)) h23) h23 fun v24 h24=>g_ v22 true (o_ G (Instr.fieldAt 48 v24 0) h24) h24 fun v25 h25=>g_ v22 true (o_ G (Instr.loadAt 3 v25) h25) h25 fun v26 h26=>g_ v22 true (opH P_ G (xEq .eql 3 (.tmp 0) (.const .nilFunc) v26 (.int .i64 1)) h26) h26 fun v27 h27=>
 opH P_ G (bf v22 v27 (.bool false)) h27 fun v28 h28=>g_ v28 true (fun K1=>K1 v16 h28) h28 fun v29 h29=>g_ v28 true (o_ G (Instr.indexAt 40 v29 (.int .i64 0)) h29) h29 fun v30 h30=>g_ v28 true (o_ G (Instr.fieldAt 48 v30 1) h30) h30 fun v31 h31=>g_ v28 true (o_ G (Instr.loadAt 3 v31) h31) h31 fun v32 h32=>g_ v28 true (opH P_ G (xEq .eql 3 (.tmp 0) (.const .nilFunc) v32 (.int .i64 1)) h32) h32 fun v33 h33=>
 opH P_ G (bf v28 v33 (.bool false)) h33 fun v34 h34=>g_ v34 true (fun K1=>K1 v16 h34) h34 fun v35 h35=>g_ v34 true (o_ G (Instr.indexAt 40 v35 (.int .i64 0)) h35) h35 fun v36 h36=>g_ v34 true (o_ G (Instr.fieldAt 48 v36 2) h36) h36 fun v37 h37=>g_ v34 true (o_ G (Instr.loadAt 3 v37) h37) h37 fun v38 h38=>g_ v34 true (opH P_ G (xEq .eql 3 (.tmp 0) (.const .nilFunc) v38 (.int .i64 1)) h38) h38 fun v39 h39=>
 opH P_ G (bf v34 v39 (.bool false)) h39 fun v40 h40=>g_ v40 true (fun K1=>K1 v16 h40) h40 fun v41 h41=>g_ v40 true (o_ G (Instr.indexAt 40 v41 (.int .i64 0)) h41) h41 fun v42 h42=>g_ v40 true (o_ G (Instr.fieldAt 48 v42 5) h42) h42 fun v43 h43=>g_ v40 true (o_ G (Instr.loadAt 3 v43) h43) h43 fun v44 h44=>g_ v40 true (opH P_ G (xEq .eql 3 (.tmp 0) (.const .nilFunc) v44 (.int .i64 5)) h44) h44 fun v45 h45=>
 opH P_ G (bf v40 v45 (.bool false)) h45 fun v46 h46=>g_ v46 true (fun K1=>K1 v16 h46) h46 fun v47 h47=>g_ v46 true (o_ G (Instr.indexAt 40 v47 (.int .i64 0)) h47) h47 fun v48 h48=>g_ v46 true (o_ G (Instr.fieldAt 48 v48 6) h48) h48 fun v49 h49=>g_ v46 true (o_ G (Instr.loadAt 3 v49) h49) h49 fun v50 h50=>g_ v46 true (opH P_ G (xEq .eql 3 (.tmp 0) (.const .nilFunc) v50 (.int .i64 9)) h50) h50 fun v51 h51=>
 opH P_ G (bf v46 v51 (.bool false)) h51 fun v52 h52=>
 K .ret (u5 (u10 (u10 (u10 (u10 (u10 r 18 v10 19 (r 2) 20 v11 21 v12 22 v13 23 v14 24 v15 17 v15 25 v16 26 v17) 4 v16 5 v17 27 v17 28 v18 29 v18 30 v19 31 v20 32 v21 33 v22 34 v22) 35 v23 36 v24 37 v25 38 v26 39 v27 40 v28 41 v28 42 v29 43 v30 44 v31) 45 v32 46 v33 47 v34 48 v34 49 v35 50 v36 51 v37 52 v38 53 v39 54 v40) 55 v40 56 v41 57 v42 58 v43 59 v44 60 v45 61 v46 62 v46 63 v47 64 v48) 65 v49 66 v50 67 v51 68 v52 0 v52) h52
def S23:Prop:=
 o_ G (Instr.build 26 #[(0,(.int .i64 3)),(1,(.int .i64 1)),(2,(.int .i64 1)),(7,(.int .i64 10)),(8,(.int .i64 2)),(9,(.int .i64 4)),(10,(.int .i64 1)),(11,(.int .i64 1)),(12,(.int .i64 1)),(13,(.int .i64 1)),(14,(.int .i64 100))]) h fun v0 h0=>o_ G (Instr.alloc 26 true (.tuple #[])) h0 fun v1 h1=>
 opH P_ G (su (Instr.storeAt 26 v1 v0)) h1 fun v2 h2=>
 c_ G 24 #[(.int .i64 3)] h2 fun v3 h3=>o_ G (Instr.extract v3 0) h3 fun v4 h4=>o_ G (Instr.extract v3 1) h4 fun v5 h5=>
 opH P_ G (xEq .neq 35 (.tmp 0) (.const .nilFunc) v5 (.int .i64 0)) h5 fun v6 h6=>g_ v6 false (fun K1=>K1 v4 h6) h6 fun v7 h7=>g_ v6 false (opH P_ G (xEq .eql 34 (.tmp 0) (.const .nilFunc) v7 (.pointer none)) h7) h7 fun v8 h8=>
 opH P_ G (bf v6 (.bool true) v8) h8 fun v9 h9=>
 (fun q=>cond v9
 (K .ret (upd q 0 (.bool false)) h9)
 (aC6 G K q h9))
 (u5 (u10 r 0 (.bool false) 6 v0 1 v1 8 v3 7 v3 9 v4 10 v5 2 v4 3 v5 11 v5) 12 v6 13 v6 14 v7 15 v8 16 v9)
theorem enter23:Ent 69 23 [.tmp 0] S23:=ent_ (m:=md23) (c:=(Tryz.f23.body.getD .skip)) (fun _ _ _ _=>by kernel_rfl) Tryz.func23 rfl rfl rfl
def md42:Nat->Hint
 |_=>mh false [] [] [] false
def U8 (G:Hp) (K:EK) (r:Rg) (h:Hp):Prop:=
 K .ret (u5 r 89 (r 7) 90 (r 9) 4 (r 7) 5 (r 9) 6 (.bool true)) h
def M0:Prop:=
 o_ G (binOp .add 3 (r 10) (.int .i64 1)) h fun v24 h24=>
 K .normal (u3 r 43 (r 10) 44 v24 10 v24) h24
def M1:Prop:=
 o_ G (Instr.indexAt 77 (r 1) (r 10)) h fun v25 h25=>o_ G (Instr.loadAt 97 v25) h25 fun v26 h26=>o_ G (Instr.alloc 97 true (.tuple #[])) h26 fun v27 h27=>
 opH P_ G (su (Instr.storeAt 97 v27 v26)) h27 fun v28 h28=>o_ G (Instr.fieldAt 97 v27 0) h28 fun v29 h29=>o_ G (Instr.loadAt 3 v29) h29 fun v30 h30=>
 c_ G 25 #[v30,(.int .i64 5)] h30 fun v31 h31=>o_ G (Instr.fieldAt 97 v27 0) h31 fun v32 h32=>
 opH P_ G (su (Instr.storeAt 3 v32 v31)) h32 fun v33 h33=>o_ G (Instr.fieldAt 97 v27 1) h33 fun v34 h34=>o_ G (Instr.loadAt 3 v34) h34 fun v35 h35=>o_ G (Instr.fieldAt 26 (r 2) 0) h35 fun v36 h36=>o_ G (Instr.loadAt 3 v36) h36 fun v37 h37=>o_ G (Instr.fieldAt 26 (r 2) 1) h37 fun v38 h38=>o_ G (Instr.loadAt 3 v38) h38 fun v39 h39=>o_ G (binOp .mul 3 v37 v39) h39 fun v40 h40=>
 c_ G 25 #[v35,v40] h40 fun v41 h41=>o_ G (Instr.fieldAt 97 v27 1) h41 fun v42 h42=>
 opH P_ G (su (Instr.storeAt 3 v42 v41)) h42 fun v43 h43=>o_ G (Instr.fieldAt 97 v27 0) h43 fun v44 h44=>o_ G (Instr.loadAt 3 v44) h44 fun v45 h45=>o_ G (Instr.fieldAt 97 v27 1) h45 fun v46 h46=>o_ G (Instr.loadAt 3 v46) h46 fun v47 h47=>o_ G (Instr.fieldAt 97 v27 2) h47 fun v48 h48=>o_ G (Instr.loadAt 3 v48) h48 fun v49 h49=>o_ G (Instr.fieldAt 97 v27 3) h49 fun v50 h50=>o_ G (Instr.loadAt 3 v50) h50 fun v51 h51=>o_ G (Instr.build 75 #[(0,v47),(1,v49),(2,v51)]) h51 fun v52 h52=>o_ G (Instr.buildSlice 71 1 #[(0,v52)]) h52 fun v53 h53=>
 c_ G 50 #[(r 7),v45,v53] h53 fun v54 h54=>o_ G (Instr.fieldAt 97 v27 0) h54 fun v55 h55=>o_ G (Instr.loadAt 3 v55) h55 fun v56 h56=>o_ G (Instr.fieldAt 97 v27 1) h56 fun v57 h57=>o_ G (Instr.loadAt 3 v57) h57 fun v58 h58=>o_ G (Instr.fieldAt 97 v27 2) h58 fun v59 h59=>o_ G (Instr.loadAt 3 v59) h59 fun v60 h60=>o_ G (Instr.fieldAt 97 v27 3) h60 fun v61 h61=>o_ G (Instr.loadAt 3 v61) h61 fun v62 h62=>o_ G (Instr.build 186 #[(0,v58),(1,v60),(2,v62)]) h62 fun v63 h63=>o_ G (Instr.buildSlice 114 1 #[(0,v63)]) h63 fun v64 h64=>
 c_ G 92 #[(r 9),v56,v64] h64 fun v65 h65=>
 opH P_ G (xEq .neq 35 (.tmp 0) (.tmp 0) v54 v65) h65 fun v66 h66=>
 (fun q=>cond v66
 (K .ret (u3 q 4 (.pointer none) 5 (.pointer none) 6 (.bool false)) h66)
 (M0 G K q h66))
 (u7 (u10 (u10 (u10 (u10 r 45 (r 1) 46 (r 10) 47 v25 48 v26 11 v27 49 v29 50 v30 51 v31 52 v32 53 v34) 54 v35 55 v36 56 v37 57 v38 58 v39 59 v40 60 v41 61 v42 62 (r 7) 63 v44) 64 v45 65 v46 66 v47 67 v48 68 v49 69 v50 70 v51 71 v52 72 v53 73 v54) 12 v54 74 (r 9) 75 v55 76 v56 77 v57 78 v58 79 v59 80 v60 81 v61 82 v62) 83 v63 84 v64 85 v65 13 v65 86 v54 87 v65 88 v66)
def aA9 (r:Rg) (h:Hp) (K:EK):Prop:=
 o_ G (Builtin.len_ #[77] 3 #[(r 1)]) h fun v19 h19=>o_ G (binOp .lss 3 (r 10) v19) h19 fun v20 h20=>g_ v20 true (fun K1=>K1 (r 10) h20) h20 fun v21 h21=>g_ v20 true (o_ G (binOp .lss 3 v21 (.int .i64 40)) h21) h21 fun v22 h22=>
 opH P_ G (bf v20 v22 (.bool false)) h22 fun v23 h23=>
 (fun q=>cond v23
 (M1 G K q h23)
 (K (.exit 0) q h23))
 (u8 r 35 (r 10) 36 (r 1) 37 v19 38 v20 39 v20 40 v21 41 v22 42 v23)
def aB0:Prop:=
 dc (aA9 G) (upd r 10 (.int .i64 0)) h (bj 0 (bw (U8 G K) K))
def S42:Prop:=
 o_ G (Instr.box 26 (r 0)) h fun v0 h0=>o_ G (Instr.fieldAt 26 v0 0) h0 fun v1 h1=>o_ G (Instr.loadAt 3 v1) h1 fun v2 h2=>o_ G (Instr.fieldAt 26 v0 1) h2 fun v3 h3=>o_ G (Instr.loadAt 3 v3) h3 fun v4 h4=>o_ G (binOp .mul 3 v2 v4) h4 fun v5 h5=>
 c_ G 24 #[v5] h5 fun v6 h6=>o_ G (Instr.extract v6 0) h6 fun v7 h7=>o_ G (Instr.extract v6 1) h7 fun v8 h8=>o_ G (Instr.fieldAt 26 v0 0) h8 fun v9 h9=>o_ G (Instr.loadAt 3 v9) h9 fun v10 h10=>o_ G (Instr.fieldAt 26 v0 1) h10 fun v11 h11=>o_ G (Instr.loadAt 3 v11) h11 fun v12 h12=>o_ G (binOp .mul 3 v10 v12) h12 fun v13 h13=>
 c_ G 91 #[v13] h13 fun v14 h14=>
 opH P_ G (xEq .neq 35 (.tmp 0) (.const .nilFunc) v8 (.int .i64 0)) h14 fun v15 h15=>g_ v15 false (fun K1=>K1 v7 h15) h15 fun v16 h16=>g_ v15 false (opH P_ G (xEq .eql 34 (.tmp 0) (.const .nilFunc) v16 (.pointer none)) h16) h16 fun v17 h17=>
 opH P_ G (bf v15 (.bool true) v17) h17 fun v18 h18=>
 (fun q=>cond v18
 (K .ret (u3 q 4 (.pointer none) 5 (.pointer none) 6 (.bool false)) h18)
 (aB0 G K q h18))
 (u8 (u10 (u10 r 2 v0 4 (.pointer none) 5 (.pointer none) 6 (.bool false) 15 v1 16 v2 17 v3 18 v4 19 v5 20 v6) 14 v6 21 v7 22 v8 7 v7 8 v8 23 v9 24 v10 25 v11 26 v12 27 v13) 28 v14 9 v14 29 v8 30 v15 31 v15 32 v16 33 v17 34 v18)
theorem enter42:Ent 91 42 [.tmp 4,.tmp 5,.tmp 6] S42:=ent_ (m:=md42) (c:=(Tryz.f42.body.getD .skip)) (fun _ _ _ _=>by kernel_rfl) Tryz.func42 rfl rfl rfl
def md47:Nat->Hint
 |4=>mh false [0,0,0,0,12,28,62,127,255] [n_,m_,n_,n_,n_,m_,e_,e_,n_] (fs 9) false
 |_=>mh false [] [] [] false
def O5 (G:Hp) (K:EK) (r:Rg) (h:Hp):Prop:=
 K .ret (upd r 12 (.bool true)) h
def Ei:Prop:=
 o_ G (binOp .add 3 (r 13) (.int .i64 1)) h fun v3 h3=>
 K .normal (u3 r 20 (r 13) 21 v3 13 v3) h3
def vw:Prop:=
 o_ G (binOp .add 3 (r 15) (.int .i64 1)) h fun v11 h11=>
 K .normal (u3 r 34 (r 15) 35 v11 15 v11) h11
def Di:Prop:=
 o_ G (Instr.indexAt 99 (r 14) (r 15)) h fun v12 h12=>o_ G (Instr.fieldAt 203 v12 2) h12 fun v13 h13=>o_ G (Instr.loadAt 3 v13) h13 fun v14 h14=>
 opH P_ G (xEq .neq 3 (.tmp 0) (.tmp 0) v14 (r 2)) h14 fun v15 h15=>g_ v15 true (fun K1=>K1 (r 14) h15) h15 fun v16 h16=>g_ v15 true (fun K1=>K1 (r 15) h16) h16 fun v17 h17=>g_ v15 true (o_ G (Instr.indexAt 99 v16 v17) h17) h17 fun v18 h18=>g_ v15 true (o_ G (Instr.fieldAt 203 v18 0) h18) h18 fun v19 h19=>g_ v15 true (o_ G (Instr.loadAt 3 v19) h19) h19 fun v20 h20=>g_ v15 true (fun K1=>K1 (r 5) h20) h20 fun v21 h21=>g_ v15 true (o_ G (binOp .lss 3 v20 v21) h21) h21 fun v22 h22=>
 opH P_ G (bf v15 v22 (.bool false)) h22 fun v23 h23=>g_ v23 true (fun K1=>K1 (r 4) h23) h23 fun v24 h24=>g_ v23 true (fun K1=>K1 (r 14) h24) h24 fun v25 h25=>g_ v23 true (fun K1=>K1 (r 15) h25) h25 fun v26 h26=>g_ v23 true (o_ G (Instr.indexAt 99 v25 v26) h26) h26 fun v27 h27=>g_ v23 true (o_ G (Instr.fieldAt 203 v27 1) h27) h27 fun v28 h28=>g_ v23 true (o_ G (Instr.loadAt 3 v28) h28) h28 fun v29 h29=>g_ v23 true (o_ G (binOp .lss 3 v24 v29) h29) h29 fun v30 h30=>
 opH P_ G (bf v23 v30 (.bool false)) h30 fun v31 h31=>
 (fun q=>cond v31
 (K .ret (upd q 12 (.bool false)) h31)
 (vw G K q h31))
 (u5 (u10 (u10 r 36 (r 14) 37 (r 15) 38 v12 39 v13 40 v14 41 (r 2) 42 v15 43 v15 44 v16 45 v17) 46 v18 47 v19 48 v20 49 v21 50 v22 51 v23 52 v23 53 v24 54 v25 55 v26) 56 v27 57 v28 58 v29 59 v30 60 v31)
def Mw (r:Rg) (h:Hp) (K:EK):Prop:=
 o_ G (Builtin.len_ #[99] 3 #[(r 14)]) h fun v9 h9=>o_ G (binOp .lss 3 (r 15) v9) h9 fun v10 h10=>
 cond v10
 (Di G K (u4 r 30 (r 15) 31 (r 14) 32 v9 33 v10) h10)
 (K (.exit 2) (u4 r 30 (r 15) 31 (r 14) 32 v9 33 v10) h10)
def Mx:Prop:=
 w_ G h (Instr.loadAt 26 (r 6)) h fun v4 h4=>
 p_ (Instr.indexAt 22 (r 3) (r 13)) h4 fun v5 h5=>
 w_ G h (Instr.loadAt 28 v5) h5 fun v6 h6=>
 c_ G 41 #[v4,v6] h6 fun v7 h7=>
 c_ G 101 #[(r 1),v7] h7 fun v8 h8=>
 dc (Mw G) (u10 r 22 (r 1) 23 v4 24 (r 3) 25 (r 13) 26 v5 27 v6 28 v7 29 v8 14 v8 15 (.int .i64 0)) h8 (bj 2 (bj 1 (bw (Ei G K) K)))
def aA1 (r:Rg) (h:Hp) (K:EK):Prop:=
 o_ G (Builtin.len_ #[22] 3 #[(r 3)]) h fun v1 h1=>o_ G (binOp .lss 3 (r 13) v1) h1 fun v2 h2=>
 cond v2
 (Mx G K (u4 r 16 (r 13) 17 (r 3) 18 v1 19 v2) h2)
 (K (.exit 0) (u4 r 16 (r 13) 17 (r 3) 18 v1 19 v2) h2)
def S47:Prop:=
 o_ G (Instr.box 26 (r 0)) h fun v0 h0=>
 dc (aA1 G) (u3 r 6 v0 12 (.bool false) 13 (.int .i64 0)) h0 (bj 0 (bw (O5 G K) K))
theorem enter47:Ent 61 47 [.tmp 12] S47:=ent_ (m:=md47) (c:=(Tryz.f47.body.getD .skip)) (fun _ _ _ _=>by kernel_rfl) Tryz.func47 rfl rfl rfl
end
end Go.Proofs.YtfflipnhffknnaaGreatDoor
end
section
namespace Go.Proofs.YtfflipnhffknnaaGreatDoor
open Go Go.HL Go.Proofs.Resv Go.Proofs.Srch
def Lz:=jq bC (jq (jq (jq (jq @List.length_cons.{0} @List.length_nil.{0}) (jq @al26 (jq @py @bd28_0))) (jq (jq @bd30_ (jq @bd30_0 @bd45_0)) (jq @beq_self_eq_true.{0} (jq @bne_self_eq_false.{0} @cf24)))) (jq (jq (jq @cf27 (jq @Wu @Ba)) (jq @Oh (jq @Hq @ak4))) (jq (jq @Ud (jq @ld26 @ld3)) (jq @ln40 (jq @st26w @true_and)))))
theorem A3 {n:Nat}:ja (List.replicate n []):=fun L hL=>by rw [(List.mem_replicate.1 hL).2];exact Resv.Good.nil
theorem ak3 {n b:Nat}:Few (List.replicate n []) b:=fun L hL=>by rw [(List.mem_replicate.1 hL).2];exact Nat.zero_le _
def C12:Conf:=⟨3,1,1,[],[],[],[],10,2,4,1,1,1,1,100,false⟩
def W12:Res Move:=pq C12 (some [[],[],[]]) 0 ⟨0,0,false⟩ 5 ⟨1,0,false⟩ false
theorem w12:outE W12=0/\outL W12=[⟨1,1,1,⟨0,0,false⟩,⟨1,0,false⟩,5,9⟩]:=by decide +kernel
theorem made12:fc C12:=by
 rw [G8,may_nil rfl rfl rfl rfl]
 rfl
theorem awake12 {G h:Hp} (st:j9 G):aj P_ G 23 #[] h (fun u h'=>u = .bool true/\h'=h):=by
 refine aj.assume fun d=>quietly (enter23 (by simp) ?_)
 unfold S23
 simp (disch:=first|decide|exact ao|exact am|omega|rfl) only [Lz]
 intro xc hxc gxc
 generalize e1:Hp.set h xc _=h1 at*
 obtain ⟨l1,d1,bc1⟩:=boxed e1 hxc d gxc
 try simp (disch:=first|decide|omega) only [Lz,Nat.reduceAdd,Nat.reduceMul]
 refine (Rv.um (G:=G) (h:=h1) (n:=3) (by decide) (by decide)).mono ?_
 rintro _ h2 ⟨ta,tp,rfl,tab,s2,d2⟩
 try simp only [Lz]
 unfold aC6
 have cc2:∀k,aa G h2 ⟨xc,k,none⟩=_:=fun k=>ai (ag (s2.at 1 rfl bc1))
 try simp (disch:=decide) only [Lz,cc2]
 have hpb:∀x:Int,0<=x->x<=1->Bd x:=fun x h1 h2=>⟨by omega,by omega⟩
 have hf:=Lm (G:=G) (h:=h2) (C:=C12) (v:=Lr C12 none 0 none 0 none 0 none 0) (vt := .pointer (some ⟨tp,0,none⟩)) (To:=some [[],[],[]]) (p:=⟨0,0,false⟩) (gp:=⟨1,0,false⟩) (rb:=0) (t:=5) (any:=false) (ca_nil rfl rfl rfl rfl).cv st (by intro p hp;cases hp) (by decide) (fun _=>by decide)
  ⟨tp,rfl,tab.see (s2.in 0 rfl),A3 (n:=3),ak3 (n:=3)⟩ ⟨hpb 0 (by decide) (by decide),hpb 0 (by decide) (by decide)⟩ ⟨hpb 1 (by decide) (by decide),hpb 0 (by decide) (by decide)⟩
 simp only [C12,Lr,jy,List.length_nil]at hf
 refine hf.mono ?_
 rintro _ h3 ⟨W,⟨ip,vs,rfl,sl,_,s3,d3⟩,⟨hno,_⟩|⟨_,rfl⟩⟩
 . exact absurd made12 hno
 have w1:outE W12=0:=w12.1
 have w2:outL W12=[⟨1,1,1,⟨0,0,false⟩,⟨1,0,false⟩,5,9⟩]:=w12.2
 unfold W12 C12 at w1 w2
 rw [w2]at sl
 rw [w1]
 obtain ⟨sa,cap,rfl,_⟩:=sl.len (by decide)
 obtain ⟨b,o,rfl,x0,x1,x2,x3,x4,x5,x6,x7,x8,x9,x10⟩:=Sees.mvx (sl.see (G:=G) (by decide) (s3.in 0 rfl)) (i:=0) rfl
 simp only [Nat.zero_mul,Nat.add_zero]at x0 x1 x2 x3 x4 x5 x6 x7 x8 x9 x10
 try simp only [Lz,ix40 (by decide:(0:Int)<=0) (by decide:(0:Int)<(1:Nat)),Int.toNat_zero,Nat.zero_mul,List.length_cons,List.length_nil,x0,x1,x2,x3,x4,x5,x6,x7,x8,x9,x10]
 have hone:(((1:Nat):Int)==1)=true:=rfl
 try simp only [Lz,hone,Nat.zero_add,ix40 (by decide:(0:Int)<=0) (by decide:(0:Int)<(1:Nat)),Int.toNat_zero,Nat.zero_mul,Nat.add_zero,x0,x1,x2,x3,x4,x5,x6,x7,x8,x9,x10]
 exact l1.trans ((s2.in 1 rfl).trans (s3.in 1 rfl))
end Go.Proofs.YtfflipnhffknnaaGreatDoor
end

/- Texts of the proof, one behind the other. -/
import Derived.Test.YtfflipnhffknnaaGreatDoorAM2
import Derived.Test.YtfflipnhffknnaaGreatDoorAM1
import Derived.Test.YtfflipnhffknnaaGreatDoorAH3
import Derived.Test.YtfflipnhffknnaaGreatDoorAH4
set_option linter.unusedSimpArgs false
set_option linter.unusedVariables false
set_option maxRecDepth 100000
set_option maxHeartbeats 4000000
set_option linter.defProp false
section
namespace Go.Proofs.YtfflipnhffknnaaGreatDoor
open Go Go.HL
def bRpL:=jq bC (jq (jq (jq (jq @al28 @al30) (jq @kg @cf61)) (jq (jq @cf88 @cf89) (jq @Dh (jq @Ii @ld28)))) (jq (jq (jq @ld3 @ld30) (jq @ld4 @Mk)) (jq (jq @ln22 @ln23) (jq @ld (jq @Lo @A0)))))
def f2 (w k:Nat) (f:Nat->Nat->Int) (T:List Cell) (x y:Nat):Int:=if ((x:Int),(y:Int))∈T then -2 else f1 w k f x y
theorem Xx {w k:Nat} {f:Nat->Nat->Int} {T:List Cell} (hT:∀c∈T,fAt f c ≠ -1) (x y:Nat):f2 w k f T x y = -1↔f x y = -1:=by
 unfold f2
 split
 . rename_i h
   have:=hT _ h
   simp only [fAt,Int.toNat_natCast]at this
   constructor
   . intro e;omega
   . intro e;exact absurd e this
 . exact Xy x y
theorem f2_snoc {w k:Nat} {f:Nat->Nat->Int} {T:List Cell} {c:Cell} (h1:0<=c.1) (h2:0<=c.2):f2 w k f (T++[c])=fun p q=>if p=c.1.toNat/\q=c.2.toNat then -2 else f2 w k f T p q:=by
 funext p q
 unfold f2
 by_cases hpq:p=c.1.toNat/\q=c.2.toNat
 . have e:((p:Int),(q:Int))=c:=by rw [hpq.1,hpq.2,Int.toNat_of_nonneg h1,Int.toNat_of_nonneg h2]
   rw [if_pos hpq,e,if_pos (by simp)]
 . have e:((p:Int),(q:Int))≠c:=fun e=>hpq (by rw [<- e];simp)
   rw [if_neg hpq]
   by_cases hm:((p:Int),(q:Int))∈T
   . rw [if_pos (by simp [hm]),if_pos hm]
   . rw [if_neg (by simp [hm,e]),if_neg hm]
theorem GO.other {h:Hp} {gp kb w k:Nat} {f:Nat->Nat->Int} (g:GO h gp kb w k f) {b:Nat} {cs:Array Value} {e:TypeId} {o:Obj} (hb:h b=some (.cells cs e (0,0))) (h1:e≠215) (h2:e≠3):GO (h.set b o) gp kb w k f:=by
 have n1:gp≠b:=fun q=>by have:=g.hd;rw [q,hb]at this;simp at this;exact h1 this.2
 have n2:kb≠b:=fun q=>by have:=g.row;rw [q,hb]at this;simp at this;exact h2 this.2
 exact ⟨by rw [au n1];exact g.hd,by rw [au n2];exact g.row,g.w1,g.w2,g.k1,g.k2⟩
theorem MK.other {h:Hp} {mb w k:Nat} {f:Nat->Nat->Bool} (g:MK h mb w k f) {b:Nat} {cs:Array Value} {e:TypeId} {o:Obj} (hb:h b=some (.cells cs e (0,0))) (h1:e≠4):MK (h.set b o) mb w k f:=by
 unfold MK at*
 have n1:mb≠b:=fun q=>by rw [q,hb]at g;simp at g;exact h1 g.2
 rw [au n1];exact g
theorem MK.le {a h:Hp} {mb w k:Nat} {f:Nat->Nat->Bool} (g:MK a mb w k f) (l:a.le h):MK h mb w k f:=l _ _ g
theorem Z0 {G:Hp} {gp kb mb w k:Nat} {f:Nat->Nat->Int} {KK:EK} {cs T0:List Cell} {cb:Nat} {p:Pose} (r:Rg) (h:Hp) (hcs:cs=bz p) (hin:∀c∈cs,inW w k c=true)
   (hc:h cb=some (.cells #[p.x,p.y,(east p).1,(east p).2] 28 (0,0))) (g0:r 0 = .pointer (some ⟨gp,0,none⟩)) (g7:r 7 = .slice (some ⟨mb,0,none⟩) (w*k) (w*k)) (g91:r 91 = .slice (some ⟨cb,0,none⟩) 2 2) (g92:r 92 = .int .i64 2) (g93:r 93 = .int .i64 0)
   (go:GO h gp kb w k (f2 w k f T0)) (mk:MK h mb w k (i9 T0)) (d:Dis G h) (hnd0:T0.Nodup)
   (H1:(∀c∈cs,fAt (f1 w k f) c<=0)->(T0++cs).Nodup->∀(r':Rg) h',r' 0=r 0->r' 7=r 7->r' 79=r 79->r' 80=r 80->r' 81=r 81->GO h' gp kb w k (f2 w k f (T0++cs))->MK h' mb w k (i9 (T0++cs))->Dis G h'->KK (.exit 4) r' h')
   (H2:¬((∀c∈cs,fAt (f1 w k f) c<=0)/\(T0++cs).Nodup)->∀(r':Rg) h',r' 4 = .bool false->Dis G h'->KK .ret r' h'):dl (Cb G) r h KK:=by
 have hlen:cs.length=2:=by rw [hcs];rfl
 refine di (fun m r2 h3=>∃j:Nat,m=2-j/\j<=2/\r2 0=r 0/\r2 7=r 7/\r2 79=r 79/\r2 80=r 80/\r2 81=r 81/\r2 91=r 91/\r2 92=r 92/\r2 93 = .int .i64 j/\(∀c∈cs.take j,fAt (f1 w k f) c<=0)/\(T0++cs.take j).Nodup/\
    GO h3 gp kb w k (f2 w k f (T0++cs.take j))/\MK h3 mb w k (i9 (T0++cs.take j))/\h3 cb=some (.cells #[p.x,p.y,(east p).1,(east p).2] 28 (0,0))/\Dis G h3) ?_
   (m:=2) ⟨0,rfl,Nat.zero_le _,rfl,rfl,rfl,rfl,rfl,rfl,rfl,by rw [g93];rfl,by simp,by simpa using hnd0,by simpa using go,by simpa using mk,hc,d⟩
 rintro m r2 h3 ⟨j,rfl,hj,q0,q7,q79,q80,q81,q91,q92,q93,hok,hnd,go,mk,hc3,d3⟩ X HX
 rw [g0]at q0
 rw [g7]at q7
 rw [g91]at q91
 rw [g92]at q92
 unfold Cb
 simp only [bRpL,q92,q93]
 refine bv (fun hlt=>?_) (fun hge=>?_)
 rotate_left
 . obtain rfl:j=2:=by omega
   rw [List.take_of_length_le (by omega)]at hok hnd go mk
   exact H1 hok hnd _ _ (by simp (disch:=decide) only [bRpL,q0,g0]) (by simp (disch:=decide) only [bRpL,q7,g7]) (by simp (disch:=decide) only [bRpL,q79]) (by simp (disch:=decide) only [bRpL,q80]) (by simp (disch:=decide) only [bRpL,q81]) go mk d3
 have hlt':j<2:=by omega
 obtain ⟨y,hy⟩:∃x,cs[j]?=some x:=⟨_,List.getElem?_eq_getElem (by omega)⟩
 have hym:y∈cs:=List.mem_of_getElem? hy
 have sv:Sees dr G h3 (.slice (some ⟨cb,0,none⟩) cs.length 2) cs:=by rw [hcs];exact Sees.row hc3 rfl (Nat.le_refl _)
 obtain ⟨b,ofs,eb,z0,z1⟩:=Sees.cell sv hy
 cases eb
 rw [Nat.zero_add]at z0 z1
 unfold Bp
 simp (disch:=first|decide|exact aq|exact ao|omega|rfl) only [bRpL,q91,q93,ix22 (Int.natCast_nonneg j) (show (j:Int)<(2:Nat)by omega),z0,z1]
 intro t ht gt
 have go4:GO (h3.set t (.cells #[y.1,y.2] 28 (0,0))) gp kb w k (f2 w k f (T0++cs.take j)):=go.le (b8 ht)
 have mk4:MK (h3.set t (.cells #[y.1,y.2] 28 (0,0))) mb w k (i9 (T0++cs.take j)):=mk.le (b8 ht)
 have hc4:=b8 (o := .cells #[y.1,y.2] 28 (0,0)) ht _ _ hc3
 have d4:=d3.set (o := .cells #[y.1,y.2] 28 (0,0)) gt
 try simp only [bRpL,q0]
 generalize h3.set t (.cells #[y.1,y.2] 28 (0,0))=h4 at*
 refine (nn (c:=y) (go4.gs (G:=G))).mono ?_
 rintro _ h4 ⟨rfl,rfl⟩
 have hc':=hin y hym
 obtain ⟨hn,hx,hyk,hlt2⟩:=uv hc'
 obtain ⟨a1,a2,a3,a4⟩:=jc.1 hc'
 have hxy:((y.1.toNat:Int),(y.2.toNat:Int))=y:=by rw [Int.toNat_of_nonneg a1,Int.toNat_of_nonneg a3]
 have mg:=U3 (G:=G) mk4 (Hp.le.refl _) hx hyk
 rw [show i9 (T0++cs.take j) y.1.toNat y.2.toNat=decide (y∈T0++cs.take j)by unfold i9;rw [hxy]]at mg
 have kn:af G h4 ⟨kb,y.2.toNat*w+y.1.toNat,none⟩=some (.int .i64 (f2 w k f (T0++cs.take j) y.1.toNat y.2.toNat)):=by
   rw [aj (ai go4.row)]
   exact rl icC rfl rfl (vd hx hyk)
 have cg4:∀j,af G h4 ⟨gp,j,none⟩=_:=fun j=>aj (ai go4.hd)
 have g5:=go4.put (v := -2) hx hyk
 have m5:=mk4.put (v:=true) hx hyk
 rw [hn]
 generalize hnn:y.2.toNat*w+y.1.toNat=n at hn hlt2 mg kn g5 m5
 have htk:T0++cs.take (j+1)=(T0++cs.take j)++[y]:=by rw [fq hy,List.append_assoc]
 have bad:y∈T0++cs.take j\/fAt (f1 w k f) y>0->¬((∀c∈cs,fAt (f1 w k f) c<=0)/\(T0++cs).Nodup):=by
   rintro (hm|hp) ⟨h1,h2⟩
   . refine uw (L:=T0++cs) (i:=T0.length+j) (x:=y) (by rw [List.getElem?_append_right (by omega),Nat.add_sub_cancel_left];exact hy) ?_ h2
     rw [List.take_append,List.take_of_length_le (by omega),Nat.add_sub_cancel_left]
     exact hm
   . have:=h1 y hym;omega
 try simp only [bRpL,q7,Eo hlt2,mg]
 by_cases hmem:y∈T0++cs.take j
 . try simp only [bRpL,decide_eq_true hmem]
   exact H2 (bad (.inl hmem)) _ _ (by simp only [bRpL]) d4
 have hf2:f2 w k f (T0++cs.take j) y.1.toNat y.2.toNat=fAt (f1 w k f) y:=by
   unfold f2
   rw [hxy,if_neg hmem]
   rfl
 rw [hf2]at kn
 try simp only [bRpL,decide_eq_false hmem,q0,cg4,Mq hlt2,kn]
 by_cases hpos:fAt (f1 w k f) y>0
 . try simp only [bRpL,decide_eq_true hpos]
   exact H2 (bad (.inr hpos)) _ _ (by simp only [bRpL]) d4
 try simp only [bRpL,decide_eq_false hpos]
 unfold Ab
 try simp (disch:=decide) only [bRpL,q7,Eo hlt2]
 rw [dh sz4 rfl mk4 (by rw [bcC.rows_length,er];simp [bcC];exact hlt2)]
 have go6:=go4.other (o := .cells ((bcC.rows (ku w k (i9 (T0++cs.take j)))).set n (.bool true)).toArray 4 (0,0)) mk4 (by decide) (by decide)
 have hc6:(h4.set mb (.cells ((bcC.rows (ku w k (i9 (T0++cs.take j)))).set n (.bool true)).toArray 4 (0,0))) cb=_:=(au (fun q=>by unfold MK at mk4;rw [<- q,hc4]at mk4;simp at mk4)).trans hc4
 have d6:Dis G (h4.set mb (.cells ((bcC.rows (ku w k (i9 (T0++cs.take j)))).set n (.bool true)).toArray 4 (0,0))):=d4.set (d4 _ _ mk4)
 generalize h4.set mb (.cells ((bcC.rows (ku w k (i9 (T0++cs.take j)))).set n (.bool true)).toArray 4 (0,0))=h6 at*
 have cg6:∀j,af G h6 ⟨gp,j,none⟩=_:=fun j=>aj (ai go6.hd)
 try simp only [bRpL,q0,cg6,Mq hlt2]
 rw [dh sz3 rfl go6.row (by rw [icC.rows_length,er];simp [icC];exact hlt2)]
 have go7:=go6.put (v := -2) hx hyk
 rw [hnn,<- f2_snoc a1 a3,<- htk]at go7
 have mk7:=m5.other (o := .cells ((icC.rows (ku w k (f2 w k f (T0++cs.take j)))).set n (.int .i64 (-2))).toArray 3 (0,0)) go6.row (by decide)
 rw [<- Ef a1 a3,<- htk]at mk7
 have nkc:cb≠kb:=fun q=>by have:=go6.row;rw [<- q,hc6]at this;simp at this
 unfold Ac
 simp (disch:=first|decide|omega) only [bRpL,q93]
 refine HX (2-(j+1)) _ _ (by omega) ⟨j+1,rfl,hlt',by simp (disch:=decide) only [bRpL,q0,g0],by simp (disch:=decide) only [bRpL,q7,g7],by simp (disch:=decide) only [bRpL,q79],by simp (disch:=decide) only [bRpL,q80],by simp (disch:=decide) only [bRpL,q81],by simp (disch:=decide) only [bRpL,q91,g91],by simp (disch:=decide) only [bRpL,q92,g92],by simp only [bRpL]<;>rfl,?_,?_,go7,mk7,(au nkc).trans hc6,d6.set (d6 _ _ go6.row)⟩
 . rw [fq hy]
   intro c hc
   rcases List.mem_append.1 hc with q|q
   . exact hok c q
   . simp at q;rw [q];omega
 . rw [htk]
   exact List.nodup_append.2 ⟨hnd,by simp,fun a ha b hb=>by simp at hb;subst hb;exact fun e=>hmem (e▸ha)⟩
structure Ea (w k:Nat) (f:Nat->Nat->Int) (ro:List Pose):Prop where
 r8:ro.length<=8
 plain:∀x y,x<w->y<k->vc w k f x y=false->f x y<=0
 fit:∀p∈ro,dg w k f p=true
 low:∀c∈ro.flatMap bz,fAt (f1 w k f) c<=0
 once:(ro.flatMap bz).Nodup
theorem o9 {w k:Nat} {f:Nat->Nat->Int} {p:Pose} (h:dg w k f p=true):∀c∈bz p,inW w k c=true/\fAt f c ≠ -1:=by
 unfold dg oc at h
 simp only [Bool.and_eq_true]at h
 intro c hc
 unfold bz at hc
 simp only [List.mem_cons,List.not_mem_nil,or_false]at hc
 rcases hc with rfl|rfl
 . exact ⟨h.1.1,by have:=h.1.2;simpa using this⟩
 . exact ⟨h.2.1,by have:=h.2.2;simpa using this⟩
def RobR (w k gp kb:Nat) (f:Nat->Nat->Int) (ro:List Pose) (u:Value) (h':Hp):Prop:=
 (Ea w k f ro/\u = .bool true/\GO h' gp kb w k (f2 w k f (ro.flatMap bz)))\/(¬Ea w k f ro/\u = .bool false)
theorem R1 {G h:Hp} {gp kb w k:Nat} {f:Nat->Nat->Int} {ro:List Pose} {rv:Value} (go:GO h gp kb w k f) (st:iq G) (sv:vk xu G rv ro) (hp:∀p∈ro,PB p):
   al P_ G 131 #[.pointer (some ⟨gp,0,none⟩),rv] h (RobR w k gp kb f ro):=by
 refine al.assume fun d=>ar6 (by simp) ?_
 obtain ⟨sa,cap,hrv⟩:=(sv h d).len
 have hm2:w*k<=16*16:=Nat.mul_le_mul go.w2 go.k2
 unfold S131
 simp only [bRpL,hrv]
 by_cases h8:ro.length<=8
 rotate_left
 . try simp only [bRpL,show decide ((ro.length:Int)>8)=true from decide_eq_true (by omega)]
   exact .inr ⟨fun q=>h8 q.r8,rfl⟩
 try simp only [bRpL,show decide ((ro.length:Int)>8)=false from decide_eq_false (by omega)]
 unfold Y0
 have cg:∀j,af G h ⟨gp,j,none⟩=_:=fun j=>aj (ai go.hd)
 try simp (disch:=decide) only [bRpL,cg]
 refine robots1 st _ h (by simp (disch:=decide) only [bRpL]) (by simp (disch:=decide) only [bRpL]) (by simp only [bRpL]) go d (fun hpl r2 h2 q0 q1 go2 d2=>?_) (fun ⟨x,y,hx,hy,hk,hpos⟩ r2 h2 q4 d2=>?_)
 rotate_left
 . simp only [bRpL,q4]
   exact .inr ⟨fun q=>by have:=q.plain x y hx hy hk;omega,rfl⟩
 simp only [jw,if_true,i8]
 have q0':r2 0 = .pointer (some ⟨gp,0,none⟩):=q0.trans (by simp (disch:=decide) only [bRpL])
 have q1':r2 1=rv:=q1.trans (by simp (disch:=decide) only [bRpL,hrv])
 have cg2:∀j,af G h2 ⟨gp,j,none⟩=_:=fun j=>aj (ai go2.hd)
 unfold Yz
 try simp only [bRpL,q0',cg2]
 rw [wg bcC false (by decide) un90 eobool (by kernel_rfl) (by omega) (by omega)]
 intro mb hmb gmb
 have go3:GO (h2.set mb (.cells (bcC.rows (List.replicate (w*k) false)).toArray 4 (0,0))) gp kb w k (f2 w k f []):=(go2.le (b8 hmb)).congr fun x y _ _=>by simp [f2]
 have mk3:MK (h2.set mb (.cells (bcC.rows (List.replicate (w*k) false)).toArray 4 (0,0))) mb w k (i9 []):=by unfold MK;rw [ag,Hr,ua]
 have d3:=d2.set (o := .cells (bcC.rows (List.replicate (w*k) false)).toArray 4 (0,0)) gmb
 generalize h2.set mb (.cells (bcC.rows (List.replicate (w*k) false)).toArray 4 (0,0))=h3 at*
 try simp only [bRpL,q1',hrv]
 have no:¬Ea w k f ro->∀hh,RobR w k gp kb f ro (.bool false) hh:=fun q hh => .inr ⟨q,rfl⟩
 refine di (fun m r4 h4=>∃i:Nat,m=ro.length-i/\i<=ro.length/\r4 0 = .pointer (some ⟨gp,0,none⟩)/\r4 7 = .slice (some ⟨mb,0,none⟩) (w*k) (w*k)/\r4 79=rv/\r4 80 = .int .i64 ro.length/\r4 81 = .int .i64 i/\
    (∀p∈ro.take i,dg w k f p=true)/\(∀c∈(ro.take i).flatMap bz,fAt (f1 w k f) c<=0)/\((ro.take i).flatMap bz).Nodup/\
    GO h4 gp kb w k (f2 w k f ((ro.take i).flatMap bz))/\MK h4 mb w k (i9 ((ro.take i).flatMap bz))/\Dis G h4) ?_
   (m:=ro.length) ⟨0,rfl,Nat.zero_le _,by simp (disch:=decide) only [bRpL,q0'],by simp (disch:=decide) only [bRpL],by simp (disch:=decide) only [bRpL,q1',hrv],by simp (disch:=decide) only [bRpL],by simp only [bRpL]<;>rfl,by simp,by simp,by simp,by simpa using go3,by simpa using mk3,d3⟩
 rintro m r4 h4 ⟨i,rfl,hi,k0,k7,k79,k80,k81,hfit,hlow,hnd,go4,mk4,d4⟩ X HX
 unfold Yx
 simp only [bRpL,k80,k81]
 refine bv (fun hlt=>?_) (fun hge=>?_)
 rotate_left
 . obtain rfl:i=ro.length:=by omega
   rw [List.take_of_length_le (Nat.le_refl _)]at hfit hlow hnd go4
   try simp (disch:=first|decide|omega) only [bRpL,Nat.reduceAdd,Nat.reduceMul]
   unfold Yy
   simp only [bRpL]
   exact .inl ⟨⟨h8,hpl,hfit,hlow,hnd⟩,rfl,go4⟩
 have hlt':i<ro.length:=by omega
 obtain ⟨y,hy⟩:∃x,ro[i]?=some x:=⟨_,List.getElem?_eq_getElem hlt'⟩
 have hym:y∈ro:=List.mem_of_getElem? hy
 have sv4:=sv h4 d4
 rw [hrv]at sv4
 obtain ⟨b,ofs,eb,z0,z1,z2⟩:=Sees.pose sv4 hy
 subst eb
 unfold Ke
 simp (disch:=first|decide|exact aq|exact ao|omega|rfl) only [bRpL,k79,hrv,k81,ix23 (Int.natCast_nonneg i) hlt,z0,z1,z2]
 intro t ht gt
 try rw [A0]
 have go5:GO (h4.set t (.cells #[y.x,y.y,.bool y.d] 30 (0,0))) gp kb w k (f2 w k f ((ro.take i).flatMap bz)):=go4.le (b8 ht)
 have mk5:MK (h4.set t (.cells #[y.x,y.y,.bool y.d] 30 (0,0))) mb w k (i9 ((ro.take i).flatMap bz)):=mk4.le (b8 ht)
 have bt:(h4.set t (.cells #[y.x,y.y,.bool y.d] 30 (0,0))) t=some (.cells #[y.x,y.y,.bool y.d] 30 (0,0)):=ag
 have d5:=d4.set (o := .cells #[y.x,y.y,.bool y.d] 30 (0,0)) gt
 generalize h4.set t (.cells #[y.x,y.y,.bool y.d] 30 (0,0))=h5 at*
 have ct:∀j,af G h5 ⟨t,j,none⟩=_:=fun j=>aj (ai bt)
 try simp only [bRpL,ct,k0]
 refine (nw (p:=y) (go5.gs (G:=G)) st (hp y hym)).mono ?_
 rintro _ h5 ⟨rfl,rfl⟩
 have hop:∀c∈(ro.take i).flatMap bz,fAt f c ≠ -1:=by
   intro c hc
   obtain ⟨p,hp1,hp2⟩:=List.mem_flatMap.1 hc
   exact (o9 (hfit p hp1) c hp2).2
 rw [zn (f':=f) (fun x y _ _=>Xx hop x y)]
 cases hf:dg w k f y with
 |false=>
   try simp only [bRpL]
   exact no (fun q=>by have:=q.fit y hym;rw [hf]at this;cases this) _
 |true=>
 try simp only [bRpL]
 unfold Kc
 try simp (disch:=decide) only [bRpL,ct,k0]
 refine (mq (p:=y) st (hp y hym)).mono ?_
 rintro _ _ ⟨cb,rfl,hcb,gcb,rfl⟩
 have go6:GO (h5.set cb (.cells #[y.x,y.y,(east y).1,(east y).2] 28 (0,0))) gp kb w k (f2 w k f ((ro.take i).flatMap bz)):=go5.le (b8 hcb)
 have mk6:MK (h5.set cb (.cells #[y.x,y.y,(east y).1,(east y).2] 28 (0,0))) mb w k (i9 ((ro.take i).flatMap bz)):=mk5.le (b8 hcb)
 have hcs:(h5.set cb (.cells #[y.x,y.y,(east y).1,(east y).2] 28 (0,0))) cb=_:=ag
 have d6:=d5.set (o := .cells #[y.x,y.y,(east y).1,(east y).2] 28 (0,0)) gcb
 generalize h5.set cb (.cells #[y.x,y.y,(east y).1,(east y).2] 28 (0,0))=h6 at*
 try simp only [bRpL]
 have htk:(ro.take (i+1)).flatMap bz=(ro.take i).flatMap bz++bz y:=by rw [fq hy,List.flatMap_append];simp
 refine Z0 (cs:=bz y) (p:=y) _ h6 rfl (fun c hc=>(o9 hf c hc).1) hcs (by simp (disch:=decide) only [bRpL,k0]) (by simp (disch:=decide) only [bRpL,k7]) (by simp (disch:=decide) only [bRpL]) (by simp (disch:=decide) only [bRpL]<;>rfl) (by simp only [bRpL]) go6 mk6 d6 hnd (fun hlw hnd2 r7 h7 j0 j7 j79 j80 j81 go7 mk7 d7=>?_) (fun hbad r7 h7 j4 d7=>?_)
 . simp only [jw,if_true,gg,i8]
   unfold Kd
   have j81':r7 81 = .int .i64 i:=j81.trans (by simp (disch:=decide) only [bRpL,k81])
   simp (disch:=first|decide|omega) only [bRpL,j81']
   refine HX (ro.length-(i+1)) _ _ (by omega) ⟨i+1,rfl,hlt',by simp (disch:=decide) only [bRpL,j0,k0],by simp (disch:=decide) only [bRpL,j7,k7],by simp (disch:=decide) only [bRpL,j79,k79],by simp (disch:=decide) only [bRpL,j80,k80],by simp only [bRpL]<;>rfl,?_,?_,?_,?_,?_,d7⟩
   . rw [fq hy]
     intro c hc
     rcases List.mem_append.1 hc with q|q
     . exact hfit c q
     . simp at q;rw [q];exact hf
   . rw [htk]
     intro c hc
     rcases List.mem_append.1 hc with q|q
     . exact hlow c q
     . exact hlw c q
   . rw [htk];exact hnd2
   . rw [htk];exact go7
   . rw [htk];exact mk7
 . simp only [bRpL,j4]
   refine no (fun q=>hbad ⟨fun c hc=>q.low c (List.mem_flatMap.2 ⟨y,hym,hc⟩),?_⟩) _
   have hsub:((ro.take (i+1)).flatMap bz).Nodup:=by
     have e:ro.flatMap bz=(ro.take (i+1)).flatMap bz++(ro.drop (i+1)).flatMap bz:=by rw [<- List.flatMap_append,List.take_append_drop]
     have:=q.once
     rw [e]at this
     exact (List.nodup_append.1 this).1
   rwa [htk]at hsub
def bRpM:=jq bC (jq (jq (jq (jq @al234 @kg) (jq @T3 @cf158)) (jq (jq @cf88 @Dh) (jq @fa234_0 @Xq))) (jq (jq (jq @Ii @ld234) (jq @ld28 @ld3)) (jq (jq @ld4 @Mk) (jq @ln24 (jq @ld @ag0)))))
theorem un102:P_.underlying 269=some (.map 3 3):=by kernel_rfl
theorem un3:P_.underlying 3=some (.int .i64):=by kernel_rfl
theorem zero3:o0 P_ 3=some (.int .i64 0):=by kernel_rfl
theorem mm102 {G h:Hp} {K:VK}:wpH P_ G (Instr.makeMap 269 none) h K=∀r,h r=none->G r=none->K (.map (some r)) (h.set r (.map #[] 0)):=by kernel_rfl
def GStk (G:Hp) (v:Value) (st:List (Cell × List Int)):Prop:=∃raw:List Raw,vk rawC G v raw/\raw.length=st.length/\
 ∀(i:Nat) (r:Raw) (s:Cell × List Int),raw[i]?=some r->st[i]?=some s->(r.x,r.y)=s.1/\r.n=s.2.length/\vk icC G (.slice r.a s.2.length r.c) s.2
theorem GStk.len {G:Hp} {v:Value} {st:List (Cell × List Int)} (g:GStk G v st) {h:Hp} (d:Dis G h):∃sa cap,v = .slice sa st.length cap:=by
 obtain ⟨raw,h1,h2,_⟩:=g
 obtain ⟨sa,cap,e⟩:=(h1 h d).len
 exact ⟨sa,cap,by rw [e,h2]⟩
theorem GStk.get {G:Hp} {sa:Option Addr} {n cap:Nat} {st:List (Cell × List Int)} (g:GStk G (.slice sa n cap) st) {h:Hp} (d:Dis G h) {i:Nat} {s:Cell × List Int} (hs:st[i]?=some s):
   ∃b o a c,sa=some ⟨b,o,none⟩/\af G h ⟨b,o+i*3,none⟩=some (.int .i64 s.1.1)/\af G h ⟨b,o+i*3+1,none⟩=some (.int .i64 s.1.2)/\af G h ⟨b,o+i*3+2,none⟩=some (.slice a s.2.length c)/\vk icC G (.slice a s.2.length c) s.2:=by
 obtain ⟨raw,h1,hl,h2⟩:=g
 have hi:i<raw.length:=by rw [hl];exact (List.getElem?_eq_some_iff.1 hs).1
 have hr:raw[i]?=some raw[i]:=List.getElem?_eq_getElem hi
 obtain ⟨k1,k2,k3⟩:=h2 i _ s hr hs
 obtain ⟨b,o,c,e1,e2⟩:=(h1 h d).get hr
 simp only [Value.slice.injEq]at e1
 have z0:=e2 0 (by decide)
 have z1:=e2 1 (by decide)
 have z2:=e2 2 (by decide)
 simp only [rawC,Nat.add_zero,List.getElem?_cons_zero,List.getElem?_cons_succ]at z0 z1 z2
 refine ⟨b,o,_,_,e1.1,?_,?_,?_,k3⟩
 . rw [z0,<- k1]
 . rw [z1,<- k1]
 . rw [z2,k2]
theorem GO.past {h:Hp} {gp kb w k:Nat} {f:Nat->Nat->Int} (g:GO h gp kb w k f) {b:Nat} {p o:Obj} (hb:h b=some p) (hp:gu p=false):GO (h.set b o) gp kb w k f:=by
 have n1:gp≠b:=fun q=>by have:=g.hd;rw [q,hb]at this;cases this;cases hp
 have n2:kb≠b:=fun q=>by have:=g.row;rw [q,hb]at this;cases this;cases hp
 exact ⟨by rw [au n1];exact g.hd,by rw [au n2];exact g.row,g.w1,g.w2,g.k1,g.k2⟩
theorem MK.past {h:Hp} {mb w k:Nat} {f:Nat->Nat->Bool} (g:MK h mb w k f) {b:Nat} {p o:Obj} (hb:h b=some p) (hp:gu p=false):MK (h.set b o) mb w k f:=by
 unfold MK at*
 have n1:mb≠b:=fun q=>by rw [q,hb]at g;cases g;cases hp
 rw [au n1];exact g
structure NM (h:Hp) (mp:Nat) (B:List Int):Prop where
 ex:∃o L,h mp=some o/\MapO o L/\L.map (·.1)=B/\∀p∈L,p.2 = .int .i64 1
theorem mget_in {L:List (Int × Value)} (h:∀p∈L,p.2 = .int .i64 1) {b:Int}:(mget L b).getD (.int .i64 0) = .int .i64 (if b∈L.map (·.1)then 1 else 0):=by
 induction L with
 |nil=>rfl
 |cons p L ih=>
   rw [sf]
   by_cases e:p.1=b
   . rw [if_pos e,if_pos (by rw [List.map_cons,e];exact .head _)]
     exact h p (.head _)
   . rw [if_neg e,ih fun q hq=>h q (.tail _ hq)]
     congr 1
     simp only [List.map_cons,List.mem_cons]
     by_cases hm:b∈L.map (·.1)
     . simp [hm]
     . have e2:¬b=p.1:=fun q=>e q.symm
       simp [hm,e2]
theorem NM.put {G h:Hp} {mp:Nat} {B:List Int} (n:NM h mp B) {b:Int} (hb:b∉B) {K:Unit->Hp->Prop} (H:∀o',NM (h.set mp o') mp (B++[b])->K () (h.set mp o')):
   wpH P_ G (Instr.mapUpdate 269 (.map (some mp)) (.int .i64 b) (.int .i64 1)) h K:=by
 obtain ⟨o,L,h1,h2,h3,h4⟩:=n
 refine we un102 un3 h1 h2 fun o' m'=>H o' ⟨o',_,ag,m',?_,?_⟩
 . rw [Mf,h3,if_neg hb]
 . have:midx L b=none:=by
     unfold midx
     rw [List.findIdx?_eq_none_iff]
     intro p hp
     have:p.1≠b:=fun e=>hb (by rw [<- h3,<- e];exact List.mem_map_of_mem (f:=(·.1)) hp)
     simpa using this
   unfold mput
   rw [this]
   intro p hp
   rcases List.mem_append.1 hp with q|q
   . exact h4 p q
   . simp at q;rw [q]
theorem Zs {G:Hp} {gp kb mb mp w k:Nat} {f:Nat->Nat->Int} {mf:Nat->Nat->Bool} {KK:EK} {L B0:List Int} {v:Value} (r:Rg) (h:Hp) (sv:vk icC G v L) (hL:L.length<=100000) (hB0:B0.length<=512)
   (g8:r 8 = .map (some mp)) (g54:r 54=v) (g55:r 55 = .int .i64 L.length) (g56:r 56 = .int .i64 0)
   (go:GO h gp kb w k f) (mk:MK h mb w k mf) (nm:NM h mp B0) (d:Dis G h) (hnd0:B0.Nodup)
   (H1:(∀b∈L,ax b 1 1000000000=true)->(B0++L).Nodup->(B0++L).length<=512->∀(r':Rg) h',r' 0=r 0->r' 2=r 2->r' 7=r 7->r' 8=r 8->r' 20=r 20->r' 21=r 21->r' 22=r 22->GO h' gp kb w k f->MK h' mb w k mf->NM h' mp (B0++L)->Dis G h'->KK (.exit 2) r' h')
   (H2:¬((∀b∈L,ax b 1 1000000000=true)/\(B0++L).Nodup/\(B0++L).length<=512)->∀(r':Rg) h',r' 6 = .bool false->Dis G h'->KK .ret r' h'):dl (Ca G) r h KK:=by
 obtain ⟨sa,cap,hve⟩:=(sv h d).len
 refine di (fun m r2 h3=>∃j:Nat,m=L.length-j/\j<=L.length/\r2 0=r 0/\r2 2=r 2/\r2 7=r 7/\r2 8=r 8/\r2 20=r 20/\r2 21=r 21/\r2 22=r 22/\r2 54=r 54/\r2 55=r 55/\r2 56 = .int .i64 j/\(∀b∈L.take j,ax b 1 1000000000=true)/\(B0++L.take j).Nodup/\(B0++L.take j).length<=512/\
    GO h3 gp kb w k f/\MK h3 mb w k mf/\NM h3 mp (B0++L.take j)/\Dis G h3) ?_
   (m:=L.length) ⟨0,rfl,Nat.zero_le _,rfl,rfl,rfl,rfl,rfl,rfl,rfl,rfl,rfl,by rw [g56];rfl,by simp,by simpa using hnd0,by simpa using hB0,go,mk,by simpa using nm,d⟩
 rintro m r2 h3 ⟨j,rfl,hj,q0,q2,q7,q8,q20,q21,q22,q54,q55,q56,hok,hnd,hle,go,mk,nm,d3⟩ X HX
 rw [g8]at q8
 rw [g54,hve]at q54
 rw [g55]at q55
 unfold Ca
 simp only [bRpM,q55,q56]
 refine bv (fun hlt=>?_) (fun hge=>?_)
 rotate_left
 . obtain rfl:j=L.length:=by omega
   rw [List.take_of_length_le (Nat.le_refl _)]at hok hnd hle nm
   exact H1 hok hnd hle _ _ (by simp (disch:=decide) only [bRpM,q0]) (by simp (disch:=decide) only [bRpM,q2]) (by simp (disch:=decide) only [bRpM,q7]) (by simp (disch:=decide) only [bRpM,q8,g8]) (by simp (disch:=decide) only [bRpM,q20]) (by simp (disch:=decide) only [bRpM,q21]) (by simp (disch:=decide) only [bRpM,q22]) go mk nm d3
 have hlt':j<L.length:=by omega
 obtain ⟨y,hy⟩:∃x,L[j]?=some x:=⟨_,List.getElem?_eq_getElem hlt'⟩
 have hym:y∈L:=List.mem_of_getElem? hy
 have sv3:=sv h3 d3
 rw [hve]at sv3
 obtain ⟨b,ofs,eb,z0⟩:=Sees.int sv3 hy
 subst eb
 have htk:B0++L.take (j+1)=(B0++L.take j)++[y]:=by rw [fq hy,List.append_assoc]
 have hpre:∀{P:Prop},(((B0++L.take (j+1)).Nodup/\(B0++L.take (j+1)).length<=512->P)->((B0++L).Nodup/\(B0++L).length<=512->P)):=by
   intro P h q
   have e:B0++L=(B0++L.take (j+1))++L.drop (j+1):=by rw [List.append_assoc,List.take_append_drop]
   rw [e]at q
   refine h ⟨(List.nodup_append.1 q.1).1,?_⟩
   have:=q.2
   rw [List.length_append]at this;omega
 obtain ⟨o,ML,n1,n2,n3,n4⟩:=id nm.ex
 have nlk:HL.look G h3 mp=some o:=ai n1
 unfold Bo
 simp (disch:=decide) only [bRpM,q54,q56,So (Int.natCast_nonneg j) hlt,Nat.mul_one,z0]
 refine (ju (n:=y) (a:=1) (b:=1000000000)).mono ?_
 rintro _ h3 ⟨rfl,rfl⟩
 cases hw:ax y 1 1000000000 with
 |false=>
   try simp only [bRpM]
   exact H2 (fun q=>by have:=q.1 y hym;rw [hw]at this;cases this) _ _ (by simp only [bRpM]) d3
 |true=>
 try simp only [bRpM,q8,U6 un102 un3 zero3 nlk n2,mget_in n4,n3]
 by_cases hm:y∈B0++L.take j
 . try simp only [bRpM,if_pos hm,show decide ((1:Int)>0)=true from rfl]
   refine H2 (fun q=>hpre (P:=False) (fun ⟨q1,_⟩=>?_) q.2) _ _ (by simp only [bRpM]) d3
   rw [htk]at q1
   exact (List.nodup_append.1 q1).2.2 y hm y (by simp) rfl
 try simp only [bRpM,if_neg hm,show decide ((0:Int)>0)=false from rfl,q8,aa5 un102 nlk n2]
 have hll:ML.length=(B0++L.take j).length:=by rw [<- n3,List.length_map]
 by_cases h512:(B0++L.take j).length=512
 . try simp only [bRpM,hll,h512,show (((512:Nat):Int)==512)=true from rfl]
   refine H2 (fun q=>hpre (P:=False) (fun ⟨_,q1⟩=>?_) q.2) _ _ (by simp only [bRpM]) d3
   rw [htk,List.length_append,h512]at q1
   simp at q1
 have e512:(((B0++L.take j).length:Int)==512)=false:=by
   have:((B0++L.take j).length:Int)≠512:=by omega
   simpa using this
 try simp only [bRpM,hll,e512]
 unfold Bm
 try simp (disch:=decide) only [bRpM,q8]
 refine NM.put nm hm fun o' nm'=>?_
 unfold Bn
 try simp (disch:=first|decide|omega) only [bRpM,q56]
 refine HX (L.length-(j+1)) _ _ (by omega) ⟨j+1,rfl,hlt',by simp (disch:=decide) only [bRpM,q0],by simp (disch:=decide) only [bRpM,q2],by simp (disch:=decide) only [bRpM,q7],by simp (disch:=decide) only [bRpM,q8,g8],by simp (disch:=decide) only [bRpM,q20],by simp (disch:=decide) only [bRpM,q21],by simp (disch:=decide) only [bRpM,q22],by simp (disch:=decide) only [bRpM,q54,g54,hve],by simp (disch:=decide) only [bRpM,q55,g55],by simp only [bRpM]<;>rfl,?_,?_,?_,go.past n1 n2.cells,mk.past n1 n2.cells,by rw [htk];exact nm',d3.set (d3 _ _ n1)⟩
 . rw [fq hy]
   intro c hc
   rcases List.mem_append.1 hc with q|q
   . exact hok c q
   . simp at q;rw [q];exact hw
 . rw [htk]
   exact List.nodup_append.2 ⟨hnd,by simp,fun a ha b hb=>by simp at hb;subst hb;exact fun e=>hm (e▸ha)⟩
 . rw [htk,List.length_append]
   simp only [List.length_cons,List.length_nil]
   omega
structure Dw (w k:Nat) (f:Nat->Nat->Int) (ht:Int) (st:List (Cell × List Int)):Prop where
 each:∀s∈st,inW w k s.1=true/\fAt f s.1=0/\(s.2.length:Int)<=ht
 apart:(st.map Prod.fst).Nodup
 nums:∀b∈st.flatMap Prod.snd,ax b 1 1000000000=true
 once:(st.flatMap Prod.snd).Nodup
 most:(st.flatMap Prod.snd).length<=512
def StR (w k gp kb:Nat) (f:Nat->Nat->Int) (ht:Int) (st:List (Cell × List Int)) (u:Value) (h':Hp):Prop:=
 (Dw w k f ht st/\u = .bool true/\GO h' gp kb w k f)\/(¬Dw w k f ht st/\u = .bool false)
theorem Rl {G h:Hp} {gp kb w k:Nat} {f:Nat->Nat->Int} {ht:Int} {st:List (Cell × List Int)} {sv:Value} (go:GO h gp kb w k f) (gs:GStk G sv st) (hht:ht<=8) (hsl:st.length<=100000000000000):
   al P_ G 132 #[.pointer (some ⟨gp,0,none⟩),sv,ht] h (StR w k gp kb f ht st):=by
 refine al.assume fun d=>ar5 (by simp) ?_
 obtain ⟨sa,cap,hsv⟩:=gs.len d
 have hm2:w*k<=16*16:=Nat.mul_le_mul go.w2 go.k2
 have cg:∀j,af G h ⟨gp,j,none⟩=_:=fun j=>aj (ai go.hd)
 unfold S132
 simp only [bRpM,hsv,cg]
 rw [wg bcC false (by decide) un90 eobool (by kernel_rfl) (by omega) (by omega)]
 intro mb hmb gmb
 have go1:GO (h.set mb (.cells (bcC.rows (List.replicate (w*k) false)).toArray 4 (0,0))) gp kb w k f:=go.le (b8 hmb)
 have mk1:MK (h.set mb (.cells (bcC.rows (List.replicate (w*k) false)).toArray 4 (0,0))) mb w k (i9 []):=by unfold MK;rw [ag,Hr,ua]
 have d1:=d.set (o := .cells (bcC.rows (List.replicate (w*k) false)).toArray 4 (0,0)) gmb
 generalize h.set mb (.cells (bcC.rows (List.replicate (w*k) false)).toArray 4 (0,0))=h1 at*
 try simp only [bRpM,mm102]
 intro mp hmp gmp
 have go2:GO (h1.set mp (.map #[] 0)) gp kb w k f:=go1.le (b8 hmp)
 have mk2:MK (h1.set mp (.map #[] 0)) mb w k (i9 []):=mk1.le (b8 hmp)
 have nm2:NM (h1.set mp (.map #[] 0)) mp []:=⟨_,[],ag,⟨#[],0,rfl,rfl⟩,rfl,fun p hp=>by cases hp⟩
 have d2:=d1.set (o := .map #[] 0) gmp
 generalize h1.set mp (.map #[] 0)=h2 at*
 try simp (disch:=first|decide|omega) only [bRpM,Nat.reduceAdd,Nat.reduceMul]
 have no:¬Dw w k f ht st->∀hh,StR w k gp kb f ht st (.bool false) hh:=fun q hh => .inr ⟨q,rfl⟩
 refine di (fun m r4 h4=>∃i:Nat,m=st.length-i/\i<=st.length/\r4 0 = .pointer (some ⟨gp,0,none⟩)/\r4 2 = .int .i64 ht/\r4 7 = .slice (some ⟨mb,0,none⟩) (w*k) (w*k)/\r4 8 = .map (some mp)/\r4 20=sv/\r4 21 = .int .i64 st.length/\r4 22 = .int .i64 i/\
    (∀s∈st.take i,inW w k s.1=true/\fAt f s.1=0/\(s.2.length:Int)<=ht)/\((st.take i).map Prod.fst).Nodup/\(∀b∈(st.take i).flatMap Prod.snd,ax b 1 1000000000=true)/\((st.take i).flatMap Prod.snd).Nodup/\((st.take i).flatMap Prod.snd).length<=512/\
    GO h4 gp kb w k f/\MK h4 mb w k (i9 ((st.take i).map Prod.fst))/\NM h4 mp ((st.take i).flatMap Prod.snd)/\Dis G h4) ?_
   (m:=st.length) ⟨0,rfl,Nat.zero_le _,by simp (disch:=decide) only [bRpM],by simp (disch:=decide) only [bRpM],by simp (disch:=decide) only [bRpM],by simp (disch:=decide) only [bRpM],by simp (disch:=decide) only [bRpM,hsv],by simp (disch:=decide) only [bRpM],by simp only [bRpM]<;>rfl,by simp,by simp,by simp,by simp,by simp,go2,by simpa using mk2,by simpa using nm2,d2⟩
 rintro m r4 h4 ⟨i,rfl,hi,k0,k2,k7,k8,k20,k21,k22,hea,hap,hnu,hon,hmo,go4,mk4,nm4,d4⟩ X HX
 unfold Yv
 simp only [bRpM,k21,k22]
 refine bv (fun hlt=>?_) (fun hge=>?_)
 rotate_left
 . obtain rfl:i=st.length:=by omega
   rw [List.take_of_length_le (Nat.le_refl _)]at hea hap hnu hon hmo
   try simp (disch:=first|decide|omega) only [bRpM,Nat.reduceAdd,Nat.reduceMul]
   unfold Yw
   simp only [bRpM]
   exact .inl ⟨⟨hea,hap,hnu,hon,hmo⟩,rfl,go4⟩
 have hlt':i<st.length:=by omega
 obtain ⟨y,hy⟩:∃x,st[i]?=some x:=⟨_,List.getElem?_eq_getElem hlt'⟩
 have hym:y∈st:=List.mem_of_getElem? hy
 have gs4:=gs
 rw [hsv]at gs4
 obtain ⟨b,ofs,a,c,eb,z0,z1,z2,z3⟩:=gs4.get d4 hy
 subst eb
 unfold Kb
 simp (disch:=first|decide|exact aq|exact ao|omega|rfl) only [bRpM,k20,hsv,k22,ix24 (Int.natCast_nonneg i) hlt,z0,z1,z2]
 intro t ht' gt
 try rw [ag0]
 have go5:GO (h4.set t (.cells #[y.1.1,y.1.2,.slice a y.2.length c] 234 (0,0))) gp kb w k f:=go4.le (b8 ht')
 have mk5:MK (h4.set t (.cells #[y.1.1,y.1.2,.slice a y.2.length c] 234 (0,0))) mb w k (i9 ((st.take i).map Prod.fst)):=mk4.le (b8 ht')
 have nm5:NM (h4.set t (.cells #[y.1.1,y.1.2,.slice a y.2.length c] 234 (0,0))) mp ((st.take i).flatMap Prod.snd):=by
   obtain ⟨o,L,n1,n2⟩:=nm4
   exact ⟨o,L,b8 ht' _ _ n1,n2⟩
 have bt:(h4.set t (.cells #[y.1.1,y.1.2,.slice a y.2.length c] 234 (0,0))) t=some (.cells #[y.1.1,y.1.2,.slice a y.2.length c] 234 (0,0)):=ag
 have d5:=d4.set (o := .cells #[y.1.1,y.1.2,.slice a y.2.length c] 234 (0,0)) gt
 generalize h4.set t (.cells #[y.1.1,y.1.2,.slice a y.2.length c] 234 (0,0))=h5 at*
 have ct:∀j,af G h5 ⟨t,j,none⟩=_:=fun j=>aj (ai bt)
 try simp only [bRpM,ct,k0]
 refine (Oq (c:=y.1) (go5.gs (G:=G))).mono ?_
 rintro _ h5 ⟨rfl,rfl⟩
 cases hst:(inW w k y.1&&(fAt f y.1==0))with
 |false=>
   try simp only [bRpM]
   refine no (fun q=>?_) _
   obtain ⟨q1,q2,_⟩:=q.each y hym
   rw [q1,q2]at hst
   cases hst
 |true=>
 have hst':=hst
 simp only [Bool.and_eq_true,beq_iff_eq]at hst'
 obtain ⟨hc',hf0⟩:=hst'
 try simp only [bRpM,ct,k0,k7]
 refine (nn (c:=y.1) (go5.gs (G:=G))).mono ?_
 rintro _ h5 ⟨rfl,rfl⟩
 obtain ⟨hn,hx,hyk,hlt2⟩:=uv hc'
 obtain ⟨a1,a2,a3,a4⟩:=jc.1 hc'
 have hxy:((y.1.1.toNat:Int),(y.1.2.toNat:Int))=y.1:=by rw [Int.toNat_of_nonneg a1,Int.toNat_of_nonneg a3]
 have mg:=U3 (G:=G) mk5 (Hp.le.refl _) hx hyk
 rw [show i9 ((st.take i).map Prod.fst) y.1.1.toNat y.1.2.toNat=decide (y.1∈(st.take i).map Prod.fst)by unfold i9;rw [hxy]]at mg
 have m6:=mk5.put (v:=true) hx hyk
 have hn0:=hn
 rw [hn]
 generalize hnn:y.1.2.toNat*w+y.1.1.toNat=n at hn hlt2 mg m6
 try simp only [bRpM,Eo hlt2,mg]
 by_cases hmem:y.1∈(st.take i).map Prod.fst
 . try simp only [bRpM,decide_eq_true hmem]
   refine no (fun q=>uw (L:=st.map Prod.fst) (i:=i) (x:=y.1) (by rw [List.getElem?_map,hy];rfl) ?_ q.apart) _
   rw [<- List.map_take];exact hmem
 try simp only [bRpM,decide_eq_false hmem,ct,k2]
 by_cases hlen:(y.2.length:Int)<=ht
 rotate_left
 . try simp only [bRpM,show decide ((y.2.length:Int)>ht)=true from decide_eq_true (by omega)]
   exact no (fun q=>hlen (q.each y hym).2.2) _
 try simp only [bRpM,show decide ((y.2.length:Int)>ht)=false from decide_eq_false (by omega)]
 unfold J9
 try simp (disch:=decide) only [bRpM,ct,k0]
 refine (nn (c:=y.1) (go5.gs (G:=G))).mono ?_
 rintro _ h5 ⟨rfl,rfl⟩
 rw [hn]
 try simp only [bRpM,k7,Eo hlt2]
 rw [dh sz4 rfl mk5 (by rw [bcC.rows_length,er];simp [bcC];exact hlt2)]
 have go6:=go5.other (o := .cells ((bcC.rows (ku w k (i9 ((st.take i).map Prod.fst)))).set n (.bool true)).toArray 4 (0,0)) mk5 (by decide) (by decide)
 have nm6:NM (h5.set mb (.cells ((bcC.rows (ku w k (i9 ((st.take i).map Prod.fst)))).set n (.bool true)).toArray 4 (0,0))) mp ((st.take i).flatMap Prod.snd):=by
   obtain ⟨o,L,n1,n2,n3⟩:=nm5
   exact ⟨o,L,by rw [au (fun q=>by unfold MK at mk5;rw [<- q,n1]at mk5;cases mk5;exact absurd n2.cells (by simp [gu]))];exact n1,n2,n3⟩
 have bt6:(h5.set mb (.cells ((bcC.rows (ku w k (i9 ((st.take i).map Prod.fst)))).set n (.bool true)).toArray 4 (0,0))) t=_:=(au (fun q=>by unfold MK at mk5;rw [<- q,bt]at mk5;simp at mk5)).trans bt
 have d6:Dis G (h5.set mb (.cells ((bcC.rows (ku w k (i9 ((st.take i).map Prod.fst)))).set n (.bool true)).toArray 4 (0,0))):=d5.set (d5 _ _ mk5)
 generalize h5.set mb (.cells ((bcC.rows (ku w k (i9 ((st.take i).map Prod.fst)))).set n (.bool true)).toArray 4 (0,0))=h6 at*
 have ct6:∀j,af G h6 ⟨t,j,none⟩=_:=fun j=>aj (ai bt6)
 try simp only [bRpM,ct6]
 have mk7:MK h6 mb w k (i9 ((st.take (i+1)).map Prod.fst)):=by
   rw [fq hy,List.map_append,List.map_singleton,Ef a1 a3]
   exact m6
 have hft:(st.take (i+1)).flatMap Prod.snd=(st.take i).flatMap Prod.snd++y.2:=by rw [fq hy,List.flatMap_append];simp
 refine Zs (L:=y.2) (B0:=(st.take i).flatMap Prod.snd) _ h6 z3 (by omega) hmo (by simp (disch:=decide) only [bRpM,k8]) (by simp (disch:=decide) only [bRpM]) (by simp (disch:=decide) only [bRpM]) (by simp only [bRpM]) go6 mk7 nm6 d6 hon (fun hw2 hnd2 hl2 r7 h7 j0 j2 j7 j8 j20 j21 j22 go7 mk8 nm8 d7=>?_) (fun hbad r7 h7 j6 d7=>?_)
 . simp only [jw,if_true,gg,i8]
   unfold Ka
   have j22':r7 22 = .int .i64 i:=j22.trans (by simp (disch:=decide) only [bRpM,k22])
   simp (disch:=first|decide|omega) only [bRpM,j22']
   refine HX (st.length-(i+1)) _ _ (by omega) ⟨i+1,rfl,hlt',by simp (disch:=decide) only [bRpM,j0,k0],by simp (disch:=decide) only [bRpM,j2,k2],by simp (disch:=decide) only [bRpM,j7,k7],by simp (disch:=decide) only [bRpM,j8,k8],by simp (disch:=decide) only [bRpM,j20,k20],by simp (disch:=decide) only [bRpM,j21,k21],by simp only [bRpM]<;>rfl,?_,?_,?_,?_,?_,go7,mk8,by rw [hft];exact nm8,d7⟩
   . rw [fq hy]
     intro s hs
     rcases List.mem_append.1 hs with q|q
     . exact hea s q
     . simp at q;rw [q];exact ⟨hc',hf0,hlen⟩
   . rw [fq hy,List.map_append]
     exact List.nodup_append.2 ⟨hap,by simp,fun p hp q hq=>by simp at hq;subst hq;exact fun e=>hmem (e▸hp)⟩
   . rw [hft]
     intro c hc
     rcases List.mem_append.1 hc with q|q
     . exact hnu c q
     . exact hw2 c q
   . rw [hft];exact hnd2
   . rw [hft];exact hl2
 . simp only [bRpM,j6]
   have e:st.flatMap Prod.snd=((st.take i).flatMap Prod.snd++y.2)++(st.drop (i+1)).flatMap Prod.snd:=by rw [<- hft,<- List.flatMap_append,List.take_append_drop]
   refine no (fun q=>hbad ⟨fun c hc=>q.nums c (List.mem_flatMap.2 ⟨y,hym,hc⟩),?_,?_⟩) _
   . have:=q.once
     rw [e]at this
     exact (List.nodup_append.1 this).1
   . have:=q.most
     rw [e,List.length_append]at this
     omega
def bRpN:=jq bC (jq (jq (jq (jq @Az @T3) (jq @cf130 (jq @cf131 @cf132))) (jq (jq @Dg @Df) (jq @Xo (jq @Xn @Gv)))) (jq (jq (jq @am1 @I2) (jq @Vo (jq @Bw @Ez))) (jq (jq @Ey (jq @ld23 @ld24)) (jq @ld26 (jq @ld3 @Mk)))))
def wC (C:Conf):Nat:=C.w.toNat
def kC (C:Conf):Nat:=C.h.toNat
def f0C (C:Conf):Nat->Nat->Int:=kd (C.bl++C.po) C.bl.length
def f3C (C:Conf):Nat->Nat->Int:=f2 (wC C) (kC C) (f0C C) (C.ro.flatMap bz)
structure cj (C:Conf):Prop where
 six:∀n∈[C.un,C.ac,C.sp,C.tu,C.ho,C.re],ax n 1 1000=true
 ht:ax C.ht 1 8=true
 qu:ax C.qu 1 16=true
 bu:ax C.bu 1 1048576=true
 laid:Ra C
 rob:Ea (wC C) (kC C) (f0C C) C.ro
 sta:Dw (wC C) (kC C) (f3C C) C.ht C.st
def MadeR (G h:Hp) (C:Conf) (u:Value) (h':Hp):Prop:=h.le h'/\Dis G h'/\
 ((cj C/\∃ga gp kb,u = .pointer (some ⟨gp,0,none⟩)/\GO ga gp kb (wC C) (kC C) (f3C C)/\Sep [ga,h] h')\/(¬cj C/\u = .pointer none))
theorem CA.gstk {G h h0 a:Hp} {C:Conf} {ab:Option Addr} {cb:Nat} {ap:Option Addr} {cp:Nat} {ar:Option Addr} {cr:Nat} {az:Option Addr} {cs:Nat} (ca:CA G h0 C ab cb ap cp ar cr az cs) (s:Sep [a,h0] h) (d:Dis G h):GStk (under G h a) (.slice az C.st.length cs) C.st:=by
 obtain ⟨raw,h1,h2⟩:=ca.st
 refine ⟨raw,h1.gnd s d,?_,fun i r t hr ht=>?_⟩
 . obtain ⟨sa,c,e⟩:=h1.len
   simp only [Value.slice.injEq]at e
   exact e.2.1.symm
 . obtain ⟨k1,k2,k3⟩:=h2 i r t hr ht
   exact ⟨k1,k2,k3.gnd s d⟩
theorem Mj {G h:Hp} {v:Value} {C:Conf} (hv:CV G h v C) (st:iq G) (hp:∀p∈C.ro,PB p) (hsl:C.st.length<=100000000000000):al P_ G 80 #[v] h (MadeR G h C):=by
 obtain ⟨ab,cb,ap,cp,ar,cr,az,cs,rfl,ca⟩:=hv
 refine al.assume fun d=>enter80 (by simp) ?_
 unfold S80
 simp only [bRpN]
 intro x hx gx
 generalize e1:Hp.set h x _=h1
 obtain ⟨l1,d1,b1⟩:=boxed e1 hx d gx
 have cx:∀j,af G h1 ⟨x,j,none⟩=_:=fun j=>aj (ai b1)
 try simp (disch:=first|decide|omega) only [bRpN,Nat.reduceAdd,Nat.reduceMul,cx]
 intro nb hnb gnb
 generalize e2:Hp.set h1 nb _=h2
 obtain ⟨l2,d2,b2⟩:=boxed e2 hnb d1 gnb
 have L2:=l1.trans l2
 have cx2:∀j,af G h2 ⟨x,j,none⟩=_:=fun j=>aj (ai (l2 _ _ b1))
 have sv:Sees icC G h2 (.slice (some ⟨nb,0,none⟩) 6 6) [C.un,C.ac,C.sp,C.tu,C.ho,C.re]:=Sees.row (c:=icC) (L:=[C.un,C.ac,C.sp,C.tu,C.ho,C.re]) b2 rfl (Nat.le_refl _)
 have no:∀{hh:Hp},¬cj C->h.le hh->Dis G hh->MadeR G h C (.pointer none) hh:=fun q l d=>⟨l,d,.inr ⟨q,rfl⟩⟩
 try simp (disch:=first|decide|omega) only [bRpN,Nat.reduceAdd,Nat.reduceMul]
 refine di (fun m r h3=>∃j:Nat,m=6-j/\j<=6/\r 1 = .pointer (some ⟨x,0,none⟩)/\r 19 = .slice (some ⟨nb,0,none⟩) 6 6/\r 20 = .int .i64 6/\r 21 = .int .i64 j/\h3=h2/\∀n∈[C.un,C.ac,C.sp,C.tu,C.ho,C.re].take j,ax n 1 1000=true) ?_
   (m:=6) ⟨0,rfl,by decide,by simp (disch:=decide) only [bRpN],by simp (disch:=decide) only [bRpN],by simp (disch:=decide) only [bRpN]<;>rfl,by simp only [bRpN]<;>rfl,rfl,by simp⟩
 rintro m r h3 ⟨j,rfl,hj,g1,g19,g20,g21,rfl,hw⟩ X HX
 unfold ax1
 simp only [bRpN,g20,g21]
 refine bv (fun hlt=>?_) (fun hge=>?_)
 . have hlt':j<6:=by omega
   obtain ⟨y,hy⟩:∃n,[C.un,C.ac,C.sp,C.tu,C.ho,C.re][j]?=some n:=⟨_,List.getElem?_eq_getElem (by simpa using hlt')⟩
   obtain ⟨b,o,eb,z0⟩:=Sees.int sv hy
   cases eb
   rw [Nat.zero_add]at z0
   unfold Np
   simp (disch:=decide) only [bRpN,g19,g21,So (Int.natCast_nonneg j) (show (j:Int)<(6:Nat)by omega),Nat.mul_one,z0]
   refine (ju (n:=y) (a:=1) (b:=1000)).mono ?_
   rintro _ h3 ⟨rfl,rfl⟩
   cases hb:ax y 1 1000 with
   |false=>
     try simp only [bRpN]
     exact no (fun q=>by have:=q.six y (List.mem_of_getElem? hy);rw [hb]at this;cases this) L2 d2
   |true=>
     try simp only [bRpN]
     unfold Nn
     simp (disch:=first|decide|omega) only [bRpN,g21]
     refine HX (6-(j+1)) _ _ (by omega) ⟨j+1,rfl,hlt',by simp (disch:=decide) only [bRpN,g1],by simp (disch:=decide) only [bRpN,g19],by simp (disch:=decide) only [bRpN,g20],by simp only [bRpN]<;>rfl,rfl,?_⟩
     rw [fq hy]
     intro c hc
     rcases List.mem_append.1 hc with q|q
     . exact hw c q
     . simp at q;rw [q];exact hb
 obtain rfl:j=6:=by omega
 rw [List.take_of_length_le (by simp)]at hw
 try simp (disch:=first|decide|omega) only [bRpN,Nat.reduceAdd,Nat.reduceMul]
 unfold ax4
 try simp (disch:=decide) only [bRpN,g1,cx2]
 refine (ju (n:=C.ht) (a:=1) (b:=8)).mono ?_
 rintro _ h3 ⟨rfl,rfl⟩
 cases hht:ax C.ht 1 8 with
 |false=>try simp only [bRpN];exact no (fun q=>absurd (q.ht.symm.trans hht) (by decide)) L2 d2
 |true=>
 try simp only [bRpN,g1,cx2]
 refine (ju (n:=C.qu) (a:=1) (b:=16)).mono ?_
 rintro _ h3 ⟨rfl,rfl⟩
 cases hqu:ax C.qu 1 16 with
 |false=>try simp only [bRpN];exact no (fun q=>absurd (q.qu.symm.trans hqu) (by decide)) L2 d2
 |true=>
 try simp only [bRpN,g1,cx2]
 refine (ju (n:=C.bu) (a:=1) (b:=1048576)).mono ?_
 rintro _ h3 ⟨rfl,rfl⟩
 cases hbu:ax C.bu 1 1048576 with
 |false=>try simp only [bRpN];exact no (fun q=>absurd (q.bu.symm.trans hbu) (by decide)) L2 d2
 |true=>
 try simp only [bRpN]
 unfold ax3
 try simp (disch:=decide) only [bRpN,g1,cx2]
 have ca2:=ca.up L2 d2
 refine (ab0 ca2.cv).mono ?_
 rintro _ h4 ⟨l4,d4,⟨hl,ga,gp,kb,rfl,go,s4⟩|⟨hl,rfl⟩⟩
 rotate_left
 . try simp only [bRpN]
   exact no (fun q=>hl q.laid) (L2.trans l4) d4
 have cx4:∀j,af G h4 ⟨x,j,none⟩=_:=fun j=>aj (ai (l4 _ _ (l2 _ _ b1)))
 try simp only [bRpN,g1,cx4]
 refine (s4.on (R1 (w:=wC C) (k:=kC C) (f:=f0C C) go (st.under d4 s4.hd) (ca2.ro.gnd s4 d4) hp)).mono ?_
 rintro _ h5 ⟨ga5,⟨hr,rfl,go5⟩|⟨hr,rfl⟩,s5,d5⟩
 rotate_left
 . try simp only [bRpN]
   exact no (fun q=>hr q.rob) (L2.trans (s5.in 1 rfl)) d5
 have cx5:∀j,af G h5 ⟨x,j,none⟩=_:=fun j=>aj (ai (s5.in 1 rfl _ _ (l2 _ _ b1)))
 try simp only [bRpN,g1,cx5]
 have hht8:C.ht<=8:=by unfold ax at hht;simp only [Bool.and_eq_true,decide_eq_true_eq]at hht;exact hht.2
 refine (s5.on (Rl (st:=C.st) go5 (ca2.gstk s5 d5) hht8 hsl)).mono ?_
 rintro _ h6 ⟨ga6,⟨hs,rfl,go6⟩|⟨hs,rfl⟩,s6,d6⟩
 rotate_left
 . try simp only [bRpN]
   exact no (fun q=>hs q.sta) (L2.trans (s6.in 1 rfl)) d6
 try simp only [bRpN]
 unfold ax2
 try simp (disch:=decide) only [bRpN]
 exact ⟨L2.trans (s6.in 1 rfl),d6,.inl ⟨⟨hw,hht,hqu,hbu,hl,hr,hs⟩,ga6,gp,kb,rfl,go6,(s6.swap.cut L2).swap⟩⟩
def bRpO:=jq bC (jq (jq @cf80 (jq @eq68n @eq68s)) (jq (jq @ld26 @ne68n) (jq @ne68s @jy)))
def NewR (G h:Hp) (C:Conf) (u:Value) (h':Hp):Prop:=h.le h'/\Dis G h'/\
 ((cj C/\∃ga gp kb,u = .tuple #[.pointer (some ⟨gp,0,none⟩),(0:Int)]/\GO ga gp kb (wC C) (kC C) (f3C C)/\Sep [ga,h] h')\/(¬cj C/\u = .tuple #[.pointer none,(5:Int)]))
theorem pu {G h:Hp} {v:Value} {C:Conf} (hv:CV G h v C) (st:iq G) (hp:∀p∈C.ro,PB p) (hsl:C.st.length<=100000000000000):al P_ G 37 #[v] h (NewR G h C):=by
 have hv0:=hv
 obtain ⟨ab,cb,ap,cp,ar,cr,az,cs,rfl,ca⟩:=hv
 refine al.assume fun d=>enter37 (by simp) ?_
 unfold S37
 simp (disch:=decide) only [bRpO]
 intro x hx gx
 generalize e1:Hp.set h x _=h1
 obtain ⟨l1,d1,b1⟩:=boxed e1 hx d gx
 have cx:∀j,af G h1 ⟨x,j,none⟩=_:=fun j=>aj (ai b1)
 try simp (disch:=first|decide|omega) only [bRpO,Nat.reduceAdd,Nat.reduceMul,cx]
 refine (Mj (ca.up l1 d1).cv st hp hsl).mono ?_
 rintro _ h2 ⟨l2,d2,⟨hm,ga,gp,kb,rfl,go,s2⟩|⟨hm,rfl⟩⟩
 . try simp only [bRpO]
   unfold aA6
   try simp (disch:=decide) only [bRpO]
   exact ⟨l1.trans l2,d2,.inl ⟨hm,ga,gp,kb,rfl,go,(s2.swap.cut l1).swap⟩⟩
 . try simp only [bRpO]
   exact ⟨l1.trans l2,d2,.inr ⟨hm,rfl⟩⟩
theorem ab5 {G h:Hp} {v:Value} {C:Conf} (hv:CV G h v C) (st:iq G) (hp:∀p∈C.ro,PB p) (hsl:C.st.length<=100000000000000):al P_ G 74 #[v] h (fun u h'=>(∃b,u = .bool b/\(b=true↔cj C))/\h'=h):=by
 obtain ⟨ab,cb,ap,cp,ar,cr,az,cs,rfl,ca⟩:=hv
 refine al.assume fun d=>quietly (enter74 (by simp) ?_)
 unfold S74
 simp only [bRpO]
 intro x hx gx
 generalize e1:Hp.set h x _=h1
 obtain ⟨l1,d1,b1⟩:=boxed e1 hx d gx
 have cx:∀j,af G h1 ⟨x,j,none⟩=_:=fun j=>aj (ai b1)
 try simp (disch:=first|decide|omega) only [bRpO,Nat.reduceAdd,Nat.reduceMul,cx]
 refine (Mj (ca.up l1 d1).cv st hp hsl).mono ?_
 rintro _ h2 ⟨l2,d2,⟨hm,ga,gp,kb,rfl,go,s2⟩|⟨hm,rfl⟩⟩
 . try simp only [bRpO]
   exact ⟨⟨_,rfl,⟨fun _=>hm,fun _=>rfl⟩⟩,l1.trans l2⟩
 . try simp only [bRpO]
   exact ⟨⟨_,rfl,⟨fun e=>absurd e (by decide),fun q=>(hm q).elim⟩⟩,l1.trans l2⟩
section
variable (G:Hp) (K:EK) (r:Rg) (h:Hp)
def md99:Nat->Hint
 |_=>mh false [] [] [] false
def uk:Prop:=
 o_ G (Instr.loadAt 30 (r 3)) h fun v2 h2=>
 opH P_ G (su (Instr.storeAt 30 (r 6) v2)) h2 fun v3 h3=>
 K .ret (upd r 44 v2) h3
def S99:Prop:=
 o_ G (Instr.box 30 (r 0)) h fun v0 h0=>o_ G (Instr.alloc 30 true (.tuple #[])) h0 fun v1 h1=>
 opH P_ G (xEq .eql 3 (.tmp 0) (.const .nilFunc) (r 1) (.int .i64 0)) h1 fun v4 h4=>
 cond v4
 (o_ G (Instr.fieldAt 30 v0 0) h4 fun v5 h5=>o_ G (Instr.fieldAt 28 v5 1) h5 fun v6 h6=>o_ G (Instr.loadAt 3 v6) h6 fun v7 h7=>o_ G (binOp .sub 3 v7 (r 2)) h7 fun v8 h8=>o_ G (Instr.fieldAt 30 v0 0) h8 fun v9 h9=>o_ G (Instr.fieldAt 28 v9 1) h9 fun v10 h10=>
 opH P_ G (su (Instr.storeAt 3 v10 v8)) h10 fun v11 h11=>
 uk G K (u2 (u10 r 3 v0 6 v1 7 (r 1) 9 v4 8 v4 10 v5 11 v6 12 v7 13 (r 2) 14 v8) 15 v9 16 v10) h11)
 (opH P_ G (xEq .eql 3 (.tmp 0) (.const .nilFunc) (r 1) (.int .i64 1)) h4 fun v12 h12=>
 cond v12
 (o_ G (Instr.fieldAt 30 v0 0) h12 fun v13 h13=>o_ G (Instr.fieldAt 28 v13 0) h13 fun v14 h14=>o_ G (Instr.loadAt 3 v14) h14 fun v15 h15=>o_ G (binOp .add 3 v15 (r 2)) h15 fun v16 h16=>o_ G (Instr.fieldAt 30 v0 0) h16 fun v17 h17=>o_ G (Instr.fieldAt 28 v17 0) h17 fun v18 h18=>
 opH P_ G (su (Instr.storeAt 3 v18 v16)) h18 fun v19 h19=>
 uk G K (u4 (u10 r 3 v0 6 v1 7 (r 1) 9 v4 8 v4 18 v12 17 v12 19 v13 20 v14 21 v15) 22 (r 2) 23 v16 24 v17 25 v18) h19)
 (opH P_ G (xEq .eql 3 (.tmp 0) (.const .nilFunc) (r 1) (.int .i64 2)) h12 fun v20 h20=>
 cond v20
 (o_ G (Instr.fieldAt 30 v0 0) h20 fun v21 h21=>o_ G (Instr.fieldAt 28 v21 1) h21 fun v22 h22=>o_ G (Instr.loadAt 3 v22) h22 fun v23 h23=>o_ G (binOp .add 3 v23 (r 2)) h23 fun v24 h24=>o_ G (Instr.fieldAt 30 v0 0) h24 fun v25 h25=>o_ G (Instr.fieldAt 28 v25 1) h25 fun v26 h26=>
 opH P_ G (su (Instr.storeAt 3 v26 v24)) h26 fun v27 h27=>
 uk G K (u6 (u10 r 3 v0 6 v1 7 (r 1) 9 v4 8 v4 18 v12 17 v12 27 v20 26 v20 28 v21) 29 v22 30 v23 31 (r 2) 32 v24 33 v25 34 v26) h27)
 (opH P_ G (xEq .eql 3 (.tmp 0) (.const .nilFunc) (r 1) (.int .i64 3)) h20 fun v28 h28=>
 cond v28
 (o_ G (Instr.fieldAt 30 v0 0) h28 fun v29 h29=>o_ G (Instr.fieldAt 28 v29 0) h29 fun v30 h30=>o_ G (Instr.loadAt 3 v30) h30 fun v31 h31=>o_ G (binOp .sub 3 v31 (r 2)) h31 fun v32 h32=>o_ G (Instr.fieldAt 30 v0 0) h32 fun v33 h33=>o_ G (Instr.fieldAt 28 v33 0) h33 fun v34 h34=>
 opH P_ G (su (Instr.storeAt 3 v34 v32)) h34 fun v35 h35=>
 uk G K (u8 (u10 r 3 v0 6 v1 7 (r 1) 9 v4 8 v4 18 v12 17 v12 27 v20 26 v20 36 v28) 35 v28 37 v29 38 v30 39 v31 40 (r 2) 41 v32 42 v33 43 v34) h35)
 (uk G K (upd (u10 r 3 v0 6 v1 7 (r 1) 9 v4 8 v4 18 v12 17 v12 27 v20 26 v20 36 v28) 35 v28) h28))))
theorem enter99:Ent 45 99 [.cell 6 30] S99:=ent_ (m:=md99) (c:=(Tryz.f99.body.getD .skip)) (fun _ _ _ _=>by kernel_rfl) Tryz.func99 rfl rfl rfl
def md45:Nat->Hint
 |5=>mh true [0,1,3,7,15,31,63,127,255,511,1023,2047,4095,2047,10239,2047,34815,2047,133119,518143,1048575,2097151] [n_,m_,e_,n_,n_,n_,m_,e_,n_,n_,n_,n_,m_,n_,m_,n_,m_,n_,m_,e_,m_,n_] [false,false,true,false,false,false,false,true,false,false,false,false,false,false,false,false,false,false,false,true,false,false] true
 |10=>mh false [0,0,2,0,8,0,62,127,255] [m_,n_,m_,n_,m_,n_,e_,e_,n_] [false,false,false,false,false,false,true,false,false] true
 |18=>mh false [0,0,0,6,14,31,63] [m_,n_,n_,n_,m_,e_,n_] (fs 7) false
 |_=>mh false [] [] [] false
def Qe (G:Hp) (K:EK) (r:Rg) (h:Hp):Prop:=
 K .ret (upd r 4 (.bool false)) h
def az4 (G:Hp) (K:EK) (r:Rg) (h:Hp):Prop:=
 K .ret (upd r 4 (.bool true)) h
def Nw:Prop:=
 o_ G (binOp .add 3 (r 5) (.int .i64 1)) h fun v34 h34=>
 K .normal (u3 r 43 (r 5) 44 v34 5 v34) h34
def Nx:Prop:=
 ∃q35:Hp,q35.le h/\
 w_ G q35 (Instr.loadAt 26 (r 2)) h fun v36 h36=>
 p_ (Instr.fieldAt 48 (r 3) 3) h36 fun v37 h37=>
 w_ G q35 (Instr.loadAt 30 v37) h37 fun v38 h38=>
 p_ (Instr.fieldAt 48 (r 3) 1) h38 fun v39 h39=>
 w_ G q35 (Instr.loadAt 3 v39) h39 fun v40 h40=>
 c_ G 99 #[v38,v40,(r 5)] h40 fun v41 h41=>q35.le h41/\
 c_ G 22 #[v36,v41] h41 fun v42 h42=>
 p_ (Op.unary .not v42) h42 fun v43 h43=>
 (fun q=>cond v43
 (K .ret (upd q 4 (.bool false)) h43)
 (Nw G K q h43))
 (u9 r 45 v36 46 v37 47 v38 48 v39 49 v40 50 (r 5) 51 v41 52 v42 53 v43)
def az2 (r:Rg) (h:Hp) (K:EK):Prop:=
 o_ G (Instr.fieldAt 48 (r 3) 2) h fun v31 h31=>o_ G (Instr.loadAt 3 v31) h31 fun v32 h32=>o_ G (binOp .leq 3 (r 5) v32) h32 fun v33 h33=>
 cond v33
 (Nx G K (u4 r 39 (r 5) 40 v31 41 v32 42 v33) h33)
 (K (.exit 1) (u4 r 39 (r 5) 40 v31 41 v32 42 v33) h33)
def az5:Prop:=
 dl (az2 G) (upd r 5 (.int .i64 1)) h (bo 1 (ci (az4 G K) (bo 0 (ci (Qe G K) K))))
def az3:Prop:=
 o_ G (Instr.fieldAt 48 (r 3) 2) h fun v48 h48=>o_ G (Instr.loadAt 3 v48) h48 fun v49 h49=>
 opH P_ G (xEq .eql 3 (.tmp 0) (.const .nilFunc) v49 (.int .i64 0)) h49 fun v50 h50=>g_ v50 true (o_ G (Instr.fieldAt 48 (r 3) 1) h50) h50 fun v51 h51=>g_ v50 true (o_ G (Instr.loadAt 3 v51) h51) h51 fun v52 h52=>g_ v50 true (opH P_ G (xEq .eql 3 (.tmp 0) (.const .nilFunc) v52 (.int .i64 0)) h52) h52 fun v53 h53=>
 opH P_ G (bj v50 v53 (.bool false)) h53 fun v54 h54=>g_ v54 true (o_ G (Instr.fieldAt 48 (r 3) 4) h54) h54 fun v55 h55=>g_ v54 true (o_ G (Instr.loadAt 30 v55) h55) h55 fun v56 h56=>g_ v54 true (o_ G (Instr.fieldAt 48 (r 3) 3) h56) h56 fun v57 h57=>g_ v54 true (o_ G (Instr.fieldAt 30 v57 0) h57) h57 fun v58 h58=>g_ v54 true (o_ G (Instr.loadAt 28 v58) h58) h58 fun v59 h59=>g_ v54 true (o_ G (Instr.fieldAt 48 (r 3) 3) h59) h59 fun v60 h60=>g_ v54 true (o_ G (Instr.fieldAt 30 v60 1) h60) h60 fun v61 h61=>g_ v54 true (o_ G (Instr.loadAt 4 v61) h61) h61 fun v62 h62=>g_ v54 true (o_ G (Op.unary .not v62) h62) h62 fun v63 h63=>g_ v54 true (o_ G (Instr.build 30 #[(0,v59),(1,v63)]) h63) h63 fun v64 h64=>g_ v54 true (opH P_ G (xEq .eql 30 (.tmp 0) (.tmp 0) v56 v64) h64) h64 fun v65 h65=>
 opH P_ G (bj v54 v65 (.bool false)) h65 fun v66 h66=>
 K .ret (u2 (u10 (u10 r 70 v48 71 v49 72 v50 73 v50 74 v51 75 v52 76 v53 77 v54 78 v54 79 v55) 80 v56 81 v57 82 v58 83 v59 84 v60 85 v61 86 v62 87 v63 88 v64 89 v65) 90 v66 4 v66) h66
def Jn:Prop:=
 o_ G (binOp .add 3 (r 7) (.int .i64 1)) h fun v68 h68=>
 K .normal (u3 r 61 (r 7) 62 v68 7 v68) h68
def Jo:Prop:=
 w_ G h (Instr.loadAt 26 (r 2)) h fun v69 h69=>
 p_ (Instr.indexAt 22 (r 6) (r 7)) h69 fun v70 h70=>
 w_ G h (Instr.loadAt 28 v70) h70 fun v71 h71=>
 c_ G 60 #[v69,v71] h71 fun v72 h72=>
 p_ (Op.unary .not v72) h72 fun v73 h73=>
 (fun q=>cond v73
 (K .ret (upd q 4 (.bool false)) h73)
 (Jn G K q h73))
 (u7 r 63 v69 64 (r 6) 65 (r 7) 66 v70 67 v71 68 v72 69 v73)
def az1 (r:Rg) (h:Hp) (K:EK):Prop:=
 o_ G (binOp .lss 3 (r 7) (.int .i64 4)) h fun v67 h67=>
 cond v67
 (Jo G K (u2 r 59 (r 7) 60 v67) h67)
 (K (.exit 3) (u2 r 59 (r 7) 60 v67) h67)
def D4:Prop:=
 cond (r 91)
 (o_ G (Instr.fieldAt 48 (r 3) 2) h fun v75 h75=>o_ G (Instr.loadAt 3 v75) h75 fun v76 h76=>
 opH P_ G (xEq .eql 3 (.tmp 0) (.const .nilFunc) v76 (.int .i64 0)) h76 fun v77 h77=>g_ v77 true (o_ G (Instr.fieldAt 48 (r 3) 1) h77) h77 fun v78 h78=>g_ v77 true (o_ G (Instr.loadAt 3 v78) h78) h78 fun v79 h79=>g_ v77 true (opH P_ G (xEq .eql 3 (.tmp 0) (.const .nilFunc) v79 (.int .i64 0)) h79) h79 fun v80 h80=>
 opH P_ G (bj v77 v80 (.bool false)) h80 fun v81 h81=>g_ v81 true (o_ G (Instr.fieldAt 48 (r 3) 4) h81) h81 fun v82 h82=>g_ v81 true (o_ G (Instr.loadAt 30 v82) h82) h82 fun v83 h83=>g_ v81 true (o_ G (Instr.fieldAt 48 (r 3) 3) h83) h83 fun v84 h84=>g_ v81 true (o_ G (Instr.loadAt 30 v84) h84) h84 fun v85 h85=>g_ v81 true (opH P_ G (xEq .eql 30 (.tmp 0) (.tmp 0) v83 v85) h85) h85 fun v86 h86=>
 opH P_ G (bj v81 v86 (.bool false)) h86 fun v87 h87=>
 K .ret (u6 (u10 r 94 v75 95 v76 96 v77 97 v77 98 v78 99 v79 100 v80 101 v81 102 v81 103 v82) 104 v83 105 v84 106 v85 107 v86 108 v87 4 v87) h87)
 (Qe G K r h)
def az6:Prop:=
 o_ G (Instr.fieldAt 48 (r 3) 0) h fun v7 h7=>o_ G (Instr.loadAt 3 v7) h7 fun v8 h8=>
 opH P_ G (xEq .eql 3 (.tmp 0) (.const .nilFunc) v8 (.int .i64 1)) h8 fun v9 h9=>
 cond v9
 (∃q10:Hp,q10.le h9/\
 p_ (Instr.fieldAt 48 (r 3) 2) h9 fun v11 h11=>
 w_ G q10 (Instr.loadAt 3 v11) h11 fun v12 h12=>
 c_ G 98 #[v12,(.int .i64 1),(.int .i64 16)] h12 fun v13 h13=>q10.le h13/\
 p_ (Op.unary .not v13) h13 fun v14 h14=>g_ v14 false (p_ (Instr.fieldAt 48 (r 3) 1) h14) h14 fun v15 h15=>g_ v14 false (w_ G q10 (Instr.loadAt 3 v15) h15) h15 fun v16 h16=>g_ v14 false (fun K1=>c_ G 98 #[v16,(.int .i64 0),(.int .i64 3)] h16 fun v h'=>q10.le h'/\K1 v h') h16 fun v17 h17=>g_ v14 false (p_ (Op.unary .not v17) h17) h17 fun v18 h18=>
 bm P_ noHp noHp (bj v14 (.bool true) v18) h18 fun v19 h19=>g_ v19 false (p_ (Instr.fieldAt 48 (r 3) 4) h19) h19 fun v20 h20=>g_ v19 false (w_ G q10 (Instr.loadAt 30 v20) h20) h20 fun v21 h21=>g_ v19 false (p_ (Instr.fieldAt 48 (r 3) 3) h21) h21 fun v22 h22=>g_ v19 false (w_ G q10 (Instr.loadAt 30 v22) h22) h22 fun v23 h23=>g_ v19 false (p_ (Instr.fieldAt 48 (r 3) 1) h23) h23 fun v24 h24=>g_ v19 false (w_ G q10 (Instr.loadAt 3 v24) h24) h24 fun v25 h25=>g_ v19 false (p_ (Instr.fieldAt 48 (r 3) 2) h25) h25 fun v26 h26=>g_ v19 false (w_ G q10 (Instr.loadAt 3 v26) h26) h26 fun v27 h27=>g_ v19 false (fun K1=>c_ G 99 #[v23,v25,v27] h27 fun v h'=>q10.le h'/\K1 v h') h27 fun v28 h28=>g_ v19 false (bm P_ G q10 (xEq .neq 30 (.tmp 0) (.tmp 0) v21 v28) h28) h28 fun v29 h29=>
 bm P_ noHp noHp (bj v19 (.bool true) v29) h29 fun v30 h30=>
 cond v30
 (K .ret (u7 (u10 (u10 r 13 v7 14 v8 16 v9 15 v9 17 v11 18 v12 19 v13 20 v14 21 v14 22 v15) 23 v16 24 v17 25 v18 26 v19 27 v19 28 v20 29 v21 30 v22 31 v23 32 v24) 33 v25 34 v26 35 v27 36 v28 37 v29 38 v30 4 (.bool false)) h30)
 (az5 G K (u6 (u10 (u10 r 13 v7 14 v8 16 v9 15 v9 17 v11 18 v12 19 v13 20 v14 21 v14 22 v15) 23 v16 24 v17 25 v18 26 v19 27 v19 28 v20 29 v21 30 v22 31 v23 32 v24) 33 v25 34 v26 35 v27 36 v28 37 v29 38 v30) h30))
 (opH P_ G (xEq .eql 3 (.tmp 0) (.const .nilFunc) v8 (.int .i64 2)) h9 fun v44 h44=>
 cond v44
 (o_ G (Instr.fieldAt 48 (r 3) 3) h44 fun v45 h45=>o_ G (Instr.loadAt 30 v45) h45 fun v46 h46=>
 c_ G 100 #[v46] h46 fun v47 h47=>
 dl (az1 G) (upd (u10 r 13 v7 14 v8 16 v9 15 v9 55 v44 54 v44 56 v45 57 v46 58 v47 6 v47) 7 (.int .i64 0)) h47 (bo 3 (ci (az3 G K) (bo 0 (ci (Qe G K) K)))))
 (opH P_ G (xEq .eql 3 (.tmp 0) (.const .nilFunc) v8 (.int .i64 3)) h44 fun v74 h74=>
 cond v74
 (D4 G K (u8 r 13 v7 14 v8 16 v9 15 v9 55 v44 54 v44 92 v74 91 v74) h74)
 (opH P_ G (xEq .eql 3 (.tmp 0) (.const .nilFunc) v8 (.int .i64 4)) h74 fun v88 h88=>
 D4 G K (u10 r 13 v7 14 v8 16 v9 15 v9 55 v44 54 v44 92 v74 91 v74 93 v88 91 v88) h88)))
def S45:Prop:=
 o_ G (Instr.box 26 (r 0)) h fun v0 h0=>o_ G (Instr.box 48 (r 1)) h0 fun v1 h1=>o_ G (Instr.loadAt 26 v0) h1 fun v2 h2=>o_ G (Instr.fieldAt 48 v1 3) h2 fun v3 h3=>o_ G (Instr.loadAt 30 v3) h3 fun v4 h4=>
 c_ G 22 #[v2,v4] h4 fun v5 h5=>o_ G (Op.unary .not v5) h5 fun v6 h6=>
 (fun q=>cond v6
 (K .ret (upd q 4 (.bool false)) h6)
 (az6 G K q h6))
 (u8 r 2 v0 3 v1 4 (.bool false) 8 v2 9 v3 10 v4 11 v5 12 v6)
theorem enter45:Ent 109 45 [.tmp 4] S45:=ent_ (m:=md45) (c:=(Tryz.f45.body.getD .skip)) (fun _ _ _ _=>by kernel_rfl) Tryz.func45 rfl rfl rfl
def md100:Nat->Hint
 |_=>mh false [] [] [] false
def S100:Prop:=
 o_ G (Instr.box 30 (r 0)) h fun v0 h0=>o_ G (Instr.fieldAt 30 v0 0) h0 fun v1 h1=>o_ G (Instr.fieldAt 28 v1 0) h1 fun v2 h2=>o_ G (Instr.loadAt 3 v2) h2 fun v3 h3=>o_ G (Instr.fieldAt 30 v0 0) h3 fun v4 h4=>o_ G (Instr.fieldAt 28 v4 1) h4 fun v5 h5=>o_ G (Instr.loadAt 3 v5) h5 fun v6 h6=>o_ G (Instr.build 28 #[(0,v3),(1,v6)]) h6 fun v7 h7=>o_ G (binOp .add 3 v3 (.int .i64 1)) h7 fun v8 h8=>o_ G (Instr.build 28 #[(0,v8),(1,v6)]) h8 fun v9 h9=>o_ G (binOp .add 3 v6 (.int .i64 1)) h9 fun v10 h10=>o_ G (Instr.build 28 #[(0,v3),(1,v10)]) h10 fun v11 h11=>o_ G (binOp .add 3 v3 (.int .i64 1)) h11 fun v12 h12=>o_ G (binOp .add 3 v6 (.int .i64 1)) h12 fun v13 h13=>o_ G (Instr.build 28 #[(0,v12),(1,v13)]) h13 fun v14 h14=>o_ G (Instr.buildSlice 22 4 #[(0,v7),(1,v9),(2,v11),(3,v14)]) h14 fun v15 h15=>
 K .ret (u8 (u10 (u10 r 1 v0 2 (.slice none 0 0) 5 v1 6 v2 7 v3 3 v3 8 v4 9 v5 10 v6 4 v6) 11 v3 12 v6 13 v7 14 v3 15 v8 16 v6 17 v9 18 v3 19 v6 20 v10) 21 v11 22 v3 23 v12 24 v6 25 v13 26 v14 27 v15 2 v15) h15
theorem au0:Ent 28 100 [.tmp 2] S100:=ent_ (m:=md100) (c:=(Tryz.f100.body.getD .skip)) (fun _ _ _ _=>by kernel_rfl) Tryz.func100 rfl rfl rfl
end
section
variable (G:Hp) (K:EK) (r:Rg) (h:Hp)
def md28:Nat->Hint
 |_=>mh false [] [] [] false
def S28:Prop:=
 o_ G (Instr.box 26 (r 0)) h fun v0 h0=>o_ G (Instr.alloc 26 true (.tuple #[])) h0 fun v1 h1=>o_ G (Instr.fieldAt 26 v0 3) h1 fun v2 h2=>o_ G (Instr.loadAt 22 v2) h2 fun v3 h3=>o_ G (Builtin.append_ #[22,22] 22 #[(.slice none 0 0),v3]) h3 fun v4 h4=>o_ G (Instr.fieldAt 26 v0 3) h4 fun v5 h5=>
 opH P_ G (su (Instr.storeAt 22 v5 v4)) h5 fun v6 h6=>o_ G (Instr.fieldAt 26 v0 4) h6 fun v7 h7=>o_ G (Instr.loadAt 22 v7) h7 fun v8 h8=>o_ G (Builtin.append_ #[22,22] 22 #[(.slice none 0 0),v8]) h8 fun v9 h9=>o_ G (Instr.fieldAt 26 v0 4) h9 fun v10 h10=>
 opH P_ G (su (Instr.storeAt 22 v10 v9)) h10 fun v11 h11=>o_ G (Instr.fieldAt 26 v0 5) h11 fun v12 h12=>o_ G (Instr.loadAt 23 v12) h12 fun v13 h13=>o_ G (Builtin.append_ #[23,23] 23 #[(.slice none 0 0),v13]) h13 fun v14 h14=>o_ G (Instr.fieldAt 26 v0 5) h14 fun v15 h15=>
 opH P_ G (su (Instr.storeAt 23 v15 v14)) h15 fun v16 h16=>o_ G (Instr.fieldAt 26 v0 6) h16 fun v17 h17=>o_ G (Instr.loadAt 24 v17) h17 fun v18 h18=>
 c_ G 71 #[v18] h18 fun v19 h19=>o_ G (Instr.fieldAt 26 v0 6) h19 fun v20 h20=>
 opH P_ G (su (Instr.storeAt 24 v20 v19)) h20 fun v21 h21=>o_ G (Instr.loadAt 26 v0) h21 fun v22 h22=>
 opH P_ G (su (Instr.storeAt 26 v1 v22)) h22 fun v23 h23=>
 K .ret (u9 (u10 r 1 v0 2 v1 3 v2 4 v3 5 v4 6 v5 7 v7 8 v8 9 v9 10 v10) 11 v12 12 v13 13 v14 14 v15 15 v17 16 v18 17 v19 18 v20 19 v22) h23
theorem enter28:Ent 20 28 [.cell 2 26] S28:=ent_ (m:=md28) (c:=(Tryz.f28.body.getD .skip)) (fun _ _ _ _=>by kernel_rfl) Tryz.func28 rfl rfl rfl
def md71:Nat->Hint
 |5=>mh false [0,0,0,6,14,30,0,0,192,448,960,1984,4094,8190,16383,32767] [n_,n_,n_,n_,n_,m_,n_,n_,n_,n_,m_,e_,n_,.alloc,e_,n_] [false,false,false,false,false,false,false,false,false,false,false,true,false,false,false,false] true
 |_=>mh false [] [] [] false
def ay2 (G:Hp) (K:EK) (r:Rg) (h:Hp):Prop:=
 K .ret (u2 r 26 (r 3) 2 (r 3)) h
def Nr:Prop:=
 o_ G (binOp .add 3 (r 4) (.int .i64 1)) h fun v2 h2=>
 K .normal (u3 r 9 (r 4) 10 v2 4 v2) h2
def Ns:Prop:=
 ∃q3:Hp,q3.le h/\
 p_ (Instr.indexAt 24 (r 0) (r 4)) h fun v4 h4=>
 p_ (Instr.fieldAt 234 v4 0) h4 fun v5 h5=>
 w_ G q3 (Instr.loadAt 28 v5) h5 fun v6 h6=>
 p_ (Instr.indexAt 24 (r 0) (r 4)) h6 fun v7 h7=>
 p_ (Instr.fieldAt 234 v7 1) h7 fun v8 h8=>
 w_ G q3 (Instr.loadAt 168 v8) h8 fun v9 h9=>
 c_ G 122 #[v9] h9 fun v10 h10=>q3.le h10/\
 p_ (Instr.build 234 #[(0,v6),(1,v10)]) h10 fun v11 h11=>o_ G (Instr.buildSlice 24 1 #[(0,v11)]) h11 fun v12 h12=>o_ G (Builtin.append_ #[24,24] 24 #[(r 3),v12]) h12 fun v13 h13=>
 Nr G K (u6 (u10 r 11 (r 3) 12 (r 0) 13 (r 4) 14 v4 15 v5 16 v6 17 (r 0) 18 (r 4) 19 v7 20 v8) 21 v9 22 v10 23 v11 24 v12 25 v13 3 v13) h13
def ay1 (r:Rg) (h:Hp) (K:EK):Prop:=
 o_ G (Builtin.len_ #[24] 3 #[(r 0)]) h fun v0 h0=>o_ G (binOp .lss 3 (r 4) v0) h0 fun v1 h1=>
 cond v1
 (Ns G K (u4 r 5 (r 4) 6 (r 0) 7 v0 8 v1) h1)
 (K (.exit 0) (u4 r 5 (r 4) 6 (r 0) 7 v0 8 v1) h1)
def S71:Prop:=
 dl (ay1 G) (u3 r 2 (.slice none 0 0) 3 (.slice none 0 0) 4 (.int .i64 0)) h (bo 0 (ci (ay2 G K) K))
theorem enter71:Ent 27 71 [.tmp 2] S71:=ent_ (m:=md71) (c:=(Tryz.f71.body.getD .skip)) (fun _ _ _ _=>by kernel_rfl) Tryz.func71 rfl rfl rfl
def md122:Nat->Hint
 |_=>mh false [] [] [] false
def S122:Prop:=
 o_ G (Builtin.append_ #[168,168] 168 #[(.slice none 0 0),(r 0)]) h fun v0 h0=>
 K .ret (u4 r 2 (.slice none 0 0) 3 (r 0) 4 v0 2 v0) h0
theorem as5:Ent 5 122 [.tmp 2] S122:=ent_ (m:=md122) (c:=(Tryz.f122.body.getD .skip)) (fun _ _ _ _=>by kernel_rfl) Tryz.func122 rfl rfl rfl
end
def bRpQ:=jq bC (jq (jq (jq (jq @Bool.true_and @al30) (jq @bd30_ (jq @beq_self_eq_true.{0} @vg))) (jq (jq @T3 @zr) (jq @Xj (jq @Bv @Xi)))) (jq (jq (jq @tk @Ps) (jq @ld3 (jq @ld30 @ld3p))) (jq (jq @yr @uq) (jq @jy (jq @A0 @st3s)))))
def dxI (d:Int):Int:=if d=1 then 1 else if d=3 then -1 else 0
def dyI (d:Int):Int:=if d=0 then -1 else if d=2 then 1 else 0
def okS (d n:Int):Bool:=ax n 0 16&&ax d 0 3
def gj (p:Pose) (d n:Int):Pose:=⟨wr (p.x+n*dxI d),wr (p.y+n*dyI d),p.d⟩
def lm (p:Pose) (d n:Int):Pose:=if okS d n=true then gj p d n else ⟨0,0,false⟩
theorem wr_bd (x:Int):Bd (wr x):=by
 unfold Bd wr IntKind.wrap
 simp [IntKind.signed,IntKind.bits]
 omega
theorem Lh {x:Int} (h:Bd x):wr x=x:=by
 unfold Bd at h
 exact kf (by omega) (by omega)
theorem Ee {p:Pose} {d n:Int}:PB (gj p d n):=⟨wr_bd _,wr_bd _⟩
theorem dv {n a b:Int}:ax n a b=true↔a<=n/\n<=b:=by
 unfold ax
 simp only [Bool.and_eq_true,decide_eq_true_eq]
 try exact Iff.rfl
theorem iq.ne {G:Hp} (s:iq G) {x:Nat} (gx:G x=none):0≠x:=fun e=>by
 obtain ⟨a,b,s⟩:=s
 subst e
 rw [gx]at s
 cases s
theorem Hq {G h:Hp} {g:Value} {p:Pose} {dir n:Int} (st:iq G):al P_ G 155 #[g,ja p,dir,n] h (fun u h'=>u = .tuple #[ja (lm p dir n),.bool (okS dir n)]/\h'=h):=by
 refine al.assume fun d=>quietly (ap9 (by simp) ?_)
 unfold S155
 simp (disch:=decide) only [bRpQ]
 intro x hx gx y hy gy
 have l:=(b8 (o := .cells #[p.x,p.y,.bool p.d] 30 (0,0)) hx).trans (b8 (o := .cells #[(0:Int),(0:Int),.bool false] 30 (0,0)) hy)
 have exy:=je hy
 unfold lm okS
 try simp (disch:=first|decide|omega) only [bRpQ,Nat.reduceAdd,Nat.reduceMul]
 refine (ju (n:=n) (a:=0) (b:=16)).mono ?_
 rintro _ _ ⟨rfl,rfl⟩
 cases h1:ax n 0 16 with
 |false=>
   try simp (disch:=first|decide|exact aq|exact ao|omega|rfl) only [bRpQ]
   first|exact l|exact ⟨rfl,l⟩
 |true=>
 try simp only [bRpQ]
 refine (ju (n:=dir) (a:=0) (b:=3)).mono ?_
 rintro _ _ ⟨rfl,rfl⟩
 cases h2:ax dir 0 3 with
 |false=>
   try simp (disch:=first|decide|exact aq|exact ao|omega|rfl) only [bRpQ]
   first|exact l|exact ⟨rfl,l⟩
 |true=>
 have n0:=st.ne gx
 have n1:=st.ne gy
 have c0:=fun j=>st.cell d j
 obtain ⟨a1,a2⟩:=dv.1 h2
 obtain ⟨b1,b2⟩:=dv.1 h1
 try simp (disch:=first|decide|exact aq|exact ao|omega|rfl) only [bRpQ]
 unfold Ym
 have hd:dir=0\/dir=1\/dir=2\/dir=3:=by omega
 have hy2:∀o,(h.set x o) y=none:=fun o=>by rw [au (Ne.symm exy)];exact jf hy
 rcases hd with rfl|rfl|rfl|rfl
 . try simp -implicitDefEqProofs (maxSteps:=2000000) (disch:=first|decide|with_reducible exact Nat.ne_of_beq_eq_false rfl|exact aq|exact ao|omega|rfl|(simp;done)|fail) only [bRpQ,Xe (by decide:(0:Int)<=0) (by decide:(0:Int)<(4:Nat)),show Int.toNat 0=0 from rfl,Nat.zero_mul,am exy,am n0,am n1,c0,Fh,dt exy]
   exact ⟨rfl,(b8 hx).trans (b8 (hy2 _))⟩
 . try simp -implicitDefEqProofs (maxSteps:=2000000) (disch:=first|decide|with_reducible exact Nat.ne_of_beq_eq_false rfl|exact aq|exact ao|omega|rfl|(simp;done)|fail) only [bRpQ,Nat.reduceAdd,Xe (by decide:(0:Int)<=1) (by decide:(1:Int)<(4:Nat)),show Int.toNat 1=1 from rfl,Nat.one_mul,am exy,am n0,am n1,c0,Fh,dt exy]
   exact ⟨rfl,(b8 hx).trans (b8 (hy2 _))⟩
 . try simp -implicitDefEqProofs (maxSteps:=2000000) (disch:=first|decide|with_reducible exact Nat.ne_of_beq_eq_false rfl|exact aq|exact ao|omega|rfl|(simp;done)|fail) only [bRpQ,Nat.reduceAdd,Nat.reduceMul,Xe (by decide:(0:Int)<=2) (by decide:(2:Int)<(4:Nat)),show Int.toNat 2=2 from rfl,am exy,am n0,am n1,c0,Fh,dt exy]
   exact ⟨rfl,(b8 hx).trans (b8 (hy2 _))⟩
 . try simp -implicitDefEqProofs (maxSteps:=2000000) (disch:=first|decide|with_reducible exact Nat.ne_of_beq_eq_false rfl|exact aq|exact ao|omega|rfl|(simp;done)|fail) only [bRpQ,Nat.reduceAdd,Nat.reduceMul,Xe (by decide:(0:Int)<=3) (by decide:(3:Int)<(4:Nat)),show Int.toNat 3=3 from rfl,am exy,am n0,am n1,c0,Fh,dt exy]
   exact ⟨rfl,(b8 hx).trans (b8 (hy2 _))⟩
def dw (p:Pose) (d n:Int):Pose:=⟨if d=1 then wr (p.x+n)else if d=3 then wr (p.x-n)else p.x,if d=0 then wr (p.y-n)else if d=2 then wr (p.y+n)else p.y,p.d⟩
theorem um {p:Pose} {d n:Int} (hp:PB p) (hd:0<=d/\d<=3):gj p d n=dw p d n:=by
 obtain ⟨h1,h2⟩:=hp
 have hd:d=0\/d=1\/d=2\/d=3:=by omega
 have e:n * -1 = -n:=by omega
 rcases hd with rfl|rfl|rfl|rfl<;>simp [gj,dw,dxI,dyI,Lh h1,Lh h2,Int.mul_one,e,Int.sub_eq_add_neg]
theorem Fk {G h:Hp} {p:Pose} {dir n:Int}:al P_ G 99 #[ja p,dir,n] h (fun u h'=>u=ja (dw p dir n)/\h'=h):=by
 refine al.assume fun d=>quietly (enter99 (by simp) ?_)
 unfold S99
 simp only [bRpQ]
 intro x hx gx y hy gy
 have exy:=je hy
 have hy2:∀o,(h.set x o) y=none:=fun o=>by rw [au (Ne.symm exy)];exact jf hy
 unfold dw wr
 by_cases h0:dir=0
 . subst h0
   try simp (disch:=first|decide|exact aq|exact ao|omega|rfl) only [bRpQ,am exy,dt exy]
   unfold uk
   try simp -implicitDefEqProofs (maxSteps:=2000000) (disch:=first|decide|with_reducible exact Nat.ne_of_beq_eq_false rfl|exact aq|exact ao|omega|rfl|(simp;done)|fail) only [bRpQ,am exy,dt exy]
   exact ⟨rfl,(b8 hx).trans (b8 (hy2 _))⟩
 by_cases h1:dir=1
 . subst h1
   try simp (disch:=first|decide|exact aq|exact ao|omega|rfl) only [bRpQ,show ((1:Int)==0)=false from rfl,am exy,dt exy]
   unfold uk
   try simp -implicitDefEqProofs (maxSteps:=2000000) (disch:=first|decide|with_reducible exact Nat.ne_of_beq_eq_false rfl|exact aq|exact ao|omega|rfl|(simp;done)|fail) only [bRpQ,am exy,dt exy]
   exact ⟨rfl,(b8 hx).trans (b8 (hy2 _))⟩
 by_cases h2:dir=2
 . subst h2
   try simp (disch:=first|decide|exact aq|exact ao|omega|rfl) only [bRpQ,show ((2:Int)==0)=false from rfl,show ((2:Int)==1)=false from rfl,am exy,dt exy]
   unfold uk
   try simp -implicitDefEqProofs (maxSteps:=2000000) (disch:=first|decide|with_reducible exact Nat.ne_of_beq_eq_false rfl|exact aq|exact ao|omega|rfl|(simp;done)|fail) only [bRpQ,am exy,dt exy]
   exact ⟨rfl,(b8 hx).trans (b8 (hy2 _))⟩
 by_cases h3:dir=3
 . subst h3
   try simp (disch:=first|decide|exact aq|exact ao|omega|rfl) only [bRpQ,show ((3:Int)==0)=false from rfl,show ((3:Int)==1)=false from rfl,show ((3:Int)==2)=false from rfl,am exy,dt exy]
   unfold uk
   try simp -implicitDefEqProofs (maxSteps:=2000000) (disch:=first|decide|with_reducible exact Nat.ne_of_beq_eq_false rfl|exact aq|exact ao|omega|rfl|(simp;done)|fail) only [bRpQ,am exy,dt exy]
   exact ⟨rfl,(b8 hx).trans (b8 (hy2 _))⟩
 try simp (disch:=first|decide|omega) only [bRpQ,beq_eq_false_iff_ne.2 h0,beq_eq_false_iff_ne.2 h1,beq_eq_false_iff_ne.2 h2,beq_eq_false_iff_ne.2 h3]
 unfold uk
 try simp (disch:=first|decide|exact aq|exact ao|omega|rfl) only [bRpQ,am exy,dt exy]
 exact ⟨by rw [if_neg h1,if_neg h3,if_neg h0,if_neg h2],(b8 hx).trans (b8 (hy2 _))⟩
def bRpR:=jq bC (jq (jq (jq @X8 @cf82) (jq @Bz @zr)) (jq (jq @Bv @ld26) (jq @ld28 (jq @ld3 @true_and))))
def numR (C:Conf) (c:Cell):Int:=if inB C c=true then c.2*C.w+c.1 else -1
theorem inB_iff {C:Conf} {c:Cell}:inB C c=true↔0<=c.1/\0<=c.2/\c.1<C.w/\c.2<C.h:=by
 unfold inB
 simp only [Bool.and_eq_true,decide_eq_true_eq,ge_iff_le]
theorem Co {G h:Hp} {v:Value} {C:Conf} {c:Cell} (hv:CV G h v C) (hw:C.w<=16) (hh:C.h<=16):al P_ G 41 #[v,uc c] h (fun u h'=>u = .int .i64 (numR C c)/\h'=h):=by
 have hv0:=hv
 obtain ⟨ab,cb,ap,cp,ar,cr,az,cs,rfl,ca⟩:=hv
 refine al.assume fun d=>quietly (enter41 (by simp) ?_)
 unfold S41
 simp only [bRpR]
 intro x hx gx
 generalize e1:Hp.set h x _=h1
 obtain ⟨l1,d1,b1⟩:=boxed e1 hx d gx
 intro y hy gy
 generalize e2:Hp.set h1 y _=h2
 obtain ⟨l2,d2,b2⟩:=boxed e2 hy d1 gy
 have cx:∀k,af G h2 ⟨x,k,none⟩=_:=fun k=>aj (ai (l2 _ _ b1))
 have cy:∀k,af G h2 ⟨y,k,none⟩=_:=fun k=>aj (ai b2)
 have ca2:=ca.up (l1.trans l2) d2
 try simp only [bRpR,cx,cy]
 refine (Gu ca2.cv).mono ?_
 rintro _ _ ⟨rfl,rfl⟩
 unfold numR
 cases hc:inB C c with
 |false=>try simp only [bRpR,hc];exact ⟨by simp,l1.trans l2⟩
 |true=>
 obtain ⟨a1,a2,a3,a4⟩:=inB_iff.1 hc
 have hm:0<=c.2*C.w/\c.2*C.w<=15*16:=⟨Int.mul_nonneg (by omega) (by omega),Int.mul_le_mul (by omega) (by omega) (by omega) (by omega)⟩
 try simp only [bRpR]
 unfold az7
 try simp (disch:=first|decide|omega) only [bRpR,cx,cy]
 first|exact l1.trans l2|exact ⟨by simp,l1.trans l2⟩
theorem vw {G h:Hp} {a n:Int} (ha:Bd a) (hn:0<n) (hn2:n<=4611686018427387904):al P_ G 25 #[a,n] h (fun v h'=>v = .int .i64 (a % n)/\h'=h):=by
 refine quietly (X4 (by simp) ?_)
 obtain ⟨ha1,ha2⟩:=ha
 unfold S25
 have e1:a.tmod n=if 0<=a\/a % n=0 then a % n else a % n-n:=by
   rw [Int.tmod_eq_emod]
   have:(n.natAbs:Int)=n:=by omega
   by_cases h0:0<=a
   . simp [h0]
   . simp [h0,this,Int.dvd_iff_emod_eq_zero]
     split<;>omega
 have hb:=Int.emod_nonneg a (show n≠0 by omega)
 have hb2:=Int.emod_lt_of_pos a hn
 simp (disch:=first|decide|omega) only [bRpR]
 by_cases hc:0<=a\/a % n=0
 . rw [if_pos hc]at e1
   rw [e1,ig (show ¬a % n<0 by omega)]
   simp only [bRpR]
   unfold Fa
   simp (disch:=decide) only [bRpR]
   exact Hp.le.refl h
 . rw [if_neg hc]at e1
   have:a % n≠0:=fun e=>hc (.inr e)
   rw [e1,gi (show a % n-n<0 by omega)]
   simp only [bRpR]
   unfold Fa
   simp only [bRpR]
   exact ⟨by congr 1;omega,Hp.le.refl h⟩
structure Move where
 k:Int
 d:Int
 n:Int
 f:Pose
 t:Pose
 a:Int
 e:Int
 deriving DecidableEq
abbrev Fm (m:Move):Value := .agg #[m.k,m.d,m.n,m.f.x,m.f.y,.bool m.f.d,m.t.x,m.t.y,.bool m.t.d,m.a,m.e]
def Yl {α:Type} (enc:α->Value) (G:Hp) (y:Value) (Y Z:List α->Hp->Prop) (c:List α->Bool):Prop:=
 ∀(L:List α) (m:α) (a q h:Hp),Y L a->Sep [a,q] h->Dis G h->
   opH P_ G (ij y #[enc m]) h (fun v h'=>∃a',v = .bool (c (L++[m]))/\Sep [a',q] h'/\Dis G h'/\(if c (L++[m])=true then Y (L++[m]) a' else Z (L++[m]) a'))
def feed {α:Type} (c:List α->Bool):List α->List α->List α × Bool
 |L,[]=>(L,true)
 |L,m::M=>if c (L++[m])=true then feed c (L++[m]) M else (L++[m],false)
theorem I0 {α:Type} {c:List α->Bool} {L M:List α} {m:α} (h:c (L++[m])=true):feed c L (m::M)=feed c (L++[m]) M:=by rw [feed,if_pos h]
theorem Pn {α:Type} {c:List α->Bool} {L M:List α} {m:α} (h:c (L++[m])=false):feed c L (m::M)=(L++[m],false):=by rw [feed,if_neg (by simp [h])]
def Bb {α:Type} (k:Int) (L:List α):Bool:=decide ((L.length:Int)<k)
theorem Aq {α:Type} {k:Int}:∀{M L:List α},(L.length:Int)<k->feed (Bb k) L M=(L++M.take (k.toNat-L.length),decide (((L++M).length:Int)<k))
 |[],L,h=>by simp [feed,h]
 |m::M,L,h=>by
   have e1:k.toNat-L.length=(k.toNat-(L++[m]).length)+1:=by rw [List.length_append,List.length_singleton];omega
   by_cases h2:((L++[m]).length:Int)<k
   . rw [I0 (by unfold Bb;exact decide_eq_true h2),Aq h2,e1,List.take_succ_cons]
     simp
   . rw [Pn (by unfold Bb;exact decide_eq_false h2)]
     rw [List.length_append,List.length_singleton]at h2
     have e2:k.toNat-(L++[m]).length=0:=by rw [List.length_append,List.length_singleton];omega
     rw [e1,e2]
     simp only [List.take_succ_cons,List.take_zero,List.length_append,List.length_cons,Prod.mk.injEq,true_and]
     symm
     apply decide_eq_false
     omega
def Fin {α:Type} (T:List α × Bool) (Y Z:List α->Hp->Prop) (a:Hp):Prop:=if T.2=true then Y T.1 a else Z T.1 a
def kz {α:Type} (ok:Nat->Bool) (mk:Nat->α):Nat->Nat->List α
 |_,0=>[]
 |n,k+1=>if ok n=true then mk n::kz ok mk (n+1) k else []
def lx {α:Type} (D:Nat->List α):Nat->Nat->List α
 |_,0=>[]
 |i,k+1=>D i++lx D (i+1) k
def C1 (w k:Nat) (f:Nat->Nat->Int) (p:Pose) (d n:Nat):Bool:=dg w k f (gj p d n)
def uy (p:Pose) (d n:Nat):Move:=⟨1,d,n,p,gj p d n,0,0⟩
def runD (w k:Nat) (f:Nat->Nat->Int) (p:Pose) (d:Nat):List Move:=kz (C1 w k f p d) (uy p d) 1 16
def Fj (w k:Nat) (f:Nat->Nat->Int) (p:Pose):List Move:=lx (runD w k f p) 0 4
def RunsR (G q:Hp) (Y Z:List Move->Hp->Prop) (T:List Move × Bool) (h':Hp):Prop:=∃a',Sep [a',q] h'/\Dis G h'/\Fin T Y Z a'
theorem RunsR.go {G q a h':Hp} {Y Z:List Move->Hp->Prop} {T:List Move × Bool} {L:List Move} {c:List Move->Bool} (s:Sep [a,q] h') (d:Dis G h') (y:Y L a) (e:feed c L []=T):RunsR G q Y Z T h':=by
 subst e
 exact ⟨a,s,d,y⟩
def bRpU:=jq bC (jq (jq (jq (jq (jq @Bool.and_true @al28) (jq @al30 (jq @Ds @ad8))) (jq (jq @Dq @ue) (jq @zx (jq @cf127 @cf155)))) (jq (jq (jq @cf156 @cf61) (jq @cf62 (jq @cf89 @eq30p))) (jq (jq @zr @Bv) (jq @tk (jq @Ps @fa30_1p))))) (jq (jq (jq (jq @zq @al8) (jq @Vn (jq @Pr @al7))) (jq (jq @Pq @De) (jq @ld28 (jq @t6 @ld3)))) (jq (jq (jq @ld30 @qw) (jq @ld3p (jq @ld48 @ld4p))) (jq (jq @ln22 @jy) (jq @Lo (jq @A0 @true_and))))))
def ec (c:Cell):List Cell:=[(c.1,c.2),(wr (c.1+1),c.2),(c.1,wr (c.2+1)),(wr (c.1+1),wr (c.2+1))]
theorem Rm {G h:Hp} {c:Cell}:al P_ G 156 #[uc c] h (fun u h'=>∃ip s,u = .slice s 4 4/\Slc dr 28 ip u (ec c)/\Sep [ip,h] h'/\Dis G h'):=by
 refine al.assume fun d=>ap8 (by simp) ?_
 unfold S156
 simp only [bRpU]
 intro x hx gx
 generalize e1:Hp.set h x _=h1
 obtain ⟨l1,d1,b1⟩:=boxed e1 hx d gx
 have cx:∀j,af G h1 ⟨x,j,none⟩=_:=fun j=>aj (ai b1)
 try simp (disch:=first|decide|omega) only [bRpU,Nat.reduceAdd,Nat.reduceMul,cx]
 intro b hb gb
 refine ⟨noHp.set b _,some ⟨b,0,none⟩,rfl,⟨some b,4,[],rfl,ag,rfl⟩,(Sep.one.new (hb)).swap.cut l1 |>.swap,d1.set gb⟩
def qa (w k:Nat) (f:Nat->Nat->Int) (m:Move) (i:Nat):Bool:=okS m.d i&&dg w k f (gj m.f m.d i)
def yg (p:Pose):Pose:=⟨p.x,p.y,!p.d⟩
def wayB (w k:Nat) (f:Nat->Nat->Int) (m:Move):Bool:=dg w k f m.f&&
 (if m.k=1 then decide (1<=m.n)&&((List.range (m.n.toNat+1)).all (qa w k f m)&&decide (m.t=gj m.f m.d m.n))
  else decide (m.d=0/\m.n=0)&&(if m.k=2 then (ec (m.f.x,m.f.y)).all (oc w k f)&&decide (m.t=yg m.f)else decide (m.k=3\/m.k=4)&&decide (m.t=m.f)))
def wayL (m:Move):List Cell:=if m.k=1 then (List.range (m.n.toNat+1)).flatMap (fun (i:Nat)=>bz (gj m.f m.d i))else if m.k=2 then ec (m.f.x,m.f.y)else bz m.f
def WayR (G h:Hp) (w k:Nat) (f:Nat->Nat->Int) (m:Move) (u:Value) (h':Hp):Prop:=
 ∃ip v L,u = .tuple #[v,.bool (wayB w k f m)]/\Slc dr 28 ip v L/\Sep [ip,h] h'/\Dis G h'/\(wayB w k f m=true->L=wayL m)
theorem WayR.no {G h h':Hp} {w k:Nat} {f:Nat->Nat->Int} {m:Move} (l:h.le h') (d:Dis G h') (e:wayB w k f m=false):WayR G h w k f m (.tuple #[.slice none 0 0,.bool false]) h':=
 ⟨noHp,_,[],by rw [e],Slc.nil,(Sep.one.le l).none,d,fun q=>by rw [e]at q;cases q⟩
theorem WayR.less {G h0 h h':Hp} {w k:Nat} {f:Nat->Nat->Int} {m:Move} {u:Value} (l:h0.le h) (x:WayR G h w k f m u h'):WayR G h0 w k f m u h':=by
 obtain ⟨ip,v,L,e1,e2,s,d,e3⟩:=x
 exact ⟨ip,v,L,e1,e2,(s.swap.cut l).swap,d,e3⟩
structure MB (m:Move):Prop where
 n:Bd m.n
 f:PB m.f
theorem pi {p q:Pose}:((p.x==q.x&&p.y==q.y)&&(p.d==q.d))=decide (p=q):=by
 obtain ⟨a,b,c⟩:=p
 obtain ⟨a',b',c'⟩:=q
 rw [Bool.eq_iff_iff]
 simp [and_assoc]
theorem store30 {G h:Hp} {lb:Nat} {z0 z1 z2:Value} {p:Pose} {K:Unit->Hp->Prop} (hb:h lb=some (.cells #[z0,z1,z2] 30 (0,0))):
   wpH P_ G (Instr.storeAt 30 (.pointer (some ⟨lb,0,none⟩)) (ja p)) h K=K () (h.set lb (.cells #[p.x,p.y,.bool p.d] 30 (0,0))):=by
 conv=>lhs;rw [<- ym hb]
 exact A0
theorem fe {w:Bool} {X:(Value->Hp->Prop)->Prop} {h:Hp} {K:VK}:gd (Hb undef w) X h K=K undef h:=by cases w<;>rfl
abbrev pv (m:Move):Obj := .cells #[m.k,m.d,m.n,m.f.x,m.f.y,.bool m.f.d,m.t.x,m.t.y,.bool m.t.d,m.a,m.e] 48 (0,0)
def Fu (m:Move) (i:Nat):Pose:=if i=0 then m.f else gj m.f m.d ((i:Int)-1)
theorem yu {s:Nat->Bool} {i:Nat} (h:∀j,j<i->s j=true) (hs:s i=true):∀j,j<i+1->s j=true:=fun j hj=>by
 rcases Nat.lt_succ_iff_lt_or_eq.1 hj with h1|rfl
 . exact h j h1
 . exact hs
theorem ac2 {α:Type} {F:Nat->List α} {i:Nat}:(List.range (i+1)).flatMap F=(List.range i).flatMap F++F i:=by
 rw [List.range_succ,List.flatMap_append]
 simp
theorem Ha {w k:Nat} {f:Nat->Nat->Int} {m:Move} (hk:m.k=1):wayB w k f m=(dg w k f m.f&&(decide (1<=m.n)&&((List.range (m.n.toNat+1)).all (qa w k f m)&&decide (m.t=gj m.f m.d m.n)))):=by
 unfold wayB
 rw [if_pos hk]
theorem way_run {G h h1 h0:Hp} {x lb w k:Nat} {g:Value} {f:Nat->Nat->Int} {m:Move} {r:Rg} (gs:GS G h1 g w k f) (st:iq G) (nb:Bd m.n) (hf:dg w k f m.f=true) (hk:m.k=1)
   (bx:h1 x=some (pv m)) (g0:r 0=g) (g3:r 3 = .pointer (some ⟨x,0,none⟩)) (g6:r 6 = .slice none 0 0) (g7:r 7 = .pointer (some ⟨lb,0,none⟩)) (g8:r 8 = .int .i64 0)
   (s:Sep [noHp.set lb (.cells #[m.f.x,m.f.y,.bool m.f.d] 30 (0,0)),h1] h) (d:Dis G h) (l0:h0.le h1):
   dl (Qx G) r h (bo 1 (ci (Q1 G (retK P_ G [.tmp 4,.tmp 5] (WayR G h0 w k f m))) (bo 0 (ci (Ax G (retK P_ G [.tmp 4,.tmp 5] (WayR G h0 w k f m))) (retK P_ G [.tmp 4,.tmp 5] (WayR G h0 w k f m)))))):=by
 refine di (fun mm r2 h3=>∃(i:Nat) (ip:Hp) (sv:Value),mm=18-i/\i<=17/\(m.n<0->i=0)/\(0<=m.n->(i:Int)<=m.n+1)/\r2 0=g/\r2 3 = .pointer (some ⟨x,0,none⟩)/\r2 7 = .pointer (some ⟨lb,0,none⟩)/\r2 8 = .int .i64 i/\r2 6=sv/\
    Slc dr 28 ip sv ((List.range i).flatMap fun (j:Nat)=>bz (gj m.f m.d j))/\Sep [ip,noHp.set lb (.cells #[(Fu m i).x,(Fu m i).y,.bool (Fu m i).d] 30 (0,0)),h1] h3/\Dis G h3/\(∀j,j<i->qa w k f m j=true)) ?_
   (m:=18) ⟨0,noHp,_,rfl,by decide,fun _=>rfl,fun h=>by simp;omega,g0,g3,g7,g8,g6,Slc.nil,by simpa [Fu]using s.none,d,by simp⟩
 rintro mm r2 h3 ⟨i,ip,sv,rfl,hi,hneg,hpos,q0,q3,q7,q8,q6,o,s3,d3,hs⟩ X HX
 have bx3:=s3.at 2 rfl bx
 have cx:∀j,af G h3 ⟨x,j,none⟩=_:=fun j=>aj (ai bx3)
 unfold Qx
 simp only [bRpU,q3,q8,cx]
 refine bv (fun hle=>?_) (fun hgt=>?_)
 rotate_left
 . -- the end
   try simp (disch:=first|decide|omega) only [bRpU,Nat.reduceAdd,Nat.reduceMul]
   unfold Q1
   have cl:∀j,af G h3 ⟨lb,j,none⟩=_:=fun j=>aj (ai (s3.at 1 rfl ag))
   try simp (disch:=decide) only [bRpU,q3,q7,cx]
   by_cases h1n:1<=m.n
   . have e1:decide (m.n>=1)=true:=decide_eq_true h1n
     have hin:(i:Int)=m.n+1:=by have:=hpos (by omega);omega
     have elast:Fu m i=gj m.f m.d m.n:=by
       unfold Fu
       rw [if_neg (by omega),show (i:Int)-1=m.n by omega]
     have eall:(List.range (m.n.toNat+1)).all (qa w k f m)=true:=by
       rw [List.all_eq_true]
       intro j hj
       exact hs j (by have:=List.mem_range.1 hj;omega)
     try simp only [bRpU,Nat.reduceAdd,e1,q3,q7,cx,cl,pi,q6]
     rw [elast]
     have ew:wayB w k f m=decide (m.t=gj m.f m.d m.n):=by
       rw [Ha hk,hf,eall,decide_eq_true h1n]
       simp
     refine WayR.less l0 ⟨ip,sv,_,?_,o,(s3.pick 1 rfl rfl).drop,d3,fun _=>?_⟩
     . rw [ew]
     . unfold wayL
       rw [if_pos hk,show m.n.toNat+1=i by omega]
   . have e1:decide (m.n>=1)=false:=decide_eq_false (by omega)
     try simp only [bRpU,e1,q6]
     have ew:wayB w k f m=false:=by
       rw [Ha hk,decide_eq_false (show ¬1<=m.n from h1n)]
       simp
     refine WayR.less l0 ⟨ip,sv,_,by rw [ew],o,(s3.pick 1 rfl rfl).drop,d3,fun q=>by rw [ew]at q;cases q⟩
 unfold Kk
 try simp (disch:=decide) only [bRpU,Nat.reduceAdd,q0,q3,q8,cx]
 refine (Hq (p:=m.f) (dir:=m.d) (n:=(i:Int)) st).mono ?_
 rintro _ h3 ⟨rfl,rfl⟩
 try simp (disch:=first|decide|exact aq|exact ao|omega|rfl) only [bRpU]
 intro y hy gy
 have s4:=s3.past (o := .cells #[(lm m.f m.d i).x,(lm m.f m.d i).y,.bool (lm m.f m.d i).d] 30 (0,0)) hy
 have hy4:(h3.set y (.cells #[(lm m.f m.d i).x,(lm m.f m.d i).y,.bool (lm m.f m.d i).d] 30 (0,0))) y=some (.cells #[(lm m.f m.d i).x,(lm m.f m.d i).y,.bool (lm m.f m.d i).d] 30 (0,0)):=ag
 have sg:=(s3.pick 2 rfl rfl).grow (o := .cells #[(lm m.f m.d i).x,(lm m.f m.d i).y,.bool (lm m.f m.d i).d] 30 (0,0)) hy
 have d4:=d3.set (o := .cells #[(lm m.f m.d i).x,(lm m.f m.d i).y,.bool (lm m.f m.d i).d] 30 (0,0)) gy
 generalize Hp.set h3 y _=h4 at s4 hy4 d4 sg ⊢
 have hin:qa w k f m i=false->0<=m.n->wayB w k f m=false:=fun e h0=>by
   rw [Ha hk]
   have:(List.range (m.n.toNat+1)).all (qa w k f m)=false:=by
     rw [List.all_eq_false]
     exact ⟨i,List.mem_range.2 (by omega),by simp [e]⟩
   rw [this]
   simp
 have h0n:0<=m.n:=by omega
 have cy:∀j,af G h4 ⟨y,j,none⟩=_:=fun j=>aj (ai hy4)
 cases hok:okS m.d i with
 |false=>
   try simp only [bRpU]
   exact WayR.less l0 <| WayR.no (s4.in 2 rfl) d4 (hin (by unfold qa;rw [hok];rfl) h0n)
 |true=>
 have hi16:i<=16:=by
   unfold okS at hok
   rw [Bool.and_eq_true]at hok
   have:=(dv.1 hok.1).2
   omega
 have esh:lm m.f m.d i=gj m.f m.d i:=by unfold lm;rw [if_pos hok]
 rw [esh]at cy hy4 sg
 try simp only [bRpU,cy]
 refine (nw (p:=gj m.f m.d i) (gs.up (s4.in 2 rfl) d4) st Ee).mono ?_
 rintro _ h4 ⟨rfl,rfl⟩
 cases hfi:dg w k f (gj m.f m.d i)with
 |false=>
   try simp only [bRpU]
   exact WayR.less l0 <| WayR.no (s4.in 2 rfl) d4 (hin (by unfold qa;rw [hok,hfi];rfl) h0n)
 |true=>
 try simp only [bRpU]
 unfold Ki
 try simp (disch:=decide) only [bRpU,q0,q6,cy]
 refine (mq (g:=g) (p:=gj m.f m.d i) st Ee).mono ?_
 rintro _ _ ⟨b,rfl,hb,gb,rfl⟩
 generalize e5:Hp.set h4 b _=h5
 obtain ⟨l5,d5,b5⟩:=boxed e5 hb d4 gb
 have s5:=(sg.le l5).pick 1 rfl rfl
 have hlen:((List.range i).flatMap fun (j:Nat)=>bz (gj m.f m.d j)).length=2*i:=by
   rw [List.length_flatMap,show (fun (j:Nat)=>(bz (gj m.f m.d j)).length)=fun _=>2 from rfl,List.map_const',List.sum_replicate_nat,List.length_range,Nat.mul_comm]
 try simp (disch:=first|decide|omega) only [bRpU,Nat.reduceAdd,Nat.reduceMul]
 refine ez dr (by decide) un22 eocell (by decide) (by decide) (M:=bz (gj m.f m.d i)) s5 d5 o (Sees.row b5 rfl (Nat.le_refl _)) (by rw [hlen,show (bz (gj m.f m.d i)).length=2 from rfl];omega) fun v' a' h6 o' s6 d6=>?_
 have cy6:∀j,af G h6 ⟨y,j,none⟩=_:=fun j=>aj (ai (s6.at 1 rfl ag))
 have hlb6:=s6.at 2 rfl ag
 try simp only [bRpU,cy6,q7]
 rw [store30 (p:=gj m.f m.d i) hlb6]
 have hy1:h1 y=none:=(s3.in 2 rfl).none hy
 have s7:=((s6.pick 2 rfl rfl).put (o := .cells #[(gj m.f m.d i).x,(gj m.f m.d i).y,.bool (gj m.f m.d i).d] 30 (0,0)) ag)
 rw [set_set]at s7
 have s8:=((s7.pick 2 rfl rfl).cut (b8 hy1))
 have s9:=(s8.pick 1 rfl rfl).pick 2 rfl rfl
 have d9:Dis G (h6.set lb (.cells #[(gj m.f m.d i).x,(gj m.f m.d i).y,.bool (gj m.f m.d i).d] 30 (0,0))):=d6.set (d6 _ _ hlb6)
 unfold Kj
 try simp (disch:=first|decide|omega) only [bRpU,q8]
 have el:Fu m (i+1)=gj m.f m.d i:=by
   unfold Fu
   rw [if_neg (by omega),show ((i+1:Nat):Int)-1=i by omega]
 refine HX (18-(i+1)) _ _ (by omega) ⟨i+1,a',v',rfl,by omega,fun h=>absurd h (by omega),fun h=>by omega,by simp (disch:=decide) only [bRpU,q0],by simp (disch:=decide) only [bRpU,q3],by simp (disch:=decide) only [bRpU,q7],by simp only [bRpU]<;>rfl,by simp (disch:=decide) only [bRpU],?_,?_,d9,yu hs (by unfold qa;rw [hok,hfi];rfl)⟩
 . rw [ac2]
   exact o'
 . rw [el]
   exact s9
theorem Lj {w k:Nat} {f:Nat->Nat->Int} {m:Move} (hf:dg w k f m.f=true) (hk:m.k=2) (hz:m.d=0/\m.n=0):wayB w k f m=((ec (m.f.x,m.f.y)).all (oc w k f)&&decide (m.t=yg m.f)):=by
 unfold wayB
 rw [if_neg (by omega),if_pos hk,hf,decide_eq_true hz]
 simp
theorem Ll {w k:Nat} {f:Nat->Nat->Int} {m:Move} (hf:dg w k f m.f=true) (hk1:m.k≠1) (hk:m.k≠2) (hz:m.d=0/\m.n=0):wayB w k f m=(decide (m.k=3\/m.k=4)&&decide (m.t=m.f)):=by
 unfold wayB
 rw [if_neg hk1,if_neg hk,hf,decide_eq_true hz]
 simp
theorem af2 {G h h1 h0 ip:Hp} {x w k:Nat} {g sv:Value} {f:Nat->Nat->Int} {m:Move} {r:Rg} (gs:GS G h1 g w k f) (hf:dg w k f m.f=true) (hk:m.k=2) (hz:m.d=0/\m.n=0)
   (bx:h1 x=some (pv m)) (g0:r 0=g) (g3:r 3 = .pointer (some ⟨x,0,none⟩)) (g11:r 11=sv) (g84:r 84=sv) (g85:r 85 = .int .i64 4) (g86:r 86 = .int .i64 0)
   (o:Slc dr 28 ip sv (ec (m.f.x,m.f.y))) (s:Sep [ip,h1] h) (d:Dis G h) (l0:h0.le h1):
   dl (Kl G) r h (bo 3 (ci (Qz G (retK P_ G [.tmp 4,.tmp 5] (WayR G h0 w k f m))) (bo 0 (ci (Ax G (retK P_ G [.tmp 4,.tmp 5] (WayR G h0 w k f m))) (retK P_ G [.tmp 4,.tmp 5] (WayR G h0 w k f m)))))):=by
 obtain ⟨sa,cap,rfl,hcap⟩:=o.len (by decide)
 refine di (fun mm r2 h3=>∃(i:Nat),mm=4-i/\i<=4/\r2 0=g/\r2 3 = .pointer (some ⟨x,0,none⟩)/\r2 11=r 11/\r2 84=r 84/\r2 85 = .int .i64 4/\r2 86 = .int .i64 i/\Sep [ip,h1] h3/\Dis G h3/\((ec (m.f.x,m.f.y)).take i).all (oc w k f)=true) ?_
   (m:=4) ⟨0,rfl,by decide,g0,g3,rfl,rfl,g85,g86,s,d,by simp⟩
 rintro mm r2 h3 ⟨i,rfl,hi,q0,q3,q11,q84,q85,q86,s3,d3,hs⟩ X HX
 rw [g11]at q11
 rw [g84]at q84
 have bx3:=s3.at 1 rfl bx
 have cx:∀j,af G h3 ⟨x,j,none⟩=_:=fun j=>aj (ai bx3)
 unfold Kl
 simp only [bRpU,q85,q86]
 refine bv (fun hlt=>?_) (fun hge=>?_)
 rotate_left
 . obtain rfl:i=4:=by omega
   try simp (disch:=first|decide|omega) only [bRpU,Nat.reduceAdd,Nat.reduceMul]
   unfold Qz
   try simp (disch:=decide) only [bRpU,Nat.reduceAdd,q3,q11,cx,pi]
   rw [List.take_of_length_le (show (ec (m.f.x,m.f.y)).length<=4 from Nat.le_refl 4)]at hs
   refine WayR.less l0 ⟨ip,_,_,?_,o,s3,d3,fun _=>?_⟩
   . rw [Lj hf hk hz,hs,Bool.true_and,<- pi]
     rfl
   . unfold wayL
     rw [if_neg (by omega),if_pos hk]
 have hlt':i<4:=by omega
 obtain ⟨y,hy⟩:∃y,(ec (m.f.x,m.f.y))[i]?=some y:=⟨_,List.getElem?_eq_getElem (by simpa [ec]using hlt')⟩
 obtain ⟨b,ofs,rfl,z0,z1⟩:=Sees.cell (G:=G) (o.sees (by decide) (s3.in 0 rfl)) hy
 unfold D9
 try simp (disch:=first|decide|exact aq|exact ao|omega|rfl) only [bRpU,q0,q84,q86,ix22 (Int.natCast_nonneg i) (show (i:Int)<(ec (m.f.x,m.f.y)).length from hlt),z0,z1]
 intro t ht gt
 have s4:=s3.past (o := .cells #[y.1,y.2] 28 (0,0)) ht
 have d4:=d3.set (o := .cells #[y.1,y.2] 28 (0,0)) gt
 try simp (disch:=first|decide|omega) only [bRpU,Nat.reduceAdd,Nat.reduceMul]
 generalize Hp.set h3 t _=h4 at s4 d4 ⊢
 refine (Ai (c:=y) (gs.up (s4.in 1 rfl) d4)).mono ?_
 rintro _ _ ⟨rfl,rfl⟩
 have hym:y∈ec (m.f.x,m.f.y):=List.mem_of_getElem? hy
 cases hc:oc w k f y with
 |false=>
   try simp only [bRpU]
   refine WayR.less l0 <| WayR.no (s4.in 1 rfl) d4 ?_
   rw [Lj hf hk hz]
   have:(ec (m.f.x,m.f.y)).all (oc w k f)=false:=by
     rw [List.all_eq_false]
     exact ⟨y,hym,by simp [hc]⟩
   rw [this]
   rfl
 |true=>
   try simp only [bRpU]
   unfold D8
   try simp (disch:=first|decide|omega) only [bRpU,q86]
   refine HX (4-(i+1)) _ _ (by omega) ⟨i+1,rfl,hlt',by simp (disch:=decide) only [bRpU,q0],by simp (disch:=decide) only [bRpU,q3],by simp (disch:=decide) only [bRpU,q11,g11],by simp (disch:=decide) only [bRpU,q84,g84],by simp (disch:=decide) only [bRpU,q85],by simp only [bRpU]<;>rfl,s4,d4,?_⟩
   rw [List.take_add_one,hy]
   simp [hs,hc]
theorem Re {G h:Hp} {g:Value} {w k:Nat} {f:Nat->Nat->Int} {m:Move} (gs:GS G h g w k f) (st:iq G) (mb:MB m):al P_ G 127 #[g,Fm m] h (WayR G h w k f m):=by
 obtain ⟨nb,fb⟩:=mb
 refine al.assume fun d=>as0 (by simp) ?_
 unfold S127
 simp (disch:=decide) only [bRpU,Nat.reduceAdd]
 intro x hx gx
 generalize e1:Hp.set h x _=h1
 obtain ⟨l1,d1,b1⟩:=boxed e1 hx d gx
 have gs1:=gs.up l1 d1
 have cx:∀j,af G h1 ⟨x,j,none⟩=_:=fun j=>aj (ai b1)
 try simp (disch:=first|decide|omega) only [bRpU,Nat.reduceAdd,Nat.reduceMul,cx]
 refine (nw (p:=m.f) gs1 st fb).mono ?_
 rintro _ h1 ⟨rfl,rfl⟩
 cases hf:dg w k f m.f with
 |false=>
   try simp only [bRpU]
   exact WayR.no l1 d1 (by unfold wayB;rw [hf];rfl)
 |true=>
 try simp only [bRpU]
 unfold Y5
 try simp (disch:=decide) only [bRpU,cx]
 by_cases hk1:m.k=1
 . try simp only [bRpU,fe,show (m.k != 1)=false by simp [hk1]]
   unfold Q2
   try simp (disch:=first|decide|exact aq|exact ao|omega|rfl) only [bRpU,Nat.reduceAdd,cx,show (m.k==1)=true by simp [hk1]]
   intro lb hlb glb
   try simp (disch:=first|decide|omega) only [bRpU,Nat.reduceAdd,Nat.reduceMul]
   exact way_run gs1 st nb hf hk1 b1 (by simp (disch:=decide) only [bRpU]) (by simp (disch:=decide) only [bRpU]) (by simp (disch:=decide) only [bRpU]) (by simp (disch:=decide) only [bRpU]) (by simp only [bRpU]) (Sep.one.new hlb) (d1.set glb) l1
 have ek1:(m.k != 1)=true:=by simp [hk1]
 have ek1':(m.k==1)=false:=by simp [hk1]
 by_cases hz:m.d=0/\m.n=0
 rotate_left
 . have ew:wayB w k f m=false:=by
     unfold wayB
     rw [if_neg hk1,decide_eq_false hz]
     simp
   by_cases hd:m.d=0
   . have hn:(m.n != 0)=true:=by
       have:m.n≠0:=fun e=>hz ⟨hd,e⟩
       simp [this]
     try simp only [bRpU,cx,ek1,hn,show (m.d != 0)=false by simp [hd]]
     exact WayR.no l1 d1 ew
   . try simp only [bRpU,cx,fe,ek1,show (m.d != 0)=true by simp [hd]]
     exact WayR.no l1 d1 ew
 try simp only [bRpU,cx,ek1,show (m.d != 0)=false by simp [hz.1],show (m.n != 0)=false by simp [hz.2]]
 unfold Q2
 by_cases hk2:m.k=2
 . try simp (disch:=first|decide|exact aq|exact ao|omega|rfl) only [bRpU,Nat.reduceAdd,cx,ek1',show (m.k==2)=true by simp [hk2]]
   refine (Rm (c:=(m.f.x,m.f.y))).mono ?_
   rintro _ h2 ⟨ip,sa,rfl,o,s2,d2⟩
   try simp only [bRpU]
   exact af2 gs1 hf hk2 hz b1 (by simp (disch:=decide) only [bRpU]) (by simp (disch:=decide) only [bRpU]) (by simp (disch:=decide) only [bRpU]) (by simp (disch:=decide) only [bRpU]) (by simp (disch:=decide) only [bRpU]<;>rfl) (by simp only [bRpU]) o s2 d2 l1
 have ek2:(m.k==2)=false:=by simp [hk2]
 by_cases hk34:m.k=3\/m.k=4
 rotate_left
 . have ew:wayB w k f m=false:=by
     rw [Ll hf hk1 hk2 hz,decide_eq_false hk34]
     rfl
   try simp (disch:=first|decide|exact aq|exact ao|omega|rfl) only [bRpU,Nat.reduceAdd,cx,ek1',ek2,show (m.k==3)=false by simp;omega,show (m.k==4)=false by simp;omega]
   unfold Ad
   try simp (disch:=decide) only [bRpU,Nat.reduceAdd]
   unfold Ax
   try simp (disch:=decide) only [bRpU]
   exact WayR.no l1 d1 ew
 have k13:∀r:Rg,r 0=g->r 3 = .pointer (some ⟨x,0,none⟩)->r 107 = .bool true->Ad G (retK P_ G [.tmp 4,.tmp 5] (WayR G h w k f m)) r h1:=by
   intro r g0 g3 g107
   unfold Ad
   simp (disch:=decide) only [bRpU,g107]
   refine ⟨h1,Hp.le.refl _,?_⟩
   try simp only [bRpU,Nat.reduceAdd,g0,g3,cx]
   refine (mq (g:=g) (p:=m.f) st fb).mono ?_
   rintro _ _ ⟨b,rfl,hb,gb,rfl⟩
   refine ⟨b8 hb,?_⟩
   try simp only [bRpU,g3,cx,pi]
   refine WayR.less l1 ⟨noHp.set b _,_,bz m.f,?_,⟨some b,2,[],rfl,ag,rfl⟩,Sep.one.new hb,d1.set gb,fun _=>?_⟩
   . rw [Ll hf hk1 hk2 hz,decide_eq_true hk34]
     rfl
   . unfold wayL
     rw [if_neg hk1,if_neg hk2]
 rcases hk34 with h3|h4
 . try simp (disch:=first|decide|exact aq|exact ao|omega|rfl) only [bRpU,Nat.reduceAdd,cx,ek1',ek2,show (m.k==3)=true by simp [h3]]
   exact k13 _ (by simp (disch:=decide) only [bRpU]) (by simp (disch:=decide) only [bRpU]) (by simp only [bRpU])
 . try simp (disch:=first|decide|exact aq|exact ao|omega|rfl) only [bRpU,Nat.reduceAdd,cx,ek1',ek2,show (m.k==3)=false by simp [h4],show (m.k==4)=true by simp [h4]]
   exact k13 _ (by simp (disch:=decide) only [bRpU]) (by simp (disch:=decide) only [bRpU]) (by simp only [bRpU])
theorem Ie {G h:Hp} {g:Value} {w k:Nat} {f:Nat->Nat->Int} {m:Move} (gs:GS G h g w k f) (st:iq G) (mb:MB m):al P_ G 78 #[g,Fm m] h (fun u h'=>u = .bool (wayB w k f m)/\h'=h):=by
 refine al.assume fun d=>quietly (enter78 (by simp) ?_)
 unfold S78
 simp only [bRpU]
 intro x hx gx
 generalize e1:Hp.set h x _=h1
 obtain ⟨l1,d1,b1⟩:=boxed e1 hx d gx
 have cx:∀j,af G h1 ⟨x,j,none⟩=_:=fun j=>aj (ai b1)
 try simp (disch:=first|decide|omega) only [bRpU,Nat.reduceAdd,Nat.reduceMul,cx]
 refine (Re (gs.up l1 d1) st mb).mono ?_
 rintro _ h2 ⟨ip,v,L,rfl,o,s2,d2,_⟩
 try simp only [bRpU]
 exact l1.trans (s2.in 1 rfl)
def bRpV:=jq bC (jq (jq (jq (jq @al48 @Dr) (jq @Je (jq @gg @Ja))) (jq (jq @ny @cf166) (jq @cf61 (jq @cf78 @tk)))) (jq (jq (jq @Ex @ld178) (jq @ld28 (jq @ld30 @ld4))) (jq (jq @ld48 (jq @ld68 @my)) (jq @kq (jq @Hn @true_and)))))
theorem _root_.Go.HL.Sep.pack2 {x y h:Hp} {R:List Hp} (s:Sep (x::y::R) h):∃b,Sep (b::R) h/\Sep [x,y] b:=by
 obtain ⟨s1,ap⟩:=s.join
 exact ⟨_,s1,⟨fun a ha=>by
   simp only [List.mem_cons,List.not_mem_nil,or_false]at ha
   rcases ha with rfl|rfl
   . exact Hp.le_join
   . exact Hp.le_join2 ap,by simp [ap]⟩⟩
theorem _root_.Go.HL.Sep.pack3 {x y z h:Hp} {R:List Hp} (s:Sep (x::y::z::R) h):∃b,Sep (b::R) h/\Sep [x,y,z] b:=by
 have s1:Sep (y::z::x::R) h:=s.rot.rot
 obtain ⟨s2,a2⟩:=s1.join
 obtain ⟨s3,a3⟩:=s2.swap.join
 refine ⟨_,s3,fun a ha=>?_,(List.pairwise_append (l₁:=[x,y,z]) (l₂:=R)).1 s.2 |>.1⟩
 simp only [List.mem_cons,List.not_mem_nil,or_false]at ha
 rcases ha with rfl|rfl|rfl
 . exact Hp.le_join
 . exact Hp.le_join.trans (Hp.le_join2 a3)
 . exact (Hp.le_join2 a2).trans (Hp.le_join2 a3)
theorem opE76 {G:Hp} {a b y:Value} {h:Hp} {K:VK}:opE P_ G (ij (.func (.func 182) #[] #[a,b]) #[y]) h K=al P_ G 182 #[y,a,b] h K:=by kernel_rfl
theorem Ww {n d:Nat} {v:Value} {r:Rg} (hd:d<n):setR n #[d] #[v] r=upd r d v:=by
 unfold setR
 simp [putR,hd]
theorem Zy {G h:Hp} {gp:Nat} {p:Pose}:al P_ G 166 #[.pointer (some ⟨gp,0,none⟩),ja p] h (fun u h'=>∃b1 b2,u = .func (.func 182) #[] #[.pointer (some ⟨b1,0,none⟩),.pointer (some ⟨b2,0,none⟩)]/\h b1=none/\G b1=none/\(h.set b1 (.cells #[.pointer (some ⟨gp,0,none⟩)] 68 (0,0))) b2=none/\G b2=none/\h'=(h.set b1 (.cells #[.pointer (some ⟨gp,0,none⟩)] 68 (0,0))).set b2 (.cells #[p.x,p.y,.bool p.d] 30 (0,0))):=by
 refine ap3 (by simp) ?_
 unfold S166
 simp only [bRpV]
 intro x hx gx y hy gy
 exact ⟨x,y,rfl,hx,gx,hy,gy,rfl⟩
def m9 (p:Pose):Move:=⟨2,0,0,p,yg p,0,0⟩
def lr (w k:Nat) (f:Nat->Nat->Int) (p:Pose):List Move:=if dg w k f p=true then Fj w k f p++(if wayB w k f (m9 p)=true then [m9 p]else [])else []
def InY (Y:List Move->Hp->Prop) (eb:Hp) (l:Nat) (o:Obj) (L:List Move) (b:Hp):Prop:=∃a,Y L a/\Sep [a,eb,noHp.set l o] b
theorem Ok {p:Pose} (hp:PB p):MB (m9 p):=⟨⟨show (-9223372036854775808:Int)<=0 by decide,show (0:Int)<=9223372036854775807 by decide⟩,hp⟩
def ff:Cod Move:=⟨11,fun m=>[.int .i64 m.k,.int .i64 m.d,.int .i64 m.n,.int .i64 m.f.x,.int .i64 m.f.y,.bool m.f.d,.int .i64 m.t.x,.int .i64 m.t.y,.bool m.t.d,.int .i64 m.a,.int .i64 m.e],fun _=>rfl,fun _ v hv=>by simp at hv;rcases hv with rfl|rfl|rfl|rfl|rfl|rfl|rfl|rfl|rfl|rfl|rfl<;>rfl⟩
theorem eomove:gc P_ 48 ff.n 88:=eo48
def GY {α:Type} (c:Cod α) (e T:TypeId) (most:Int) (lb mb:Nat) (L:List α) (a:Hp):Prop:=∃ip v,Slc c e ip v L/\Sep [ip,noHp.set lb (.cells #[v] T (0,0)),noHp.set mb (.cells #[most] 3 (0,0))] a
def GYb {α:Type} (c:Cod α) (e T:TypeId) (most:Int) (lb mb:Nat) (L:List α) (a:Hp):Prop:=GY c e T most lb mb L a/\(L.length:Int)<most
section
variable (G:Hp) (K:EK) (r:Rg) (h:Hp)
def md108:Nat->Hint
 |_=>mh false [] [] [] false
def Zh (G:Hp) (K:EK) (r:Rg) (h:Hp):Prop:=
 K .ret (u2 r 45 (r 9) 8 (r 9)) h
def Cc:Prop:=
 o_ G (binOp .add 3 (r 20) (.int .i64 1)) h fun v4 h4=>
 K .normal (u2 r 44 v4 20 v4) h4
def Kv:Prop:=
 o_ G (Instr.loadAt 142 (r 13)) h fun v14 h14=>
 c_ G 146 #[(r 9),v14] h14 fun v15 h15=>
 Cc G K (u4 r 41 (r 9) 42 v14 43 v15 9 v15) h15
def Ce (G:Hp) (r:Rg) (h:Hp) (K:EK):Prop:=
 K .normal (u2 r 14 (r 33) 15 (r 34)) h
def Cd (r:Rg) (h:Hp) (K:EK):Prop:=
 o_ G (Instr.loadAt 142 (r 13)) h fun v16 h16=>o_ G (Instr.build 151 #[(0,(r 14)),(1,(r 15))]) h16 fun v17 h17=>o_ G (Instr.buildSlice 142 1 #[(0,v17)]) h17 fun v18 h18=>o_ G (Builtin.append_ #[142,142] 142 #[v16,v18]) h18 fun v19 h19=>
 opH P_ G (su (Instr.storeAt 142 (r 13) v19)) h19 fun v20 h20=>
 K .normal (u6 r 35 v16 36 (r 14) 37 (r 15) 38 v17 39 v18 40 v19) h20
def Kw:Prop:=
 o_ G (Instr.alloc 142 true (.tuple #[])) h fun v12 h12=>
 c_ G 145 #[(r 1),(r 12),(r 2)] h12 fun v13 h13=>
 Kz P_ G 2 (Ce G) (Cd G) (setR 46 #[33,34]) v13 (u5 r 13 v12 29 (r 1) 30 (r 12) 31 (r 2) 32 v13) h13 (bo 2 (ci (Kv G K) (bo 1 (ci (Cc G K) K))))
def Kx:Prop:=
 o_ G (Instr.indexAt 22 (r 18) (r 20)) h fun v5 h5=>o_ G (Instr.loadAt 28 v5) h5 fun v6 h6=>o_ G (Instr.alloc 28 true (.tuple #[])) h6 fun v7 h7=>
 opH P_ G (su (Instr.storeAt 28 v7 v6)) h7 fun v8 h8=>o_ G (Instr.loadAt 28 v7) h8 fun v9 h9=>
 c_ G 88 #[(r 0),v9] h9 fun v10 h10=>o_ G (binOp .lss 3 v10 (.int .i64 0)) h10 fun v11 h11=>
 (fun q=>cond v11
 (K .ret (upd q 8 (.slice none 0 0)) h11)
 (Kw G K q h11))
 (u9 r 22 v5 23 v6 11 v7 24 (r 0) 25 v9 26 v10 12 v10 27 v10 28 v11)
def Zg (r:Rg) (h:Hp) (K:EK):Prop:=
 o_ G (binOp .lss 3 (r 20) (r 19)) h fun v3 h3=>
 cond v3
 (Kx G K (upd r 21 v3) h3)
 (K (.exit 0) (upd r 21 v3) h3)
def S108:Prop:=
 o_ G (Instr.build 151 #[(0,(.int .i64 0)),(1,(.int .i64 4611686018427387904))]) h fun v0 h0=>o_ G (Instr.buildSlice 142 1 #[(0,v0)]) h0 fun v1 h1=>o_ G (Builtin.len_ #[22] 3 #[(r 3)]) h1 fun v2 h2=>
 dl (Zg G) (u7 r 8 (.slice none 0 0) 16 v0 17 v1 9 v1 18 (r 3) 19 v2 20 (.int .i64 0)) h2 (bo 0 (ci (Zh G K) K))
theorem at5:Ent 46 108 [.tmp 8] S108:=ent_ (m:=md108) (c:=(Tryz.f108.body.getD .skip)) (fun _ _ _ _=>by kernel_rfl) Tryz.func108 rfl rfl rfl
def md146:Nat->Hint
 |4=>mh false [0,0,3,7,15,0,0,96,224,480,1023,0,0,6144,14336,30720,0,0,196608,458752,983040,2095104,4194303,0,16777215] [n_,n_,n_,n_,m_,n_,n_,n_,n_,m_,n_,n_,n_,n_,n_,m_,n_,n_,n_,n_,m_,n_,n_,.alloc,.store] (fs 25) false
 |7=>mh false [0,0,3,7,15,0,0,96,224,480,1023] [n_,n_,n_,n_,m_,n_,n_,n_,n_,m_,n_] (fs 11) false
 |_=>mh false [] [] [] false
def G4 (G:Hp) (K:EK) (r:Rg) (h:Hp):Prop:=
 K .ret (u2 r 66 (r 5) 4 (r 5)) h
def ww:Prop:=
 p_ (Instr.indexAt 142 (r 0) (r 6)) h fun v29 h29=>
 p_ (Instr.fieldAt 151 v29 1) h29 fun v30 h30=>
 w_ G h (Instr.loadAt 3 v30) h30 fun v31 h31=>
 p_ (Instr.indexAt 142 (r 1) (r 7)) h31 fun v32 h32=>
 p_ (Instr.fieldAt 151 v32 1) h32 fun v33 h33=>
 w_ G h (Instr.loadAt 3 v33) h33 fun v34 h34=>
 p_ (binOp .lss 3 v31 v34) h34 fun v35 h35=>
 cond v35
 (o_ G (binOp .add 3 (r 6) (.int .i64 1)) h35 fun v36 h36=>
 K .normal (u4 (u10 r 51 (r 0) 52 (r 6) 53 v29 54 v30 55 v31 56 (r 1) 57 (r 7) 58 v32 59 v33 60 v34) 61 v35 62 (r 6) 63 v36 6 v36) h36)
 (o_ G (binOp .add 3 (r 7) (.int .i64 1)) h35 fun v37 h37=>
 K .normal (u4 (u10 r 51 (r 0) 52 (r 6) 53 v29 54 v30 55 v31 56 (r 1) 57 (r 7) 58 v32 59 v33 60 v34) 61 v35 64 (r 7) 65 v37 7 v37) h37)
def J5:Prop:=
 p_ (Instr.indexAt 142 (r 0) (r 6)) h fun v7 h7=>
 p_ (Instr.fieldAt 151 v7 0) h7 fun v8 h8=>
 w_ G h (Instr.loadAt 3 v8) h8 fun v9 h9=>
 p_ (Instr.indexAt 142 (r 1) (r 7)) h9 fun v10 h10=>
 p_ (Instr.fieldAt 151 v10 0) h10 fun v11 h11=>
 w_ G h (Instr.loadAt 3 v11) h11 fun v12 h12=>
 p_ (Builtin.max_ #[3,3] 3 #[v9,v12]) h12 fun v13 h13=>
 p_ (Instr.indexAt 142 (r 0) (r 6)) h13 fun v14 h14=>
 p_ (Instr.fieldAt 151 v14 1) h14 fun v15 h15=>
 w_ G h (Instr.loadAt 3 v15) h15 fun v16 h16=>
 p_ (Instr.indexAt 142 (r 1) (r 7)) h16 fun v17 h17=>
 p_ (Instr.fieldAt 151 v17 1) h17 fun v18 h18=>
 w_ G h (Instr.loadAt 3 v18) h18 fun v19 h19=>
 p_ (Builtin.min_ #[3,3] 3 #[v16,v19]) h19 fun v20 h20=>
 p_ (Instr.build 151 #[(0,v13),(1,v20)]) h20 fun v21 h21=>o_ G (Instr.alloc 151 true (.tuple #[])) h21 fun v22 h22=>
 opH P_ G (su (Instr.storeAt 151 v22 v21)) h22 fun v23 h23=>o_ G (Instr.fieldAt 151 v22 0) h23 fun v24 h24=>o_ G (Instr.loadAt 3 v24) h24 fun v25 h25=>o_ G (Instr.fieldAt 151 v22 1) h25 fun v26 h26=>o_ G (Instr.loadAt 3 v26) h26 fun v27 h27=>o_ G (binOp .lss 3 v25 v27) h27 fun v28 h28=>
 cond v28
 (o_ G (Instr.loadAt 151 v22) h28 fun v38 h38=>o_ G (Instr.buildSlice 142 1 #[(0,v38)]) h38 fun v39 h39=>o_ G (Builtin.append_ #[142,142] 142 #[(r 5),v39]) h39 fun v40 h40=>
 ww G K (u4 (u10 (u10 (u10 r 19 (r 0) 20 (r 6) 21 v7 22 v8 23 v9 24 (r 1) 25 (r 7) 26 v10 27 v11 28 v12) 29 v13 30 (r 0) 31 (r 6) 32 v14 33 v15 34 v16 35 (r 1) 36 (r 7) 37 v17 38 v18) 39 v19 40 v20 41 v21 8 v22 42 v24 43 v25 44 v26 45 v27 46 v28 47 (r 5)) 48 v38 49 v39 50 v40 5 v40) h40)
 (ww G K (u9 (u10 (u10 r 19 (r 0) 20 (r 6) 21 v7 22 v8 23 v9 24 (r 1) 25 (r 7) 26 v10 27 v11 28 v12) 29 v13 30 (r 0) 31 (r 6) 32 v14 33 v15 34 v16 35 (r 1) 36 (r 7) 37 v17 38 v18) 39 v19 40 v20 41 v21 8 v22 42 v24 43 v25 44 v26 45 v27 46 v28) h28)
def Yr (r:Rg) (h:Hp) (K:EK):Prop:=
 o_ G (Builtin.len_ #[142] 3 #[(r 0)]) h fun v0 h0=>o_ G (binOp .lss 3 (r 6) v0) h0 fun v1 h1=>g_ v1 true (fun K1=>K1 (r 7) h1) h1 fun v2 h2=>g_ v1 true (fun K1=>K1 (r 1) h2) h2 fun v3 h3=>g_ v1 true (o_ G (Builtin.len_ #[142] 3 #[v3]) h3) h3 fun v4 h4=>g_ v1 true (o_ G (binOp .lss 3 v2 v4) h4) h4 fun v5 h5=>
 opH P_ G (bj v1 v5 (.bool false)) h5 fun v6 h6=>
 (fun q=>cond v6
 (J5 G K q h6)
 (K (.exit 0) q h6))
 (u10 r 9 (r 6) 10 (r 0) 11 v0 12 v1 13 v1 14 v2 15 v3 16 v4 17 v5 18 v6)
def S146:Prop:=
 dl (Yr G) (u4 r 4 (.slice none 0 0) 5 (.slice none 0 0) 6 (.int .i64 0) 7 (.int .i64 0)) h (bo 0 (ci (G4 G K) K))
theorem aq7:Ent 67 146 [.tmp 4] S146:=ent_ (m:=md146) (c:=(Tryz.f146.body.getD .skip)) (fun _ _ _ _=>by kernel_rfl) Tryz.func146 rfl rfl rfl
def md65:Nat->Hint
 |_=>mh false [] [] [] false
def S65:Prop:=
 o_ G (Instr.box 3 (r 1)) h fun v0 h0=>
 opH P_ G (callFunc 113 #[(r 0),(.func (.func 114) #[] #[v0])]) h0 fun v1 h1=>
 K .ret (u6 r 3 v0 4 (.int .i64 0) 5 (r 0) 6 (.func (.func 114) #[] #[v0]) 7 v1 4 v1) h1
theorem enter65:Ent 8 65 [.tmp 4] S65:=ent_ (m:=md65) (c:=(Tryz.f65.body.getD .skip)) (fun _ _ _ _=>by kernel_rfl) Tryz.func65 rfl rfl rfl
def md114:Nat->Hint
 |_=>mh false [] [] [] false
def S114:Prop:=
 o_ G (Instr.box 151 (r 0)) h fun v0 h0=>o_ G (Instr.fieldAt 151 v0 0) h0 fun v1 h1=>o_ G (Instr.loadAt 3 v1) h1 fun v2 h2=>o_ G (Instr.loadAt 3 (r 1)) h2 fun v3 h3=>o_ G (binOp .leq 3 v2 v3) h3 fun v4 h4=>g_ v4 true (o_ G (Instr.loadAt 3 (r 1)) h4) h4 fun v5 h5=>g_ v4 true (o_ G (Instr.fieldAt 151 v0 1) h5) h5 fun v6 h6=>g_ v4 true (o_ G (Instr.loadAt 3 v6) h6) h6 fun v7 h7=>g_ v4 true (o_ G (binOp .lss 3 v5 v7) h7) h7 fun v8 h8=>
 opH P_ G (bj v4 v8 (.bool false)) h8 fun v9 h9=>
 K .ret (u3 (u10 r 2 v0 3 (.bool false) 4 v1 5 v2 6 v3 7 v4 8 v4 9 v5 10 v6 11 v7) 12 v8 13 v9 3 v9) h9
theorem at3:Ent 14 114 [.tmp 3] S114:=ent_ (m:=md114) (c:=(Tryz.f114.body.getD .skip)) (fun _ _ _ _=>by kernel_rfl) Tryz.func114 rfl rfl rfl
def md113:Nat->Hint
 |_=>mh false [] [] [] false
def Zf (G:Hp) (K:EK) (r:Rg) (h:Hp):Prop:=
 K .ret (upd r 4 (.int .i64 (-1))) h
def Kt:Prop:=
 o_ G (binOp .add 3 (r 8) (.int .i64 1)) h fun v2 h2=>
 K .normal (u2 r 18 v2 8 v2) h2
def Ku:Prop:=
 o_ G (Instr.indexAt 142 (r 0) (r 8)) h fun v3 h3=>o_ G (Instr.loadAt 151 v3) h3 fun v4 h4=>
 opH P_ G (ij (r 1) #[v4]) h4 fun v5 h5=>
 (fun q=>cond v5
 (K .ret (u2 q 17 (r 8) 4 (r 8)) h5)
 (Kt G K q h5))
 (u8 r 10 (r 8) 5 (r 8) 11 (r 1) 12 (r 0) 13 (r 8) 14 v3 15 v4 16 v5)
def Ze (r:Rg) (h:Hp) (K:EK):Prop:=
 o_ G (binOp .lss 3 (r 8) (r 7)) h fun v1 h1=>
 cond v1
 (Ku G K (upd r 9 v1) h1)
 (K (.exit 0) (upd r 9 v1) h1)
def S113:Prop:=
 o_ G (Builtin.len_ #[142] 3 #[(r 0)]) h fun v0 h0=>
 dl (Ze G) (u4 r 4 (.int .i64 0) 6 (r 0) 7 v0 8 (.int .i64 0)) h0 (bo 0 (ci (Zf G K) K))
theorem at4:Ent 19 113 [.tmp 4] S113:=ent_ (m:=md113) (c:=(Tryz.f113.body.getD .skip)) (fun _ _ _ _=>by kernel_rfl) Tryz.func113 rfl rfl rfl
def md115:Nat->Hint
 |1=>mh false [0,1,3,7,0,16,63,127,255] [n_,n_,n_,m_,n_,m_,e_,n_,n_] (fs 9) false
 |4=>mh false [0,1,3,7,0,0,63] [n_,n_,n_,m_,n_,m_,e_] (fs 7) false
 |_=>mh false [] [] [] false
def G7:Prop:=
 bm P_ noHp noHp (xNil (r 0)) h fun v10 h10=>
 p_ (Instr.fieldAt 134 v10 7) h10 fun v11 h11=>
 w_ G h (Instr.loadAt 130 v11) h11 fun v12 h12=>
 w_ G h (Instr.loadAt 30 (r 3)) h12 fun v13 h13=>
 opH P_ G (su (Instr.mapUpdate 130 v12 (r 5) v13)) h13 fun v14 h14=>
 K .ret (u8 r 18 (r 0) 19 v10 20 v11 21 v12 22 (r 5) 23 v13 24 (r 5) 4 (r 5)) h14
def S115:Prop:=
 o_ G (Instr.box 30 (r 1)) h fun v0 h0=>
 bm P_ noHp noHp (xNil (r 0)) h0 fun v1 h1=>
 p_ (Instr.fieldAt 134 v1 1) h1 fun v2 h2=>
 w_ G h0 (Instr.loadAt 68 v2) h2 fun v3 h3=>
 p_ (Instr.fieldAt 30 v0 0) h3 fun v4 h4=>
 w_ G h0 (Instr.loadAt 28 v4) h4 fun v5 h5=>
 c_ G 88 #[v3,v5] h5 fun v6 h6=>
 p_ (binOp .mul 3 (.int .i64 2) v6) h6 fun v7 h7=>o_ G (Instr.fieldAt 30 v0 1) h7 fun v8 h8=>o_ G (Instr.loadAt 4 v8) h8 fun v9 h9=>
 cond v9
 (o_ G (binOp .add 3 v7 (.int .i64 1)) h9 fun v15 h15=>
 G7 G K (u6 (u10 r 3 v0 4 (.int .i64 0) 6 (r 0) 7 v1 8 v2 9 v3 10 v4 11 v5 12 v6 13 v7) 5 v7 14 v8 15 v9 16 v7 17 v15 5 v15) h15)
 (G7 G K (u3 (u10 r 3 v0 4 (.int .i64 0) 6 (r 0) 7 v1 8 v2 9 v3 10 v4 11 v5 12 v6 13 v7) 5 v7 14 v8 15 v9) h9)
theorem at2:Ent 25 115 [.tmp 4] S115:=ent_ (m:=md115) (c:=(Tryz.f115.body.getD .skip)) (fun _ _ _ _=>by kernel_rfl) Tryz.func115 rfl rfl rfl
def md66:Nat->Hint
 |4=>mh false [0,1,3,7,0,16,48,112,0,256,768,1792,0,4096,12288,28672,0,126976,262143,524287] [n_,n_,n_,m_,n_,n_,n_,m_,n_,n_,n_,m_,n_,n_,n_,m_,m_,e_,e_,n_] [false,false,false,false,false,false,false,false,false,false,false,false,false,false,false,false,false,true,false,false] false
 |_=>mh false [] [] [] false
def Qc (G:Hp) (K:EK) (r:Rg) (h:Hp):Prop:=
 K .ret (u2 r 47 (r 6) 4 (r 6)) h
def S66:Prop:=
 o_ G (Instr.box 30 (r 1)) h fun v0 h0=>o_ G (Instr.loadAt 30 v0) h0 fun v1 h1=>
 c_ G 115 #[(r 0),v1] h1 fun v2 h2=>
 opH P_ G (xNil (r 0)) h2 fun v3 h3=>o_ G (Instr.fieldAt 134 v3 5) h3 fun v4 h4=>o_ G (Instr.loadAt 128 v4) h4 fun v5 h5=>o_ G (Instr.lookup 128 v5 v2 true) h5 fun v6 h6=>o_ G (Instr.extract v6 0) h6 fun v7 h7=>o_ G (Instr.extract v6 1) h7 fun v8 h8=>o_ G (Op.unary .not v8) h8 fun v9 h9=>
 cond v9
 (bm P_ noHp noHp (xNil (r 0)) h9 fun v10 h10=>
 p_ (Instr.fieldAt 134 v10 1) h10 fun v11 h11=>
 w_ G h9 (Instr.loadAt 68 v11) h11 fun v12 h12=>
 bm P_ noHp noHp (xNil (r 0)) h12 fun v13 h13=>
 p_ (Instr.fieldAt 134 v13 3) h13 fun v14 h14=>
 w_ G h9 (Instr.loadAt 34 v14) h14 fun v15 h15=>
 bm P_ noHp noHp (xNil (r 0)) h15 fun v16 h16=>
 p_ (Instr.fieldAt 134 v16 4) h16 fun v17 h17=>
 w_ G h9 (Instr.loadAt 3 v17) h17 fun v18 h18=>
 bm P_ noHp noHp (xNil (r 0)) h18 fun v19 h19=>
 p_ (Instr.fieldAt 134 v19 1) h19 fun v20 h20=>
 w_ G h9 (Instr.loadAt 68 v20) h20 fun v21 h21=>
 w_ G h9 (Instr.loadAt 30 v0) h21 fun v22 h22=>
 c_ G 89 #[v21,v22] h22 fun v23 h23=>h9.le h23/\
 c_ G 108 #[v12,v15,v18,v23] h23 fun v24 h24=>
 opH P_ G (xNil (r 0)) h24 fun v25 h25=>o_ G (Instr.fieldAt 134 v25 5) h25 fun v26 h26=>o_ G (Instr.loadAt 128 v26) h26 fun v27 h27=>
 opH P_ G (su (Instr.mapUpdate 128 v27 v2 v24)) h27 fun v28 h28=>
 Qc G K (u5 (u10 (u10 (u10 (u10 r 3 v0 4 (.slice none 0 0) 8 (r 0) 9 v1 10 v2 5 v2 12 (r 0) 13 v3 14 v4 15 v5) 16 v2 17 v6 11 v6 18 v7 19 v8 6 v7 7 v8 20 v8 21 v9 22 (r 0)) 23 v10 24 v11 25 v12 26 (r 0) 27 v13 28 v14 29 v15 30 (r 0) 31 v16 32 v17) 33 v18 34 (r 0) 35 v19 36 v20 37 v21 38 v22 39 v23 40 v24 6 v24 41 (r 0)) 42 v25 43 v26 44 v27 45 v2 46 v24) h28)
 (Qc G K (u9 (u10 r 3 v0 4 (.slice none 0 0) 8 (r 0) 9 v1 10 v2 5 v2 12 (r 0) 13 v3 14 v4 15 v5) 16 v2 17 v6 11 v6 18 v7 19 v8 6 v7 7 v8 20 v8 21 v9) h9)
theorem enter66:Ent 48 66 [.tmp 4] S66:=ent_ (m:=md66) (c:=(Tryz.f66.body.getD .skip)) (fun _ _ _ _=>by kernel_rfl) Tryz.func66 rfl rfl rfl
def md121:Nat->Hint
 |5=>mh false [0,1,3,7,0,31] [m_,n_,n_,m_,m_,e_] (fs 6) false
 |7=>mh false [0,0,0,4,12,28,0,64,192,448,0,2044,0,4096,12288,28672,0,65536,196608,458752,0,1048576,3145728,7340032,0,16777216,50331648,117440512,0,520097788,1073741820,2147483646,4294967294,8589934591,17179869183] [m_,m_,m_,n_,n_,m_,m_,n_,n_,m_,m_,e_,m_,n_,n_,m_,m_,n_,n_,m_,m_,n_,n_,m_,m_,n_,n_,m_,m_,e_,e_,n_,.alloc,e_,.store] [false,false,false,false,false,false,false,false,false,false,false,true,false,false,false,false,false,false,false,false,false,false,false,false,false,false,false,false,false,true,true,false,false,false,false] true
 |8=>mh false [0,1,3,7,0,0,63] [m_,n_,n_,m_,n_,m_,e_] (fs 7) false
 |_=>mh false [] [] [] false
def Y8:Prop:=
 w_ G h (Instr.loadAt 127 (r 2)) h fun v20 h20=>
 bm P_ noHp noHp (xNil v20) h20 fun v21 h21=>
 p_ (Instr.fieldAt 134 v21 6) h21 fun v22 h22=>
 w_ G h (Instr.loadAt 129 v22) h22 fun v23 h23=>
 w_ G h (Instr.loadAt 229 (r 6)) h23 fun v24 h24=>
 opH P_ G (su (Instr.mapUpdate 129 v23 (r 5) v24)) h24 fun v25 h25=>o_ G (Instr.loadAt 229 (r 6)) h25 fun v26 h26=>
 K .ret (u8 r 64 v20 65 v21 66 v22 67 v23 68 (r 5) 69 v24 70 v26 4 v26) h26
def Q5 (r:Rg) (h:Hp) (K:EK):Prop:=
 o_ G (Instr.alloc 48 true (.tuple #[])) h fun v27 h27=>
 opH P_ G (su (Instr.storeAt 48 v27 (r 29))) h27 fun v28 h28=>
 K .normal (upd r 8 v27) h28
def Q4 (r:Rg) (h:Hp) (K:EK):Prop:=
 ∃q29:Hp,q29.le h/\
 w_ G q29 (Instr.loadAt 229 (r 6)) h fun v30 h30=>
 w_ G q29 (Instr.loadAt 48 (r 8)) h30 fun v31 h31=>
 w_ G q29 (Instr.loadAt 127 (r 2)) h31 fun v32 h32=>
 bm P_ noHp noHp (xNil v32) h32 fun v33 h33=>
 p_ (Instr.fieldAt 134 v33 0) h33 fun v34 h34=>
 w_ G q29 (Instr.loadAt 26 v34) h34 fun v35 h35=>
 w_ G q29 (Instr.loadAt 127 (r 2)) h35 fun v36 h36=>
 bm P_ noHp noHp (xNil v36) h36 fun v37 h37=>
 p_ (Instr.fieldAt 134 v37 2) h37 fun v38 h38=>
 w_ G q29 (Instr.loadAt 50 v38) h38 fun v39 h39=>
 w_ G q29 (Instr.loadAt 48 (r 8)) h39 fun v40 h40=>
 c_ G 30 #[v35,v39,v40] h40 fun v41 h41=>q29.le h41/\
 w_ G q29 (Instr.loadAt 127 (r 2)) h41 fun v42 h42=>
 bm P_ noHp noHp (xNil v42) h42 fun v43 h43=>
 p_ (Instr.fieldAt 134 v43 1) h43 fun v44 h44=>
 w_ G q29 (Instr.loadAt 68 v44) h44 fun v45 h45=>
 w_ G q29 (Instr.loadAt 127 (r 2)) h45 fun v46 h46=>
 bm P_ noHp noHp (xNil v46) h46 fun v47 h47=>
 p_ (Instr.fieldAt 134 v47 3) h47 fun v48 h48=>
 w_ G q29 (Instr.loadAt 34 v48) h48 fun v49 h49=>
 w_ G q29 (Instr.loadAt 127 (r 2)) h49 fun v50 h50=>
 bm P_ noHp noHp (xNil v50) h50 fun v51 h51=>
 p_ (Instr.fieldAt 134 v51 4) h51 fun v52 h52=>
 w_ G q29 (Instr.loadAt 3 v52) h52 fun v53 h53=>
 w_ G q29 (Instr.loadAt 127 (r 2)) h53 fun v54 h54=>
 bm P_ noHp noHp (xNil v54) h54 fun v55 h55=>
 p_ (Instr.fieldAt 134 v55 1) h55 fun v56 h56=>
 w_ G q29 (Instr.loadAt 68 v56) h56 fun v57 h57=>
 w_ G q29 (Instr.loadAt 48 (r 8)) h57 fun v58 h58=>
 c_ G 90 #[v57,v58] h58 fun v59 h59=>q29.le h59/\
 c_ G 108 #[v45,v49,v53,v59] h59 fun v60 h60=>q29.le h60/\
 p_ (Instr.build 232 #[(0,v31),(1,v41),(2,v60)]) h60 fun v61 h61=>o_ G (Instr.buildSlice 229 1 #[(0,v61)]) h61 fun v62 h62=>o_ G (Builtin.append_ #[229,229] 229 #[v30,v62]) h62 fun v63 h63=>
 opH P_ G (su (Instr.storeAt 229 (r 6) v63)) h63 fun v64 h64=>
 K .normal (u4 (u10 (u10 (u10 r 30 v30 31 v31 32 v32 33 v33 34 v34 35 v35 36 v36 37 v37 38 v38 39 v39) 40 v40 41 v41 42 v42 43 v43 44 v44 45 v45 46 v46 47 v47 48 v48 49 v49) 50 v50 51 v51 52 v52 53 v53 54 v54 55 v55 56 v56 57 v57 58 v58 59 v59) 60 v60 61 v61 62 v62 63 v63) h64
def Y9:Prop:=
 w_ G h (Instr.loadAt 127 (r 2)) h fun v14 h14=>
 bm P_ noHp noHp (xNil v14) h14 fun v15 h15=>
 p_ (Instr.fieldAt 134 v15 1) h15 fun v16 h16=>
 w_ G h (Instr.loadAt 68 v16) h16 fun v17 h17=>
 w_ G h (Instr.loadAt 30 (r 3)) h17 fun v18 h18=>
 c_ G 149 #[v17,v18] h18 fun v19 h19=>
 Kz P_ G 1 (Q5 G) (Q4 G) (setR 71 #[29]) v19 (u6 r 23 v14 24 v15 25 v16 26 v17 27 v18 28 v19) h19 (bo 0 (ci (Y8 G K) K))
def S121:Prop:=
 o_ G (Instr.box 127 (r 0)) h fun v0 h0=>o_ G (Instr.box 30 (r 1)) h0 fun v1 h1=>o_ G (Instr.loadAt 127 v0) h1 fun v2 h2=>o_ G (Instr.loadAt 30 v1) h2 fun v3 h3=>
 c_ G 115 #[v2,v3] h3 fun v4 h4=>o_ G (Instr.loadAt 127 v0) h4 fun v5 h5=>
 opH P_ G (xNil v5) h5 fun v6 h6=>o_ G (Instr.fieldAt 134 v6 6) h6 fun v7 h7=>o_ G (Instr.loadAt 129 v7) h7 fun v8 h8=>o_ G (Instr.lookup 129 v8 v4 true) h8 fun v9 h9=>o_ G (Instr.extract v9 0) h9 fun v10 h10=>o_ G (Instr.extract v9 1) h10 fun v11 h11=>o_ G (Instr.alloc 229 true (.tuple #[])) h11 fun v12 h12=>
 opH P_ G (su (Instr.storeAt 229 v12 v10)) h12 fun v13 h13=>
 cond v11
 (o_ G (Instr.loadAt 229 v12) h13 fun v65 h65=>
 K .ret (upd (u10 (u10 r 2 v0 3 v1 4 (.slice none 0 0) 9 v2 10 v3 11 v4 5 v4 13 v5 14 v6 15 v7) 16 v8 17 v4 18 v9 12 v9 19 v10 20 v11 6 v12 7 v11 21 v11 22 v65) 4 v65) h65)
 (Y9 G K (u9 (u10 r 2 v0 3 v1 4 (.slice none 0 0) 9 v2 10 v3 11 v4 5 v4 13 v5 14 v6 15 v7) 16 v8 17 v4 18 v9 12 v9 19 v10 20 v11 6 v12 7 v11 21 v11) h13)
theorem as6:Ent 71 121 [.tmp 4] S121:=ent_ (m:=md121) (c:=(Tryz.f121.body.getD .skip)) (fun _ _ _ _=>by kernel_rfl) Tryz.func121 rfl rfl rfl
def md67:Nat->Hint
 |4=>mh false [0,1,3,7,0,31,63,127,127,255,1023] [n_,n_,n_,m_,m_,m_,n_,n_,n_,n_,n_] (fs 11) false
 |7=>mh false [0,1,3,7,0,31] [n_,n_,n_,m_,m_,e_] (fs 6) false
 |8=>mh false [0,1,3,7,0,0,48,127] [n_,n_,n_,m_,n_,m_,n_,e_] (fs 8) false
 |_=>mh false [] [] [] false
def Wb:Prop:=
 o_ G (Instr.fieldAt 146 (r 7) 2) h fun v31 h31=>
 opH P_ G (su (Instr.storeAt 3 v31 (r 2))) h31 fun v32 h32=>
 bm P_ noHp noHp (xNil (r 0)) h32 fun v33 h33=>
 p_ (Instr.fieldAt 134 v33 8) h33 fun v34 h34=>
 w_ G h32 (Instr.loadAt 131 v34) h34 fun v35 h35=>
 w_ G h32 (Instr.loadAt 137 (r 9)) h35 fun v36 h36=>
 opH P_ G (su (Instr.mapUpdate 131 v35 v36 (r 7))) h36 fun v37 h37=>
 bm P_ noHp noHp (xNil (r 0)) h37 fun v38 h38=>
 p_ (Instr.fieldAt 134 v38 9) h38 fun v39 h39=>
 w_ G h37 (Instr.loadAt 132 v39) h39 fun v40 h40=>
 w_ G h37 (Instr.loadAt 137 (r 9)) h40 fun v41 h41=>
 p_ (Instr.build 139 #[(0,(r 2)),(1,v41)]) h41 fun v42 h42=>
 c_ G 116 #[v40,v42] h42 fun v43 h43=>
 K .normal (u5 (u10 r 48 (r 2) 49 v31 50 (r 0) 51 v33 52 v34 53 v35 54 v36 55 (r 0) 56 v38 57 v39) 58 v40 59 (r 2) 60 v41 61 v42 62 v43) h43
def ay5:Prop:=
 o_ G (Instr.loadAt 30 (r 5)) h fun v6 h6=>
 c_ G 115 #[(r 0),v6] h6 fun v7 h7=>o_ G (Instr.build 137 #[(0,v7),(1,(r 8))]) h7 fun v8 h8=>o_ G (Instr.alloc 137 true (.tuple #[])) h8 fun v9 h9=>
 opH P_ G (su (Instr.storeAt 137 v9 v8)) h9 fun v10 h10=>
 bm P_ noHp noHp (xNil (r 0)) h10 fun v11 h11=>
 p_ (Instr.fieldAt 134 v11 8) h11 fun v12 h12=>
 w_ G h10 (Instr.loadAt 131 v12) h12 fun v13 h13=>
 w_ G h10 (Instr.loadAt 137 v9) h13 fun v14 h14=>
 w_ G h10 (Instr.lookup 131 v13 v14 true) h14 fun v15 h15=>
 p_ (Instr.extract v15 0) h15 fun v16 h16=>
 p_ (Instr.extract v15 1) h16 fun v17 h17=>g_ v17 true (fun K1=>K1 v16 h17) h17 fun v18 h18=>g_ v17 true (opH P_ G (xNil v18) h18) h18 fun v19 h19=>g_ v17 true (o_ G (Instr.fieldAt 146 v19 3) h19) h19 fun v20 h20=>g_ v17 true (o_ G (Instr.loadAt 4 v20) h20) h20 fun v21 h21=>g_ v17 true (fun K1=>K1 v21 h21) h21 fun v22 h22=>g_ v22 false (fun K1=>K1 v16 h22) h22 fun v23 h23=>g_ v22 false (opH P_ G (xNil v23) h23) h23 fun v24 h24=>g_ v22 false (o_ G (Instr.fieldAt 146 v24 2) h24) h24 fun v25 h25=>g_ v22 false (o_ G (Instr.loadAt 3 v25) h25) h25 fun v26 h26=>g_ v22 false (fun K1=>K1 (r 2) h26) h26 fun v27 h27=>g_ v22 false (o_ G (binOp .leq 3 v26 v27) h27) h27 fun v28 h28=>g_ v17 true (opH P_ G (bj v22 (.bool true) v28) h28) h28 fun v29 h29=>
 opH P_ G (bj v17 v29 (.bool false)) h29 fun v30 h30=>
 (fun q=>cond v30
 (K .ret q h30)
 (Wb G K q h30))
 (u2 (u10 (u10 (u10 r 19 (r 0) 20 v6 21 v7 22 (r 8) 23 v8 9 v9 25 (r 0) 26 v11 27 v12 28 v13) 29 v14 30 v15 24 v15 31 v16 32 v17 10 v16 11 v17 33 v17 34 v17 35 v18) 36 v19 37 v20 38 v21 39 v22 40 v23 41 v24 42 v25 43 v26 44 v27 45 v28) 46 v29 47 v30)
def S67:Prop:=
 o_ G (Instr.box 30 (r 1)) h fun v0 h0=>o_ G (Instr.box 146 (r 3)) h0 fun v1 h1=>o_ G (Instr.loadAt 30 v0) h1 fun v2 h2=>
 c_ G 66 #[(r 0),v2] h2 fun v3 h3=>
 c_ G 65 #[v3,(r 2)] h3 fun v4 h4=>o_ G (binOp .lss 3 v4 (.int .i64 0)) h4 fun v5 h5=>
 (fun q=>cond v5
 (K .ret q h5)
 (ay5 G K q h5))
 (u10 r 5 v0 7 v1 12 (r 0) 13 v2 14 v3 15 (r 2) 16 v4 8 v4 17 v4 18 v5)
theorem enter67:Ent 63 67 [] S67:=ent_ (m:=md67) (c:=(Tryz.f67.body.getD .skip)) (fun _ _ _ _=>by kernel_rfl) Tryz.func67 rfl rfl rfl
def md70:Nat->Hint
 |1=>mh false [0,1,3,7,0,16,63,0,255] [n_,n_,n_,m_,n_,m_,m_,.alloc,.store] (fs 9) false
 |2=>mh false [0,0,3,0,8,31,63,0,255] [n_,m_,e_,n_,m_,n_,m_,.alloc,.store] [false,false,true,false,false,false,false,false,false] true
 |_=>mh false [] [] [] false
def E6:Prop:=
 o_ G (binOp .add 3 (r 33) (.int .i64 1)) h fun v22 h22=>
 K .normal (u2 r 93 v22 33 v22) h22
def n9:Prop:=
 o_ G (binOp .add 3 (r 40) (.int .i64 1)) h fun v31 h31=>
 K .normal (u2 r 92 v31 40 v31) h31
def Dz:Prop:=
 o_ G (Instr.fieldAt 232 (r 9) 0) h fun v64 h64=>o_ G (Instr.loadAt 48 v64) h64 fun v65 h65=>o_ G (Instr.alloc 48 true (.tuple #[])) h65 fun v66 h66=>
 opH P_ G (su (Instr.storeAt 48 v66 v65)) h66 fun v67 h67=>o_ G (Instr.fieldAt 48 v66 5) h67 fun v68 h68=>
 opH P_ G (su (Instr.storeAt 3 v68 (r 12))) h68 fun v69 h69=>o_ G (Instr.fieldAt 48 v66 6) h69 fun v70 h70=>
 opH P_ G (su (Instr.storeAt 3 v70 (r 13))) h70 fun v71 h71=>o_ G (Instr.fieldAt 48 v66 4) h71 fun v72 h72=>o_ G (Instr.loadAt 30 v72) h72 fun v73 h73=>o_ G (Instr.loadAt 137 (r 4)) h73 fun v74 h74=>o_ G (Instr.loadAt 48 v66) h74 fun v75 h75=>o_ G (Instr.build 146 #[(0,v74),(1,v75)]) h75 fun v76 h76=>
 c_ G 67 #[(r 0),v73,(r 13),v76] h76 fun v77 h77=>
 n9 G K (u5 (u10 r 78 v64 79 v65 14 v66 80 (r 12) 81 (r 13) 82 v68 83 v70 84 (r 0) 85 v72 86 v73) 87 (r 13) 88 v74 89 v75 90 v76 91 v77) h77
def D0:Prop:=
 o_ G (Instr.fieldAt 151 (r 11) 0) h fun v47 h47=>o_ G (Instr.loadAt 3 v47) h47 fun v48 h48=>o_ G (Builtin.max_ #[3,3] 3 #[(r 2),v48]) h48 fun v49 h49=>o_ G (Instr.fieldAt 232 (r 9) 1) h49 fun v50 h50=>o_ G (Instr.loadAt 3 v50) h50 fun v51 h51=>
 c_ G 77 #[v49,v51] h51 fun v52 h52=>o_ G (Instr.fieldAt 151 (r 11) 1) h52 fun v53 h53=>o_ G (Instr.loadAt 3 v53) h53 fun v54 h54=>o_ G (binOp .geq 3 v49 v54) h54 fun v55 h55=>g_ v55 false (fun K1=>K1 v52 h55) h55 fun v56 h56=>g_ v55 false (o_ G (Instr.fieldAt 151 (r 11) 1) h56) h56 fun v57 h57=>g_ v55 false (o_ G (Instr.loadAt 3 v57) h57) h57 fun v58 h58=>g_ v55 false (o_ G (binOp .gtr 3 v56 v58) h58) h58 fun v59 h59=>
 opH P_ G (bj v55 (.bool true) v59) h59 fun v60 h60=>g_ v60 false (fun K1=>K1 v52 h60) h60 fun v61 h61=>g_ v60 false (o_ G (binOp .geq 3 v61 (.int .i64 4611686018427387904)) h61) h61 fun v62 h62=>
 opH P_ G (bj v60 (.bool true) v62) h62 fun v63 h63=>
 (fun q=>cond v63
 (n9 G K q h63)
 (Dz G K q h63))
 (u4 (u10 (u10 r 56 (r 2) 57 v47 58 v48 59 v49 12 v49 60 v49 61 v50 62 v51 63 v52 13 v52) 64 v49 65 v53 66 v54 67 v55 68 v55 69 v56 70 v57 71 v58 72 v59 73 v60) 74 v60 75 v61 76 v62 77 v63)
def D1:Prop:=
 o_ G (Instr.indexAt 142 (r 38) (r 40)) h fun v32 h32=>o_ G (Instr.loadAt 151 v32) h32 fun v33 h33=>o_ G (Instr.alloc 151 true (.tuple #[])) h33 fun v34 h34=>
 opH P_ G (su (Instr.storeAt 151 v34 v33)) h34 fun v35 h35=>o_ G (Instr.fieldAt 151 v34 0) h35 fun v36 h36=>o_ G (Instr.loadAt 3 v36) h36 fun v37 h37=>o_ G (Instr.fieldAt 151 (r 7) 0) h37 fun v38 h38=>o_ G (Instr.loadAt 3 v38) h38 fun v39 h39=>o_ G (binOp .lss 3 v37 v39) h39 fun v40 h40=>g_ v40 false (o_ G (Instr.fieldAt 151 v34 1) h40) h40 fun v41 h41=>g_ v40 false (o_ G (Instr.loadAt 3 v41) h41) h41 fun v42 h42=>g_ v40 false (o_ G (Instr.fieldAt 151 (r 7) 1) h42) h42 fun v43 h43=>g_ v40 false (o_ G (Instr.loadAt 3 v43) h43) h43 fun v44 h44=>g_ v40 false (o_ G (binOp .gtr 3 v42 v44) h44) h44 fun v45 h45=>
 opH P_ G (bj v40 (.bool true) v45) h45 fun v46 h46=>
 (fun q=>cond v46
 (n9 G K q h46)
 (D0 G K q h46))
 (u5 (u10 r 42 v32 43 v33 11 v34 44 v36 45 v37 46 v38 47 v39 48 v40 49 v40 50 v41) 51 v42 52 v43 53 v44 54 v45 55 v46)
def E5 (r:Rg) (h:Hp) (K:EK):Prop:=
 o_ G (binOp .lss 3 (r 40) (r 39)) h fun v30 h30=>
 cond v30
 (D1 G K (upd r 41 v30) h30)
 (K (.exit 2) (upd r 41 v30) h30)
def Nt:Prop:=
 o_ G (Instr.indexAt 229 (r 31) (r 33)) h fun v23 h23=>o_ G (Instr.loadAt 232 v23) h23 fun v24 h24=>o_ G (Instr.alloc 232 true (.tuple #[])) h24 fun v25 h25=>
 opH P_ G (su (Instr.storeAt 232 v25 v24)) h25 fun v26 h26=>o_ G (Instr.fieldAt 232 v25 2) h26 fun v27 h27=>o_ G (Instr.loadAt 142 v27) h27 fun v28 h28=>o_ G (Builtin.len_ #[142] 3 #[v28]) h28 fun v29 h29=>
 dl (E5 G) (u7 r 35 v23 36 v24 9 v25 37 v27 38 v28 39 v29 40 (.int .i64 0)) h29 (bo 2 (bo 1 (ci (E6 G K) K)))
def V9 (r:Rg) (h:Hp) (K:EK):Prop:=
 o_ G (binOp .lss 3 (r 33) (r 32)) h fun v21 h21=>
 cond v21
 (Nt G K (upd r 34 v21) h21)
 (K (.exit 0) (upd r 34 v21) h21)
def S70:Prop:=
 o_ G (Instr.box 137 (r 1)) h fun v0 h0=>
 bm P_ noHp noHp (xNil (r 0)) h0 fun v1 h1=>
 p_ (Instr.fieldAt 134 v1 7) h1 fun v2 h2=>
 w_ G h0 (Instr.loadAt 130 v2) h2 fun v3 h3=>
 p_ (Instr.fieldAt 137 v0 0) h3 fun v4 h4=>
 w_ G h0 (Instr.loadAt 3 v4) h4 fun v5 h5=>
 w_ G h0 (Instr.lookup 130 v3 v5 false) h5 fun v6 h6=>o_ G (Instr.alloc 30 true (.tuple #[])) h6 fun v7 h7=>
 opH P_ G (su (Instr.storeAt 30 v7 v6)) h7 fun v8 h8=>
 ∃q9:Hp,q9.le h8/\
 w_ G q9 (Instr.loadAt 30 v7) h8 fun v10 h10=>
 c_ G 66 #[(r 0),v10] h10 fun v11 h11=>q9.le h11/\
 p_ (Instr.fieldAt 137 v0 1) h11 fun v12 h12=>
 w_ G q9 (Instr.loadAt 3 v12) h12 fun v13 h13=>
 p_ (Instr.indexAt 142 v11 v13) h13 fun v14 h14=>
 w_ G q9 (Instr.loadAt 151 v14) h14 fun v15 h15=>o_ G (Instr.alloc 151 true (.tuple #[])) h15 fun v16 h16=>
 opH P_ G (su (Instr.storeAt 151 v16 v15)) h16 fun v17 h17=>o_ G (Instr.loadAt 30 v7) h17 fun v18 h18=>
 c_ G 121 #[(r 0),v18] h18 fun v19 h19=>o_ G (Builtin.len_ #[229] 3 #[v19]) h19 fun v20 h20=>
 dl (V9 G) (u2 (u10 (u10 r 4 v0 15 (r 0) 16 v1 17 v2 18 v3 19 v4 20 v5 21 v6 6 v7 22 (r 0)) 23 v10 24 v11 25 v12 26 v13 27 v14 28 v15 7 v16 29 (r 0) 30 v18 31 v19) 32 v20 33 (.int .i64 0)) h20 (bo 0 K)
theorem enter70:Ent 94 70 [] S70:=ent_ (m:=md70) (c:=(Tryz.f70.body.getD .skip)) (fun _ _ _ _=>by kernel_rfl) Tryz.func70 rfl rfl rfl
def md69:Nat->Hint
 |2=>mh false [0,1,3,7,0,31,63] [n_,n_,n_,m_,m_,m_,n_] (fs 7) false
 |4=>mh false [0,1,3,7,0,16,48,112,255,511] [n_,n_,n_,m_,n_,n_,n_,m_,m_,n_] (fs 10) false
 |_=>mh false [] [] [] false
def Wa:Prop:=
 c_ G 120 #[(r 5)] h fun v6 h6=>
 K .ret (u4 r 35 (r 5) 36 v6 37 (r 5) 4 (r 5)) h6
def Nu:Prop:=
 bm P_ noHp noHp (xNil (r 0)) h fun v12 h12=>
 p_ (Instr.fieldAt 134 v12 8) h12 fun v13 h13=>
 w_ G h (Instr.loadAt 131 v13) h13 fun v14 h14=>
 bm P_ noHp noHp (xNil (r 6)) h14 fun v15 h15=>
 p_ (Instr.fieldAt 146 v15 0) h15 fun v16 h16=>
 w_ G h (Instr.loadAt 137 v16) h16 fun v17 h17=>
 w_ G h (Instr.lookup 131 v14 v17 false) h17 fun v18 h18=>
 K .normal (u10 r 19 (r 0) 20 v12 21 v13 22 v14 23 (r 6) 24 v15 25 v16 26 v17 27 v18 6 v18) h18
def Nv:Prop:=
 opH P_ G (xNil (r 6)) h fun v19 h19=>o_ G (Instr.fieldAt 146 v19 1) h19 fun v20 h20=>o_ G (Instr.loadAt 48 v20) h20 fun v21 h21=>o_ G (Instr.buildSlice 40 1 #[(0,v21)]) h21 fun v22 h22=>o_ G (Builtin.append_ #[40,40] 40 #[(r 5),v22]) h22 fun v23 h23=>
 Nu G K (u8 r 28 (r 5) 29 (r 6) 30 v19 31 v20 32 v21 33 v22 34 v23 5 v23) h23
def ay3 (r:Rg) (h:Hp) (K:EK):Prop:=
 opH P_ G (xNil (r 6)) h fun v7 h7=>o_ G (Instr.fieldAt 146 v7 1) h7 fun v8 h8=>o_ G (Instr.fieldAt 48 v8 0) h8 fun v9 h9=>o_ G (Instr.loadAt 3 v9) h9 fun v10 h10=>
 opH P_ G (xEq .neq 3 (.tmp 0) (.const .nilFunc) v10 (.int .i64 0)) h10 fun v11 h11=>
 (fun q=>cond v11
 (Nv G K q h11)
 (K (.exit 0) q h11))
 (u6 r 13 (r 6) 14 v7 15 v8 16 v9 17 v10 18 v11)
def S69:Prop:=
 o_ G (Instr.box 137 (r 1)) h fun v0 h0=>
 bm P_ noHp noHp (xNil (r 0)) h0 fun v1 h1=>
 p_ (Instr.fieldAt 134 v1 8) h1 fun v2 h2=>
 w_ G h0 (Instr.loadAt 131 v2) h2 fun v3 h3=>
 w_ G h0 (Instr.loadAt 137 v0) h3 fun v4 h4=>
 w_ G h0 (Instr.lookup 131 v3 v4 false) h4 fun v5 h5=>
 dl (ay3 G) (u10 r 3 v0 4 (.slice none 0 0) 5 (.slice none 0 0) 7 (r 0) 8 v1 9 v2 10 v3 11 v4 12 v5 6 v5) h5 (bo 0 (ci (Wa G K) K))
theorem enter69:Ent 38 69 [.tmp 4] S69:=ent_ (m:=md69) (c:=(Tryz.f69.body.getD .skip)) (fun _ _ _ _=>by kernel_rfl) Tryz.func69 rfl rfl rfl
def md27:Nat->Hint
 |7=>mh false [0,1,3,7,15,7,39,7,135,487,1023,2047,4095,8191,16383,32767,65535,131071,262143,524287,1048575,2097151,4194303,8388607,16777215,33554431,33554431,134217727,268435455,536870911,1073741823,2147483647,4294967295,8589934591] [n_,m_,n_,n_,e_,n_,m_,n_,m_,n_,m_,n_,n_,n_,n_,n_,n_,n_,n_,n_,n_,n_,n_,n_,n_,n_,m_,e_,n_,n_,n_,n_,n_,n_] [false,false,false,false,true,false,false,false,false,false,false,false,false,false,false,false,false,false,false,false,false,false,false,false,false,false,false,false,false,false,false,false,false,false] true
 |19=>mh false [0,1,3,7,0,16,63,127] [n_,n_,n_,m_,n_,m_,m_,n_] (fs 8) false
 |20=>mh false [0,1,3,7,15,31,63,127,255,31,543,2047,4095] [n_,n_,n_,m_,n_,n_,n_,n_,m_,n_,m_,m_,n_] (fs 13) false
 |23=>mh false [0,1,3,7,0,16,48,127,0,511] [n_,n_,n_,m_,n_,n_,m_,m_,.alloc,.store] (fs 10) false
 |25=>mh false [0,1,3,3,15,3,35,99,255,511,1023,2047,4095] [n_,n_,n_,m_,e_,n_,n_,m_,n_,n_,m_,m_,n_] [false,false,false,false,true,false,false,false,false,false,false,false,false] true
 |_=>mh false [] [] [] false
def E9 (G:Hp) (K:EK) (r:Rg) (h:Hp):Prop:=
 K .ret (u3 r 201 (r 15) 12 (.slice none 0 0) 13 (r 15)) h
def Jt:Prop:=
 o_ G (Instr.fieldAt 139 (r 21) 1) h fun v137 h137=>o_ G (Instr.loadAt 137 v137) h137 fun v138 h138=>o_ G (Instr.fieldAt 139 (r 21) 0) h138 fun v139 h139=>o_ G (Instr.loadAt 3 v139) h139 fun v140 h140=>
 c_ G 70 #[(r 19),v138,v140] h140 fun v141 h141=>
 K .normal (u6 r 195 (r 19) 196 v137 197 v138 198 v139 199 v140 200 v141) h141
def E7:Prop:=
 o_ G (Instr.fieldAt 26 (r 6) 14) h fun v134 h134=>o_ G (Instr.loadAt 3 v134) h134 fun v135 h135=>
 opH P_ G (xEq .eql 3 (.tmp 0) (.tmp 0) (r 20) v135) h135 fun v136 h136=>
 (fun q=>cond v136
 (K (.exit 0) (upd q 15 (.int .i64 7)) h136)
 (Jt G K q h136))
 (u4 r 191 (r 20) 192 v134 193 v135 194 v136)
def E8:Prop:=
 opH P_ G (xNil (r 23)) h fun v94 h94=>o_ G (Instr.fieldAt 146 v94 3) h94 fun v95 h95=>
 opH P_ G (su (Instr.storeAt 4 v95 (.bool true))) h95 fun v96 h96=>o_ G (binOp .add 3 (r 20) (.int .i64 1)) h96 fun v97 h97=>
 bm P_ noHp noHp (xNil (r 19)) h97 fun v98 h98=>
 p_ (Instr.fieldAt 134 v98 7) h98 fun v99 h99=>
 w_ G h97 (Instr.loadAt 130 v99) h99 fun v100 h100=>
 p_ (Instr.fieldAt 139 (r 21) 1) h100 fun v101 h101=>
 p_ (Instr.fieldAt 137 v101 0) h101 fun v102 h102=>
 w_ G h97 (Instr.loadAt 3 v102) h102 fun v103 h103=>
 w_ G h97 (Instr.lookup 130 v100 v103 false) h103 fun v104 h104=>o_ G (Instr.alloc 30 true (.tuple #[])) h104 fun v105 h105=>
 opH P_ G (su (Instr.storeAt 30 v105 v104)) h105 fun v106 h106=>o_ G (Instr.loadAt 30 v105) h106 fun v107 h107=>o_ G (Instr.fieldAt 45 (r 11) 0) h107 fun v108 h108=>o_ G (Instr.loadAt 30 v108) h108 fun v109 h109=>
 opH P_ G (xEq .eql 30 (.tmp 0) (.tmp 0) v107 v109) h109 fun v110 h110=>g_ v110 false (o_ G (Instr.fieldAt 45 (r 11) 1) h110) h110 fun v111 h111=>g_ v110 false (o_ G (Instr.loadAt 4 v111) h111) h111 fun v112 h112=>g_ v110 false (fun K1=>K1 v112 h112) h112 fun v113 h113=>g_ v113 true (o_ G (Instr.fieldAt 30 v105 0) h113) h113 fun v114 h114=>g_ v113 true (o_ G (Instr.loadAt 28 v114) h114) h114 fun v115 h115=>g_ v113 true (o_ G (Instr.fieldAt 45 (r 11) 0) h115) h115 fun v116 h116=>g_ v113 true (o_ G (Instr.fieldAt 30 v116 0) h116) h116 fun v117 h117=>g_ v113 true (o_ G (Instr.loadAt 28 v117) h117) h117 fun v118 h118=>g_ v113 true (opH P_ G (xEq .eql 28 (.tmp 0) (.tmp 0) v115 v118) h118) h118 fun v119 h119=>g_ v110 false (opH P_ G (bj v113 v119 (.bool false)) h119) h119 fun v120 h120=>
 opH P_ G (bj v110 (.bool true) v120) h120 fun v121 h121=>
 ∃q122:Hp,q122.le h121/\
 g_ v121 true (fun K1=>K1 (r 19) h121) h121 fun v123 h123=>g_ v121 true (w_ G q122 (Instr.loadAt 30 v105) h123) h123 fun v124 h124=>g_ v121 true (fun K1=>c_ G 66 #[v123,v124] h124 fun v h'=>q122.le h'/\K1 v h') h124 fun v125 h125=>g_ v121 true (p_ (Instr.fieldAt 139 (r 21) 1) h125) h125 fun v126 h126=>g_ v121 true (p_ (Instr.fieldAt 137 v126 1) h126) h126 fun v127 h127=>g_ v121 true (w_ G q122 (Instr.loadAt 3 v127) h127) h127 fun v128 h128=>g_ v121 true (p_ (Instr.indexAt 142 v125 v128) h128) h128 fun v129 h129=>g_ v121 true (p_ (Instr.fieldAt 151 v129 1) h129) h129 fun v130 h130=>g_ v121 true (w_ G q122 (Instr.loadAt 3 v130) h130) h130 fun v131 h131=>g_ v121 true (bm P_ G q122 (xEq .eql 3 (.tmp 0) (.const .nilFunc) v131 (.int .i64 4611686018427387904)) h131) h131 fun v132 h132=>
 bm P_ noHp noHp (bj v121 v132 (.bool false)) h132 fun v133 h133=>
 cond v133
 (o_ G (Instr.fieldAt 139 (r 21) 1) h133 fun v142 h142=>o_ G (Instr.loadAt 137 v142) h142 fun v143 h143=>
 c_ G 69 #[(r 19),v143] h143 fun v144 h144=>
 K .ret (upd (u10 (u10 (u10 (u10 (u10 r 145 (r 23) 146 v94 147 v95 148 (r 20) 149 v97 20 v97 150 (r 19) 151 v98 152 v99 153 v100) 154 v101 155 v102 156 v103 157 v104 24 v105 158 v107 159 v108 160 v109 161 v110 162 v110) 163 v111 164 v112 165 v113 166 v114 167 v115 168 v116 169 v117 170 v118 171 v119 172 v120) 173 v121 25 v121 174 v121 175 v121 176 v123 177 v124 178 v125 179 v126 180 v127 181 v128) 182 v129 183 v130 184 v131 185 v132 186 v133 187 (r 19) 188 v142 189 v143 190 v144 12 v144) 13 (.int .i64 0)) h144)
 (E7 G K (u5 (u10 (u10 (u10 (u10 r 145 (r 23) 146 v94 147 v95 148 (r 20) 149 v97 20 v97 150 (r 19) 151 v98 152 v99 153 v100) 154 v101 155 v102 156 v103 157 v104 24 v105 158 v107 159 v108 160 v109 161 v110 162 v110) 163 v111 164 v112 165 v113 166 v114 167 v115 168 v116 169 v117 170 v118 171 v119 172 v120) 173 v121 25 v121 174 v121 175 v121 176 v123 177 v124 178 v125 179 v126 180 v127 181 v128) 182 v129 183 v130 184 v131 185 v132 186 v133) h133)
def Of:Prop:=
 bm P_ noHp noHp (xNil (r 19)) h fun v77 h77=>
 p_ (Instr.fieldAt 134 v77 8) h77 fun v78 h78=>
 w_ G h (Instr.loadAt 131 v78) h78 fun v79 h79=>
 p_ (Instr.fieldAt 139 (r 21) 1) h79 fun v80 h80=>
 w_ G h (Instr.loadAt 137 v80) h80 fun v81 h81=>
 w_ G h (Instr.lookup 131 v79 v81 false) h81 fun v82 h82=>
 bm P_ noHp noHp (xNil v82) h82 fun v83 h83=>
 p_ (Instr.fieldAt 146 v83 3) h83 fun v84 h84=>
 w_ G h82 (Instr.loadAt 4 v84) h84 fun v85 h85=>g_ v85 false (fun K1=>K1 v82 h85) h85 fun v86 h86=>g_ v85 false (bm P_ noHp noHp (xNil v86) h86) h86 fun v87 h87=>g_ v85 false (p_ (Instr.fieldAt 146 v87 2) h87) h87 fun v88 h88=>g_ v85 false (w_ G h82 (Instr.loadAt 3 v88) h88) h88 fun v89 h89=>g_ v85 false (p_ (Instr.fieldAt 139 (r 21) 0) h89) h89 fun v90 h90=>g_ v85 false (w_ G h82 (Instr.loadAt 3 v90) h90) h90 fun v91 h91=>g_ v85 false (bm P_ G h82 (xEq .neq 3 (.tmp 0) (.tmp 0) v89 v91) h91) h91 fun v92 h92=>
 bm P_ noHp noHp (bj v85 (.bool true) v92) h92 fun v93 h93=>
 (fun q=>cond v93
 (K .normal q h93)
 (E8 G K q h93))
 (upd (u10 (u10 r 125 (r 19) 126 v77 127 v78 128 v79 129 v80 130 v81 131 v82 23 v82 132 v82 133 v83) 134 v84 135 v85 136 v85 137 v86 138 v87 139 v88 140 v89 141 v90 142 v91 143 v92) 144 v93)
def Wi (r:Rg) (h:Hp) (K:EK):Prop:=
 opH P_ G (xNil (r 19)) h fun v68 h68=>o_ G (Instr.fieldAt 134 v68 9) h68 fun v69 h69=>o_ G (Instr.loadAt 132 v69) h69 fun v70 h70=>
 c_ G 68 #[v70] h70 fun v71 h71=>o_ G (Instr.extract v71 0) h71 fun v72 h72=>o_ G (Instr.extract v71 1) h72 fun v73 h73=>o_ G (Instr.alloc 139 true (.tuple #[])) h73 fun v74 h74=>
 opH P_ G (su (Instr.storeAt 139 v74 v72)) h74 fun v75 h75=>o_ G (Op.unary .not v73) h75 fun v76 h76=>
 (fun q=>cond v76
 (K (.exit 0) q h76)
 (Of G K q h76))
 (u2 (u10 r 116 (r 19) 117 v68 118 v69 119 v70 120 v71 115 v71 121 v72 122 v73 21 v74 22 v73) 123 v73 124 v76)
def aB9:Prop:=
 o_ G (Instr.loadAt 30 (r 9)) h fun v65 h65=>o_ G (Instr.build 146 #[]) h65 fun v66 h66=>
 c_ G 67 #[(r 19),v65,(r 4),v66] h66 fun v67 h67=>
 dl (Wi G) (u7 r 110 (r 19) 111 v65 112 (r 4) 113 v66 114 v67 20 (.int .i64 0) 15 (.int .i64 6)) h67 (bo 0 (ci (E9 G K) (qg K)))
def Wj:Prop:=
 o_ G (Instr.fieldAt 26 (r 6) 7) h fun v41 h41=>o_ G (Instr.loadAt 3 v41) h41 fun v42 h42=>o_ G (Instr.fieldAt 26 (r 6) 8) h42 fun v43 h43=>o_ G (Instr.loadAt 3 v43) h43 fun v44 h44=>o_ G (Instr.fieldAt 26 (r 6) 9) h44 fun v45 h45=>o_ G (Instr.loadAt 3 v45) h45 fun v46 h46=>
 c_ G 29 #[v42,v44,v46] h46 fun v47 h47=>o_ G (Instr.extract v47 0) h47 fun v48 h48=>o_ G (Instr.extract v47 1) h48 fun v49 h49=>o_ G (Instr.loadAt 26 (r 6)) h49 fun v50 h50=>o_ G (Instr.makeMap 128 none) h50 fun v51 h51=>o_ G (Instr.makeMap 129 none) h51 fun v52 h52=>o_ G (Instr.makeMap 130 none) h52 fun v53 h53=>o_ G (Instr.makeMap 131 none) h53 fun v54 h54=>o_ G (Instr.build 134 #[(0,v50),(1,(r 14)),(2,v48),(3,(r 1)),(4,(r 2)),(5,v51),(6,v52),(7,v53),(8,v54),(9,(.pointer none))]) h54 fun v55 h55=>o_ G (Instr.box 134 v55) h55 fun v56 h56=>
 opH P_ G (callFunc 63 #[(.func (.func 64) #[] #[])]) h56 fun v57 h57=>
 opH P_ G (xNil v56) h57 fun v58 h58=>o_ G (Instr.fieldAt 134 v58 9) h58 fun v59 h59=>
 opH P_ G (su (Instr.storeAt 132 v59 v57)) h59 fun v60 h60=>o_ G (Instr.loadAt 30 (r 9)) h60 fun v61 h61=>
 c_ G 66 #[v56,v61] h61 fun v62 h62=>
 c_ G 65 #[v62,(r 4)] h62 fun v63 h63=>o_ G (binOp .lss 3 v63 (.int .i64 0)) h63 fun v64 h64=>
 (fun q=>cond v64
 (K .ret (u2 q 12 (.slice none 0 0) 13 (.int .i64 18)) h64)
 (aB9 G K q h64))
 (u4 (u10 (u10 (u10 r 80 v41 81 v42 82 v43 83 v44 84 v45 85 v46 86 v47 79 v47 87 v48 88 v49) 17 v48 18 v49 89 v50 90 (r 14) 91 v48 92 (r 1) 93 (r 2) 94 v51 95 v52 96 v53) 97 v54 98 v55 99 v56 19 v56 100 v56 101 v57 102 v58 103 v59 104 v56 105 v61) 106 v62 107 (r 4) 108 v63 109 v64)
def Qj:Prop:=
 ∃q13:Hp,q13.le h/\
 bm P_ G q13 (xEq .eql 34 (.tmp 0) (.const .nilFunc) (r 1) (.pointer none)) h fun v14 h14=>g_ v14 false (fun K1=>K1 (r 1) h14) h14 fun v15 h15=>g_ v14 false (fun K1=>c_ G 26 #[v15] h15 fun v h'=>q13.le h'/\K1 v h') h15 fun v16 h16=>g_ v14 false (p_ (Instr.fieldAt 26 (r 6) 0) h16) h16 fun v17 h17=>g_ v14 false (w_ G q13 (Instr.loadAt 3 v17) h17) h17 fun v18 h18=>g_ v14 false (p_ (Instr.fieldAt 26 (r 6) 1) h18) h18 fun v19 h19=>g_ v14 false (w_ G q13 (Instr.loadAt 3 v19) h19) h19 fun v20 h20=>g_ v14 false (p_ (binOp .mul 3 v18 v20) h20) h20 fun v21 h21=>g_ v14 false (bm P_ G q13 (xEq .neq 3 (.tmp 0) (.tmp 0) v16 v21) h21) h21 fun v22 h22=>
 bm P_ noHp noHp (bj v14 (.bool true) v22) h22 fun v23 h23=>g_ v23 false (fun K1=>K1 (r 2) h23) h23 fun v24 h24=>g_ v23 false (p_ (binOp .lss 3 v24 (.int .i64 0)) h24) h24 fun v25 h25=>
 bm P_ noHp noHp (bj v23 (.bool true) v25) h25 fun v26 h26=>g_ v26 false (fun K1=>K1 (r 4) h26) h26 fun v27 h27=>g_ v26 false (p_ (binOp .lss 3 v27 (.int .i64 0)) h27) h27 fun v28 h28=>
 bm P_ noHp noHp (bj v26 (.bool true) v28) h28 fun v29 h29=>g_ v29 false (fun K1=>K1 (r 4) h29) h29 fun v30 h30=>g_ v29 false (p_ (binOp .geq 3 v30 (.int .i64 4611686018427387904)) h30) h30 fun v31 h31=>
 bm P_ noHp noHp (bj v29 (.bool true) v31) h31 fun v32 h32=>g_ v32 false (fun K1=>K1 (r 14) h32) h32 fun v33 h33=>g_ v32 false (w_ G q13 (Instr.loadAt 30 (r 9)) h33) h33 fun v34 h34=>g_ v32 false (c_ G 61 #[v33,v34] h34) h34 fun v35 h35=>g_ v32 false (p_ (Op.unary .not v35) h35) h35 fun v36 h36=>
 bm P_ noHp noHp (bj v32 (.bool true) v36) h36 fun v37 h37=>g_ v37 false (fun K1=>K1 (r 16) h37) h37 fun v38 h38=>g_ v37 false (p_ (Op.unary .not v38) h38) h38 fun v39 h39=>
 bm P_ noHp noHp (bj v37 (.bool true) v39) h39 fun v40 h40=>
 (fun q=>cond v40
 (K .ret (u2 q 12 (.slice none 0 0) 13 (.int .i64 1)) h40)
 (Wj G K q h40))
 (u4 (u10 (u10 (u10 r 45 (r 1) 46 v14 47 v14 48 v15 49 v16 50 v17 51 v18 52 v19 53 v20 54 v21) 55 v22 56 v23 57 v23 58 v24 59 v25 60 v26 61 v26 62 v27 63 v28 64 v29) 65 v29 66 v30 67 v31 68 v32 69 v32 70 v33 71 v34 72 v35 73 v36 74 v37) 75 v37 76 v38 77 v39 78 v40)
def aC0:Prop:=
 o_ G (Instr.fieldAt 45 (r 11) 0) h fun v8 h8=>o_ G (Instr.loadAt 30 v8) h8 fun v9 h9=>
 c_ G 61 #[(r 14),v9] h9 fun v10 h10=>o_ G (Instr.fieldAt 45 (r 11) 1) h10 fun v11 h11=>o_ G (Instr.loadAt 4 v11) h11 fun v12 h12=>
 cond v12
 (o_ G (Instr.fieldAt 45 (r 11) 0) h12 fun v145 h145=>o_ G (Instr.fieldAt 30 v145 0) h145 fun v146 h146=>o_ G (Instr.loadAt 28 v146) h146 fun v147 h147=>
 c_ G 62 #[(r 14),v147] h147 fun v148 h148=>
 Qj G K (u3 (u10 r 34 (r 14) 35 v8 36 v9 37 v10 16 v10 38 v11 39 v12 40 (r 14) 41 v145 42 v146) 43 v147 44 v148 16 v148) h148)
 (Qj G K (u7 r 34 (r 14) 35 v8 36 v9 37 v10 16 v10 38 v11 39 v12) h12)
def S27:Prop:=
 o_ G (Instr.box 26 (r 0)) h fun v0 h0=>o_ G (Instr.box 30 (r 3)) h0 fun v1 h1=>o_ G (Instr.box 45 (r 5)) h1 fun v2 h2=>o_ G (Instr.loadAt 26 v0) h2 fun v3 h3=>
 c_ G 37 #[v3] h3 fun v4 h4=>o_ G (Instr.extract v4 0) h4 fun v5 h5=>o_ G (Instr.extract v4 1) h5 fun v6 h6=>
 opH P_ G (xEq .neq 35 (.tmp 0) (.const .nilFunc) v6 (.int .i64 0)) h6 fun v7 h7=>
 (fun q=>cond v7
 (K .ret (u3 q 33 v6 12 (.slice none 0 0) 13 v6) h7)
 (aC0 G K q h7))
 (u4 (u10 r 6 v0 9 v1 11 v2 12 (.slice none 0 0) 13 (.int .i64 0) 27 v3 28 v4 26 v4 29 v5 30 v6) 14 v5 15 v6 31 v6 32 v7)
theorem enter27:Ent 202 27 [.tmp 12,.tmp 13] S27:=ent_ (m:=md27) (c:=(Tryz.f27.body.getD .skip)) (fun _ _ _ _=>by kernel_rfl) Tryz.func27 rfl rfl rfl
def md120:Nat->Hint
 |3=>mh false [0,0,0,0,0,0,48,112,0,0,768,1792,4083,8179,16383,32767] [n_,n_,n_,n_,n_,n_,n_,m_,n_,n_,n_,m_,n_,.store,n_,.store] (fs 16) false
 |_=>mh false [] [] [] false
def Kn:Prop:=
 o_ G (binOp .add 3 (r 2) (.int .i64 1)) h fun v3 h3=>o_ G (binOp .sub 3 (r 3) (.int .i64 1)) h3 fun v4 h4=>
 K .normal (u6 r 10 (r 2) 11 v3 12 (r 3) 13 v4 2 v3 3 v4) h4
def Ko:Prop:=
 p_ (Instr.indexAt 40 (r 0) (r 3)) h fun v5 h5=>
 w_ G h (Instr.loadAt 48 v5) h5 fun v6 h6=>
 p_ (Instr.indexAt 40 (r 0) (r 2)) h6 fun v7 h7=>
 w_ G h (Instr.loadAt 48 v7) h7 fun v8 h8=>
 p_ (Instr.indexAt 40 (r 0) (r 2)) h8 fun v9 h9=>
 opH P_ G (su (Instr.storeAt 48 v9 v6)) h9 fun v10 h10=>
 p_ (Instr.indexAt 40 (r 0) (r 3)) h10 fun v11 h11=>
 opH P_ G (su (Instr.storeAt 48 v11 v8)) h11 fun v12 h12=>
 Kn G K (u4 (u10 r 14 (r 0) 15 (r 2) 16 (r 0) 17 (r 3) 18 (r 0) 19 (r 3) 20 v5 21 v6 22 (r 0) 23 (r 2)) 24 v7 25 v8 26 v9 27 v11) h12
def Za (r:Rg) (h:Hp) (K:EK):Prop:=
 o_ G (binOp .lss 3 (r 2) (r 3)) h fun v2 h2=>
 cond v2
 (Ko G K (u3 r 7 (r 2) 8 (r 3) 9 v2) h2)
 (K (.exit 0) (u3 r 7 (r 2) 8 (r 3) 9 v2) h2)
def S120:Prop:=
 o_ G (Builtin.len_ #[40] 3 #[(r 0)]) h fun v0 h0=>o_ G (binOp .sub 3 v0 (.int .i64 1)) h0 fun v1 h1=>
 dl (Za G) (u5 r 4 (r 0) 5 v0 6 v1 2 (.int .i64 0) 3 v1) h1 (bo 0 K)
theorem as7:Ent 28 120 [] S120:=ent_ (m:=md120) (c:=(Tryz.f120.body.getD .skip)) (fun _ _ _ _=>by kernel_rfl) Tryz.func120 rfl rfl rfl
end
end Go.Proofs.YtfflipnhffknnaaGreatDoor
end
section
namespace Go.Proofs.YtfflipnhffknnaaGreatDoor
open Go Go.HL Go.Proofs.Resv Go.Proofs.Srch
def bRtL:=jq bC (jq (jq (jq (jq @al151 @V1) (jq @Na @cf72)) (jq (jq @Px @an4) (jq @Pw @Ti))) (jq (jq (jq @Dg @Df) (jq @zq @Vn)) (jq (jq @ld151 @ld3) (jq @ld3p (jq @ln142 @Ur)))))
def dp (C:Conf) (m:Move):Int:=if m.k=1 then Ff C.un C.ac C.sp m.n else if m.k=2 then C.tu else if m.k=3\/m.k=4 then C.ho else 0
theorem Ij {G h a:Hp} {R:List Hp} {v:Value} {C:Conf} {kp:Nat} {m:Move} (hv:CV G h v C) (k:KP a kp C.un C.ac C.sp) (s:Sep (a::R) h) (hn:Bd m.n):
   al P_ G 30 #[v,.pointer (some ⟨kp,0,none⟩),Fm m] h (fun u h'=>u = .int .i64 (dp C m)/\∃a',KP a' kp C.un C.ac C.sp/\Sep (a'::R) h'/\Dis G h'):=by
 obtain ⟨ab,cb,ap,cp,ar,cr,az,cs,rfl,ca⟩:=hv
 refine al.assume fun d=>enter30 (by simp) ?_
 unfold S30
 simp only [bRtL]
 intro x hx gx y hy gy
 have s1:=((s.new (o := .cells #[C.w,C.h,C.ht,.slice ab C.bl.length cb,.slice ap C.po.length cp,.slice ar C.ro.length cr,.slice az C.st.length cs,C.un,C.ac,C.sp,C.tu,C.ho,C.qu,C.re,C.bu,.bool C.back] 26 (0,0)) hx).new (o:=pv m) hy)
 have d1:=(d.set (o := .cells #[C.w,C.h,C.ht,.slice ab C.bl.length cb,.slice ap C.po.length cp,.slice ar C.ro.length cr,.slice az C.st.length cs,C.un,C.ac,C.sp,C.tu,C.ho,C.qu,C.re,C.bu,.bool C.back] 26 (0,0)) gx).set (o:=pv m) gy
 generalize Hp.set (Hp.set h x _) y _=h1 at s1 d1 ⊢
 have cx:∀k,af G h1 ⟨x,k,none⟩=_:=fun k=>aj (ai (s1.at 1 rfl ag))
 have cy:∀k,af G h1 ⟨y,k,none⟩=_:=fun k=>aj (ai (s1.at 0 rfl ag))
 have out:∀u:Int,u=dp C m->(Value.int .i64 u = .int .i64 (dp C m)/\∃a',KP a' kp C.un C.ac C.sp/\Sep (a'::R) h1/\Dis G h1):=fun u e=>⟨by rw [e],a,k,s1.drop.drop,d1⟩
 try simp (disch:=first|decide|omega) only [bRtL,Nat.reduceAdd,Nat.reduceMul,cy]
 by_cases h1:m.k=1
 . rw [show (m.k==1)=true by simpa using h1]
   try simp only [bRtL,cy]
   refine (Zp k (s1.drop.drop) hn).mono ?_
   rintro _ h2 ⟨rfl,a',k',s2,d2⟩
   try simp (disch:=first|decide|omega) only [bRtL,Nat.reduceAdd,Nat.reduceMul]
   exact ⟨by unfold dp;rw [if_pos h1],a',k',s2,d2⟩
 . rw [show (m.k==1)=false by simpa using h1]
   try simp only [bRtL,cy]
   by_cases h2:m.k=2
   . rw [show (m.k==2)=true by simpa using h2]
     try simp only [bRtL,cx]
     exact out _ (by unfold dp;rw [if_neg h1,if_pos h2])
   . rw [show (m.k==2)=false by simpa using h2]
     try simp only [bRtL,cy]
     by_cases h3:m.k=3
     . rw [show (m.k==3)=true by simpa using h3]
       try simp only [bRtL]
       unfold Qi
       try simp (disch:=decide) only [bRtL,cx]
       exact out _ (by unfold dp;rw [if_neg h1,if_neg h2,if_pos (.inl h3)])
     . rw [show (m.k==3)=false by simpa using h3]
       try simp only [bRtL]
       unfold Qi
       by_cases h4:m.k=4
       . rw [show (m.k==4)=true by simpa using h4]
         try simp (disch:=decide) only [bRtL,cx]
         exact out _ (by unfold dp;rw [if_neg h1,if_neg h2,if_pos (.inr h4)])
       . rw [show (m.k==4)=false by simpa using h4]
         try simp (disch:=decide) only [bRtL]
         unfold aB6
         try simp only [bRtL]
         exact out _ (by unfold dp;rw [if_neg h1,if_neg h2,if_neg (by omega)])
def mc:Cod Sp:=⟨2,fun x=>[.int .i64 x.1,.int .i64 x.2],fun _=>rfl,fun _ v hv=>by simp at hv;rcases hv with rfl|rfl<;>rfl⟩
theorem eospan:gc P_ 151 mc.n 16:=eo151
theorem Sees.span {G h:Hp} {sa:Option Addr} {cap n:Nat} {L:List Sp} (s:Sees mc G h (.slice sa n cap) L) {i:Nat} {x:Sp} (hx:L[i]?=some x):
   ∃b o,sa=some ⟨b,o,none⟩/\af G h ⟨b,o+i*2,none⟩=some (.int .i64 x.1)/\af G h ⟨b,o+i*2+1,none⟩=some (.int .i64 x.2):=by
 obtain ⟨s',cap',e,_,hc⟩:=s
 cases e
 rcases hc with rfl|⟨b,o,rfl,hc⟩
 . simp at hx
 . exact ⟨b,o,rfl,hc i x hx 0 (by decide),hc i x hx 1 (by decide)⟩
theorem both_at {A B:List Sp} {i j:Nat} {x y:Sp} (hx:A[i]?=some x) (hy:B[j]?=some y):pm (A.drop i) (B.drop j)=capB x y++(if x.2<y.2 then pm (A.drop (i+1)) (B.drop j)else pm (A.drop i) (B.drop (j+1))):=by
 obtain ⟨hi,rfl⟩:=List.getElem?_eq_some_iff.1 hx
 obtain ⟨hj,rfl⟩:=List.getElem?_eq_some_iff.1 hy
 rw [List.drop_eq_getElem_cons hi,List.drop_eq_getElem_cons hj,pm,<- List.drop_eq_getElem_cons hi,<- List.drop_eq_getElem_cons hj]
theorem E2 {G h:Hp} {va vb:Value} {A B:List Sp} (sA:Sees mc G h va A) (sB:Sees mc G h vb B) (hlen:A.length+B.length<=1000000000):
   al P_ G 146 #[va,vb] h (fun u h'=>∃ip,Slc mc 151 ip u (pm A B)/\Sep [ip,h] h'/\Dis G h'):=by
 obtain ⟨a1,c1,rfl,_⟩:=id sA
 obtain ⟨a2,c2,rfl,_⟩:=id sB
 obtain ⟨W,hW⟩:∃W,W=pm A B:=⟨_,rfl⟩
 rw [<- hW]
 have hWl:W.length<=1000000000:=by have:=Dn _ A B (Nat.le_refl _);rw [hW];omega
 refine al.assume fun d=>aq7 (by simp) ?_
 unfold S146
 refine di (fun m r h'=>∃(i j:Nat) (ip:Hp) (O:List Sp) (v:Value),m=(A.length-i)+(B.length-j)/\i<=A.length/\j<=B.length/\r 0 = .slice a1 A.length c1/\r 1 = .slice a2 B.length c2/\r 5=v/\r 6 = .int .i64 i/\r 7 = .int .i64 j/\
   Slc mc 151 ip v O/\Sep [ip,h] h'/\Dis G h'/\O++pm (A.drop i) (B.drop j)=W) ?_ (m:=A.length+B.length)
   ⟨0,0,noHp,[],.slice none 0 0,rfl,by omega,by omega,by simp (disch:=decide) only [bRtL],by simp (disch:=decide) only [bRtL],by simp (disch:=decide) only [bRtL],by simp (disch:=decide) only [bRtL];rfl,by simp only [bRtL];rfl,Slc.nil,Sep.one.none,d,by simp [hW]⟩
 rintro m r h' ⟨i,j,ip,O,v,rfl,hi,hj,g0,g1,g5,g6,g7,sl,s,d',hO⟩ X hX
 unfold Yr
 simp only [bRtL,g0,g1,g6,g7]
 have fin:pm (A.drop i) (B.drop j)=[]->∀(r':Rg),r' 5=v->G4 G (retK P_ G [.tmp 4] fun u h'=>∃ip,Slc mc 151 ip u W/\Sep [ip,h] h'/\Dis G h') r' h':=fun e r' g=>by
   unfold G4
   try simp only [bRtL,g]
   rw [e,List.append_nil]at hO
   rw [<- hO]
   exact ⟨ip,sl,s,d'⟩
 by_cases hi2:i<A.length
 . rw [gi (show (i:Int)<(A.length:Int)by omega)]
   simp only [bRtL,g1,g7]
   by_cases hj2:j<B.length
   . rw [gi (show (j:Int)<(B.length:Int)by omega)]
     simp only [bRtL]
     obtain ⟨x,hx⟩:∃x,A[i]?=some x:=⟨_,List.getElem?_eq_getElem hi2⟩
     obtain ⟨y,hy⟩:∃y,B[j]?=some y:=⟨_,List.getElem?_eq_getElem hj2⟩
     rw [both_at hx hy]at hO
     obtain ⟨b1,o1,rfl,x1,x2⟩:=Sees.span (sA.up (s.in 1 rfl) d') hx
     obtain ⟨b2,o2,rfl,y1,y2⟩:=Sees.span (sB.up (s.in 1 rfl) d') hy
     unfold J5
     simp -implicitDefEqProofs (maxSteps:=2000000) (disch:=first|decide|with_reducible exact Nat.ne_of_beq_eq_false rfl|exact aq|exact ao|omega|rfl|(simp;done)|fail) only [bRtL,g0,g1,g6,g7,En (Int.natCast_nonneg i) (show (i:Int)<(A.length:Int)by omega),En (Int.natCast_nonneg j) (show (j:Int)<(B.length:Int)by omega),x1,x2,y1,y2,max2p,min2p]
     intro z hz gz
     have s1:=s.past (o := .cells #[.int .i64 (max x.1 y.1),.int .i64 (min x.2 y.2)] 151 (0,0)) hz
     have d1:=d'.set (o := .cells #[.int .i64 (max x.1 y.1),.int .i64 (min x.2 y.2)] 151 (0,0)) gz
     have hzs:(h'.set z (.cells #[.int .i64 (max x.1 y.1),.int .i64 (min x.2 y.2)] 151 (0,0))) z=some (.cells #[.int .i64 (max x.1 y.1),.int .i64 (min x.2 y.2)] 151 (0,0)):=ag
     have k4:∀(r':Rg) (h4 ip':Hp) (v':Value),r' 0=r 0->r' 1=r 1->r' 6=r 6->r' 7=r 7->r' 5=v'->Slc mc 151 ip' v' (O++capB x y)->Sep [ip',h] h4->Dis G h4->
         ww G (ci X (bo 0 (ci (G4 G (retK P_ G [.tmp 4] fun u h'=>∃ip,Slc mc 151 ip u W/\Sep [ip,h] h'/\Dis G h')) (retK P_ G [.tmp 4] fun u h'=>∃ip,Slc mc 151 ip u W/\Sep [ip,h] h'/\Dis G h')))) r' h4:=by
       intro r' h4 ip' v' e0 e1 e6 e7 e5 sl' s4 d4
       obtain ⟨q1,p1,f1,u1,u2⟩:=Sees.span (sA.up (s4.in 1 rfl) d4) hx
       obtain ⟨q2,p2,f2,w1,w2⟩:=Sees.span (sB.up (s4.in 1 rfl) d4) hy
       cases f1
       cases f2
       rw [g0]at e0;rw [g1]at e1;rw [g6]at e6;rw [g7]at e7
       unfold ww
       simp (disch:=first|decide|omega) only [bRtL,e0,e1,e6,e7,En (Int.natCast_nonneg i) (show (i:Int)<(A.length:Int)by omega),En (Int.natCast_nonneg j) (show (j:Int)<(B.length:Int)by omega),u2,w2]
       refine bv (fun hlt=>?_) (fun hge=>?_)
       . rw [if_pos hlt]at hO
         try simp (disch:=first|decide|omega) only [bRtL,Nat.reduceAdd,Nat.reduceMul,e6]
         refine hX ((A.length-(i+1))+(B.length-j)) _ _ (by omega) ⟨i+1,j,ip',O++capB x y,v',rfl,by omega,by omega,by simp (disch:=decide) only [bRtL,e0],by simp (disch:=decide) only [bRtL,e1],by simp (disch:=decide) only [bRtL,e5],by simp only [bRtL];rfl,by simp (disch:=decide) only [bRtL,e7],sl',s4,d4,by rw [List.append_assoc];exact hO⟩
       . rw [if_neg hge]at hO
         try simp (disch:=first|decide|omega) only [bRtL,Nat.reduceAdd,Nat.reduceMul,e7]
         refine hX ((A.length-i)+(B.length-(j+1))) _ _ (by omega) ⟨i,j+1,ip',O++capB x y,v',rfl,by omega,by omega,by simp (disch:=decide) only [bRtL,e0],by simp (disch:=decide) only [bRtL,e1],by simp (disch:=decide) only [bRtL,e5],by simp (disch:=decide) only [bRtL,e6],by simp only [bRtL];rfl,sl',s4,d4,by rw [List.append_assoc];exact hO⟩
     generalize Hp.set h' z _=h3 at s1 d1 hzs ⊢
     refine bv (fun hlt=>?_) (fun hge=>?_)
     . intro q hq gq
       have s2:=s1.past (o := .cells #[.int .i64 (max x.1 y.1),.int .i64 (min x.2 y.2)] 151 (0,0)) hq
       have d2:=d1.set (o := .cells #[.int .i64 (max x.1 y.1),.int .i64 (min x.2 y.2)] 151 (0,0)) gq
       have hqs:(h3.set q (.cells #[.int .i64 (max x.1 y.1),.int .i64 (min x.2 y.2)] 151 (0,0))) q=some (.cells #[.int .i64 (max x.1 y.1),.int .i64 (min x.2 y.2)] 151 (0,0)):=ag
       generalize Hp.set h3 q _=h4 at s2 d2 hqs ⊢
       rw [g5]
       have hcap:capB x y=[(max x.1 y.1,min x.2 y.2)]:=by unfold capB;rw [if_pos hlt]
       have hOl:O.length+1<=1000000000:=by
         have:=congrArg List.length hO
         rw [hcap]at this
         simp only [List.length_append,List.length_cons]at this
         omega
       refine pa mc (by decide) (M:=[(max x.1 y.1,min x.2 y.2)]) Wo eospan (by decide) s2 d2 sl (Sees.row hqs (by simp [mc,Cod.rows]) (by simp)) (by simp only [List.length_cons,List.length_nil];omega) ?_
       intro v' ip' h5 sl' s5 d5
       refine k4 _ h5 ip' v' (by simp (disch:=decide) only [bRtL]) (by simp (disch:=decide) only [bRtL]) (by simp (disch:=decide) only [bRtL]) (by simp (disch:=decide) only [bRtL]) (by simp only [bRtL]) (by rw [hcap];exact sl') s5 d5
     . have hcap:capB x y=[]:=by unfold capB;rw [if_neg hge]
       refine k4 _ h3 ip v (by simp (disch:=decide) only [bRtL]) (by simp (disch:=decide) only [bRtL]) (by simp (disch:=decide) only [bRtL]) (by simp (disch:=decide) only [bRtL]) (by simp (disch:=decide) only [bRtL,g5]) (by rw [hcap,List.append_nil];exact sl) s1 d1
   . have hj3:j=B.length:=by omega
     rw [ig (show ¬(j:Int)<(B.length:Int)by omega)]
     simp only [bRtL]
     exact fin (by rw [hj3,List.drop_length];cases A.drop i<;>simp [pm]) _ (by simp (disch:=decide) only [bRtL,g5])
 . have hi3:i=A.length:=by omega
   rw [ig (show ¬(i:Int)<(A.length:Int)by omega)]
   simp only [bRtL]
   exact fin (by rw [hi3,List.drop_length];simp [pm]) _ (by simp (disch:=decide) only [bRtL,g5])
end Go.Proofs.YtfflipnhffknnaaGreatDoor
end
section
namespace Go.Proofs.YtfflipnhffknnaaGreatDoor
open Go Go.HL
section
variable (G:Hp) (K:EK) (r:Rg) (h:Hp)
def md24:Nat->Hint
 |_=>mh false [] [] [] false
def aC2:Prop:=
 o_ G (Instr.makeSlice 98 (r 0) (r 0)) h fun v4 h4=>o_ G (Instr.build 124 #[(0,v4)]) h4 fun v5 h5=>o_ G (Instr.box 124 v5) h5 fun v6 h6=>
 K .ret (u6 r 10 (r 0) 11 v4 12 v5 13 v6 2 v6 3 (.int .i64 0)) h6
def S24:Prop:=
 o_ G (binOp .lss 3 (r 0) (.int .i64 1)) h fun v0 h0=>g_ v0 false (fun K1=>K1 (r 0) h0) h0 fun v1 h1=>g_ v0 false (o_ G (binOp .gtr 3 v1 (.int .i64 256)) h1) h1 fun v2 h2=>
 opH P_ G (bj v0 (.bool true) v2) h2 fun v3 h3=>
 (fun q=>cond v3
 (K .ret (u2 q 2 (.pointer none) 3 (.int .i64 1)) h3)
 (aC2 G K q h3))
 (u8 r 2 (.pointer none) 3 (.int .i64 0) 4 (r 0) 5 v0 6 v0 7 v1 8 v2 9 v3)
theorem enter24:Ent 14 24 [.tmp 2,.tmp 3] S24:=ent_ (m:=md24) (c:=(Tryz.f24.body.getD .skip)) (fun _ _ _ _=>by kernel_rfl) Tryz.func24 rfl rfl rfl
def md145:Nat->Hint
 |_=>mh false [] [] [] false
def S145:Prop:=
 o_ G (Instr.box 34 (r 0)) h fun v0 h0=>o_ G (Instr.box 3 (r 1)) h0 fun v1 h1=>o_ G (Instr.box 3 (r 2)) h1 fun v2 h2=>
 K .ret (u6 r 3 v0 4 v1 5 v2 6 .nilFunc 7 (.func (.func 164) #[] #[v0,v1,v2]) 6 (.func (.func 164) #[] #[v0,v1,v2])) h2
theorem aq8:Ent 8 145 [.tmp 6] S145:=ent_ (m:=md145) (c:=(Tryz.f145.body.getD .skip)) (fun _ _ _ _=>by kernel_rfl) Tryz.func145 rfl rfl rfl
def md26:Nat->Hint
 |_=>mh false [] [] [] false
def aC1:Prop:=
 opH P_ G (xNil (r 0)) h fun v1 h1=>o_ G (Instr.fieldAt 124 v1 0) h1 fun v2 h2=>o_ G (Instr.loadAt 98 v2) h2 fun v3 h3=>o_ G (Builtin.len_ #[98] 3 #[v3]) h3 fun v4 h4=>
 K .ret (u6 r 5 (r 0) 6 v1 7 v2 8 v3 9 v4 2 v4) h4
def S26:Prop:=
 opH P_ G (xEq .eql 34 (.tmp 0) (.const .nilFunc) (r 0) (.pointer none)) h fun v0 h0=>
 cond v0
 (K .ret (u4 r 2 (.int .i64 0) 3 (r 0) 4 v0 2 (.int .i64 0)) h0)
 (aC1 G K (u3 r 2 (.int .i64 0) 3 (r 0) 4 v0) h0)
theorem enter26:Ent 10 26 [.tmp 2] S26:=ent_ (m:=md26) (c:=(Tryz.f26.body.getD .skip)) (fun _ _ _ _=>by kernel_rfl) Tryz.func26 rfl rfl rfl
def md103:Nat->Hint
 |_=>mh false [] [] [] false
def S103:Prop:=
 opH P_ G (xEq .neq 34 (.tmp 0) (.const .nilFunc) (r 0) (.pointer none)) h fun v0 h0=>g_ v0 true (fun K1=>K1 (r 1) h0) h0 fun v1 h1=>g_ v0 true (o_ G (binOp .geq 3 v1 (.int .i64 0)) h1) h1 fun v2 h2=>
 opH P_ G (bj v0 v2 (.bool false)) h2 fun v3 h3=>g_ v3 true (fun K1=>K1 (r 1) h3) h3 fun v4 h4=>g_ v3 true (fun K1=>K1 (r 0) h4) h4 fun v5 h5=>g_ v3 true (opH P_ G (xNil v5) h5) h5 fun v6 h6=>g_ v3 true (o_ G (Instr.fieldAt 124 v6 0) h6) h6 fun v7 h7=>g_ v3 true (o_ G (Instr.loadAt 98 v7) h7) h7 fun v8 h8=>g_ v3 true (o_ G (Builtin.len_ #[98] 3 #[v8]) h8) h8 fun v9 h9=>g_ v3 true (o_ G (binOp .lss 3 v4 v9) h9) h9 fun v10 h10=>
 opH P_ G (bj v3 v10 (.bool false)) h10 fun v11 h11=>
 K .ret (u7 (u10 r 4 (.bool false) 5 (r 0) 6 v0 7 v0 8 v1 9 v2 10 v3 11 v3 12 v4 13 v5) 14 v6 15 v7 16 v8 17 v9 18 v10 19 v11 4 v11) h11
theorem at9:Ent 20 103 [.tmp 4] S103:=ent_ (m:=md103) (c:=(Tryz.f103.body.getD .skip)) (fun _ _ _ _=>by kernel_rfl) Tryz.func103 rfl rfl rfl
def md104:Nat->Hint
 |_=>mh false [] [] [] false
def Q8 (G:Hp) (K:EK) (r:Rg) (h:Hp):Prop:=
 K .ret (upd r 10 (.bool true)) h
def Cf:Prop:=
 o_ G (binOp .add 3 (r 21) (.int .i64 1)) h fun v7 h7=>
 K .normal (u2 r 41 v7 21 v7) h7
def Ky:Prop:=
 o_ G (Instr.indexAt 99 (r 19) (r 21)) h fun v8 h8=>o_ G (Instr.loadAt 203 v8) h8 fun v9 h9=>o_ G (Instr.alloc 203 true (.tuple #[])) h9 fun v10 h10=>
 opH P_ G (su (Instr.storeAt 203 v10 v9)) h10 fun v11 h11=>o_ G (Instr.fieldAt 203 v10 2) h11 fun v12 h12=>o_ G (Instr.loadAt 3 v12) h12 fun v13 h13=>
 opH P_ G (xEq .neq 3 (.tmp 0) (.tmp 0) v13 (r 1)) h13 fun v14 h14=>g_ v14 true (o_ G (Instr.fieldAt 203 v10 0) h14) h14 fun v15 h15=>g_ v14 true (o_ G (Instr.loadAt 3 v15) h15) h15 fun v16 h16=>g_ v14 true (fun K1=>K1 (r 4) h16) h16 fun v17 h17=>g_ v14 true (o_ G (binOp .lss 3 v16 v17) h17) h17 fun v18 h18=>
 opH P_ G (bj v14 v18 (.bool false)) h18 fun v19 h19=>g_ v19 true (fun K1=>K1 (r 3) h19) h19 fun v20 h20=>g_ v19 true (o_ G (Instr.fieldAt 203 v10 1) h20) h20 fun v21 h21=>g_ v19 true (o_ G (Instr.loadAt 3 v21) h21) h21 fun v22 h22=>g_ v19 true (o_ G (binOp .lss 3 v20 v22) h22) h22 fun v23 h23=>
 opH P_ G (bj v19 v23 (.bool false)) h23 fun v24 h24=>
 (fun q=>cond v24
 (K .ret (upd q 10 (.bool false)) h24)
 (Cf G K q h24))
 (u9 (u10 r 23 v8 24 v9 12 v10 25 v12 26 v13 27 (r 1) 28 v14 29 v14 30 v15 31 v16) 32 v17 33 v18 34 v19 35 v19 36 v20 37 v21 38 v22 39 v23 40 v24)
def Zj (r:Rg) (h:Hp) (K:EK):Prop:=
 o_ G (binOp .lss 3 (r 21) (r 20)) h fun v6 h6=>
 cond v6
 (Ky G K (upd r 22 v6) h6)
 (K (.exit 0) (upd r 22 v6) h6)
def S104:Prop:=
 opH P_ G (xNil (r 0)) h fun v0 h0=>o_ G (Instr.fieldAt 124 v0 0) h0 fun v1 h1=>o_ G (Instr.loadAt 98 v1) h1 fun v2 h2=>o_ G (Instr.indexAt 98 v2 (r 2)) h2 fun v3 h3=>o_ G (Instr.loadAt 99 v3) h3 fun v4 h4=>o_ G (Builtin.len_ #[99] 3 #[v4]) h4 fun v5 h5=>
 dl (Zj G) (u10 r 10 (.bool false) 13 (r 0) 14 v0 15 v1 16 v2 17 (r 2) 18 v3 19 v4 20 v5 21 (.int .i64 0)) h5 (bo 0 (ci (Q8 G K) K))
theorem at8:Ent 42 104 [.tmp 10] S104:=ent_ (m:=md104) (c:=(Tryz.f104.body.getD .skip)) (fun _ _ _ _=>by kernel_rfl) Tryz.func104 rfl rfl rfl
def md106:Nat->Hint
 |_=>mh false [] [] [] false
def Zi:Prop:=
 o_ G (Builtin.len_ #[99] 3 #[(r 0)]) h fun v2 h2=>o_ G (Instr.makeSlice 99 v2 v2) h2 fun v3 h3=>o_ G (Builtin.copy_ #[99,99] 3 #[v3,(r 0)]) h3 fun v4 h4=>
 K .ret (u9 r 7 (r 0) 8 v2 9 v3 3 v3 10 v3 11 (r 0) 12 v4 13 v3 2 v3) h4
def S106:Prop:=
 o_ G (Builtin.len_ #[99] 3 #[(r 0)]) h fun v0 h0=>
 opH P_ G (xEq .eql 3 (.tmp 0) (.const .nilFunc) v0 (.int .i64 0)) h0 fun v1 h1=>
 (fun q=>cond v1
 (K .ret (upd q 2 (.slice none 0 0)) h1)
 (Zi G K q h1))
 (u4 r 2 (.slice none 0 0) 4 (r 0) 5 v0 6 v1)
theorem at7:Ent 14 106 [.tmp 2] S106:=ent_ (m:=md106) (c:=(Tryz.f106.body.getD .skip)) (fun _ _ _ _=>by kernel_rfl) Tryz.func106 rfl rfl rfl
def md164:Nat->Hint
 |2=>mh false [0,1,3,7,0,31,63,127,0] [m_,n_,n_,m_,m_,n_,m_,m_,n_] (fs 9) false
 |_=>mh false [] [] [] false
def Qq:Prop:=
 o_ G (binOp .lss 3 (r 5) (.int .i64 4611686018427387904)) h fun v12 h12=>
 cond v12
 (opH P_ G (ij (r 0) #[(r 5),(.int .i64 4611686018427387904)]) h12 fun v13 h13=>
 K .normal (u5 r 43 (r 5) 44 v12 45 (r 0) 46 (r 5) 47 v13) h13)
 (K .normal (u2 r 43 (r 5) 44 v12) h12)
def qn:Prop:=
 o_ G (binOp .add 3 (r 20) (.int .i64 1)) h fun v15 h15=>
 K .normal (u2 r 42 v15 20 v15) h15
def tr:Prop:=
 o_ G (Instr.fieldAt 203 (r 7) 1) h fun v34 h34=>o_ G (Instr.loadAt 3 v34) h34 fun v35 h35=>
 qn G K (u3 r 40 v34 41 v35 5 v35) h35
def B7:Prop:=
 o_ G (Instr.fieldAt 203 (r 7) 0) h fun v24 h24=>o_ G (Instr.loadAt 3 v24) h24 fun v25 h25=>o_ G (binOp .gtr 3 v25 (r 5)) h25 fun v26 h26=>g_ v26 true (fun K1=>K1 (r 0) h26) h26 fun v27 h27=>g_ v26 true (fun K1=>K1 (r 5) h27) h27 fun v28 h28=>g_ v26 true (o_ G (Instr.fieldAt 203 (r 7) 0) h28) h28 fun v29 h29=>g_ v26 true (o_ G (Instr.loadAt 3 v29) h29) h29 fun v30 h30=>g_ v26 true (opH P_ G (ij v27 #[v28,v30]) h30) h30 fun v31 h31=>g_ v26 true (o_ G (Op.unary .not v31) h31) h31 fun v32 h32=>
 opH P_ G (bj v26 v32 (.bool false)) h32 fun v33 h33=>
 (fun q=>cond v33
 (K .ret q h33)
 (tr G K q h33))
 (u2 (u10 r 28 v24 29 v25 30 (r 5) 31 v26 32 v26 33 v27 34 v28 35 v29 36 v30 37 v31) 38 v32 39 v33)
def B8:Prop:=
 o_ G (Instr.indexAt 99 (r 18) (r 20)) h fun v16 h16=>o_ G (Instr.loadAt 203 v16) h16 fun v17 h17=>o_ G (Instr.alloc 203 true (.tuple #[])) h17 fun v18 h18=>
 opH P_ G (su (Instr.storeAt 203 v18 v17)) h18 fun v19 h19=>o_ G (Instr.fieldAt 203 v18 2) h19 fun v20 h20=>o_ G (Instr.loadAt 3 v20) h20 fun v21 h21=>o_ G (Instr.loadAt 3 (r 3)) h21 fun v22 h22=>
 opH P_ G (xEq .eql 3 (.tmp 0) (.tmp 0) v21 v22) h22 fun v23 h23=>
 (fun q=>cond v23
 (qn G K q h23)
 (B7 G K q h23))
 (u7 r 22 v16 23 v17 7 v18 24 v20 25 v21 26 v22 27 v23)
def Qp (r:Rg) (h:Hp) (K:EK):Prop:=
 o_ G (binOp .lss 3 (r 20) (r 19)) h fun v14 h14=>
 cond v14
 (B8 G K (upd r 21 v14) h14)
 (K (.exit 0) (upd r 21 v14) h14)
def Qs:Prop:=
 w_ G h (Instr.loadAt 34 (r 1)) h fun v4 h4=>
 bm P_ noHp noHp (xNil v4) h4 fun v5 h5=>
 p_ (Instr.fieldAt 124 v5 0) h5 fun v6 h6=>
 w_ G h (Instr.loadAt 98 v6) h6 fun v7 h7=>
 w_ G h (Instr.loadAt 3 (r 2)) h7 fun v8 h8=>
 p_ (Instr.indexAt 98 v7 v8) h8 fun v9 h9=>
 w_ G h (Instr.loadAt 99 v9) h9 fun v10 h10=>
 w_ G h (Builtin.len_ #[99] 3 #[v10]) h10 fun v11 h11=>
 dl (Qp G) (u10 r 5 (.int .i64 0) 12 v4 13 v5 14 v6 15 v7 16 v8 17 v9 18 v10 19 v11 20 (.int .i64 0)) h11 (bo 0 (ci (Qq G K) (qg K)))
def S164:Prop:=
 o_ G (Instr.loadAt 34 (r 1)) h fun v0 h0=>o_ G (Instr.loadAt 3 (r 2)) h0 fun v1 h1=>
 c_ G 103 #[v0,v1] h1 fun v2 h2=>o_ G (Op.unary .not v2) h2 fun v3 h3=>
 cond v3
 (K .ret (u4 r 8 v0 9 v1 10 v2 11 v3) h3)
 (Qs G K (u4 r 8 v0 9 v1 10 v2 11 v3) h3)
theorem Tr:Ent 48 164 [] S164:=ent_ (m:=md164) (c:=(Tryz.f164.body.getD .skip)) (fun _ _ _ _=>by kernel_rfl) Tryz.func164 rfl rfl rfl
def md77:Nat->Hint
 |_=>mh false [] [] [] false
def ax6:Prop:=
 o_ G (Instr.indexAt 110 (r 5) (.int .i64 0)) h fun v9 h9=>o_ G (Instr.loadAt 3 v9) h9 fun v10 h10=>o_ G (Instr.indexAt 110 (r 5) (.int .i64 1)) h10 fun v11 h11=>o_ G (Instr.loadAt 3 v11) h11 fun v12 h12=>o_ G (binOp .add 3 v10 v12) h12 fun v13 h13=>
 K .ret (u6 r 15 v9 16 v10 17 v11 18 v12 19 v13 4 v13) h13
def S77:Prop:=
 c_ G 126 #[(r 0),(r 1)] h fun v0 h0=>o_ G (Instr.alloc 110 true (.tuple #[])) h0 fun v1 h1=>
 opH P_ G (su (Instr.storeAt 110 v1 v0)) h1 fun v2 h2=>o_ G (Instr.indexAt 110 v1 (.int .i64 0)) h2 fun v3 h3=>o_ G (Instr.loadAt 3 v3) h3 fun v4 h4=>o_ G (Instr.indexAt 110 v1 (.int .i64 1)) h4 fun v5 h5=>o_ G (Instr.loadAt 3 v5) h5 fun v6 h6=>o_ G (binOp .sub 3 (.int .i64 4611686018427387904) v6) h6 fun v7 h7=>o_ G (binOp .gtr 3 v4 v7) h7 fun v8 h8=>
 (fun q=>cond v8
 (K .ret (upd q 4 (.int .i64 4611686018427387904)) h8)
 (ax6 G K q h8))
 (upd (u10 r 4 (.int .i64 0) 6 (r 0) 7 (r 1) 8 v0 5 v1 9 v3 10 v4 11 v5 12 v6 13 v7) 14 v8)
theorem enter77:Ent 20 77 [.tmp 4] S77:=ent_ (m:=md77) (c:=(Tryz.f77.body.getD .skip)) (fun _ _ _ _=>by kernel_rfl) Tryz.func77 rfl rfl rfl
def md143:Nat->Hint
 |_=>mh false [] [] [] false
def S143:Prop:=
 o_ G (Instr.box 203 (r 0)) h fun v0 h0=>o_ G (Instr.fieldAt 203 v0 0) h0 fun v1 h1=>o_ G (Instr.loadAt 3 v1) h1 fun v2 h2=>o_ G (binOp .sub 3 v2 (r 1)) h2 fun v3 h3=>
 K .ret (u7 r 2 v0 4 (.int .i64 0) 5 v1 6 v2 7 (r 1) 8 v3 4 v3) h3
theorem aq9:Ent 9 143 [.tmp 4] S143:=ent_ (m:=md143) (c:=(Tryz.f143.body.getD .skip)) (fun _ _ _ _=>by kernel_rfl) Tryz.func143 rfl rfl rfl
def md126:Nat->Hint
 |_=>mh false [] [] [] false
def S126:Prop:=
 o_ G (Instr.alloc 110 true (.tuple #[])) h fun v0 h0=>
 c_ G 154 #[(r 0)] h0 fun v1 h1=>
 c_ G 154 #[(r 1)] h1 fun v2 h2=>o_ G (Instr.build 110 #[(0,v1),(1,v2)]) h2 fun v3 h3=>
 opH P_ G (su (Instr.storeAt 110 v0 v3)) h3 fun v4 h4=>
 K .ret (u6 r 4 v0 5 (r 0) 6 v1 7 (r 1) 8 v2 9 v3) h4
theorem as1:Ent 10 126 [.cell 4 110] S126:=ent_ (m:=md126) (c:=(Tryz.f126.body.getD .skip)) (fun _ _ _ _=>by kernel_rfl) Tryz.func126 rfl rfl rfl
def md154:Nat->Hint
 |_=>mh false [] [] [] false
def S154:Prop:=
 o_ G (Builtin.min_ #[3,3] 3 #[(r 0),(.int .i64 4611686018427387904)]) h fun v0 h0=>o_ G (Builtin.max_ #[3,3] 3 #[(.int .i64 0),v0]) h0 fun v1 h1=>
 K .ret (u5 r 2 (.int .i64 0) 3 (r 0) 4 v0 5 v1 2 v1) h1
theorem aq0:Ent 6 154 [.tmp 2] S154:=ent_ (m:=md154) (c:=(Tryz.f154.body.getD .skip)) (fun _ _ _ _=>by kernel_rfl) Tryz.func154 rfl rfl rfl
end
end Go.Proofs.YtfflipnhffknnaaGreatDoor
end
section
namespace Go.Proofs.YtfflipnhffknnaaGreatDoor.Rv
open Go Go.HL Go.Proofs.Resv
def Bf:=jq bC (jq (jq (jq @Bool.true_and (jq @List.length_nil.{0} @and_true)) (jq (jq @rq @X6) (jq @cf106 @Tq))) (jq (jq (jq @Xv @ld98) (jq @ld99 @ln98)) (jq (jq @ln99 @ne34s) (jq @ld @true_and))))
def yj:Cod Slot:=⟨3,fun s=>[.int .i64 s.f,.int .i64 s.t,.int .i64 s.r],fun _=>rfl,fun _ v hv=>by simp at hv;rcases hv with rfl|rfl|rfl<;>rfl⟩
abbrev slotV (s:Slot):Value := .agg #[s.f,s.t,s.r]
abbrev A5 (s:Slot):Obj := .cells #[s.f,s.t,s.r] 203 (0,0)
theorem eoslot:gc P_ 203 yj.n 24:=eo203
abbrev Sv:=Option Addr × Nat × Nat
def svC:Cod Sv:=⟨1,fun (s:Sv)=>[.slice s.1 s.2.1 s.2.2],fun _=>rfl,fun _ v hv=>by simp at hv;subst hv;rfl⟩
theorem eosv:gc P_ 99 svC.n 24:=⟨by kernel_rfl,by kernel_rfl,by kernel_rfl⟩
def TSee (G h:Hp) (tp:Nat) (T:List (List Slot)):Prop:=∃rb,af G h ⟨tp,0,none⟩=some (.slice (some ⟨rb,0,none⟩) T.length T.length)/\
 ∀c L,T[c]?=some L->∃a cap,af G h ⟨rb,c,none⟩=some (.slice a L.length cap)/\Sees yj G h (.slice a L.length cap) L
theorem TSee.up {G h h':Hp} {tp:Nat} {T:List (List Slot)} (s:TSee G h tp T) (l:h.le h') (d:Dis G h'):TSee G h' tp T:=by
 obtain ⟨rb,e1,e2⟩:=s
 exact ⟨rb,ng l d e1,fun c L hc=>let ⟨a,cap,e3,e4⟩:=e2 c L hc;⟨a,cap,ng l d e3,e4.up l d⟩⟩
def Rows (pb:Hp) (raws:List Sv) (T:List (List Slot)):Prop:=raws.length=T.length/\∀(i:Nat) (s:Sv) (L:List Slot),raws[i]?=some s->T[i]?=some L->s.2.1=L.length/\Slc yj 203 pb (.slice s.1 L.length s.2.2) L
def Tab (ty:TypeId) (a:Hp) (tp:Nat) (T:List (List Slot)):Prop:=∃rb raws pb,Sep [noHp.set tp (.cells #[.slice (some ⟨rb,0,none⟩) T.length T.length] ty (0,0)),noHp.set rb (.cells (svC.rows raws).toArray 99 (0,0)),pb] a/\Rows pb raws T
theorem sv_get {G h:Hp} {rb c:Nat} {raws:List Sv} {e:TypeId} {s:Sv} (hb:h rb=some (.cells (svC.rows raws).toArray e (0,0))) (hs:raws[c]?=some s):af G h ⟨rb,c,none⟩=some (.slice s.1 s.2.1 s.2.2):=by
 rw [aj (ai hb)]
 have:=svC.rows_get (t:=[]) (j:=0) hs (by decide)
 rw [List.append_nil,show svC.n=1 from rfl,Nat.mul_one,Nat.add_zero]at this
 exact this
theorem Tab.see {G a h:Hp} {ty:TypeId} {tp:Nat} {T:List (List Slot)} (t:Tab ty a tp T) (l:a.le h):TSee G h tp T:=by
 obtain ⟨rb,raws,pb,s,hl,hr⟩:=t
 refine ⟨rb,?_,fun c L hc=>?_⟩
 . rw [aj (ai (l _ _ (s.at 0 rfl ag)))]
   rfl
 . have hlt:c<raws.length:=by rw [hl];exact (List.getElem?_eq_some_iff.1 hc).1
   obtain ⟨e1,o⟩:=hr c _ L (List.getElem?_eq_getElem hlt) hc
   refine ⟨raws[c].1,raws[c].2.2,?_,o.sees (by decide) ((s.in 2 rfl).trans l)⟩
   rw [sv_get (l _ _ (s.at 1 rfl ag)) (List.getElem?_eq_getElem hlt),e1]
theorem Sees.slot {G h:Hp} {sa:Option Addr} {cap n:Nat} {L:List Slot} (s:Sees yj G h (.slice sa n cap) L) {i:Nat} {x:Slot} (hx:L[i]?=some x):
   ∃b o,sa=some ⟨b,o,none⟩/\af G h ⟨b,o+i*3,none⟩=some (.int .i64 x.f)/\af G h ⟨b,o+i*3+1,none⟩=some (.int .i64 x.t)/\af G h ⟨b,o+i*3+2,none⟩=some (.int .i64 x.r):=by
 obtain ⟨b,o,c,e1,e2⟩:=s.get hx
 simp only [Value.slice.injEq]at e1
 obtain ⟨rfl,-,-⟩:=e1
 have x0:=e2 0 (by decide)
 have x1:=e2 1 (by decide)
 have x2:=e2 2 (by decide)
 simp only [yj,Nat.add_zero,List.getElem?_cons_zero,List.getElem?_cons_succ]at x0 x1 x2
 exact ⟨b,o,rfl,x0,x1,x2⟩
def hasB (T:List (List Slot)) (c:Int):Bool:=decide (0<=c)&&decide (c<T.length)
theorem Sw {G h:Hp} {tp:Nat} {T:List (List Slot)} {c:Int} (ts:TSee G h tp T):al P_ G 103 #[.pointer (some ⟨tp,0,none⟩),c] h (fun u h'=>u = .bool (hasB T c)/\h'=h):=by
 obtain ⟨rb,e1,_⟩:=ts
 refine at9 (by simp) ?_
 unfold S103 hasB
 try simp only [Bf]
 by_cases h0:0<=c
 . try simp only [Bf,decide_eq_true h0,show decide (c>=0)=true from decide_eq_true h0,e1]
 . try simp only [Bf,decide_eq_false h0,show decide (c>=0)=false from decide_eq_false h0,e1,Bool.false_and]
theorem mq {G h:Hp} {tp:Nat} {T:List (List Slot)} (ts:TSee G h tp T):al P_ G 26 #[.pointer (some ⟨tp,0,none⟩)] h (fun u h'=>u = .int .i64 T.length/\h'=h):=by
 obtain ⟨rb,e1,_⟩:=ts
 refine enter26 (by simp) ?_
 unfold S26
 try simp only [Bf]
 unfold aC1
 try simp (disch:=decide) only [Bf,e1]
theorem Ml {G h:Hp} {v:Value} {L:List Slot} (sv:Sees yj G h v L) (hL:L.length<=100000):al P_ G 106 #[v] h (fun u h'=>∃b,Slc yj 203 b u L/\Sep [b,h] h'/\Dis G h'):=by
 obtain ⟨sa,cap,rfl⟩:=sv.len
 refine al.assume fun d=>at7 (by simp) ?_
 unfold S106
 simp only [Bf]
 by_cases hL0:L=[]
 . subst hL0
   try simp only [Bf,List.length_nil,show (((0:Nat):Int)==0)=true from rfl]
   exact ⟨noHp,Slc.nil,Sep.one.none,d⟩
 . have hpos:=List.length_pos_iff.2 hL0
   have e:((L.length:Int)==0)=false:=by
     have:(L.length:Int)≠0:=by omega
     simpa using this
   try simp only [Bf,e]
   unfold Zi
   try simp (disch:=decide) only [Bf]
   rw [wg yj ⟨0,0,0⟩ (by decide) un99 eoslot (by kernel_rfl) (by omega) (by omega)]
   intro x hx gx
   have d1:=d.set (o := .cells (yj.rows (List.replicate L.length (⟨0,0,0⟩:Slot))).toArray 203 (0,0)) gx
   rw [Ty yj (by decide) un99 eoslot (L:=L) ag (by simp) (sv.up (b8 hx) d1) hL0 rfl,set_set]
   try simp (disch:=first|decide|omega) only [Bf,Nat.reduceAdd,Nat.reduceMul]
   exact ⟨noHp.set x _,⟨some x,_,[],rfl,by rw [ag,List.append_nil],by rw [List.append_nil,yj.rows_length]⟩,Sep.one.new hx,d.set gx⟩
def gn:=jq bC (jq (jq (jq (jq @al203 @and_true) (jq @vf @cf143)) (jq (jq @Xv @Gz) (jq @Gy @Gw))) (jq (jq (jq @ld203 @ld3) (jq @ld98 @ld99)) (jq (jq @ln99 @ld) (jq @jy (jq @Uq @true_and)))))
theorem ab9 {L:List Slot} {i:Nat} {s:Slot} {r f t:Int} (hs:L[i]?=some s):ub (L.take (i+1)) r f t=(ub (L.take i) r f t&&(s.r==r || !(decide (s.f<t)&&decide (f<s.t)))):=by
 unfold ub
 rw [List.take_add_one,hs,List.all_append]
 simp
theorem al1 {L:List Slot} {i:Nat} {s:Slot} {r f t:Int} (hs:L[i]?=some s) (h:(s.r==r || !(decide (s.f<t)&&decide (f<s.t)))=false):ub L r f t=false:=by
 unfold ub
 rw [List.all_eq_false]
 exact ⟨s,List.mem_of_getElem? hs,by rw [h];simp⟩
theorem Eu {G h:Hp} {tp:Nat} {T:List (List Slot)} {L:List Slot} {c r f t:Int} (ts:TSee G h tp T) (h0:0<=c) (hL:T[c.toNat]?=some L) (hlen:L.length<=100000):
   al P_ G 104 #[.pointer (some ⟨tp,0,none⟩),r,c,f,t] h (fun u h'=>u = .bool (ub L r f t)/\h'=h):=by
 have h1:c<T.length:=by have:=(List.getElem?_eq_some_iff.1 hL).1;omega
 obtain ⟨rb,e1,e2⟩:=ts
 obtain ⟨a,cap,e3,e4⟩:=e2 _ _ hL
 refine al.assume fun d=>quietly (at8 (by simp) ?_)
 unfold S104
 simp only [gn,e1,ix98 h0 h1,Nat.mul_one,e3]
 refine di (fun m q h3=>∃i:Nat,m=L.length-i/\i<=L.length/\q 1 = .int .i64 r/\q 3 = .int .i64 f/\q 4 = .int .i64 t/\q 10 = .bool false/\q 19 = .slice a L.length cap/\q 20 = .int .i64 L.length/\q 21 = .int .i64 i/\h.le h3/\Dis G h3/\ub (L.take i) r f t=true) ?_
   (m:=L.length) ⟨0,rfl,Nat.zero_le _,by simp (disch:=decide) only [gn],by simp (disch:=decide) only [gn],by simp (disch:=decide) only [gn],by simp (disch:=decide) only [gn],by simp (disch:=decide) only [gn],by simp (disch:=decide) only [gn],by simp only [gn]<;>rfl,Hp.le.refl h,d,rfl⟩
 rintro m q h3 ⟨i,rfl,hi,q1,q3,q4,q10,q19,q20,q21,l3,d3,hf⟩ X HX
 unfold Zj
 simp only [gn,q20,q21]
 refine bv (fun hlt=>?_) (fun hge=>?_)
 rotate_left
 . obtain rfl:i=L.length:=by omega
   rw [List.take_of_length_le (Nat.le_refl _)]at hf
   try simp (disch:=first|decide|omega) only [gn,Nat.reduceAdd,Nat.reduceMul]
   unfold Q8
   try simp only [gn]
   exact ⟨by rw [hf],l3⟩
 obtain ⟨s,hs⟩:∃s,L[i]?=some s:=⟨_,List.getElem?_eq_getElem (by omega)⟩
 obtain ⟨b,o,rfl,z0,z1,z2⟩:=Sees.slot (e4.up l3 d3) hs
 unfold Ky
 simp (disch:=first|decide|exact aq|exact ao|omega|rfl) only [gn,q19,q21,ix99 (Int.natCast_nonneg i) hlt,z0,z1,z2]
 intro x hx gx
 simp only [gn,q1]
 generalize eh:Hp.set h3 x _=h4
 obtain ⟨l4,d4,b4⟩:=boxed eh hx d3 gx
 have cx:∀j,af G h4 ⟨x,j,none⟩=_:=fun j=>aj (ai b4)
 have k4:∀q':Rg,q' 1 = .int .i64 r->q' 3 = .int .i64 f->q' 4 = .int .i64 t->q' 10 = .bool false->q' 19=q 19->q' 20=q 20->q' 21=q 21->(s.r==r || !(decide (s.f<t)&&decide (f<s.t)))=true->Cf G (ci X (bo 0 (ci (Q8 G (retK P_ G [.tmp 10] fun u h'=>u = .bool (ub L r f t)/\h.le h')) (retK P_ G [.tmp 10] fun u h'=>u = .bool (ub L r f t)/\h.le h')))) q' h4:=by
   intro q' p1 p3 p4 p10 p19 p20 p21 hc
   unfold Cf
   simp (disch:=first|decide|omega) only [gn,p21,q21]
   exact HX (L.length-(i+1)) _ _ (by omega) ⟨i+1,rfl,by omega,by simp (disch:=decide) only [gn,p1],by simp (disch:=decide) only [gn,p3],by simp (disch:=decide) only [gn,p4],by simp (disch:=decide) only [gn,p10],by simp (disch:=decide) only [gn,p19,q19],by simp (disch:=decide) only [gn,p20,q20],by simp only [gn]<;>rfl,l3.trans l4,d4,by rw [ab9 hs,hf,hc];rfl⟩
 cases hb:(s.r != r)with
 |false=>
   try simp only [gn,fe,hb]
   exact k4 _ (by simp (disch:=decide) only [gn,q1]) (by simp (disch:=decide) only [gn,q3]) (by simp (disch:=decide) only [gn,q4]) (by simp (disch:=decide) only [gn,q10]) (by simp (disch:=decide) only [gn]) (by simp (disch:=decide) only [gn]) (by simp (disch:=decide) only [gn]) (by simp at hb;simp [hb])
 |true=>
   try simp only [gn,cx,q4]
   by_cases hb2:s.f<t
   . try simp only [gn,decide_eq_true hb2,q3,cx]
     refine bv (fun hb3=>?_) (fun hb3=>?_)
     . try simp (disch:=first|decide|omega) only [gn,Nat.reduceAdd,Nat.reduceMul]
       have:(s.r==r || !(decide (s.f<t)&&decide (f<s.t)))=false:=by simp at hb;simp [hb,hb2,hb3]
       exact ⟨by rw [al1 hs this],l3.trans l4⟩
     . exact k4 _ (by simp (disch:=decide) only [gn,q1]) (by simp (disch:=decide) only [gn,q3]) (by simp (disch:=decide) only [gn,q4]) (by simp (disch:=decide) only [gn,q10]) (by simp (disch:=decide) only [gn]) (by simp (disch:=decide) only [gn]) (by simp (disch:=decide) only [gn]) (by simp [hb3])
   . try simp only [gn,decide_eq_false hb2,fe]
     exact k4 _ (by simp (disch:=decide) only [gn,q1]) (by simp (disch:=decide) only [gn,q3]) (by simp (disch:=decide) only [gn,q4]) (by simp (disch:=decide) only [gn,q10]) (by simp (disch:=decide) only [gn]) (by simp (disch:=decide) only [gn]) (by simp (disch:=decide) only [gn]) (by simp [hb2])
theorem T1 {G h:Hp} {s:Slot} {n:Int} (h1:0<=s.f) (h2:s.f<=FV) (h3:0<=n) (h4:n<=FV):al P_ G 143 #[slotV s,n] h (fun u h'=>u = .int .i64 (s.f-n)/\h'=h):=by
 refine al.assume fun d=>quietly (aq9 (by simp) ?_)
 unfold S143
 simp only [gn]
 intro x hx gx
 have e:IntKind.i64.wrap (s.f-n)=s.f-n:=kf (by unfold FV at *;omega) (by unfold FV at *;omega)
 simp only [gn,e]
 exact b8 hx
theorem mn_eq {a b:Int}:(if b<a then b else a)=min a b:=by split<;>omega
theorem mx_eq {a b:Int}:(if b>a then b else a)=max a b:=by split<;>omega
theorem min_two {P:Program} {G h:Hp} {a b:Int} {K:VK}:wpH P G (Builtin.min_ #[3,3] 3 #[a,b]) h K=K (.int .i64 (min a b)) h:=by rw [<- mn_eq];rfl
theorem max_two {P:Program} {G h:Hp} {a b:Int} {K:VK}:wpH P G (Builtin.max_ #[3,3] 3 #[a,b]) h K=K (.int .i64 (max a b)) h:=by rw [<- mx_eq];rfl
def bRpVE:=jq bC (jq (jq (jq (jq @al75 @bd124_0) (jq @rq @kg)) (jq (jq @X6 @cf104) (jq @cf105 @Tq))) (jq (jq (jq @fa75_0 @fa75_1) (jq @fa75_2 @ld3)) (jq (jq @ld75 @ln71) (jq @jy (jq @st75w @true_and)))))
def Fd:Cod Want:=⟨3,fun s=>[.int .i64 s.c,.int .i64 s.f,.int .i64 s.t],fun _=>rfl,fun _ v hv=>by simp at hv;rcases hv with rfl|rfl|rfl<;>rfl⟩
theorem Sees.want {G h:Hp} {sa:Option Addr} {cap n:Nat} {L:List Want} (s:Sees Fd G h (.slice sa n cap) L) {i:Nat} {x:Want} (hx:L[i]?=some x):
   ∃b o,sa=some ⟨b,o,none⟩/\af G h ⟨b,o+i*3,none⟩=some (.int .i64 x.c)/\af G h ⟨b,o+i*3+1,none⟩=some (.int .i64 x.f)/\af G h ⟨b,o+i*3+2,none⟩=some (.int .i64 x.t):=by
 obtain ⟨b,o,c,e1,e2⟩:=s.get hx
 simp only [Value.slice.injEq]at e1
 obtain ⟨rfl,-,-⟩:=e1
 have x0:=e2 0 (by decide)
 have x1:=e2 1 (by decide)
 have x2:=e2 2 (by decide)
 simp only [Fd,Nat.add_zero,List.getElem?_cons_zero,List.getElem?_cons_succ]at x0 x1 x2
 exact ⟨b,o,rfl,x0,x1,x2⟩
theorem Xg {T:Tb} {c:Int}:hasB T c=inT T.length c:=rfl
theorem pu {G h:Hp} {n:Nat} (h1:1<=n) (h2:n<=256):al P_ G 24 #[n] h (fun u h'=>∃a tp,u = .tuple #[.pointer (some ⟨tp,0,none⟩),(0:Int)]/\Tab 124 a tp (List.replicate n [])/\HL.Sep [a,h] h'/\Dis G h'):=by
 refine al.assume fun d=>enter24 (by simp) ?_
 unfold S24
 simp (disch:=decide) only [bRpVE,decide_eq_false (show ¬(n:Int)<1 by omega),show decide ((n:Int)>256)=false from decide_eq_false (by omega)]
 unfold aC2
 simp (disch:=decide) only [bRpVE]
 rw [wg svC (none,0,0) (by decide) un98 eosv (by kernel_rfl) (by omega) (by omega)]
 intro rb hrb grb
 simp only [bRpVE]
 intro tp htp gtp
 have s1:=(Sep.one (h:=h)).new (o := .cells (svC.rows (List.replicate n (none,0,0))).toArray 99 (0,0)) hrb
 have d1:=d.set (o := .cells (svC.rows (List.replicate n (none,0,0))).toArray 99 (0,0)) grb
 have s2:=s1.new (o := .cells #[.slice (some ⟨rb,0,none⟩) n n] 124 (0,0)) htp
 have s3:=(s2.none.pick 2 rfl rfl).pick 2 rfl rfl
 obtain ⟨a,s4,t4⟩:=Af s3
 refine ⟨a,tp,rfl,⟨rb,List.replicate n (none,0,0),noHp,?_,by simp,fun i s L h1 h2=>?_⟩,s4,d1.set gtp⟩
 . rw [List.length_replicate]
   exact t4
 . rw [List.getElem?_replicate]at h1 h2
   split at h1
   . rename_i hi
     rw [if_pos hi]at h2
     cases h1
     cases h2
     exact ⟨rfl,Slc.nil⟩
   . cases h1
def F7:=jq bC (jq (jq (jq @al110 @and_true) (jq @E3 (jq @kg @cf126))) (jq (jq @cf154 (jq @ld3 @yr)) (jq @uq (jq @st110w @true_and))))
theorem un58:P_.underlying 110=some (.array 2 3):=by kernel_rfl
theorem sz3':(P_.info? 3).map (·.size)=some 1:=sz3
theorem ix58a {G h:Hp} {b o:Nat} {K:VK}:wpH P_ G (Instr.indexAt 110 (.pointer (some ⟨b,o,none⟩)) (.int .i64 0)) h K=K (.pointer (some ⟨b,o,none⟩)) h:=by
 rw [Er un58 sz3' (by decide) (by decide),nt]
 rfl
theorem ix58b {G h:Hp} {b o:Nat} {K:VK}:wpH P_ G (Instr.indexAt 110 (.pointer (some ⟨b,o,none⟩)) (.int .i64 1)) h K=K (.pointer (some ⟨b,o+1,none⟩)) h:=by
 rw [Er un58 sz3' (by decide) (by decide),nt]
 rfl
theorem M5 {G h:Hp} {a:Int}:al P_ G 154 #[a] h (fun u h'=>u = .int .i64 (cutI a)/\h'=h):=by
 refine aq0 (by simp) ?_
 unfold S154
 simp only [F7,min_two,max_two]
 simp [cutI,FV]
theorem ldP2 {G h:Hp} {a:Addr} {K:VK}:wpH P_ G (Instr.loadAt 110 (.pointer (some a))) h K=(∃x0,af G h (a.add 0)=some x0/\∃x1,af G h (a.add 1)=some x1/\K (.agg #[x0,x1]) h):=by kernel_rfl
theorem E2 {G h:Hp} {a b:Int}:al P_ G 126 #[a,b] h (fun u h'=>u = .agg #[(cutI a),(cutI b)]/\h'=h):=by
 refine al.assume fun d=>quietly (as1 (by simp) ?_)
 unfold S126
 simp (disch:=decide) only [F7,al110]
 intro x hx gx
 refine (M5 (a:=a)).mono ?_
 rintro _ _ ⟨rfl,rfl⟩
 refine (M5 (a:=b)).mono ?_
 rintro _ _ ⟨rfl,rfl⟩
 simp (disch:=first|decide|exact aq|exact ao|omega|rfl) only [F7,ldP2]
 exact b8 hx
theorem G2 {a:Int}:0<=cutI a/\cutI a<=FV:=by unfold cutI;simp only [FV];omega
theorem Rh {G h:Hp} {a b:Int}:al P_ G 77 #[a,b] h (fun u h'=>u = .int .i64 (sumI a b)/\h'=h):=by
 refine al.assume fun d=>quietly (enter77 (by simp) ?_)
 unfold S77
 simp only [F7]
 refine (E2 (a:=a) (b:=b)).mono ?_
 rintro _ _ ⟨rfl,rfl⟩
 obtain ⟨a0,a1⟩:=G2 (a:=a)
 obtain ⟨b0,b1⟩:=G2 (a:=b)
 simp only [FV]at a1 b1
 simp (disch:=first|decide|exact aq|exact ao|omega|rfl) only [F7,al110]
 intro x hx gx
 simp (disch:=first|decide|omega) only [F7,ix58a,ix58b]
 refine bv (fun h1=>?_) (fun h1=>?_)
 . try simp (disch:=first|decide|omega) only [F7,Nat.reduceAdd,Nat.reduceMul]
   exact ⟨by unfold sumI;rw [if_pos h1],b8 hx⟩
 . unfold ax6
   simp (disch:=first|decide|omega) only [F7,ix58a,ix58b]
   exact ⟨by unfold sumI;rw [if_neg h1],b8 hx⟩
end Go.Proofs.YtfflipnhffknnaaGreatDoor.Rv
end
section
namespace Go.Proofs.YtfflipnhffknnaaGreatDoor
open Go Go.HL
section
variable (G:Hp) (K:EK) (r:Rg) (h:Hp)
def md53:Nat->Hint
 |_=>mh false [] [] [] false
def ay7:Prop:=
 opH P_ G (ij (r 0) #[(.func (.func 107) #[] #[(r 5),(r 3)])]) h fun v6 h6=>o_ G (Instr.loadAt 103 (r 5)) h6 fun v7 h7=>
 K .ret (u5 r 12 (r 0) 13 (.func (.func 107) #[] #[(r 5),(r 3)]) 14 v6 15 v7 4 v7) h7
def S53:Prop:=
 o_ G (Instr.box 3 (r 1)) h fun v0 h0=>o_ G (Instr.alloc 103 true (.tuple #[])) h0 fun v1 h1=>
 opH P_ G (xEq .eql 106 (.tmp 0) (.const .nilFunc) (r 0) .nilFunc) h1 fun v2 h2=>g_ v2 false (o_ G (Instr.loadAt 3 v0) h2) h2 fun v3 h3=>g_ v2 false (o_ G (binOp .lss 3 v3 (.int .i64 1)) h3) h3 fun v4 h4=>
 opH P_ G (bj v2 (.bool true) v4) h4 fun v5 h5=>
 (fun q=>cond v5
 (K .ret (upd q 4 (.slice none 0 0)) h5)
 (ay7 G K q h5))
 (u9 r 3 v0 4 (.slice none 0 0) 5 v1 6 (r 0) 7 v2 8 v2 9 v3 10 v4 11 v5)
theorem enter53:Ent 16 53 [.tmp 4] S53:=ent_ (m:=md53) (c:=(Tryz.f53.body.getD .skip)) (fun _ _ _ _=>by kernel_rfl) Tryz.func53 rfl rfl rfl
def md107:Nat->Hint
 |_=>mh false [] [] [] false
def S107:Prop:=
 o_ G (Instr.loadAt 103 (r 2)) h fun v0 h0=>o_ G (Instr.build 110 #[(0,(r 0)),(1,(r 1))]) h0 fun v1 h1=>o_ G (Instr.buildSlice 103 1 #[(0,v1)]) h1 fun v2 h2=>o_ G (Builtin.append_ #[103,103] 103 #[v0,v2]) h2 fun v3 h3=>
 opH P_ G (su (Instr.storeAt 103 (r 2) v3)) h3 fun v4 h4=>o_ G (Instr.loadAt 103 (r 2)) h4 fun v5 h5=>o_ G (Builtin.len_ #[103] 3 #[v5]) h5 fun v6 h6=>o_ G (Instr.loadAt 3 (r 3)) h6 fun v7 h7=>o_ G (binOp .lss 3 v6 v7) h7 fun v8 h8=>
 K .ret (u2 (u10 r 6 (.bool false) 7 v0 8 (r 0) 9 (r 1) 10 v1 11 v2 12 v3 13 v5 14 v6 15 v7) 16 v8 6 v8) h8
theorem at6:Ent 17 107 [.tmp 6] S107:=ent_ (m:=md107) (c:=(Tryz.f107.body.getD .skip)) (fun _ _ _ _=>by kernel_rfl) Tryz.func107 rfl rfl rfl
end
end Go.Proofs.YtfflipnhffknnaaGreatDoor
end

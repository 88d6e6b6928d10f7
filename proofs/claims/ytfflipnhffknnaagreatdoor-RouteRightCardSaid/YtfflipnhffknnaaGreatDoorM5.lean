/- Texts of the proof, one behind the other. -/
import Derived.Test.YtfflipnhffknnaaGreatDoorM3
import Derived.Test.YtfflipnhffknnaaGreatDoorM4
import Derived.Test.YtfflipnhffknnaaGreatDoorHZ
import Derived.Test.YtfflipnhffknnaaGreatDoorM1
import Derived.Test.YtfflipnhffknnaaGreatDoorH4
set_option linter.unusedSimpArgs false
set_option linter.unusedVariables false
set_option maxRecDepth 100000
set_option linter.unusedSectionVars false
set_option maxHeartbeats 8000000
set_option linter.defProp false
section
namespace Go.Proofs.YtfflipnhffknnaaGreatDoor
open Go Go.HL
section
theorem D9:∀(n:Nat) (L:List Nat),L.Nodup->(∀x∈L,x<n)->L.length<=n
 |0,L,_,h=>by
  cases L with
  |nil=>simp
  |cons x L=>exact absurd (h x (.head _)) (by omega)
 |n+1,L,hn,h=>by
  by_cases hm:n∈L
  . have h1:=D9 n (L.erase n) (hn.erase n) (fun x hx=>by
     have h2:=h x (List.mem_of_mem_erase hx)
     have h3:x≠n:=(List.Nodup.mem_erase_iff hn).1 hx |>.1
     omega)
    rw [List.length_erase_of_mem hm]at h1
    have:=List.length_pos_of_mem hm
    omega
  . have:=D9 n L hn (fun x hx=>by
     have h2:=h x hx
     have h3:x≠n:=fun e=>hm (e▸hx)
     omega)
    omega
theorem zu {w k:Nat} {L:List Cell} (hn:L.Nodup) (h:∀c∈L,inW w k c=true):L.length<=w*k:=by
 have h1:=D9 (w*k) (L.map fun c=>c.2.toNat*w+c.1.toNat) ?_ ?_
 . simpa using h1
 . rw [List.nodup_iff_pairwise_ne,List.pairwise_map]
   rw [List.nodup_iff_pairwise_ne]at hn
   refine List.Pairwise.imp_of_mem ?_ hn
   intro a b ha hb hab e
   apply hab
   obtain ⟨a1,a2,a3,a4⟩:=ix.1 (h a ha)
   obtain ⟨b1,b2,b3,b4⟩:=ix.1 (h b hb)
   have hw:0<w:=by omega
   obtain ⟨x1,y1⟩:=(cellN (n:=b.2.toNat*w+b.1.toNat) hw (show a.1.toNat<w by omega)).1 e
   obtain ⟨x2,y2⟩:=(cellN (n:=b.2.toNat*w+b.1.toNat) hw (show b.1.toNat<w by omega)).1 rfl
   have e1:a.1.toNat=b.1.toNat:=by rw [x1,<- x2]
   have e2:a.2.toNat=b.2.toNat:=by rw [y1,<- y2]
   exact Prod.ext (by omega) (by omega)
 . intro x hx
   obtain ⟨c,hc,rfl⟩:=List.mem_map.1 hx
   exact (yh (h c hc)).2.2.2
section
variable {C:Conf}
theorem rg (hw:ax C.w 1 16=true) (hk:ax C.h 1 16=true):C.w=(wC C:Int)/\C.h=(kC C:Int)/\1<=wC C/\wC C<=16/\1<=kC C/\kC C<=16:=by
 unfold ax at hw hk
 simp only [Bool.and_eq_true,decide_eq_true_eq]at hw hk
 unfold wC kC
 omega
theorem pl (hw:ax C.w 1 16=true) (hk:ax C.h 1 16=true) (c:Cell):inW (wC C) (kC C) c=inB C c:=by
 obtain ⟨e1,e2,_⟩:=rg hw hk
 rw [Bool.eq_iff_iff,ix]
 unfold inB
 simp only [Bool.and_eq_true,decide_eq_true_eq]
 rw [e1,e2]
 constructor
 . rintro ⟨a,b,c,d⟩;exact ⟨a,c,b,d⟩
 . rintro ⟨a,b,c,d⟩;exact ⟨a,c,b,d⟩
theorem Ln {c:Cell} (h1:0<=c.1) (h2:0<=c.2):fAt (f0C C) c=if c∈C.bl then -1 else if c∈C.po then (C.po.idxOf c:Int)+1 else 0:=by
 have e:((c.1.toNat:Int),(c.2.toNat:Int))=c:=by rw [Int.toNat_of_nonneg h1,Int.toNat_of_nonneg h2]
 unfold fAt f0C kd
 rw [e]
 by_cases hb:c∈C.bl
 . rw [if_pos (List.mem_append_left _ hb),if_pos hb,List.idxOf_append,if_pos hb,if_pos (List.idxOf_lt_length_of_mem hb)]
 . rw [if_neg hb]
   by_cases hp:c∈C.po
   . rw [if_pos (List.mem_append_right _ hp),if_pos hp,List.idxOf_append,if_neg hb,if_neg (by omega)]
     omega
   . rw [if_neg (by simp [hb,hp]),if_neg hp]
theorem Nu (hw:ax C.w 1 16=true) (hk:ax C.h 1 16=true) (c:Cell):nn (wC C) (kC C) (f0C C) c=mq C c:=by
 unfold nn mq
 rw [pl hw hk]
 cases hc:inB C c with
 |false=>rfl
 |true=>
  have hc':=hc
  rw [<- pl hw hk]at hc'
  obtain ⟨a1,a2,a3,a4⟩:=ix.1 hc'
  rw [Ln a1 a3]
  simp only [Bool.true_and]
  rw [Bool.eq_iff_iff]
  by_cases hb:c∈C.bl
  . simp [hb,List.count_eq_zero]
  . have:List.count c C.bl=0:=List.count_eq_zero.2 hb
    rw [if_neg hb]
    simp only [this,beq_self_eq_true,iff_true]
    split
    . simp;omega
    . simp
theorem zt (hw:ax C.w 1 16=true) (hk:ax C.h 1 16=true) (p:Pose):df (wC C) (kC C) (f0C C) p=gk C p:=by
 unfold df gk
 rw [Nu hw hk,Nu hw hk]
theorem N8 (hw:ax C.w 1 16=true) (hk:ax C.h 1 16=true) {c:Cell} (hc:inB C c=true):us (wC C) (kC C) (f0C C) c.1.toNat c.2.toNat=(decide (c∈C.bl)||kv C c):=by
 have hc':=hc
 rw [<- pl hw hk]at hc'
 obtain ⟨a1,a2,a3,a4⟩:=ix.1 hc'
 have e1:(c.1.toNat:Int)=c.1:=Int.toNat_of_nonneg a1
 have e2:(c.2.toNat:Int)=c.2:=Int.toNat_of_nonneg a3
 have hf:=Ln (C:=C) a1 a3
 unfold us
 rw [zt hw hk,zt hw hk]
 rw [show f0C C c.1.toNat c.2.toNat=fAt (f0C C) c from rfl,hf]
 unfold gk east kv
 simp only [e1,e2]
 by_cases hb:c∈C.bl
 . simp [hb]
 . have ho:mq C (c.1,c.2)=true:=by
    unfold mq
    rw [show ((c.1,c.2):Cell)=c from rfl,hc]
    simp [List.count_eq_zero.2 hb]
   rw [if_neg hb,ho]
   have hne:((if c∈C.po then (C.po.idxOf c:Int)+1 else 0) == -1)=false:=by
    split
    . simp;omega
    . rfl
   rw [hne]
   simp [hb]
theorem Cp {c:Cell}:qt C c=true↔c∈C.ro.flatMap bo:=by
 unfold qt
 rw [List.any_eq_true,List.mem_flatMap]
 refine exists_congr fun p=>and_congr_right fun _=>?_
 rw [decide_eq_true_eq,<- List.count_pos_iff]
 omega
theorem af6 {c:Cell}:G4 C c<0↔c∉C.po:=by
 unfold G4
 split
 . rename_i h;simp [h]<;>omega
 . rename_i h;simp [h]
theorem f1_at (hw:ax C.w 1 16=true) (hk:ax C.h 1 16=true) {c:Cell} (hc:inB C c=true):fAt (f1 (wC C) (kC C) (f0C C)) c=if c∈C.bl then -1 else if kv C c=true then (if c∈C.po then (C.po.idxOf c:Int)+1 else 0)else -2:=by
 have hc':=hc
 rw [<- pl hw hk]at hc'
 obtain ⟨a1,a2,a3,a4⟩:=ix.1 hc'
 unfold fAt f1
 rw [N8 hw hk hc,show f0C C c.1.toNat c.2.toNat=fAt (f0C C) c from rfl,Ln a1 a3]
 by_cases hb:c∈C.bl
 . simp [hb]
 . by_cases hs:kv C c=true
   . simp [hb,hs]
   . simp [hb,hs]
theorem f3_at (hw:ax C.w 1 16=true) (hk:ax C.h 1 16=true) {c:Cell} (hc:inB C c=true):fAt (f3C C) c=if qt C c=true then -2 else if c∈C.bl then -1 else if kv C c=true then (if c∈C.po then (C.po.idxOf c:Int)+1 else 0)else -2:=by
 have hc':=hc
 rw [<- pl hw hk]at hc'
 obtain ⟨a1,a2,a3,a4⟩:=ix.1 hc'
 have e:((c.1.toNat:Int),(c.2.toNat:Int))=c:=by rw [Int.toNat_of_nonneg a1,Int.toNat_of_nonneg a3]
 have h1:=f1_at hw hk hc
 unfold f3C fAt f2
 rw [e]
 by_cases hh:c∈C.ro.flatMap bo
 . rw [if_pos hh,if_pos (Cp.2 hh)]
 . rw [if_neg hh,if_neg (fun q=>hh (Cp.1 q))]
   exact h1
theorem Gp (hw:ax C.w 1 16=true) (hk:ax C.h 1 16=true) (c:Cell):(inW (wC C) (kC C) c=true/\fAt (f3C C) c=0)↔rk C c=true:=by
 rw [pl hw hk]
 unfold rk mq
 cases hc:inB C c with
 |false=>simp
 |true=>
  rw [f3_at hw hk hc]
  simp only [Bool.true_and,true_and,Bool.and_eq_true,decide_eq_true_eq,beq_iff_eq,Bool.not_eq_true',af6,List.count_eq_zero]
  by_cases hh:qt C c=true
  . simp [hh]
  . have hh':qt C c=false:=by simpa using hh
    by_cases hb:c∈C.bl
    . simp [hh',hb]
    . by_cases hs:kv C c=true
      . by_cases hp:c∈C.po
        . simp [hh',hb,hs,hp];omega
        . simp [hh',hb,hs,hp]
      . have hs':kv C c=false:=by simpa using hs
        simp [hh',hb,hs']
theorem Vl:(∀n∈[C.un,C.ac,C.sp,C.tu,C.ho,C.re],ax n 1 1000=true)↔ax C.un 1 1000=true/\ax C.ac 1 1000=true/\ax C.sp 1 1000=true/\ax C.tu 1 1000=true/\ax C.ho 1 1000=true/\ax C.re 1 1000=true:=by
 simp only [List.mem_cons,List.not_mem_nil,or_false,forall_eq_or_imp,forall_eq]
theorem G8:fc C↔Yv C:=by
 constructor
 . intro M
   have hw:=M.laid.w
   have hk:=M.laid.h
   obtain ⟨e1,e2,w1,w2,k1,k2⟩:=rg hw hk
   have hm:wC C*kC C<=16*16:=Nat.mul_le_mul w2 k2
   obtain ⟨s1,s2,s3,s4,s5,s6⟩:=Vl.1 M.six
   have hnd:=List.nodup_append.1 M.laid.once
   have hall:=M.laid.all
   have hin:∀c∈C.bl++C.po,inB C c=true:=fun c hc=>by rw [<- pl hw hk];exact hall c hc
   have hpb:∀c∈C.po,kv C c=true:=fun c hc=>by
    have hcin:=hin c (List.mem_append_right _ hc)
    have hcw:=hall c (List.mem_append_right _ hc)
    obtain ⟨a1,a2,a3,a4⟩:=ix.1 hcw
    have hnb:c∉C.bl:=fun hb=>hnd.2.2 c hb c hc rfl
    have hkeep:=N8 hw hk hcin
    cases hs:kv C c with
    |true=>rfl
    |false=>
     exfalso
     have:=M.rob.plain c.1.toNat c.2.toNat (by omega) (by omega) (by rw [hkeep,hs];simp [hnb])
     rw [show f0C C c.1.toNat c.2.toNat=fAt (f0C C) c from rfl,Ln a1 a3,if_neg hnb,if_pos hc]at this
     omega
   refine ⟨?_,M.laid.po8,M.rob.r8,?_,fun c hc=>⟨hin c (List.mem_append_left _ hc),List.nodup_iff_count.1 hnd.1 c,List.count_eq_zero.2 fun hp=>hnd.2.2 c hc c hp rfl⟩,
    fun c hc=>⟨hin c (List.mem_append_right _ hc),List.nodup_iff_count.1 hnd.2.1 c,?_,hpb c hc⟩,fun p hp=>by rw [<- zt hw hk];exact M.rob.fit p hp,fun c _=>List.nodup_iff_count.1 M.rob.once c,?_⟩
   . unfold nw
     simp [hw,hk,M.ht,M.qu,M.bu,s1,s2,s3,s4,s5,s6]
   . have:=zu (w:=wC C) (k:=kC C) hnd.1 (fun c hc=>hall c (List.mem_append_left _ hc))
     omega
   . cases hh:qt C c with
     |false=>rfl
     |true=>
      exfalso
      have:=M.rob.low c (Cp.1 hh)
      rw [f1_at hw hk (hin c (List.mem_append_right _ hc)),if_neg (fun hb=>hnd.2.2 c hb c hc rfl),if_pos (hpb c hc),if_pos hc]at this
      omega
   . refine ⟨?_,fun s hs=>?_,M.sta.apart,M.sta.most,M.sta.nums,M.sta.once⟩
     . have:=zu (w:=wC C) (k:=kC C) M.sta.apart (fun c hc=>by
        obtain ⟨s,hs,rfl⟩:=List.mem_map.1 hc
        exact (M.sta.each s hs).1)
       rw [List.length_map]at this
       omega
     . obtain ⟨q1,q2,q3⟩:=M.sta.each s hs
       exact ⟨(Gp hw hk s.1).1 ⟨q1,q2⟩,q3⟩
 . intro M
   have hn:=M.nums
   unfold nw at hn
   simp only [Bool.and_eq_true]at hn
   obtain ⟨hw,hk,hht,s1,s2,s3,s4,s5,s6,hqu,hbu⟩:=hn
   obtain ⟨e1,e2,w1,w2,k1,k2⟩:=rg hw hk
   have hin:∀c∈C.bl++C.po,inW (wC C) (kC C) c=true:=fun c hc=>by
    rw [pl hw hk]
    rcases List.mem_append.1 hc with h|h
    . exact (M.blk c h).1
    . exact (M.prt c h).1
   have hnb:C.bl.Nodup:=List.nodup_iff_count.2 fun c=>by
    by_cases hc:c∈C.bl
    . exact (M.blk c hc).2.1
    . rw [List.count_eq_zero.2 hc];omega
   have hnp:C.po.Nodup:=List.nodup_iff_count.2 fun c=>by
    by_cases hc:c∈C.po
    . exact (M.prt c hc).2.1
    . rw [List.count_eq_zero.2 hc];omega
   have hdis:∀a∈C.bl,∀b∈C.po,a≠b:=fun a ha b hb e=>by
    have:=(M.blk a ha).2.2
    rw [List.count_eq_zero]at this
    exact this (e▸hb)
   have hnd:(C.bl++C.po).Nodup:=List.nodup_append.2 ⟨hnb,hnp,hdis⟩
   have hlaid:Py C:=⟨hw,hk,M.po8,by
    have:=zu (w:=wC C) (k:=kC C) hnb (fun c hc=>hin c (List.mem_append_left _ hc))
    rw [e1,e2,<- Int.natCast_mul];omega,hin,hnd⟩
   have hro:∀c∈C.ro.flatMap bo,inB C c=true/\c∉C.bl:=fun c hc=>by
    obtain ⟨p,hp,hcp⟩:=List.mem_flatMap.1 hc
    have hf:=M.fit p hp
    rw [<- zt hw hk]at hf
    obtain ⟨q1,q2⟩:=ox hf c hcp
    obtain ⟨a1,a2,a3,a4⟩:=ix.1 q1
    refine ⟨by rw [<- pl hw hk];exact q1,fun hb=>q2 ?_⟩
    rw [Ln a1 a3,if_pos hb]
   refine ⟨Vl.2 ⟨s1,s2,s3,s4,s5,s6⟩,hht,hqu,hbu,hlaid,⟨M.ro8,fun x y hx hy hkp=>?_,fun p hp=>by rw [zt hw hk];exact M.fit p hp,fun c hc=>?_,?_⟩,⟨fun s hs=>?_,M.bins.apart,M.bins.nums,M.bins.once,M.bins.most⟩⟩
   . have hcw:inW (wC C) (kC C) ((x:Int),(y:Int))=true:=ix.2 ⟨by simp,by simpa using hx,by simp,by simpa using hy⟩
     have hcb:=hcw
     rw [pl hw hk]at hcb
     have hkeep:=N8 hw hk hcb
     simp only [Int.toNat_natCast]at hkeep
     rw [hkp]at hkeep
     have h0:=Ln (C:=C) (c:=((x:Int),(y:Int))) (by simp) (by simp)
     unfold fAt at h0
     simp only [Int.toNat_natCast]at h0
     rw [h0]
     by_cases hp:((x:Int),(y:Int))∈C.po
     . have:=(M.prt _ hp).2.2.2
       rw [this]at hkeep
       simp at hkeep
     . rw [if_neg hp]
       split<;>omega
   . obtain ⟨q1,q2⟩:=hro c hc
     rw [f1_at hw hk q1,if_neg q2]
     split
     . have hnp':c∉C.po:=fun hp=>by
        have:=(M.prt c hp).2.2.1
        rw [Cp.2 hc]at this
        cases this
       rw [if_neg hnp']
       exact Int.le_refl _
     . omega
   . exact List.nodup_iff_count.2 fun c=>by
      by_cases hc:c∈C.ro.flatMap bo
      . exact M.once c hc
      . rw [List.count_eq_zero.2 hc];omega
   . obtain ⟨q1,q2⟩:=M.bins.each s hs
     obtain ⟨q3,q4⟩:=(Gp hw hk s.1).2 q1
     exact ⟨q3,q4,q2⟩
end
end
section
variable {C:Conf}
theorem Wp (m:fc C) (x y:Nat):f3C C x y = -1↔f0C C x y = -1:=by
 unfold f3C
 refine Wq (fun c hc=>?_) x y
 obtain ⟨p,hp,hcp⟩:=List.mem_flatMap.1 hc
 exact (ox (m.rob.fit p hp) c hcp).2
theorem ag0 (m:fc C) (c:Cell):nn (wC C) (kC C) (f3C C) c=mq C c:=by
 rw [<- Nu m.laid.w m.laid.h]
 exact ye (fun x y _ _=>Wp m x y) c
theorem uv (m:fc C) (p:Pose):df (wC C) (kC C) (f3C C) p=gk C p:=by
 rw [<- zt m.laid.w m.laid.h]
 exact yq (fun x y _ _=>Wp m x y) p
theorem num_eq (m:fc C) (c:Cell):numI (wC C) (kC C) c=numR C c:=by
 unfold numI numR
 rw [pl m.laid.w m.laid.h,(rg m.laid.w m.laid.h).1]
end
def eu:=jq bC (jq (jq (jq (jq (jq @Bool.and_true @yw) (jq @C7 @pu)) (jq (jq @yv @cf100) (jq @cf22 @cf60))) (jq (jq (jq @cf98 @cf99) (jq @eq30 @Bc)) (jq (jq @Bb @ub) (jq @Ea (jq @Ba @Oh))))) (jq (jq (jq (jq @fa48_1p @Hq) (jq @Og @Uf)) (jq (jq @Of @Ue) (jq @V9 @ld26))) (jq (jq (jq @Cm @ld28) (jq @ur @ld3)) (jq (jq @ld30 @wp) (jq @ld3p (jq @ld4 @ne30p))))))
theorem B4 {G h:Hp} {p:Pose}:aj P_ G 100 #[jy p] h (fun u h'=>∃ip s,u = .slice s 4 4/\Slc cj 28 ip u (dv (p.x,p.y))/\Sep [ip,h] h'/\Dis G h'):=by
 refine aj.assume fun d=>au0 (by simp) ?_
 unfold S100
 simp only [eu]
 intro x hx gx
 generalize e1:Hp.set h x _=h1
 obtain ⟨l1,d1,b1⟩:=boxed e1 hx d gx
 have cx:∀j,aa G h1 ⟨x,j,none⟩=_:=fun j=>ai (ag b1)
 try simp (disch:=first|decide|omega) only [eu,Nat.reduceAdd,Nat.reduceMul,cx]
 intro b hb gb
 refine ⟨noHp.set b _,some ⟨b,0,none⟩,rfl,⟨some b,4,[],rfl,af,rfl⟩,(Sep.one.new (hb)).swap.cut l1 |>.swap,d1.set gb⟩
def rn (C:Conf) (m:Move) (i:Nat):Bool:=gk C (bz m.f m.d ((i:Int)+1))
def dx (C:Conf) (m:Move):Bool:=gk C m.f&&
 (if m.k=1 then ax m.n 1 16&&(ax m.d 0 3&&(decide (m.t=bz m.f m.d m.n)&&(List.range m.n.toNat).all (rn C m)))
  else if m.k=2 then (dv (m.f.x,m.f.y)).all (mq C)&&(decide (m.n=0)&&(decide (m.d=0)&&decide (m.t=xa m.f)))
  else decide (m.k=3\/m.k=4)&&(decide (m.n=0)&&(decide (m.d=0)&&decide (m.t=m.f))))
theorem ne_pose {p q:Pose}:(!((p.x==q.x&&p.y==q.y)&&(p.d==q.d))) = !decide (p=q):=by rw [nf]
theorem Cy {n:Int}:(n==0)=decide (n=0):=by rw [Bool.eq_iff_iff];simp
theorem Ev {G h:Hp} {v:Value} {C:Conf} {m:Move} (hv:CV G h v C) (hL:C.bl.length<=100000000000000):aj P_ G 45 #[v,Cg m] h (fun u h'=>u = .bool (dx C m)/\h'=h):=by
 have hv0:=hv
 obtain ⟨ab,cb,ap,cp,ar,cr,az,cs,rfl,ca⟩:=hv
 refine aj.assume fun d=>quietly (enter45 (by simp) ?_)
 unfold S45
 simp only [eu,Nat.reduceAdd]
 intro x hx gx
 generalize e1:Hp.set h x _=h1
 obtain ⟨l1,d1,b1⟩:=boxed e1 hx d gx
 intro y hy gy
 generalize e2:Hp.set h1 y _=h2
 obtain ⟨l2,d2,b2⟩:=boxed e2 hy d1 gy
 have L:=l1.trans l2
 have bx:=l2 _ _ b1
 have cx:∀j,aa G h2 ⟨x,j,none⟩=_:=fun j=>ai (ag bx)
 have cy:∀j,aa G h2 ⟨y,j,none⟩=_:=fun j=>ai (ag b2)
 have hv2:=hv0.up L d2
 try simp only [eu,cx,cy]
 refine (Av (p:=m.f) hv2 hL).mono ?_
 rintro _ h2 ⟨rfl,rfl⟩
 have fin:∀b,dx C m=b->(Value.bool b = .bool (dx C m)/\h.le h2):=fun b e=>⟨by rw [e],L⟩
 cases hf:gk C m.f with
 |false=>
  try simp only [eu]
  exact fin _ (by unfold dx;rw [hf];rfl)
 |true=>
 try simp only [eu]
 unfold aA8
 try simp (disch:=decide) only [eu,Nat.reduceAdd,cy]
 by_cases hk1:m.k=1
 . have el:dx C m=(ax m.n 1 16&&(ax m.d 0 3&&(decide (m.t=bz m.f m.d m.n)&&(List.range m.n.toNat).all (rn C m)))):=by
    unfold dx
    rw [if_pos hk1,hf,Bool.true_and]
   try simp only [eu,show (m.k==1)=true by simp [hk1]]
   refine ⟨h2,Hp.le.refl _,?_⟩
   try simp only [eu,cy]
   refine (gj (n:=m.n) (a:=1) (b:=16)).mono ?_
   rintro _ h2 ⟨rfl,rfl⟩
   refine ⟨Hp.le.refl _,?_⟩
   cases hn:ax m.n 1 16 with
   |false=>try simp only [eu];exact fin _ (by rw [el,hn];rfl)
   |true=>
   try simp only [eu,cy]
   refine (gj (n:=m.d) (a:=0) (b:=3)).mono ?_
   rintro _ h2 ⟨rfl,rfl⟩
   refine ⟨Hp.le.refl _,?_⟩
   cases hd:ax m.d 0 3 with
   |false=>try simp only [eu];exact fin _ (by rw [el,hn,hd];rfl)
   |true=>
   try simp only [eu,Nat.reduceAdd,cy]
   refine (xi (p:=m.f) (dir:=m.d) (n:=m.n)).mono ?_
   rintro _ h2 ⟨rfl,rfl⟩
   refine ⟨Hp.le.refl _,?_⟩
   try simp only [eu,ne_pose]
   cases ht:decide (m.t=bz m.f m.d m.n)with
   |false=>try simp only [eu];exact fin _ (by rw [el,hn,hd,ht];rfl)
   |true=>
   try simp only [eu]
   unfold aA7
   obtain ⟨n1,n16⟩:=dt.1 hn
   refine ci (fun mm r h3=>∃i:Nat,mm=m.n.toNat-i/\i<=m.n.toNat/\r 2 = .pointer (some ⟨x,0,none⟩)/\r 3 = .pointer (some ⟨y,0,none⟩)/\r 5 = .int .i64 ((i:Int)+1)/\h3=h2/\∀j,j<i->rn C m j=true) ?_
    (m:=m.n.toNat) ⟨0,rfl,Nat.zero_le _,by simp (disch:=decide) only [eu],by simp (disch:=decide) only [eu],by simp only [eu]<;>rfl,rfl,by simp⟩
   rintro mm r h3 ⟨i,rfl,hi,g2,g3,g5,rfl,hs⟩ X HX
   unfold aA4
   simp only [eu,g3,g5,cy]
   refine bh (fun hle=>?_) (fun hgt=>?_)
   rotate_left
   . obtain rfl:i=m.n.toNat:=by omega
     try simp (disch:=first|decide|omega) only [eu,Nat.reduceAdd,Nat.reduceMul]
     unfold aA6
     try simp only [eu]
     refine fin _ ?_
     rw [el,hn,hd,ht]
     simp only [Bool.true_and,List.all_eq_true,List.mem_range]
     exact fun j hj=>hs j hj
   unfold Mz
   refine ⟨h3,Hp.le.refl _,?_⟩
   try simp (disch:=decide) only [eu,Nat.reduceAdd,g2,g3,g5,cx,cy]
   refine (xi (p:=m.f) (dir:=m.d) (n:=(i:Int)+1)).mono ?_
   rintro _ h3 ⟨rfl,rfl⟩
   refine ⟨Hp.le.refl _,?_⟩
   refine (Av (p:=bz m.f m.d ((i:Int)+1)) hv2 hL).mono ?_
   rintro _ h3 ⟨rfl,rfl⟩
   cases hb:gk C (bz m.f m.d ((i:Int)+1))with
   |false=>
    try simp only [eu]
    refine fin _ ?_
    rw [el,hn,hd,ht]
    have:(List.range m.n.toNat).all (rn C m)=false:=by
     rw [List.all_eq_false]
     exact ⟨i,List.mem_range.2 (by omega),by unfold rn;rw [hb];simp⟩
    rw [this]
    rfl
   |true=>
    try simp only [eu]
    unfold My
    try simp (disch:=first|decide|omega) only [eu,g5]
    exact HX (m.n.toNat-(i+1)) _ _ (by omega) ⟨i+1,rfl,by omega,by simp (disch:=decide) only [eu,g2],by simp (disch:=decide) only [eu,g3],by simp only [eu]<;>rfl,rfl,xx hs hb⟩
 have ek1:(m.k==1)=false:=by simp [hk1]
 have el:dx C m=(if m.k=2 then (dv (m.f.x,m.f.y)).all (mq C)&&(decide (m.n=0)&&(decide (m.d=0)&&decide (m.t=xa m.f)))else decide (m.k=3\/m.k=4)&&(decide (m.n=0)&&(decide (m.d=0)&&decide (m.t=m.f)))):=by
  unfold dx
  rw [if_neg hk1,hf,Bool.true_and]
 by_cases hk2:m.k=2
 . rw [if_pos hk2]at el
   try simp only [eu,cy,ek1,show (m.k==2)=true by simp [hk2]]
   refine (B4 (p:=m.f)).mono ?_
   rintro _ h4 ⟨ip,sa,rfl,o,s4,d4⟩
   have hv4:=hv2.up (s4.in 1 rfl) d4
   have cx4:∀j,aa G h4 ⟨x,j,none⟩=_:=fun j=>ai (ag (s4.at 1 rfl bx))
   have cy4:∀j,aa G h4 ⟨y,j,none⟩=_:=fun j=>ai (ag (s4.at 1 rfl b2))
   have fin:∀b,dx C m=b->(Value.bool b = .bool (dx C m)/\h.le h4):=fun b e=>⟨by rw [e],L.trans (s4.in 1 rfl)⟩
   refine ci (fun mm r h3=>∃i:Nat,mm=4-i/\i<=4/\r 2 = .pointer (some ⟨x,0,none⟩)/\r 3 = .pointer (some ⟨y,0,none⟩)/\r 6 = .slice sa 4 4/\r 7 = .int .i64 i/\h3=h4/\((dv (m.f.x,m.f.y)).take i).all (mq C)=true) ?_
    (m:=4) ⟨0,rfl,Nat.zero_le _,by simp (disch:=decide) only [eu],by simp (disch:=decide) only [eu],by simp (disch:=decide) only [eu],by simp only [eu]<;>rfl,rfl,by simp⟩
   rintro mm r h3 ⟨i,rfl,hi,g2,g3,g6,g7,rfl,hs⟩ X HX
   unfold aA3
   simp only [eu,g7]
   refine bh (fun hlt=>?_) (fun hge=>?_)
   rotate_left
   . obtain rfl:i=4:=by omega
     rw [List.take_of_length_le (show (dv (m.f.x,m.f.y)).length<=4 from Nat.le_refl 4)]at hs
     rw [hs,Bool.true_and]at el
     try simp (disch:=first|decide|omega) only [eu,Nat.reduceAdd,Nat.reduceMul]
     unfold aA5
     try simp (disch:=decide) only [eu,g3,cy4,Cy]
     cases hn:decide (m.n=0)with
     |false=>try simp only [eu];exact fin _ (by rw [el,hn];rfl)
     |true=>
     try simp only [eu,g3,cy4,Cy]
     cases hd:decide (m.d=0)with
     |false=>try simp only [eu];exact fin _ (by rw [el,hn,hd];rfl)
     |true=>
     try simp only [eu,Nat.reduceAdd,g3,cy4]
     refine fin _ ?_
     rw [el,hn,hd,<- nf]
     rfl
   have hlt':i<4:=by omega
   obtain ⟨c,hc⟩:∃c,(dv (m.f.x,m.f.y))[i]?=some c:=⟨_,List.getElem?_eq_getElem (by simpa [dv]using hlt')⟩
   obtain ⟨b,ofs,rfl,z0,z1⟩:=Sees.cell (L:=dv (m.f.x,m.f.y)) (G:=G) (o.sees (by decide) (s4.in 0 rfl)) hc
   unfold Ik
   try simp (disch:=decide) only [eu,g2,g6,g7,cx4,qn (Int.natCast_nonneg i) (show (i:Int)<(4:Nat)by omega),z0,z1]
   refine (qb (c:=c) hv4 hL).mono ?_
   rintro _ h3 ⟨rfl,rfl⟩
   have hcm:c∈dv (m.f.x,m.f.y):=List.mem_of_getElem? hc
   cases hb:mq C c with
   |false=>
    try simp only [eu]
    refine fin _ ?_
    have:(dv (m.f.x,m.f.y)).all (mq C)=false:=by
     rw [List.all_eq_false]
     exact ⟨c,hcm,by simp [hb]⟩
    rw [el,this]
    rfl
   |true=>
    try simp only [eu]
    unfold Ij
    try simp (disch:=first|decide|omega) only [eu,g7]
    refine HX (4-(i+1)) _ _ (by omega) ⟨i+1,rfl,hlt',by simp (disch:=decide) only [eu,g2],by simp (disch:=decide) only [eu,g3],by simp (disch:=decide) only [eu,g6],by simp only [eu]<;>rfl,rfl,?_⟩
    rw [List.take_add_one,hc]
    simp [hs,hb]
 have ek2:(m.k==2)=false:=by simp [hk2]
 rw [if_neg hk2]at el
 by_cases hk34:m.k=3\/m.k=4
 rotate_left
 . try simp only [eu,cy,ek1,ek2,show (m.k==3)=false by simp;omega,show (m.k==4)=false by simp;omega]
   unfold Dj
   try simp (disch:=decide) only [eu]
   unfold O7
   try simp only [eu]
   exact fin _ (by rw [el,decide_eq_false hk34];rfl)
 rw [decide_eq_true hk34,Bool.true_and]at el
 have k12:∀r:Rg,r 3 = .pointer (some ⟨y,0,none⟩)->r 91 = .bool true->Dj G (retK P_ G [.tmp 4] fun u h'=>u = .bool (dx C m)/\h.le h') r h2:=by
  intro r g3 g91
  unfold Dj
  simp only [eu,g91,g3,cy,Cy]
  cases hn:decide (m.n=0)with
  |false=>try simp only [eu];exact fin _ (by rw [el,hn];rfl)
  |true=>
  try simp only [eu,g3,cy,Cy]
  cases hd:decide (m.d=0)with
  |false=>try simp only [eu];exact fin _ (by rw [el,hn,hd];rfl)
  |true=>
  try simp only [eu,Nat.reduceAdd,g3,cy]
  refine fin _ ?_
  rw [el,hn,hd,<- nf]
  rfl
 rcases hk34 with h3|h4
 . try simp only [eu,cy,ek1,ek2,show (m.k==3)=true by simp [h3]]
   exact k12 _ (by simp (disch:=decide) only [eu]) (by simp only [eu])
 . try simp only [eu,cy,ek1,ek2,show (m.k==3)=false by simp [h4],show (m.k==4)=true by simp [h4]]
   exact k12 _ (by simp (disch:=decide) only [eu]) (by simp only [eu])
section
variable {C:Conf}
theorem Qh {p:Pose} (hp:PB p) {d:Int}:gh p d 0=p:=by
 obtain ⟨h1,h2⟩:=hp
 unfold gh
 rw [Int.zero_mul,Int.zero_mul,Int.add_zero,Int.add_zero,Kh h1,Kh h2]
theorem Ie {s:Nat->Bool} {n:Nat}:(List.range (n+1)).all s=(s 0&&(List.range n).all fun i=>s (i+1)):=by
 rw [List.range_succ_eq_map,List.all_cons,List.all_map]
 rfl
theorem Rf (m:fc C) {v:Move} (hp:PB v.f):wayB (wC C) (kC C) (f3C C) v=dx C v:=by
 have ho:=ag0 m
 have hf:=uv m
 unfold wayB dx
 rw [hf]
 cases hfp:gk C v.f with
 |false=>rfl
 |true=>
 rw [Bool.true_and,Bool.true_and]
 by_cases hk1:v.k=1
 . rw [if_pos hk1,if_pos hk1,Ie]
   have e0:p8 (wC C) (kC C) (f3C C) v 0=ax v.d 0 3:=by
    unfold p8 okS
    rw [hf,show ((0:Nat):Int)=0 from rfl,Qh hp,hfp,show ax 0 0 16=true from rfl]
    simp
   rw [e0]
   cases hd:ax v.d 0 3 with
   |false=>simp
   |true=>
   have hd2:=dt.1 hd
   by_cases hn:1<=v.n
   . by_cases hn2:v.n<=16
     . rw [decide_eq_true hn,show ax v.n 1 16=true from dt.2 ⟨hn,hn2⟩,uf hp hd2]
       have:((List.range v.n.toNat).all fun i=>p8 (wC C) (kC C) (f3C C) v (i+1))=(List.range v.n.toNat).all (rn C v):=by
        rw [Bool.eq_iff_iff,List.all_eq_true,List.all_eq_true]
        have e:∀i∈List.range v.n.toNat,p8 (wC C) (kC C) (f3C C) v (i+1)=rn C v i:=by
         intro i hi
         have hi:=List.mem_range.1 hi
         unfold p8 rn okS
         rw [hd,show ax ((i+1:Nat):Int) 0 16=true from dt.2 (by omega),hf,uf hp hd2]
         rfl
        exact ⟨fun h i hi=>by rw [<- e i hi];exact h i hi,fun h i hi=>by rw [e i hi];exact h i hi⟩
       rw [this]
       simp only [Bool.true_and]
       rw [Bool.and_comm]
     . have h1:((List.range v.n.toNat).all fun i=>p8 (wC C) (kC C) (f3C C) v (i+1))=false:=by
        rw [List.all_eq_false]
        refine ⟨16,List.mem_range.2 (by omega),?_⟩
        unfold p8 okS
        rw [show ax ((16+1:Nat):Int) 0 16=false from rfl]
        simp
       have h2:ax v.n 1 16=false:=by
        cases h:ax v.n 1 16 with
        |false=>rfl
        |true=>exact absurd (dt.1 h).2 hn2
       rw [h1,h2]
       simp
   . have h2:ax v.n 1 16=false:=by
      cases h:ax v.n 1 16 with
      |false=>rfl
      |true=>exact absurd (dt.1 h).1 hn
     rw [decide_eq_false hn,h2]
     simp
 . rw [if_neg hk1,if_neg hk1]
   have e1:decide (v.d=0/\v.n=0)=(decide (v.n=0)&&decide (v.d=0)):=by
    rw [Bool.eq_iff_iff];simp [and_comm]
   rw [e1]
   by_cases hk2:v.k=2
   . rw [if_pos hk2,if_pos hk2]
     have e2:(dv (v.f.x,v.f.y)).all (nn (wC C) (kC C) (f3C C))=(dv (v.f.x,v.f.y)).all (mq C):=by
      congr 1
      funext c
      exact ho c
     rw [e2]
     cases decide (v.n=0)<;>cases decide (v.d=0)<;>simp
   . rw [if_neg hk2,if_neg hk2]
     cases decide (v.n=0)<;>cases decide (v.d=0)<;>simp
def mkR (p:Pose) (d n:Nat):Move:=⟨1,d,n,p,bz p d n,0,0⟩
def rrunD (C:Conf) (p:Pose) (d:Nat):List Move:=ka (fun n=>dx C (mkR p d n)) (mkR p d) 1 16
def B6 (C:Conf) (p:Pose):List Move:=if gk C p=true then jz (rrunD C p) 0 4++(if dx C (mo p)=true then [mo p]else [])else []
theorem E9 {α:Type} {D E:Nat->List α}:∀{k i:Nat},(∀j,i<=j->j<i+k->D j=E j)->jz D i k=jz E i k
 |0,i,_=>rfl
 |k+1,i,h=>by
  unfold jz
  rw [h i (Nat.le_refl _) (by omega),E9 fun j h1 h2=>h j (by omega) (by omega)]
theorem ae0 (m:fc C) {p:Pose} (hp:PB p) (hf:gk C p=true) {d:Nat} (hd:d<4):∀(k n:Nat),1<=n->n+k<=17->(∀j,1<=j->j<n->gk C (bz p d j)=true)->
 ka (Ce (wC C) (kC C) (f3C C) p d) (uo p d) n k=ka (fun n=>dx C (mkR p d n)) (mkR p d) n k
 |0,n,_,_,_=>rfl
 |k+1,n,h1,h2,h3=>by
  have hd2:(0:Int)<=(d:Int)/\(d:Int)<=3:=by omega
  have e1:Ce (wC C) (kC C) (f3C C) p d n=gk C (bz p d n):=by
   unfold Ce
   rw [uv m,uf hp hd2]
  have e2:uo p d n=mkR p d n:=by
   unfold uo mkR
   rw [uf hp hd2]
  have e3:dx C (mkR p d n)=gk C (bz p d n):=by
   unfold dx
   rw [show (mkR p d n).f=p from rfl,hf,Bool.true_and,if_pos (show (mkR p d n).k=1 from rfl),show ax (mkR p d n).n 1 16=true from dt.2 (show (1:Int)<=(n:Int)/\(n:Int)<=16 by omega),show ax (mkR p d n).d 0 3=true from dt.2 hd2,show decide ((mkR p d n).t=bz p (mkR p d n).d (mkR p d n).n)=true from decide_eq_true rfl,show (mkR p d n).n.toNat=(n-1)+1 from (by show (n:Int).toNat=_;omega),List.range_succ,List.all_append]
   have e4:(List.range (n-1)).all (rn C (mkR p d n))=true:=by
    rw [List.all_eq_true]
    intro i hi
    have hi:=List.mem_range.1 hi
    exact h3 (i+1) (by omega) (by omega)
   rw [e4]
   show (true&&(true&&(true&&(true&&(gk C (bz p d (((n-1:Nat):Int)+1))&&true)))))=_
   rw [show ((n-1:Nat):Int)+1=(n:Int)by omega]
   simp
  unfold ka
  rw [e1,e2,e3]
  cases hb:gk C (bz p d n)with
  |false=>rfl
  |true=>
   rw [if_pos rfl,if_pos rfl,ae0 m hp hf hd k (n+1) (by omega) (by omega) fun j a b=>by
    by_cases hj:j<n
    . exact h3 j a hj
    . obtain rfl:j=n:=by omega
      exact hb]
theorem ag8 (m:fc C) {p:Pose} (hp:PB p):kz (wC C) (kC C) (f3C C) p=B6 C p:=by
 unfold kz B6
 rw [uv m,Rf m (v:=mo p) hp]
 cases hf:gk C p with
 |false=>rfl
 |true=>
  rw [if_pos rfl,if_pos rfl]
  congr 1
  unfold Eu
  exact E9 fun j _ hj=>ae0 m hp hf (by omega) 16 1 (Nat.le_refl _) (by decide) fun j a b=>absurd b (by omega)
theorem zj {α:Type} {p:Nat->Bool} {mk:Nat->α} {n k:Nat}:ib p mk n (k+1)=if p n=true then mk n::ib p mk (n+1) k else ib p mk (n+1) k:=rfl
end
def dy:List Cell->List Cell
 |[]=>[]
 |a::L=>match L with
  |[]=>[a]
  |b::_=>if a=b then dy L else a::dy L
theorem nh {a b:Cell} {L:List Cell}:dy (a::b::L)=if a=b then dy (b::L)else a::dy (b::L):=rfl
theorem Fb {x:Cell}:∀{L:List Cell},x∈dy L↔x∈L:=by
 intro L
 induction L with
 |nil=>exact Iff.rfl
 |cons a L ih=>
  cases L with
  |nil=>exact Iff.rfl
  |cons b L=>
   rw [nh]
   by_cases h:a=b
   . rw [if_pos h,ih]
     subst h
     simp
   . rw [if_neg h,List.mem_cons,ih,List.mem_cons (a:=x) (b:=a)]
theorem H0 {n:Cell->Int} (inj:∀{L:List Cell},True):∀{L:List Cell},(∀a∈L,∀b∈L,n a=n b->a=b)->L.Pairwise (fun a b=>n a<=n b)->(dy L).Pairwise (fun a b=>n a<n b):=by
 intro L
 induction L with
 |nil=>intro _ _;exact .nil
 |cons a L ih=>
  intro hi hp
  obtain ⟨h1,h2⟩:=List.pairwise_cons.1 hp
  cases L with
  |nil=>exact List.pairwise_singleton _ _
  |cons b L=>
   have rest:=ih (fun x hx y hy=>hi x (.tail _ hx) y (.tail _ hy)) h2
   rw [nh]
   by_cases h:a=b
   . rw [if_pos h];exact rest
   . rw [if_neg h]
     refine List.pairwise_cons.2 ⟨fun x hx=>?_,rest⟩
     rw [Fb]at hx
     have hab:n a<n b:=by
      have:=h1 b (.head _)
      have:n a≠n b:=fun e=>h (hi a (.head _) b (.tail _ (.head _)) e)
      omega
     rcases List.mem_cons.1 hx with rfl|hx'
     . exact hab
     . have:=(List.pairwise_cons.1 h2).1 x hx';omega
theorem Gw {n:Cell->Int}:∀{L M:List Cell},L.Pairwise (fun a b=>n a<n b)->M.Pairwise (fun a b=>n a<n b)->(∀x,x∈L↔x∈M)->L=M:=by
 intro L
 induction L with
 |nil=>
  intro M _ _ h
  cases M with
  |nil=>rfl
  |cons a M=>exact absurd ((h a).2 (.head _)) (by simp)
 |cons a L ih=>
  intro M hL hM h
  cases M with
  |nil=>exact absurd ((h a).1 (.head _)) (by simp)
  |cons b M=>
   obtain ⟨l1,l2⟩:=List.pairwise_cons.1 hL
   obtain ⟨m1,m2⟩:=List.pairwise_cons.1 hM
   have e:a=b:=by
    rcases List.mem_cons.1 ((h a).1 (.head _))with e|e
    . exact e
    . rcases List.mem_cons.1 ((h b).2 (.head _))with e'|e'
      . exact e'.symm
      . have:=m1 a e;have:=l1 b e';omega
   subst e
   rw [ih l2 m2 fun x=>?_]
   constructor
   . intro hx
     rcases List.mem_cons.1 ((h x).1 (.tail _ hx))with rfl|h2
     . have:=l1 _ hx;omega
     . exact h2
   . intro hx
     rcases List.mem_cons.1 ((h x).2 (.tail _ hx))with rfl|h2
     . have:=m1 _ hx;omega
     . exact h2
def kq (w k:Nat) (W:List Cell):List Cell:=jz (fun y=>ib (fun x=>decide ((((x:Nat):Int),((y:Nat):Int))∈W)) (fun x=>(((x:Nat):Int),((y:Nat):Int))) 0 w) 0 k
def numW (w:Nat) (c:Cell):Int:=c.2*w+c.1
theorem Cc {α:Type} {p:Nat->Bool} {mk:Nat->α} {x:α}:∀{k n:Nat},x∈ib p mk n k↔∃j,n<=j/\j<n+k/\p j=true/\x=mk j:=by
 intro k
 induction k with
 |zero=>intro n;simp [ib];intro j h1 h2;omega
 |succ k ih=>
  intro n
  rw [zj]
  constructor
  . intro h
    split at h
    . rename_i hp
      rcases List.mem_cons.1 h with rfl|h'
      . exact ⟨n,Nat.le_refl _,by omega,hp,rfl⟩
      . obtain ⟨j,a,b,c,e⟩:=ih.1 h'
        exact ⟨j,by omega,by omega,c,e⟩
    . obtain ⟨j,a,b,c,e⟩:=ih.1 h
      exact ⟨j,by omega,by omega,c,e⟩
  . rintro ⟨j,a,b,c,rfl⟩
    by_cases hj:j=n
    . subst hj
      rw [if_pos c]
      exact .head _
    . have:=(ih (n:=n+1)).2 ⟨j,by omega,by omega,c,rfl⟩
      split
      . exact .tail _ this
      . exact this
theorem pick_pw {α:Type} {p:Nat->Bool} {mk:Nat->α} {R:α->α->Prop} (h:∀i j,i<j->R (mk i) (mk j)):∀{k n:Nat},(ib p mk n k).Pairwise R:=by
 intro k
 induction k with
 |zero=>intro n;exact .nil
 |succ k ih=>
  intro n
  rw [zj]
  split
  . refine List.pairwise_cons.2 ⟨fun x hx=>?_,ih⟩
    obtain ⟨j,a,_,_,rfl⟩:=Cc.1 hx
    exact h n j (by omega)
  . exact ih
theorem o8 {w k:Nat} {W:List Cell} {x:Cell}:x∈kq w k W↔(0<=x.1/\x.1<w/\0<=x.2/\x.2<k)/\x∈W:=by
 unfold kq
 suffices H:∀(n i:Nat),x∈jz (fun y=>ib (fun x=>decide ((((x:Nat):Int),((y:Nat):Int))∈W)) (fun x=>(((x:Nat):Int),((y:Nat):Int))) 0 w) i n↔∃y,i<=y/\y<i+n/\x∈ib (fun x=>decide ((((x:Nat):Int),((y:Nat):Int))∈W)) (fun x=>(((x:Nat):Int),((y:Nat):Int))) 0 w by
  rw [H]
  constructor
  . rintro ⟨y,_,h2,h3⟩
    obtain ⟨j,_,j2,j3,rfl⟩:=Cc.1 h3
    exact ⟨⟨by simp,by simp;omega,by simp,by simp;omega⟩,by simpa using j3⟩
  . rintro ⟨⟨a,b,c,d⟩,h⟩
    obtain ⟨x1,x2⟩:=x
    refine ⟨x2.toNat,by omega,by simp at d c;omega,Cc.2 ⟨x1.toNat,by omega,by simp at a b;omega,?_,?_⟩⟩
    . simp only at a c
      rw [show ((x1.toNat:Nat):Int)=x1 by omega,show ((x2.toNat:Nat):Int)=x2 by omega]
      simpa using h
    . simp only at a c
      rw [show ((x1.toNat:Nat):Int)=x1 by omega,show ((x2.toNat:Nat):Int)=x2 by omega]
 intro n
 induction n with
 |zero=>intro i;simp [jz];intro y h1 h2;omega
 |succ n ih=>
  intro i
  rw [jz,List.mem_append,ih]
  constructor
  . rintro (h|⟨y,a,b,c⟩)
    . exact ⟨i,Nat.le_refl _,by omega,h⟩
    . exact ⟨y,by omega,by omega,c⟩
  . rintro ⟨y,a,b,c⟩
    by_cases e:y=i
    . subst e;exact .inl c
    . exact .inr ⟨y,by omega,by omega,c⟩
theorem qx {w k:Nat} {W:List Cell}:(kq w k W).Pairwise (fun a b=>numW w a<numW w b):=by
 unfold kq
 suffices H:∀(n i:Nat),(jz (fun y=>ib (fun x=>decide ((((x:Nat):Int),((y:Nat):Int))∈W)) (fun x=>(((x:Nat):Int),((y:Nat):Int))) 0 w) i n).Pairwise (fun a b=>numW w a<numW w b)/\
  ∀x∈jz (fun y=>ib (fun x=>decide ((((x:Nat):Int),((y:Nat):Int))∈W)) (fun x=>(((x:Nat):Int),((y:Nat):Int))) 0 w) i n,((i*w:Nat):Int)<=numW w x from (H k 0).1
 intro n
 induction n with
 |zero=>intro i;exact ⟨.nil,fun _ h=>by cases h⟩
 |succ n ih=>
  intro i
  rw [jz]
  obtain ⟨h1,h2⟩:=ih (i+1)
  have hrow:∀x∈ib (fun x=>decide ((((x:Nat):Int),((i:Nat):Int))∈W)) (fun x=>(((x:Nat):Int),((i:Nat):Int))) 0 w,((i*w:Nat):Int)<=numW w x/\numW w x<(((i+1)*w:Nat):Int):=by
   intro x hx
   obtain ⟨j,_,j2,_,rfl⟩:=Cc.1 hx
   unfold numW
   simp only
   have e1:(((i+1)*w:Nat):Int)=((i*w:Nat):Int)+(w:Int):=by rw [Nat.succ_mul];push_cast;rfl
   have e2:((i:Nat):Int)*(w:Int)=((i*w:Nat):Int):=by push_cast;rfl
   rw [e1,e2]
   omega
  refine ⟨List.pairwise_append.2 ⟨pick_pw fun a b hab=>?_,h1,fun a ha b hb=>?_⟩,fun x hx=>?_⟩
  . unfold numW
    simp only
    omega
  . have:=(hrow a ha).2
    have:=h2 b hb
    omega
  . rcases List.mem_append.1 hx with h|h
    . exact (hrow x h).1
    . have:=h2 x h
      have e1:(((i+1)*w:Nat):Int)=((i*w:Nat):Int)+(w:Int):=by rw [Nat.succ_mul];push_cast;rfl
      omega
theorem Kf {w k:Nat} {W S:List Cell} (hw:0<w) (hin:∀c∈W,0<=c.1/\c.1<w/\0<=c.2/\c.2<k) (hp:S.Perm W) (hs:S.Pairwise fun a b=>numW w a<=numW w b):dy S=kq w k W:=by
 refine Gw (n:=numW w) (H0 (fun {_}=>trivial) (fun a ha b hb e=>?_) hs) qx fun x=>?_
 . obtain ⟨a1,a2,a3,a4⟩:=hin a (hp.mem_iff.1 ha)
   obtain ⟨b1,b2,b3,b4⟩:=hin b (hp.mem_iff.1 hb)
   obtain ⟨x,y⟩:=a
   obtain ⟨x',y'⟩:=b
   unfold numW at e
   simp only at*
   have ey:y=y':=by
    rcases Int.lt_trichotomy y y' with h|h|h
    . have:(y+1)*(w:Int)<=y'*w:=Int.mul_le_mul_of_nonneg_right (by omega) (by omega)
      rw [Int.add_mul,Int.one_mul]at this
      omega
    . exact h
    . have:(y'+1)*(w:Int)<=y*w:=Int.mul_le_mul_of_nonneg_right (by omega) (by omega)
      rw [Int.add_mul,Int.one_mul]at this
      omega
   subst ey
   rw [show x=x' by omega]
 . rw [Fb,o8,hp.mem_iff]
   exact ⟨fun h=>⟨hin x h,h⟩,fun h=>h.2⟩
def i7:=jq bC (jq (jq @Bool.and_true (jq @Sh @ix22)) (jq (jq @ld28 @ur) (jq @ln22 @ne28p)))
theorem ab1 {P:Program} {G h:Hp} {α:Type} (c:Cod α) (d0:α) {T e:TypeId} (hu:P.underlying T=some (.slice e)) (hn:0<c.n) (hz:((P.info? e).bind (·.zero)).map (·.cells.toList)=some (c.enc d0)) {ty:TypeId} {b off n cap:Nat} {l:List Value} {e':TypeId}
 (hb:h b=some (.cells l.toArray e' (0,0))) (h0:0<n) (hfit:off+n*c.n<=l.length) {K:VK}
 (H:∀l':List Value,l'.length=l.length->l'.take off=l.take off->K (.tuple #[]) (h.set b (.cells l'.toArray e' (0,0)))):
 wpH P G (Builtin.clear_ #[T] ty #[.slice (some ⟨b,off,none⟩) n cap]) h K:=by
 cases hi:P.info? e with
 |none=>rw [hi]at hz;cases hz
 |some inf=>
 rw [hi]at hz
 simp only [Option.bind_some]at hz
 cases hzz:inf.zero with
 |none=>rw [hzz]at hz;cases hz
 |some z=>
 rw [hzz]at hz
 simp only [Option.map_some,Option.some.injEq]at hz
 obtain ⟨n',rfl⟩:∃n',n=n'+1:=⟨n-1,by omega⟩
 have hrow:=xj c d0 (n'+1) z.cells hz.symm hn
 have hsz:z.cells.size=c.n:=by rw [<- Array.length_toList,hz,c.len]
 have hcells:(Builtin.zeroCells z.cells (n'+1)).toList=c.rows (List.replicate (n'+1) d0):=by
  refine Eq.trans ?_ ((congrArg Array.toList hrow).trans (by simp))
  rw [<- hsz]
  rfl
 have key:wpH P G (storeCells ⟨b,off,none⟩ (c.rows (List.replicate (n'+1) d0))) h (fun _ h'=>K (.tuple #[]) h'):=by
  rw [kx _ (k:=0) hb (by rw [c.rows_length,List.length_replicate];omega) (c.rows_one _)]
  exact H _ (xy _ _ _) (by
   rw [qz _ _ _ (by rw [c.rows_length,List.length_replicate];omega),List.append_assoc,List.take_append_of_le_length (by rw [List.length_take];omega),Nat.add_zero,List.take_take,Nat.min_self])
 unfold Builtin.clear_ underlying
 simp only [List.getElem?_toArray,List.getElem?_cons_zero,bind,bv,program,wpH,hu,pure]
 simp only [zeroValue,typeInfo,program,bind,bv,wpH,hi,hzz,pure]
 rw [hcells]
 exact key
theorem Ls {y x:Cell}:∀{T:List Cell},dy (T++[y,x])=if y=x then dy (T++[y])else dy (T++[y])++[x]
 |[]=>by
  show dy (y::[x])=if y=x then dy [y]else dy [y]++[x]
  rw [nh]
  by_cases h:y=x<;>simp [h,dy]
 |[a]=>by
  show dy (a::y::[x])=if y=x then dy (a::y::[])else dy (a::y::[])++[x]
  simp only [nh]
  by_cases h1:a=y<;>by_cases h2:y=x<;>simp [h1,h2,dy]
 |a::b::T=>by
  show dy (a::b::(T++[y,x]))=if y=x then dy (a::b::(T++[y]))else dy (a::b::(T++[y]))++[x]
  rw [nh,nh]
  have ih:=Ls (y:=y) (x:=x) (T:=b::T)
  simp only [List.cons_append]at ih
  rw [ih]
  by_cases h1:a=b<;>by_cases h2:y=x<;>simp [h1,h2]
theorem zw {L:List Cell} {k:Nat} {y x:Cell} (hk:1<=k) (hy:L[k-1]?=some y) (hx:L[k]?=some x):dy (L.take (k+1))=if y=x then dy (L.take k)else dy (L.take k)++[x]:=by
 obtain ⟨j,rfl⟩:∃j,k=j+1:=⟨k-1,by omega⟩
 rw [Nat.add_sub_cancel]at hy
 rw [List.take_add_one,List.take_add_one,hx,hy]
 simp only [Option.toList,List.append_assoc,List.cons_append,List.nil_append]
 exact Ls
theorem H3 {L:List Cell} (h:L.length<2):dy L=L:=by
 match L,h with
 |[],_=>rfl
 |[a],_=>rfl
theorem st_elem {G h:Hp} {b i:Nat} {M:List Cell} {t:List Value} {x:Cell} {K:Unit->Hp->Prop} (hb:h b=some (.cells (cj.rows M++t).toArray 28 (0,0))) (hi:i<M.length):
 wpH P_ G (Instr.storeAt 28 (.pointer (some ⟨b,i*2,none⟩)) (.agg #[x.1,x.2])) h K=K () (h.set b (.cells (cj.rows (M.set i x)++t).toArray 28 (0,0))):=by
 rw [qk (n:=2) sz28 hb rfl (by rw [List.length_append,cj.rows_length,show cj.n=2 from rfl];omega) (by intro v hv;simp [Value.cells]at hv;rcases hv with rfl|rfl<;>rfl)]
 have:=cj.rows_put (t:=t) (x:=x) hi
 rw [<- this]
 rfl
theorem Qn {G h:Hp} {b:Nat} {M:List Cell} {t:List Value} (hb:HL.look G h b=some (.cells (cj.rows M++t).toArray 28 (0,0))) {i:Nat} {x:Cell} (hx:M[i]?=some x):aa G h ⟨b,i*2,none⟩=some (.int .i64 x.1)/\aa G h ⟨b,i*2+1,none⟩=some (.int .i64 x.2):=by
 have g0:=cj.rows_get (t:=t) hx (j:=0) (by decide)
 have g1:=cj.rows_get (t:=t) hx (j:=1) (by decide)
 rw [show cj.n=2 from rfl]at g0 g1
 exact ⟨(ai hb).trans g0,(ai hb).trans g1⟩
theorem Ot {G h a:Hp} {R:List Hp} {v:Value} {L:List Cell} (s:HL.Sep (a::R) h) (o:Slc cj 28 a v L) (hL:L.length<=100000):aj P_ G 136 #[v] h (fun u h'=>∃a',Slc cj 28 a' u (dy L)/\HL.Sep (a'::R) h'/\Dis G h'):=by
 refine aj.assume fun d=>aq9 (by simp) ?_
 unfold S136
 obtain ⟨sa,cap,rfl,hcap⟩:=o.len (by decide)
 simp only [i7]
 refine bh (fun hlt=>?_) (fun hge=>?_)
 . try simp (disch:=first|decide|omega) only [i7,Nat.reduceAdd,Nat.reduceMul]
   exact ⟨a,by rw [H3 (by omega)];exact o,s,d⟩
 unfold X1
 obtain ⟨ob,o'⟩:=id o
 cases ob with
 |none=>exact absurd o'.2 (fun e=>by rw [e]at hge;simp at hge)
 |some b=>
 obtain ⟨cap',t,e9,hb,hbl⟩:=o'
 simp only [Value.slice.injEq,true_and]at e9
 obtain ⟨rfl,rfl⟩:=e9
 have hbh:=s.at 0 rfl hb
 have rd:=fun {i:Nat} {x:Cell} (hx:L[i]?=some x)=>Qn (G:=G) (ag hbh) hx
 try simp (disch:=first|decide|omega) only [i7,Nat.reduceAdd,Nat.reduceMul]
 generalize hKK:retK P_ G _ _=KK
 refine ci (fun m q h3=>∃k:Nat,m=L.length-k/\1<=k/\k<=L.length/\q 0 = .slice (some ⟨b,0,none⟩) L.length cap/\q 3 = .int .i64 k/\h3=h/\dy (L.take k)=L.take k) ?_
  (m:=L.length-1) ⟨1,rfl,Nat.le_refl _,by omega,by simp (disch:=decide) only [i7],by simp only [i7]<;>rfl,rfl,H3 (by rw [List.length_take];omega)⟩
 rintro m q h3 ⟨k,rfl,h1,hk,q0,q3,rfl,hc⟩ X HX
 unfold Xz
 simp only [i7,q0,q3]
 refine bh (fun hlt=>?_) (fun hge2=>?_)
 rotate_left
 . obtain rfl:k=L.length:=by omega
   rw [List.take_of_length_le (Nat.le_refl _)]at hc
   try simp (disch:=first|decide|omega) only [i7,Nat.reduceAdd,Nat.reduceMul]
   unfold X0
   rw [<- hKK]
   try simp (disch:=decide) only [i7,q0]
   exact ⟨a,by rw [hc];exact o,s,d⟩
 obtain ⟨x,hx⟩:∃x,L[k]?=some x:=⟨_,List.getElem?_eq_getElem (by omega)⟩
 obtain ⟨y,hy⟩:∃y,L[k-1]?=some y:=⟨_,List.getElem?_eq_getElem (by omega)⟩
 obtain ⟨x0,x1⟩:=rd hx
 obtain ⟨y0,y1⟩:=rd hy
 have ek:(k:Int)-1=((k-1:Nat):Int):=by omega
 unfold I9
 try simp (disch:=first|decide|omega) only [i7,q0,q3,ek,qn (Int.natCast_nonneg k) hlt,qn (Int.natCast_nonneg (k-1)) (show ((k-1:Nat):Int)<(L.length:Nat)by omega),Int.toNat_natCast,x0,x1,y0,y1,yu]
 refine pf (fun hb2=>?_) (fun hb2=>?_)
 rotate_left
 . unfold Bp
   try simp (disch:=first|decide|omega) only [i7,q3]
   refine HX (L.length-(k+1)) _ _ (by omega) ⟨k+1,rfl,by omega,by omega,by simp (disch:=decide) only [i7,q0],by simp only [i7]<;>rfl,rfl,?_⟩
   rw [zw h1 hy hx,if_neg (fun e=>by rw [e,beq_self_eq_true]at hb2;cases hb2),hc,List.take_add_one,hx]
   rfl
 have exy:y=x:=(eq_of_beq hb2).symm
 try simp (disch:=first|decide|omega) only [i7,Nat.reduceAdd,Nat.reduceMul,q0,q3]
 rw [mz un22 sz28 (by omega) (by omega) hcap]
 rw [Int.toNat_natCast,if_neg (show ¬cap=k by omega),mn,Nat.zero_add]
 have hmax:(cj.rows L++t).length=cap*2:=hbl
 try simp (disch:=first|decide|omega) only [i7,Nat.reduceAdd,Nat.reduceMul]
 refine ci (fun m q h4=>∃(w j:Nat) (M:List Cell) (a:Hp),m=L.length-j/\k<=w/\w<j/\k+1<=j/\j<=L.length/\M.length=L.length/\q 0 = .slice (some ⟨b,0,none⟩) L.length cap/\q 3 = .int .i64 w/\q 4 = .slice (some ⟨b,k*2,none⟩) (L.length-k) (cap-k)/\q 5 = .int .i64 (((j-k:Nat):Nat):Int)/\
  a b=some (.cells (cj.rows M++t).toArray 28 (0,0))/\HL.Sep (a::R) h4/\Dis G h4/\M.take w=dy (L.take j)/\∀p,j-1<=p->M[p]?=L[p]?) ?_
  (m:=L.length-(k+1)) ⟨k,k+1,L,a,rfl,Nat.le_refl _,by omega,Nat.le_refl _,by omega,rfl,by simp (disch:=decide) only [i7,q0],by simp (disch:=decide) only [i7,q3],by simp (disch:=decide) only [i7],by simp only [i7]<;>(rw [show k+1-k=1 by omega];rfl),hb,s,d,by rw [zw h1 hy hx,if_pos exy,hc],fun p _=>rfl⟩
 clear HX q0 q3 x0 x1 y0 y1 hc hx hy exy hb2 ek rd hbh hb o s d
 rintro m q h4 ⟨w,j,M,a,rfl,hkw,hwj,hkj,hj,hM,q0,q3,q4,q5,hb,s,d,htk,hsame⟩ X HX
 have hbh:=s.at 0 rfl hb
 have rd:=fun {i:Nat} {x:Cell} (hx:M[i]?=some x)=>Qn (G:=G) (ag hbh) hx
 unfold I7
 simp only [i7,q4,q5]
 refine bh (fun hlt2=>?_) (fun hge3=>?_)
 . obtain ⟨x,hx⟩:∃x,L[j]?=some x:=⟨_,List.getElem?_eq_getElem (by omega)⟩
   obtain ⟨y,hy⟩:∃y,L[j-1]?=some y:=⟨_,List.getElem?_eq_getElem (by omega)⟩
   obtain ⟨x0,x1⟩:=rd ((hsame j (by omega)).trans hx)
   obtain ⟨y0,y1⟩:=rd ((hsame (j-1) (Nat.le_refl _)).trans hy)
   have ej:j*2=k*2+(j-k)*2:=by omega
   have ej1:(j-1)*2=k*2+(j-k-1)*2:=by omega
   rw [ej]at x0 x1
   rw [ej1]at y0 y1
   have e5:(((j-k:Nat):Nat):Int)-1=((j-k-1:Nat):Int):=by omega
   unfold Ao
   try simp (disch:=first|decide|omega) only [i7,q4,q5,e5,qn (Int.natCast_nonneg (j-k)) hlt2,qn (Int.natCast_nonneg (j-k-1)) (show ((j-k-1:Nat):Int)<((L.length-k:Nat):Int)by omega),Int.toNat_natCast,x0,x1,y0,y1,yu]
   have nxt:(((j-k:Nat):Nat):Int)+1=((j+1-k:Nat):Int):=by omega
   cases hxy:(x==y)with
   |true=>
    try simp only [i7]
    unfold qg
    try simp (disch:=first|decide|omega) only [i7,q5]
    refine HX (L.length-(j+1)) _ _ (by omega) ⟨w,j+1,M,a,rfl,hkw,by omega,by omega,by omega,hM,by simp (disch:=decide) only [i7,q0],by simp (disch:=decide) only [i7,q3],by simp (disch:=decide) only [i7,q4],by simp only [i7]<;>rw [nxt],hb,s,d,?_,fun p hp=>hsame p (by omega)⟩
    rw [htk,zw (by omega) hy hx,if_pos (eq_of_beq hxy).symm]
   |false=>
    have hwl:(w:Int)<(L.length:Nat):=by omega
    try simp (disch:=first|decide|omega) only [i7,q0,q3,q4,q5,ix22 (Int.natCast_nonneg (j-k)) hlt2,ix22 (Int.natCast_nonneg w) hwl,Int.toNat_natCast,x0,x1]
    rw [st_elem (x:=x) hbh (by omega)]
    have s5:=s.put (o := .cells (cj.rows (M.set w x)++t).toArray 28 (0,0)) hb
    have d5:=d.set (o := .cells (cj.rows (M.set w x)++t).toArray 28 (0,0)) (d _ _ hbh)
    generalize Hp.set h4 b _=h5 at s5 d5 ⊢
    try simp (disch:=first|decide|omega) only [i7,Nat.reduceAdd,Nat.reduceMul,q3]
    unfold qg
    try simp (disch:=first|decide|omega) only [i7,q5]
    refine HX (L.length-(j+1)) _ _ (by omega) ⟨w+1,j+1,M.set w x,_,rfl,by omega,by omega,by omega,by omega,by rw [List.length_set,hM],by simp (disch:=decide) only [i7,q0],by simp (disch:=decide) only [i7]<;>rfl,by simp (disch:=decide) only [i7,q4],by simp only [i7]<;>rw [nxt],af,s5,d5,?_,fun p hp=>?_⟩
    . rw [zw (by omega) hy hx,if_neg (fun e=>by rw [e,beq_self_eq_true]at hxy;cases hxy),<- htk,List.take_add_one,List.getElem?_set_self (by omega),List.take_set_of_le (Nat.le_refl _)]
      rfl
    . rw [List.getElem?_set_ne (by omega)]
      exact hsame p (by omega)
 . obtain rfl:j=L.length:=by omega
   rw [List.take_of_length_le (Nat.le_refl _)]at htk
   clear HX
   have hwl:w<L.length:=hwj
   try simp (disch:=first|decide|omega) only [i7,Nat.reduceAdd,Nat.reduceMul]
   unfold I8
   try simp (disch:=decide) only [i7,q0,q3]
   rw [mz un22 sz28 (by omega) (by omega) hcap]
   rw [Int.toNat_natCast,if_neg (show ¬cap=w by omega),mn,Nat.zero_add]
   try simp (disch:=first|decide|omega) only [i7,Nat.reduceAdd,Nat.reduceMul]
   have hlen:(cj.rows M++t).length=cap*2:=by
    rw [List.length_append,cj.rows_length,hM,<- cj.rows_length,<- List.length_append,hmax]
   refine ab1 cj ((0,0):Cell) un22 (by decide) (by kernel_rfl) hbh (by omega) (by rw [hlen,show cj.n=2 from rfl];omega) fun l' hl1 hl2=>?_
   have s5:=s.put (o := .cells l'.toArray 28 (0,0)) hb
   have d5:=d.set (o := .cells l'.toArray 28 (0,0)) (d _ _ hbh)
   generalize Hp.set h4 b _=h5 at s5 d5 ⊢
   try simp (disch:=first|decide|omega) only [i7,Nat.reduceAdd,Nat.reduceMul,q0,q3]
   rw [xf un22 sz28 (by omega) (by omega)]
   rw [Int.toNat_natCast]
   rw [<- hKK]
   try simp only [i7]
   have hcl:dy L=M.take w:=htk.symm
   have hml:(M.take w).length=w:=by rw [List.length_take];omega
   have hl3:l'=cj.rows (dy L)++l'.drop (w*2):=by
    rw [hcl]
    have:=cj.rows_take (L:=M) (t:=t) (k:=w) (by omega)
    rw [show cj.n=2 from rfl]at this
    rw [<- this,<- hl2,List.take_append_drop]
   refine ⟨_,⟨some b,cap,l'.drop (w*2),by rw [hcl,hml],?_,?_⟩,s5,d5⟩
   . rw [<- hl3];exact af
   . rw [<- hl3,hl1,hlen];rfl
end Go.Proofs.YtfflipnhffknnaaGreatDoor
end
section
namespace Go.Proofs.YtfflipnhffknnaaGreatDoor
open Go Go.HL Go.Proofs
def Ac:Go.Shelf.Ren:=⟨fun|6=>134|15=>161|14=>160|28=>179|29=>180|20=>171|21=>172|22=>173|23=>174|24=>175|25=>176|26=>177|27=>178|46=>188|47=>189|48=>190|49=>191|50=>192|57=>198|n=>n,fun|22=>22|24=>28|25=>247|3=>3|39=>272|0=>0|53=>159|55=>284|4=>4|46=>277|45=>276|50=>251|5=>5|9=>9|66=>289|70=>293|76=>299|77=>300|n=>n,fun|n=>n⟩
theorem Y6:Go.Proofs.SlLaysF0.n6 P_ Ac where
 mixed:=by kernel_rfl
 f6:=⟨ "slices.SortFunc[[]skep/api.Cell,skep/api.Cell]",by decide,Tryz.func134.trans (congrArg some (by kernel_rfl))⟩
 f14:=⟨ "slices.pdqsortCmpFunc[skep/api.Cell]",by decide,Tryz.func160.trans (congrArg some (by kernel_rfl))⟩
 f15:=Tryz.func161.trans (congrArg some (by kernel_rfl))
 f20:=⟨ "slices.insertionSortCmpFunc[skep/api.Cell]",by decide,Tryz.func171.trans (congrArg some (by kernel_rfl))⟩
 f21:=⟨ "slices.heapSortCmpFunc[skep/api.Cell]",by decide,Tryz.func172.trans (congrArg some (by kernel_rfl))⟩
 f22:=⟨ "slices.breakPatternsCmpFunc[skep/api.Cell]",by decide,Tryz.func173.trans (congrArg some (by kernel_rfl))⟩
 f23:=⟨ "slices.choosePivotCmpFunc[skep/api.Cell]",by decide,Tryz.func174.trans (congrArg some (by kernel_rfl))⟩
 f24:=⟨ "slices.reverseRangeCmpFunc[skep/api.Cell]",by decide,Tryz.func175.trans (congrArg some (by kernel_rfl))⟩
 f25:=⟨ "slices.partialInsertionSortCmpFunc[skep/api.Cell]",by decide,Tryz.func176.trans (congrArg some (by kernel_rfl))⟩
 f26:=⟨ "slices.partitionEqualCmpFunc[skep/api.Cell]",by decide,Tryz.func177.trans (congrArg some (by kernel_rfl))⟩
 f27:=⟨ "slices.partitionCmpFunc[skep/api.Cell]",by decide,Tryz.func178.trans (congrArg some (by kernel_rfl))⟩
 f28:=Tryz.func179.trans (congrArg some (by kernel_rfl))
 f29:=Tryz.func180.trans (congrArg some (by kernel_rfl))
 f46:=⟨ "slices.siftDownCmpFunc[skep/api.Cell]",by decide,Tryz.func188.trans (congrArg some (by kernel_rfl))⟩
 f47:=Tryz.func189.trans (congrArg some (by kernel_rfl))
 f48:=Tryz.func190.trans (congrArg some (by kernel_rfl))
 f49:=⟨ "slices.medianAdjacentCmpFunc[skep/api.Cell]",by decide,Tryz.func191.trans (congrArg some (by kernel_rfl))⟩
 f50:=⟨ "slices.medianCmpFunc[skep/api.Cell]",by decide,Tryz.func192.trans (congrArg some (by kernel_rfl))⟩
 f57:=⟨ "slices.order2CmpFunc[skep/api.Cell]",by decide,Tryz.func198.trans (congrArg some (by kernel_rfl))⟩
 t0:=Tryz.underlying0
 a0:=Tryz.isAgg0
 z0:=Tryz.sizeOf0
 v0:=Tryz.zeroValue0
 t3:=Tryz.underlying3
 a3:=Tryz.isAgg3
 z3:=Tryz.sizeOf3
 v3:=Tryz.zeroValue3
 t4:=Tryz.underlying4
 a4:=Tryz.isAgg4
 z4:=Tryz.sizeOf4
 v4:=Tryz.zeroValue4
 t5:=Tryz.underlying5
 a5:=Tryz.isAgg5
 z5:=Tryz.sizeOf5
 v5:=Tryz.zeroValue5
 t9:=Tryz.underlying9
 a9:=Tryz.isAgg9
 z9:=Tryz.sizeOf9
 v9:=Tryz.zeroValue9
 t22:=Tryz.underlying22
 a22:=Tryz.isAgg22
 z22:=Tryz.sizeOf22
 v22:=Tryz.zeroValue22
 t25:=Tryz.underlying247
 a25:=Tryz.isAgg247
 z25:=Tryz.sizeOf247
 v25:=Tryz.zeroValue247
 t39:=Tryz.underlying272
 a39:=Tryz.isAgg272
 z39:=Tryz.sizeOf272
 v39:=Tryz.zeroValue272
 t45:=Tryz.underlying276
 a45:=Tryz.isAgg276
 z45:=Tryz.sizeOf276
 v45:=Tryz.zeroValue276
 t46:=Tryz.underlying277
 a46:=Tryz.isAgg277
 z46:=Tryz.sizeOf277
 v46:=Tryz.zeroValue277
 t50:=Tryz.underlying251
 a50:=Tryz.isAgg251
 z50:=Tryz.sizeOf251
 v50:=Tryz.zeroValue251
 t53:=Tryz.underlying159
 a53:=Tryz.isAgg159
 z53:=Tryz.sizeOf159
 v53:=Tryz.zeroValue159
 t55:=Tryz.underlying284
 a55:=Tryz.isAgg284
 z55:=Tryz.sizeOf284
 v55:=Tryz.zeroValue284
 t66:=Tryz.underlying289
 a66:=Tryz.isAgg289
 z66:=Tryz.sizeOf289
 v66:=Tryz.zeroValue289
 t70:=Tryz.underlying293
 a70:=Tryz.isAgg293
 z70:=Tryz.sizeOf293
 v70:=Tryz.zeroValue293
 t76:=Tryz.underlying299
 a76:=Tryz.isAgg299
 z76:=Tryz.sizeOf299
 v76:=Tryz.zeroValue299
 t77:=Tryz.underlying300
 a77:=Tryz.isAgg300
 z77:=Tryz.sizeOf300
 v77:=Tryz.zeroValue300
end Go.Proofs.YtfflipnhffknnaaGreatDoor
end
section
namespace Go.Proofs.YtfflipnhffknnaaGreatDoor
open Go Go.HL
def wu:=jq bC (jq (jq (jq @qc @cf127) (jq @cf134 (jq @cf136 @cf88))) (jq (jq @ur @ld48) (jq @ld68 (jq @Rh @true_and))))
theorem Vw {w k:Nat} {f:Nat->Nat->Int} {c:Cell} (h:nn w k f c=true):inW w k c=true:=by
 unfold nn at h
 rw [Bool.and_eq_true]at h
 exact h.1
theorem way_in {w k:Nat} {f:Nat->Nat->Int} {m:Move} (h:wayB w k f m=true):∀c∈wayL m,inW w k c=true:=by
 intro c hc
 unfold wayB at h
 unfold wayL at hc
 rw [Bool.and_eq_true]at h
 obtain ⟨hf,h⟩:=h
 by_cases h1:m.k=1
 . rw [if_pos h1]at h hc
   simp only [Bool.and_eq_true,List.all_eq_true,List.mem_flatMap]at h hc
   obtain ⟨i,hi,hc⟩:=hc
   have:=h.2.1 i hi
   unfold p8 at this
   rw [Bool.and_eq_true]at this
   exact (ox this.2 c hc).1
 . rw [if_neg h1]at h hc
   by_cases h2:m.k=2
   . rw [if_pos h2]at h hc
     simp only [Bool.and_eq_true,List.all_eq_true]at h
     exact Vw (h.2.1 c hc)
   . rw [if_neg h2]at hc
     exact (ox hf c hc).1
theorem Hk {D:Nat->List Cell} (h:∀i,(D i).length=2):∀n,((List.range n).flatMap D).length=2*n
 |0=>rfl
 |n+1=>by
  rw [List.range_succ,List.flatMap_append,List.length_append,Hk h n]
  simp [h]
  omega
theorem way_len {w k:Nat} {f:Nat->Nat->Int} {m:Move} (h:wayB w k f m=true):(wayL m).length<=34/\wayL m≠[]:=by
 unfold wayB at h
 rw [Bool.and_eq_true]at h
 obtain ⟨hf,h⟩:=h
 unfold wayL
 by_cases h1:m.k=1
 . rw [if_pos h1]at h ⊢
   simp only [Bool.and_eq_true,List.all_eq_true,List.mem_range,decide_eq_true_eq]at h
   have:=h.2.1 m.n.toNat (by omega)
   unfold p8 okS at this
   simp only [Bool.and_eq_true]at this
   have hn:=dt.1 this.1.1
   have e:=Hk (D:=fun (i:Nat)=>bo (gh m.f m.d i)) (fun i=>rfl) (m.n.toNat+1)
   refine ⟨by rw [e];omega,fun hn=>?_⟩
   rw [hn]at e
   simp at e
 . rw [if_neg h1]
   split
   . exact ⟨by simp [dv],by simp [dv]⟩
   . exact ⟨by simp [bo],by simp [bo]⟩
theorem Vx {w k:Nat} {c:Cell} (h:inW w k c=true):numI w k c=numW w c:=by
 unfold numI numW
 rw [if_pos h]
theorem in_bd {w k:Nat} {c:Cell} (h:inW w k c=true):0<=c.1/\c.1<w/\0<=c.2/\c.2<k:=by
 unfold inW at h
 rw [Bool.and_eq_true]at h
 have h1:=dt.1 h.1
 have h2:=dt.1 h.2
 omega
theorem Nx {w k:Nat} {c:Cell} (hw:w<=16) (hk:k<=16) : -1<=numI w k c/\numI w k c<=1000:=by
 unfold numI
 split
 . rename_i h
   obtain ⟨a,b,c1,d⟩:=in_bd h
   have h1:0<=c.2*(w:Int):=Int.mul_nonneg c1 (by omega)
   have h2:c.2*(w:Int)<=16*16:=Int.mul_le_mul (by omega) (by omega) (by omega) (by omega)
   omega
 . omega
theorem C0 {G h:Hp} {v0 w k:Nat} {f:Nat->Nat->Int} {g:Value} {a b:Cell} (hv:∀j,aa G h ⟨v0,j,none⟩=[g][j]?) (gs:GS G h g w k f):aj P_ G 135 #[tl a,tl b,.pointer (some ⟨v0,0,none⟩)] h (fun u h'=>u = .int .i64 (numI w k a-numI w k b)/\h'=h):=by
 obtain ⟨gp,kb,hgp,_⟩:=gs.ex
 refine aj.assume fun d=>quietly (ar2 (by simp) ?_)
 unfold S135
 simp only [wu]
 intro x hx gx
 generalize e1:Hp.set h x _=h1
 obtain ⟨l1,d1,b1⟩:=boxed e1 hx d gx
 intro y hy gy
 generalize e2:Hp.set h1 y _=h2
 obtain ⟨l2,d2,b2⟩:=boxed e2 hy d1 gy
 have cx:∀j,aa G h2 ⟨x,j,none⟩=_:=fun j=>ai (ag (l2 _ _ b1))
 have cy:∀j,aa G h2 ⟨y,j,none⟩=_:=fun j=>ai (ag b2)
 have l02:=l1.trans l2
 have cv:aa G h2 ⟨v0,0,none⟩=some g:=jg l02 d2 (hv 0)
 have gs2:=gs.up l02 d2
 subst hgp
 try simp only [wu,cx,cy,cv]
 refine (nx (c:=a) gs2).mono ?_
 rintro _ h3 ⟨rfl,rfl⟩
 refine ⟨Hp.le.refl _,?_⟩
 try simp (disch:=first|decide|omega) only [wu,Nat.reduceAdd,Nat.reduceMul,cx,cy,cv]
 refine (nx (c:=b) gs2).mono ?_
 rintro _ h3 ⟨rfl,rfl⟩
 have ba:=Nx (c:=a) gs.w2 gs.k2
 have bb:=Nx (c:=b) gs.w2 gs.k2
 try simp (disch:=first|decide|omega) only [wu]
 first|exact l02|exact ⟨rfl,l02⟩
instance:Inhabited Cell:=⟨(0,0)⟩
theorem swo_num (n:Cell->Int):Go.Sort.SWO (Go.Proofs.ltOf fun a b=>n a-n b):=by
 refine ⟨fun x=>?_,fun x y z h1 h2=>?_,fun x y z h1 h2=>?_⟩<;>simp only [Go.Proofs.ltOf,decide_eq_true_eq,decide_eq_false_iff_not]at * <;> omega
def jv (w k:Nat) (f:Nat->Nat->Int) (m:Move):List Cell:=if wayB w k f m=true then kq w k (wayL m)else []
theorem S8 {G h:Hp} {g:Value} {w k:Nat} {f:Nat->Nat->Int} {m:Move} (gs:GS G h g w k f) (st:j9 G) (mb:MB m):aj P_ G 90 #[g,Cg m] h (fun u h'=>∃ip,Slc cj 28 ip u (jv w k f m)/\HL.Sep [ip,h] h'/\Dis G h'):=by
 obtain ⟨gp,kb,hgp,_⟩:=gs.ex
 subst hgp
 refine aj.assume fun d=>enter90 (by simp) ?_
 unfold S90
 simp only [wu]
 intro x hx gx
 generalize e1:Hp.set h x _=h1
 obtain ⟨l1,d1,b1⟩:=boxed e1 hx d gx
 intro y hy gy
 generalize e2:Hp.set h1 y _=h2
 obtain ⟨l2,d2,b2⟩:=boxed e2 hy d1 gy
 have cx:∀j,aa G h2 ⟨x,j,none⟩=_:=fun j=>ai (ag (l2 _ _ b1))
 have cy:∀j,aa G h2 ⟨y,j,none⟩=_:=fun j=>ai (ag b2)
 have l02:=l1.trans l2
 have gs2:=gs.up l02 d2
 try simp only [wu,cx,cy]
 refine (P0 (m:=m) gs2 st mb).mono ?_
 rintro _ h3 ⟨ip,v,L,rfl,o,s3,d3,hL⟩
 try simp only [wu]
 cases hw:wayB w k f m with
 |false=>
  try simp only [wu]
  refine ⟨noHp,?_,(s3.drop.cut l02).none,d3⟩
  unfold jv
  rw [hw]
  exact Slc.nil
 |true=>
  obtain rfl:=hL hw
  obtain ⟨wl,wn⟩:=way_len hw
  try simp only [wu]
  unfold ax1
  obtain ⟨ob,o'⟩:=o
  cases ob with
  |none=>exact absurd o'.2 wn
  |some b=>
  obtain ⟨cap,t,rfl,hb,hbl⟩:=o'
  try simp (disch:=decide) only [wu]
  have hx3:h2 x=some _:=l2 _ _ b1
  refine aj.mono (f:=134) (Y5 (ρ:=Ac) Y6 cj (by decide) Tryz.isAgg28 Tryz.sizeOf28 (swo_num (numI w k)) (g:=135) (cb:=#[.pointer (some ⟨x,0,none⟩)])
   (enters_of Tryz.func135 (by kernel_rfl) rfl) s3 d3 hb (fun p q h' s' d'=>C0 (a:=p) (b:=q) (fun j=>by rw [ai (ag (s'.in 0 rfl _ _ hx3))]) (gs2.up (s'.in 0 rfl) d')) (by omega)) ?_
  rintro _ h4 ⟨rfl,S,hp,hs,rfl⟩
  have s4:=s3.put (o := .cells (cj.rows S++t).toArray 28 (0,0)) hb
  have d4:=d3.set (o := .cells (cj.rows S++t).toArray 28 (0,0)) (d3 _ _ (s3.at 0 rfl hb))
  have hlS:S.length=(wayL m).length:=hp.length_eq
  have o4:Slc cj 28 (ip.set b (.cells (cj.rows S++t).toArray 28 (0,0))) (.slice (some ⟨b,0,none⟩) (wayL m).length cap) S:=⟨some b,cap,t,by rw [hlS],af,by rw [<- hbl,List.length_append,List.length_append,cj.rows_length,cj.rows_length,hlS]⟩
  generalize Hp.set h3 b _=h4 at s4 d4 ⊢
  generalize Hp.set ip b _=ip4 at s4 o4
  try simp (disch:=first|decide|omega) only [wu,Nat.reduceAdd,Nat.reduceMul]
  refine (Ot s4 o4 (by omega)).mono ?_
  rintro u5 h5 ⟨a5,o5,s5,d5⟩
  try simp (disch:=first|decide|omega) only [wu,Nat.reduceAdd,Nat.reduceMul]
  refine ⟨a5,?_,((s5.pick 1 rfl rfl).cut l02).pick 1 rfl rfl,d5⟩
  have hin:=way_in hw
  have e:=Kf (w:=w) (k:=k) (W:=wayL m) (S:=S) (by have:=gs.w1;omega) (fun c hc=>in_bd (hin c hc)) hp (hs.imp_of_mem fun {a b} ha hb h=>by
   rw [Vx (hin a (hp.mem_iff.1 ha)),Vx (hin b (hp.mem_iff.1 hb))]at h
   omega)
  unfold jv
  rw [hw,if_pos rfl,<- e]
  exact o5
end Go.Proofs.YtfflipnhffknnaaGreatDoor
end
section
namespace Go.Proofs.Srch
open Go.Proofs.Resv
section
variable {P M:Type} [DecidableEq P]
inductive Rc (E:Env P M) (p0:P) (t0:Int):P->Nat->Int->Prop where
 |start {i:Nat} (h:inside (E.spans p0) t0=some i):Rc E p0 t0 p0 i t0
 |step {p:P} {i j:Nat} {t b:Int} {s0 s:Sp} {w:M × P × Int × List Sp} (h:Rc E p0 t0 p i t) (h0:(E.spans p)[i]?=some s0) (hw:w∈E.ways p) (hs:s∈w.2.2.2) (h1:s0.1<=s.1) (h2:s.2<=s0.2)
  (hb:t<=b) (hb2:s.1<=b) (he:sumI b w.2.2.1<=s.2) (he2:sumI b w.2.2.1<FV) (hj:inside (E.spans w.2.1) (sumI b w.2.2.1)=some j):Rc E p0 t0 w.2.1 j (sumI b w.2.2.1)
structure Bz (E:Env P M):Prop where
 ris:∀p,Ris (E.spans p)
 wris:∀p,∀w∈E.ways p,Ris w.2.2.2
 sub:∀p,∀w∈E.ways p,∀s∈w.2.2.2,∃s'∈E.spans w.2.1,s'.1<=s.1/\s.2<=s'.2
variable {E:Env P M}
theorem D4 {l:List Sp} (h:Ris l) {t:Int} {i:Nat} {s:Sp} (hs:l[i]?=some s) (h1:s.1<=t) (h2:t<s.2):inside l t=some i:=by
 unfold inside
 rw [List.findIdx?_eq_some_iff_getElem]
 obtain ⟨hi,rfl⟩:=List.getElem?_eq_some_iff.1 hs
 refine ⟨hi,by simp [insB,h1,h2],fun j hj=>?_⟩
 have:=List.pairwise_iff_getElem.1 h.pw j i (by omega) hi hj
 simp [insB]
 intro _
 omega
theorem ris_one {l:List Sp} (h:Ris l) {i j:Nat} {s u:Sp} (hs:l[i]?=some s) (hu:l[j]?=some u) {t:Int} (h1:s.1<=t) (h2:t<=s.2) (h3:u.1<=t) (h4:t<=u.2):i=j:=by
 obtain ⟨hi,rfl⟩:=List.getElem?_eq_some_iff.1 hs
 obtain ⟨hj,rfl⟩:=List.getElem?_eq_some_iff.1 hu
 rcases Nat.lt_trichotomy i j with h5|h5|h5
 . have:=List.pairwise_iff_getElem.1 h.pw i j hi hj h5;omega
 . exact h5
 . have:=List.pairwise_iff_getElem.1 h.pw j i hj hi h5;omega
theorem ad3 {a b d:Int} (h:a<=b):sumI a d<=sumI b d:=by
 unfold sumI cutI FV
 split<;>split<;>omega
theorem T5 (r:Bz E) {p:P} {w:M × P × Int × List Sp} (hw:w∈E.ways p) {s:Sp} (hs:s∈w.2.2.2) {e e':Int} {j:Nat} (hj:inside (E.spans w.2.1) e=some j) (h1:s.1<=e') (h2:e'<=e) (h3:e<=s.2):inside (E.spans w.2.1) e'=some j:=by
 obtain ⟨s',hs',h4,h5⟩:=r.sub p w hw s hs
 obtain ⟨i,hi,rfl⟩:=List.getElem_of_mem hs'
 obtain ⟨u,hu,h6,h7,_⟩:=E4 hj
 have:=ris_one (r.ris w.2.1) (List.getElem?_eq_getElem hi) hu (t:=e) (by omega) (by omega) h6 (by omega)
 subst this
 rw [List.getElem?_eq_getElem hi]at hu
 cases hu
 exact D4 (r.ris w.2.1) (List.getElem?_eq_getElem hi) (by omega) (by omega)
def Up (S S':List (St P M)):Prop:=∀x∈S,∃x'∈S',x'.p=x.p/\x'.i=x.i/\x'.a<=x.a/\(x.dn=true->x'=x)
theorem Up.refl (S:List (St P M)):Up S S:=fun x hx=>⟨x,hx,rfl,rfl,Int.le_refl _,fun _=>rfl⟩
theorem Up.trans {S S' S'':List (St P M)} (a:Up S S') (b:Up S' S''):Up S S'':=fun x hx=>by
 obtain ⟨y,hy,e1,e2,e3,e4⟩:=a x hx
 obtain ⟨z,hz,f1,f2,f3,f4⟩:=b y hy
 refine ⟨z,hz,f1.trans e1,f2.trans e2,by omega,fun hd=>?_⟩
 have:=e4 hd;subst this
 exact f4 hd
theorem Ny {p0:P} {t0 lo:Int} {z:M} {S:List (St P M)} (v:Inv E p0 t0 z lo S) {p:P} {t:Int} {m:M} {b:Int} (hlo:lo<=t):Up S (note E S p t m b)/\∀x∈note E S p t m b,x.dn=true->x∈S:=by
 unfold note
 split
 . unfold wh
   split
   . rename_i k hk
     obtain ⟨x,hx,e1,e2⟩:=ru hk
     simp only [hx]
     split
     . rename_i hlt
       have hkl:k<S.length:=(List.getElem?_eq_some_iff.1 hx).1
       have hxe:S[k]=x:=(List.getElem?_eq_some_iff.1 hx).2
       have hnd:x.dn=false:=by
        cases hd:x.dn with
        |false=>rfl
        |true=>have:=v.dn x (List.mem_of_getElem? hx) hd;omega
       refine ⟨fun y hy=>?_,fun y hy hd=>?_⟩
       . obtain ⟨j,hj,rfl⟩:=List.getElem_of_mem hy
         by_cases hjk:j=k
         . subst hjk
           rw [hxe]
           refine ⟨{ x with a:=t,mv:=m,b:=b },List.mem_of_getElem? (i:=j) (by rw [List.getElem?_set_self hkl]),rfl,rfl,Int.le_of_lt hlt,fun hd=>?_⟩
           rw [hnd]at hd;cases hd
         . exact ⟨_,List.mem_of_getElem? (by rw [List.getElem?_set_ne (Ne.symm hjk)];exact List.getElem?_eq_getElem hj),rfl,rfl,Int.le_refl _,fun _=>rfl⟩
       . rcases List.mem_or_eq_of_mem_set hy with h|rfl
         . exact h
         . rw [hnd]at hd;cases hd
     . exact ⟨.refl _,fun _ h _=>h⟩
   . refine ⟨fun y hy=>⟨y,List.mem_append_left _ hy,rfl,rfl,Int.le_refl _,fun _=>rfl⟩,fun y hy hd=>?_⟩
     rcases List.mem_append.1 hy with h|h
     . exact h
     . rw [List.mem_singleton]at h;subst h;cases hd
 . exact ⟨.refl _,fun _ h _=>h⟩
theorem Q6 {S:List (St P M)} {p:P} {t:Int} {m:M} {b:Int} {j:Nat} (hj:inside (E.spans p) t=some j):∃y∈note E S p t m b,y.p=p/\y.i=j/\y.a<=t:=by
 unfold note
 rw [hj]
 simp only
 unfold wh
 cases hk:key S p j with
 |none=>exact ⟨_,List.mem_append_right _ (.head _),rfl,rfl,Int.le_refl _⟩
 |some k=>
  obtain ⟨x,hx,e1,e2⟩:=ru hk
  have hkl:k<S.length:=(List.getElem?_eq_some_iff.1 hx).1
  simp only [hx]
  split
  . exact ⟨{ x with a:=t,mv:=m,b:=b },List.mem_of_getElem? (i:=k) (by rw [List.getElem?_set_self hkl]),e1,e2,Int.le_refl _⟩
  . exact ⟨x,List.mem_of_getElem? hx,e1,e2,by omega⟩
def J1 (E:Env P M) (S:List (St P M)) (x:St P M) (w:M × P × Int × List Sp) (s:Sp):Prop:=
 x.s.1<=s.1->s.2<=x.s.2->sumI (max x.a s.1) w.2.2.1<=s.2->sumI (max x.a s.1) w.2.2.1<FV->∀j,inside (E.spans w.2.1) (sumI (max x.a s.1) w.2.2.1)=some j->∃y∈S,y.p=w.2.1/\y.i=j/\y.a<=sumI (max x.a s.1) w.2.2.1
theorem J1.up {S S':List (St P M)} {x:St P M} {w:M × P × Int × List Sp} {s:Sp} (n:J1 E S x w s) (u:Up S S'):J1 E S' x w s:=fun h1 h2 h3 h4 j hj=>by
 obtain ⟨y,hy,e1,e2,e3⟩:=n h1 h2 h3 h4 j hj
 obtain ⟨z,hz,f1,f2,f3,_⟩:=u y hy
 exact ⟨z,hz,f1.trans e1,f2.trans e2,by omega⟩
structure Cl (E:Env P M) (p0:P) (t0:Int) (S:List (St P M)):Prop where
 start:∀i,inside (E.spans p0) t0=some i->∃x∈S,x.p=p0/\x.i=i/\x.a<=t0
 closed:∀x∈S,x.dn=true->∀w∈E.ways x.p,∀s∈w.2.2.2,J1 E S x w s
theorem step_up (ok:px E) {p0:P} {t0:Int} {z:M} {S:List (St P M)} {x:St P M} {k:Nat} (v:Inv E p0 t0 z x.a S) (ha:0<=x.a) {w:M × P × Int × List Sp} (hw:w∈E.ways x.p) {s:Sp}:
 Up S (ic E x k w S s)/\(∀y∈ic E x k w S s,y.dn=true->y∈S)/\J1 E (ic E x k w S s) x w s:=by
 unfold ic
 split
 . rename_i h;exact ⟨.refl _,fun _ h _=>h,fun h1 h2=>by omega⟩
 . split
   . rename_i h;exact ⟨.refl _,fun _ h _=>h,fun h1 h2 h3 h4=>by omega⟩
   . rename_i h1 h2
     have h4:=Gk (show 0<=max x.a s.1 by omega) (ok.lasts _ w hw).1 (by omega)
     have:=Ny v (p:=w.2.1) (t:=sumI (max x.a s.1) w.2.2.1) (m:=E.stamp w.1 (max x.a s.1) (sumI (max x.a s.1) w.2.2.1)) (b:=k) (by omega)
     exact ⟨this.1,this.2,fun _ _ _ _ j hj=>Q6 hj⟩
theorem ac7 (ok:px E) {p0:P} {t0:Int} {z:M} {x:St P M} {k:Nat} (hd:x.dn=true) (ha:0<=x.a) (hox:E.ok x.p) {w:M × P × Int × List Sp} (hw:w∈E.ways x.p):∀(l:List Sp) {S:List (St P M)},(∀s∈l,s∈w.2.2.2)->Inv E p0 t0 z x.a S->S[k]?=some x->
 Up S (l.foldl (ic E x k w) S)/\(∀y∈l.foldl (ic E x k w) S,y.dn=true->y∈S)/\∀s∈l,J1 E (l.foldl (ic E x k w) S) x w s
 |[],S,_,v,hx=>⟨.refl _,fun _ h _=>h,fun _ h=>by cases h⟩
 |s::l,S,hl,v,hx=>by
  obtain ⟨v1,h1⟩:=Gm ok v hx hd ha hox hw (hl s (.head _))
  obtain ⟨u1,d1,n1⟩:=step_up ok (k:=k) v ha hw (s:=s)
  obtain ⟨u2,d2,n2⟩:=ac7 ok hd ha hox hw l (fun s hs=>hl s (.tail _ hs)) v1 h1
  refine ⟨u1.trans u2,fun y hy hyd=>d1 y (d2 y hy hyd) hyd,fun u hu=>?_⟩
  rcases List.mem_cons.1 hu with rfl|hu
  . exact n1.up u2
  . exact n2 u hu
theorem Vf (ok:px E) {p0:P} {t0:Int} {z:M} {x:St P M} {k:Nat} (hd:x.dn=true) (ha:0<=x.a) (hox:E.ok x.p):∀(l:List (M × P × Int × List Sp)) {S:List (St P M)},(∀w∈l,w∈E.ways x.p)->Inv E p0 t0 z x.a S->S[k]?=some x->
 Up S (l.foldl (rx E x k) S)/\(∀y∈l.foldl (rx E x k) S,y.dn=true->y∈S)/\∀w∈l,∀s∈w.2.2.2,J1 E (l.foldl (rx E x k) S) x w s
 |[],S,_,v,hx=>⟨.refl _,fun _ h _=>h,fun _ h=>by cases h⟩
 |w::l,S,hl,v,hx=>by
  obtain ⟨v1,h1⟩:=Ng ok hd ha hox (hl w (.head _)) w.2.2.2 (fun _ h=>h) v hx
  obtain ⟨u1,d1,n1⟩:=ac7 ok (k:=k) hd ha hox (hl w (.head _)) w.2.2.2 (fun _ h=>h) v hx
  obtain ⟨u2,d2,n2⟩:=Vf ok hd ha hox l (fun w hw=>hl w (.tail _ hw)) v1 h1
  refine ⟨u1.trans u2,fun y hy hyd=>d1 y (d2 y hy hyd) hyd,fun u hu=>?_⟩
  rcases List.mem_cons.1 hu with rfl|hu
  . exact fun s hs=>(n1 s hs).up u2
  . exact n2 u hu
theorem take_up {S:List (St P M)} {k:Nat} {x:St P M} (hx:S[k]?=some x) (hnd:x.dn=false):(∀y∈S,∃y'∈take S k x,y'.p=y.p/\y'.i=y.i/\y'.a<=y.a)/\∀y∈take S k x,y.dn=true->y∈S\/y={ x with dn:=true }:=by
 have hkl:k<S.length:=(List.getElem?_eq_some_iff.1 hx).1
 have hxe:S[k]=x:=(List.getElem?_eq_some_iff.1 hx).2
 unfold take
 refine ⟨fun y hy=>?_,fun y hy hd=>?_⟩
 . obtain ⟨j,hj,rfl⟩:=List.getElem_of_mem hy
   by_cases hjk:j=k
   . subst hjk
     rw [hxe]
     exact ⟨{ x with dn:=true },List.mem_of_getElem? (i:=j) (by rw [List.getElem?_set_self hkl]),rfl,rfl,Int.le_refl _⟩
   . exact ⟨_,List.mem_of_getElem? (by rw [List.getElem?_set_ne (Ne.symm hjk)];exact List.getElem?_eq_getElem hj),rfl,rfl,Int.le_refl _⟩
 . rcases List.mem_or_eq_of_mem_set hy with h|h
   . exact .inl h
   . exact .inr h
theorem ae5 (ok:px E) {p0:P} {t0 lo:Int} {z:M} {S:List (St P M)} (v:Inv E p0 t0 z lo S) (c:Cl E p0 t0 S) {k:Nat} {x:St P M} (h:least E S=some (k,x)):
 Inv E p0 t0 z x.a (yp E { x with dn:=true } k (take S k x))/\Cl E p0 t0 (yp E { x with dn:=true } k (take S k x))/\
  (∀y∈yp E { x with dn:=true } k (take S k x),y.dn=true->y∈S\/y={ x with dn:=true }):=by
 obtain ⟨hx,hnd,_⟩:=rt h
 have hxm:=List.mem_of_getElem? hx
 obtain ⟨v1,h1⟩:=Gg v h
 have ha:0<=x.a:=by
  obtain ⟨e1,e2,e3⟩:=v.at_ x hxm
  have:=ok.pos x.p x.s (List.mem_of_getElem? e1)
  omega
 have hox:=v.ok x hxm
 obtain ⟨v2,_⟩:=Gc ok (x:={ x with dn:=true }) rfl ha hox (E.ways x.p) (fun _ h=>h) v1 h1
 obtain ⟨u2,d2,n2⟩:=Vf ok (x:={ x with dn:=true }) rfl ha hox (E.ways x.p) (fun _ h=>h) v1 h1
 obtain ⟨u1,d1⟩:=take_up hx hnd
 refine ⟨v2,⟨fun i hi=>?_,fun y hy hd w hw s hs=>?_⟩,fun y hy hd=>d1 y (d2 y hy hd) hd⟩
 . obtain ⟨y,hy,e1,e2,e3⟩:=c.start i hi
   obtain ⟨y1,hy1,f1,f2,f3⟩:=u1 y hy
   obtain ⟨y2,hy2,g1,g2,g3,_⟩:=u2 y1 hy1
   exact ⟨y2,hy2,by rw [g1,f1,e1],by rw [g2,f2,e2],by omega⟩
 . rcases d1 y (d2 y hy hd) hd with h3|rfl
   . intro q1 q2 q3 q4 j hj
     obtain ⟨u,hu,e1,e2,e3⟩:=c.closed y h3 hd w hw s hs q1 q2 q3 q4 j hj
     obtain ⟨y1,hy1,f1,f2,f3⟩:=u1 u hu
     obtain ⟨y2,hy2,g1,g2,g3,_⟩:=u2 y1 hy1
     exact ⟨y2,hy2,by rw [g1,f1,e1],by rw [g2,f2,e2],by omega⟩
   . exact n2 w hw s hs
theorem Qu (ok:px E) (r:Bz E) {p0:P} {t0 lo:Int} {z:M} {S:List (St P M)} (v:Inv E p0 t0 z lo S) (c:Cl E p0 t0 S) {p:P} {i:Nat} {t:Int} (h:Rc E p0 t0 p i t):
 (∃x∈S,x.p=p/\x.i=i/\x.dn=true/\x.a<=t)\/∃y∈S,y.dn=false/\y.a<=t:=by
 induction h with
 |@start i h=>
  obtain ⟨x,hx,e1,e2,e3⟩:=c.start i h
  cases hd:x.dn with
  |true=>exact .inl ⟨x,hx,e1,e2,hd,e3⟩
  |false=>exact .inr ⟨x,hx,hd,e3⟩
 |@step p i j t b s0 s w h h0 hw hs h1 h2 hb hb2 he he2 hj ih=>
  have hb0:0<=b:=by have:=(r.wris p w hw).bd s hs;omega
  have hlt:=Gk hb0 (ok.lasts _ w hw).1 he2
  rcases ih with ⟨x,hx,rfl,rfl,hd,e3⟩|⟨y,hy,hd,e⟩
  . have hxs:x.s=s0:=by have:=(v.at_ x hx).1;rw [h0]at this;exact (Option.some.inj this).symm
    have hm:sumI (max x.a s.1) w.2.2.1<=sumI b w.2.2.1:=ad3 (by omega)
    have hx0:0<=max x.a s.1:=by have:=(r.wris _ w hw).bd s hs;omega
    have hlt2:=Gk hx0 (ok.lasts _ w hw).1 (show sumI (max x.a s.1) w.2.2.1<FV by omega)
    have hj':=T5 r hw hs hj (e':=sumI (max x.a s.1) w.2.2.1) (by omega) hm he
    obtain ⟨y,hy,f1,f2,f3⟩:=c.closed x hx hd w hw s hs (by rw [hxs];exact h1) (by rw [hxs];exact h2) (by omega) (by omega) j hj'
    cases hd2:y.dn with
    |true=>exact .inl ⟨y,hy,f1,f2,hd2,by omega⟩
    |false=>exact .inr ⟨y,hy,hd2,by omega⟩
  . exact .inr ⟨y,hy,hd,by omega⟩
theorem Vn (ok:px E) (r:Bz E) {p0:P} {t0:Int} {z:M} {goal:P->Sp->Bool}:∀(n:Nat) {lo:Int} {S:List (St P M)},Inv E p0 t0 z lo S->Cl E p0 t0 S->(∀x∈S,x.dn=true->goal x.p x.s=false)->
 (∃lo' S' k x f,run E goal n S = .ok (path S' f k [])/\S'.length=f/\Inv E p0 t0 z lo' S'/\S'[k]?=some x/\goal x.p x.s=true/\∀p i t s,Rc E p0 t0 p i t->(E.spans p)[i]?=some s->goal p s=true->x.a<=t)\/
 (run E goal n S = .no 6/\∀p i t s,Rc E p0 t0 p i t->(E.spans p)[i]?=some s->goal p s=false)\/run E goal n S = .no 7
 |0,lo,S,v,c,g => .inr (.inr rfl)
 |n+1,lo,S,v,c,g=>by
  unfold run
  cases h:least E S with
  |none=>
   refine .inr (.inl ⟨rfl,fun p i t s hr hs=>?_⟩)
   have hall:=Ha h
   rcases Qu ok r v c hr with ⟨x,hx,rfl,rfl,hd,_⟩|⟨y,hy,hd,_⟩
   . have:=(v.at_ x hx).1
     rw [hs]at this
     rw [Option.some.inj this]
     exact g x hx hd
   . rw [hall y hy]at hd;cases hd
  |some q=>
   obtain ⟨k,x⟩:=q
   simp only
   obtain ⟨hx,hnd,hmin⟩:=rt h
   by_cases hg:goal x.p x.s=true
   . rw [if_pos hg]
     obtain ⟨v1,h1⟩:=Gg v h
     refine .inl ⟨_,take S k x,k,_,S.length,rfl,by simp [take],v1,h1,hg,fun p i t s hr hs hgs=>?_⟩
     rcases Qu ok r v c hr with ⟨y,hy,rfl,rfl,hd,_⟩|⟨y,hy,hd,hle⟩
     . have:=(v.at_ y hy).1
       rw [hs]at this
       rw [Option.some.inj this,g y hy hd]at hgs
       cases hgs
     . have:=hmin y hy hd
       unfold ltK at this
       simp only [decide_eq_false_iff_not]at this
       simp only
       omega
   . rw [if_neg hg]
     obtain ⟨v2,c2,d2⟩:=ae5 ok v c h
     rcases Vn ok r n v2 c2 (fun y hy hd=>by
      rcases d2 y hy hd with h3|rfl
      . exact g y h3 hd
      . simpa using hg)with h|h|h
     . exact .inl h
     . exact .inr (.inl h)
     . exact .inr (.inr h)
theorem Y2 (ok:px E) {p0:P} {t0:Int} {z:M} (hok:E.ok p0):Inv E p0 t0 z t0 (note E [] p0 t0 z (-1))/\Cl E p0 t0 (note E [] p0 t0 z (-1))/\∀x∈note E [] p0 t0 z (-1),x.dn=false:=by
 refine ⟨G7 (Inv.start _ _ _ _) (Int.le_refl _) hok (.inl ⟨rfl,rfl,rfl,rfl⟩),⟨fun i hi=>Q6 hi,fun x hx hd=>?_⟩,fun x hx=>?_⟩
 . have:=(Ny (Inv.start (E:=E) p0 t0 z t0) (p:=p0) (t:=t0) (m:=z) (b := -1) (Int.le_refl _)).2 x hx hd
   cases this
 . cases hd:x.dn with
   |false=>rfl
   |true=>
    have:=(Ny (Inv.start (E:=E) p0 t0 z t0) (p:=p0) (t:=t0) (m:=z) (b := -1) (Int.le_refl _)).2 x hx hd
    cases this
theorem ak2 (ok:px E) (r:Bz E) {p0:P} {t0:Int} {z:M} {goal:P->Sp->Bool} (hok:E.ok p0) (n:Nat):
 (find E goal p0 t0 z n = .no 18/\inside (E.spans p0) t0=none)\/((inside (E.spans p0) t0).isSome=true/\
 ((∃lo' S' k x,find E goal p0 t0 z n = .ok (path S' S'.length k [])/\Inv E p0 t0 z lo' S'/\S'[k]?=some x/\goal x.p x.s=true/\∀p i t s,Rc E p0 t0 p i t->(E.spans p)[i]?=some s->goal p s=true->x.a<=t)\/
 (find E goal p0 t0 z n = .no 6/\∀p i t s,Rc E p0 t0 p i t->(E.spans p)[i]?=some s->goal p s=false)\/find E goal p0 t0 z n = .no 7)):=by
 unfold find
 cases h:inside (E.spans p0) t0 with
 |none=>exact .inl ⟨rfl,rfl⟩
 |some i=>
  refine .inr ⟨rfl,?_⟩
  obtain ⟨v,c,d⟩:=Y2 ok (t0:=t0) (z:=z) hok
  rcases Vn ok r (goal:=goal) n v c (fun x hx hd=>by rw [d x hx]at hd;cases hd)with ⟨lo',S',k,x,f,h1,rfl,h2⟩|h|h
  . exact .inl ⟨lo',S',k,x,h1,h2⟩
  . exact .inr (.inl h)
  . exact .inr (.inr h)
end
end Go.Proofs.Srch
end
section
namespace Go.Proofs.Wt
structure It where
 k:Int
 m:Int
 s:Int
 n:Int
def It.b4 (x y:It):Bool:=decide (x.k<y.k\/(x.k=y.k/\(x.m<y.m\/(x.m=y.m/\x.s<y.s))))
def It.lt (x y:It):Bool:=if x.b4 y=true then true else if y.b4 x=true then false else decide (x.n<y.n)
def nl (L:List It) (i j:Nat):List It:=match L[i]?,L[j]? with
 |some x,some y=>(L.set i y).set j x
 |_,_=>L
theorem dj (L:List It) (i j:Nat):(nl L i j).length=L.length:=by
 unfold nl
 split<;>simp
def qr (L:List It) (i j:Nat):Bool:=match L[i]?,L[j]? with
 |some x,some y=>x.lt y
 |_,_=>false
def jw (L:List It) (i:Nat):List It:=if h:0<i/\qr L i ((i-1) / 2)=true then jw (nl L i ((i-1) / 2)) ((i-1) / 2)else L
 termination_by i
 decreasing_by omega
theorem tw (L:List It) (i:Nat):(jw L i).length=L.length:=by
 induction i using Nat.strongRecOn generalizing L with
 |_ i ih=>
  rw [jw]
  split
  . rw [ih _ (by omega),dj]
  . rfl
def ij (L:List It) (first k:Nat):Nat:=if k<L.length/\qr L k first=true then k else first
def lj (L:List It) (i:Nat):Nat:=ij L (ij L i (2*i+1)) (2*i+2)
theorem zl (L:List It) (f k:Nat):ij L f k=f\/(ij L f k=k/\k<L.length):=by
 unfold ij
 split
 . rename_i h;exact .inr ⟨rfl,h.1⟩
 . exact .inl rfl
theorem m9 (L:List It) (i:Nat):lj L i=i\/(i<lj L i/\lj L i<L.length):=by
 unfold lj
 rcases zl L (ij L i (2*i+1)) (2*i+2)with h|⟨h,h2⟩
 . rw [h]
   rcases zl L i (2*i+1)with h|⟨h,h2⟩
   . exact .inl h
   . rw [h];exact .inr ⟨by omega,h2⟩
 . rw [h];exact .inr ⟨by omega,h2⟩
def i8 (L:List It) (i:Nat):List It:=if h:lj L i=i then L else i8 (nl L i (lj L i)) (lj L i)
 termination_by L.length-i
 decreasing_by
 rw [dj]
 have:=(m9 L i).resolve_left h
 omega
theorem we (L:List It) (i:Nat):(i8 L i).length=L.length:=by
 have key:∀m L i,L.length-i<=m->(i8 L i).length=L.length:=by
  intro m
  induction m with
  |zero=>
   intro L i hm
   rw [i8]
   split
   . rfl
   . rename_i h;have:=(m9 L i).resolve_left h;omega
  |succ m ih=>
   intro L i hm
   rw [i8]
   split
   . rfl
   . rename_i h
     have:=(m9 L i).resolve_left h
     rw [ih _ _ (by rw [dj];omega),dj]
 exact key _ L i (Nat.le_refl _)
def popL (L:List It):List It:=i8 ((nl L 0 (L.length-1)).dropLast) 0
theorem yd (L:List It):(popL L).length=L.length-1:=by
 unfold popL
 rw [we,List.length_dropLast,dj]
theorem ai5 (L:List It) (x:It) (h:L≠[]):L.set (L.length-1) x=L.dropLast++[x]:=by
 rw [List.set_eq_take_append_cons_drop,if_pos (by have:=List.length_pos_iff.2 h;omega),List.dropLast_eq_take]
 have:0<L.length:=List.length_pos_iff.2 h
 rw [show L.length-1+1=L.length by omega,List.drop_length]
theorem ai1 {x y:It}:x.lt y=true↔x.k<y.k\/(x.k=y.k/\(x.m<y.m\/(x.m=y.m/\(x.s<y.s\/(x.s=y.s/\x.n<y.n))))):=by
 unfold It.lt It.b4
 simp only [decide_eq_true_eq]
 split
 . simp;omega
 . split
   . simp;omega
   . simp;omega
def It.le (x y:It):Prop:=y.lt x=false
theorem N6 {x y:It}:x.le y↔x.k<y.k\/(x.k=y.k/\(x.m<y.m\/(x.m=y.m/\(x.s<y.s\/(x.s=y.s/\x.n<=y.n))))):=by
 unfold It.le
 rw [Bool.eq_false_iff,ne_eq,ai1]
 omega
theorem It.le.trans {x y z:It} (a:x.le y) (b:y.le z):x.le z:=by
 rw [N6]at *;omega
theorem It.le.refl (x:It):x.le x:=by rw [N6];omega
theorem le_of_lt {x y:It} (a:x.lt y=true):x.le y:=by rw [N6];rw [ai1]at a;omega
def at_ (L:List It) (i:Nat):It:=L.getD i ⟨0,0,0,0⟩
theorem O0 {L:List It} {i:Nat} (h:i<L.length):L[i]?=some (at_ L i):=by
 unfold at_
 rw [List.getD_eq_getElem?_getD,List.getElem?_eq_getElem h]
 rfl
theorem Db {L:List It} {i j:Nat} (hi:i<L.length) (hj:j<L.length):qr L i j=(at_ L i).lt (at_ L j):=by
 simp [qr,O0 hi,O0 hj]
theorem pi {L:List It} {i j:Nat} (hi:i<L.length) (hj:j<L.length) (k:Nat):at_ (nl L i j) k=if k=j then at_ L i else if k=i then at_ L j else at_ L k:=by
 unfold nl
 rw [O0 hi,O0 hj]
 simp only
 unfold at_
 simp only [List.getD_eq_getElem?_getD]
 by_cases h1:k=j
 . subst h1;rw [if_pos rfl,List.getElem?_set_self (by simpa using hj)];rfl
 . rw [if_neg h1,List.getElem?_set_ne (Ne.symm h1)]
   by_cases h2:k=i
   . subst h2;rw [if_pos rfl,List.getElem?_set_self hi];rfl
   . rw [if_neg h2,List.getElem?_set_ne (Ne.symm h2)]
theorem Dt (L:List It) (i j:Nat):(nl L i j).Perm L:=by
 unfold nl
 split
 . rename_i x y hx hy
   obtain ⟨hi,rfl⟩:=List.getElem?_eq_some_iff.1 hx
   obtain ⟨hj,rfl⟩:=List.getElem?_eq_some_iff.1 hy
   exact List.set_set_perm hi hj
 . exact .refl _
def vk (L:List It):Prop:=∀j,0<j->j<L.length->(at_ L ((j-1) / 2)).le (at_ L j)
def upOk (L:List It) (i:Nat):Prop:=(∀j,0<j->j<L.length->j≠i->(at_ L ((j-1) / 2)).le (at_ L j))/\
 (∀j,0<j->j<L.length->(j-1) / 2=i->0<i->(at_ L ((i-1) / 2)).le (at_ L j))
theorem Y7:∀(i:Nat) (L:List It),i<L.length->upOk L i->vk (jw L i):=by
 intro i
 induction i using Nat.strongRecOn with
 |_ i ih=>
  intro L hi ⟨h1,h2⟩
  rw [jw]
  split
  . rename_i h
    obtain ⟨h0,ha⟩:=h
    have hp:(i-1) / 2<L.length:=by omega
    rw [Db hi hp]at ha
    refine ih _ (by omega) _ (by rw [dj];exact hp) ⟨?_,?_⟩
    . intro j j0 jl jne
      rw [dj]at jl
      rw [pi hi hp,pi hi hp]
      by_cases e1:j=i
      . subst e1
        rw [if_pos rfl,if_neg jne,if_pos rfl]
        exact le_of_lt ha
      . rw [if_neg jne,if_neg e1]
        by_cases e2:(j-1) / 2=(i-1) / 2
        . rw [if_pos e2]
          have:=h1 j j0 jl e1
          rw [e2]at this
          exact (le_of_lt ha).trans this
        . rw [if_neg e2]
          by_cases e3:(j-1) / 2=i
          . rw [if_pos e3]
            exact h2 j j0 jl e3 h0
          . rw [if_neg e3]
            exact h1 j j0 jl e1
    . intro j j0 jl jp p0
      rw [dj]at jl
      rw [pi hi hp,pi hi hp]
      rw [if_neg (by omega),if_neg (by omega),if_neg (by omega)]
      by_cases e1:j=i
      . rw [if_pos e1]
        exact h1 _ p0 hp (by omega)
      . rw [if_neg e1]
        have a1:=h1 j j0 jl e1
        rw [jp]at a1
        exact (h1 _ p0 hp (by omega)).trans a1
  . rename_i h
    intro j j0 jl
    by_cases e:j=i
    . subst e
      have:qr L j ((j-1) / 2)=false:=by
       cases ha:qr L j ((j-1) / 2)with
       |false=>rfl
       |true=>exact absurd ⟨j0,ha⟩ h
      rw [Db jl (by omega)]at this
      exact this
    . exact h1 j j0 jl e
theorem Qf (i:Nat):∀L:List It,(jw L i).Perm L:=by
 induction i using Nat.strongRecOn with
 |_ i ih=>
  intro L
  rw [jw]
  split
  . rename_i h
    exact (ih _ (by omega) _).trans (Dt _ _ _)
  . exact .refl _
def downOk (L:List It) (i:Nat):Prop:=(∀j,0<j->j<L.length->(j-1) / 2≠i->(at_ L ((j-1) / 2)).le (at_ L j))/\
 (∀j,0<j->j<L.length->(j-1) / 2=i->0<i->(at_ L ((i-1) / 2)).le (at_ L j))
theorem Vt {L:List It} {f k:Nat} (hf:f<L.length):(at_ L (ij L f k)).le (at_ L f)/\(k<L.length->(at_ L (ij L f k)).le (at_ L k)):=by
 unfold ij
 split
 . rename_i h
   rw [Db h.1 hf]at h
   exact ⟨le_of_lt h.2,fun _ => .refl _⟩
 . rename_i h
   refine ⟨.refl _,fun hk=>?_⟩
   have:qr L k f=false:=by
    cases ha:qr L k f with
    |false=>rfl
    |true=>exact absurd ⟨hk,ha⟩ h
   rw [Db hk hf]at this
   exact this
theorem Ub {L:List It} {i:Nat} (hi:i<L.length):(at_ L (lj L i)).le (at_ L i)/\∀j,0<j->j<L.length->(j-1) / 2=i->(at_ L (lj L i)).le (at_ L j):=by
 have h1:=Vt (L:=L) (f:=i) (k:=2*i+1) hi
 have hp:ij L i (2*i+1)<L.length:=by
  rcases zl L i (2*i+1)with h|⟨h,h'⟩<;>omega
 have h2:=Vt (L:=L) (f:=ij L i (2*i+1)) (k:=2*i+2) hp
 refine ⟨h2.1.trans h1.1,fun j j0 jl jp=>?_⟩
 rcases (show j=2*i+1\/j=2*i+2 by omega)with rfl|rfl
 . exact h2.1.trans (h1.2 jl)
 . exact h2.2 jl
theorem R5 {L:List It} {i:Nat} (h:lj L i≠i):(lj L i-1) / 2=i:=by
 unfold lj at*
 rcases zl L (ij L i (2*i+1)) (2*i+2)with e|⟨e,_⟩
 . rw [e]at h ⊢
   rcases zl L i (2*i+1)with e|⟨e,_⟩
   . exact absurd e h
   . rw [e];omega
 . rw [e];omega
theorem Qg:∀(m:Nat) (i:Nat) (L:List It),L.length-i<=m->i<L.length->downOk L i->vk (i8 L i):=by
 intro m
 induction m with
 |zero=>intro i L hm hi;omega
 |succ m ih=>
  intro i L hm hi ⟨h1,h2⟩
  have hle:=Ub hi
  rw [i8]
  split
  . rename_i h
    intro j j0 jl
    by_cases e:(j-1) / 2=i
    . rw [h]at hle
      rw [e]
      exact hle.2 j j0 jl e
    . exact h1 j j0 jl e
  . rename_i h
    obtain ⟨f1,f2⟩:=(m9 L i).resolve_left h
    have fp:=R5 h
    generalize lj L i=f at*
    refine ih f _ (by rw [dj];omega) (by rw [dj];exact f2) ⟨?_,?_⟩
    . intro j j0 jl jp
      rw [dj]at jl
      rw [pi hi f2,pi hi f2]
      by_cases e1:j=f
      . subst e1
        rw [if_pos rfl,if_neg jp,if_pos fp]
        exact hle.1
      . rw [if_neg jp,if_neg e1]
        by_cases e2:j=i
        . subst e2
          rw [if_pos rfl,if_neg (by omega)]
          exact h2 f (by omega) f2 fp j0
        . rw [if_neg e2]
          by_cases e3:(j-1) / 2=i
          . rw [if_pos e3]
            exact hle.2 j j0 jl e3
          . rw [if_neg e3]
            exact h1 j j0 jl e3
    . intro j j0 jl jp _
      rw [dj]at jl
      rw [pi hi f2,pi hi f2,fp]
      rw [if_neg (by omega),if_pos rfl,if_neg (by omega),if_neg (by omega)]
      have:=h1 j j0 jl (by omega)
      rwa [jp]at this
theorem J3:∀(m:Nat) (i:Nat) (L:List It),L.length-i<=m->(i8 L i).Perm L:=by
 intro m
 induction m with
 |zero=>
  intro i L hm
  rw [i8]
  split
  . exact .refl _
  . rename_i h;have:=(m9 L i).resolve_left h;omega
 |succ m ih=>
  intro i L hm
  rw [i8]
  split
  . exact .refl _
  . rename_i h
    have:=(m9 L i).resolve_left h
    exact (ih _ _ (by rw [dj];omega)).trans (Dt _ _ _)
theorem Z5 {L:List It} (h:vk L):∀j,j<L.length->(at_ L 0).le (at_ L j):=by
 intro j
 induction j using Nat.strongRecOn with
 |_ j ih=>
  intro hj
  by_cases j0:j=0
  . subst j0;exact .refl _
  . exact (ih _ (by omega) (by omega)).trans (h j (by omega) hj)
theorem yx {L M:List It} {j:Nat} (h:j<L.length):at_ (L++M) j=at_ L j:=by
 unfold at_
 simp only [List.getD_eq_getElem?_getD]
 rw [List.getElem?_append_left h]
theorem push_ok {L:List It} {x:It} (h:vk L):vk (jw (L++[x]) L.length)/\(jw (L++[x]) L.length).Perm (x::L):=by
 refine ⟨Y7 _ _ (by simp) ⟨fun j j0 jl jne=>?_,fun j j0 jl jp _=>?_⟩,(Qf _ _).trans (List.perm_append_singleton _ _)⟩
 . simp at jl
   rw [yx (by omega),yx (by omega)]
   exact h j j0 (by omega)
 . simp at jl
   omega
theorem Fe {L:List It} {j:Nat} (h:j<L.length-1):at_ L.dropLast j=at_ L j:=by
 unfold at_
 simp only [List.getD_eq_getElem?_getD,List.dropLast_eq_take]
 rw [List.getElem?_take_of_lt h]
theorem pop_ok {x:It} {L:List It} (h:vk (x::L)):vk (popL (x::L))/\(x::L).Perm (x::popL (x::L))/\∀y∈L,x.le y:=by
 have hroot:∀y∈L,x.le y:=by
  intro y hy
  obtain ⟨i,hi,rfl⟩:=List.getElem_of_mem hy
  have:=Z5 h (i+1) (by simpa using hi)
  simpa [at_,List.getD_eq_getElem?_getD,hi]using this
 have hM:(x::L).length-1<(x::L).length:=by simp
 have h0:0<(x::L).length:=by simp
 have hsl:=dj (x::L) 0 ((x::L).length-1)
 have hpop:vk (popL (x::L)):=by
  unfold popL
  by_cases hl:L=[]
  . subst hl
    intro j j0 jl
    rw [we,List.length_dropLast,dj]at jl
    simp at jl
  . have hl':0<L.length:=List.length_pos_iff.2 hl
    refine Qg _ 0 _ (Nat.le_refl _) (by rw [List.length_dropLast,dj];simpa using hl') ⟨fun j j0 jl jp=>?_,fun j j0 jl jp i0=>by omega⟩
    rw [List.length_dropLast,dj]at jl
    rw [Fe (by rw [dj];omega),Fe (by rw [dj];omega),pi h0 hM,pi h0 hM]
    simp only [List.length_cons,Nat.add_sub_cancel]at jl ⊢
    rw [if_neg (by omega),if_neg (by omega),if_neg (by omega),if_neg (by omega)]
    exact h j j0 (by simp;omega)
 refine ⟨hpop,?_,hroot⟩
 have p1:(nl (x::L) 0 ((x::L).length-1)).Perm (x::L):=Dt _ _ _
 have hne:nl (x::L) 0 ((x::L).length-1)≠[]:=by intro e;rw [e]at hsl;simp at hsl
 have hlast:(nl (x::L) 0 ((x::L).length-1)).getLast hne=x:=by
  rw [List.getLast_eq_getElem]
  have e:=pi h0 hM ((x::L).length-1)
  rw [if_pos rfl]at e
  unfold at_ at e
  rw [List.getD_eq_getElem?_getD,List.getElem?_eq_getElem (by rw [hsl];exact hM)]at e
  simp only [Option.getD_some]at e
  simp only [hsl]
  rw [e]
  rfl
 have p2:(nl (x::L) 0 ((x::L).length-1)).Perm (x::(nl (x::L) 0 ((x::L).length-1)).dropLast):=by
  conv=>lhs;rw [<- List.dropLast_concat_getLast hne,hlast]
  exact List.perm_append_singleton _ _
 exact p1.symm.trans (p2.trans ((J3 _ 0 _ (Nat.le_refl _)).symm.cons x))
end Go.Proofs.Wt
end
section
namespace Go.Proofs.Srch
open Go.Proofs.Resv Go.Proofs.Wt
section
variable {P M:Type} [DecidableEq P] {E:Env P M}
structure QI (E:Env P M) (L:List It) (S:List (St P M)):Prop where
 old:∀w∈L,∃x∈S,E.num x.p=w.m/\(x.i:Int)=w.s/\x.a<=w.k
 all:∀x∈S,x.dn=false->∃w∈L,w.k=x.a/\w.m=E.num x.p/\w.s=x.i
theorem QI.perm {L L':List It} {S:List (St P M)} (q:QI E L S) (h:L'.Perm L):QI E L' S:=
 ⟨fun w hw=>q.old w (h.mem_iff.1 hw),fun x hx hd=>let ⟨w,hw,e⟩:=q.all x hx hd;⟨w,h.mem_iff.2 hw,e⟩⟩
def Qz (E:Env P M) (S:List (St P M)) (p:P) (t:Int):Option Nat:=match inside (E.spans p) t with
 |none=>none
 |some i=>match key S p i with
  |none=>some i
  |some k=>match S[k]? with
   |none=>none
   |some x=>if t<x.a then some i else none
theorem note_q {L L':List It} {S:List (St P M)} {p:P} {t:Int} {m:M} {b n:Int} (q:QI E L S)
 (h:match Qz E S p t with
  |some i=>L'.Perm (⟨t,E.num p,i,n⟩::L)
  |none=>L'=L):QI E L' (note E S p t m b):=by
 unfold note
 unfold Qz at h
 cases hi:inside (E.spans p) t with
 |none=>rw [hi]at h;simp only at h ⊢;rw [h];exact q
 |some i=>
  rw [hi]at h
  simp only at h ⊢
  unfold wh
  cases hk:key S p i with
  |none=>
   rw [hk]at h
   simp only at h ⊢
   refine QI.perm ⟨fun w hw=>?_,fun x hx hd=>?_⟩ h
   . rcases List.mem_cons.1 hw with rfl|hw
     . exact ⟨_,List.mem_append_right _ (.head _),rfl,rfl,Int.le_refl _⟩
     . obtain ⟨x,hx,e⟩:=q.old w hw
       exact ⟨x,List.mem_append_left _ hx,e⟩
   . rcases List.mem_append.1 hx with hx|hx
     . obtain ⟨w,hw,e⟩:=q.all x hx hd
       exact ⟨w,.tail _ hw,e⟩
     . rw [List.mem_singleton]at hx;subst hx
       exact ⟨_,.head _,rfl,rfl,rfl⟩
  |some k=>
   obtain ⟨x,hx,e1,e2⟩:=ru hk
   rw [hk]at h
   simp only [hx]at h ⊢
   by_cases hlt:t<x.a
   . rw [if_pos hlt]at h ⊢
     simp only at h
     have hkl:k<S.length:=(List.getElem?_eq_some_iff.1 hx).1
     have hself:(S.set k { x with a:=t,mv:=m,b:=b })[k]?=some { x with a:=t,mv:=m,b:=b }:=by rw [List.getElem?_set_self hkl]
     refine QI.perm ⟨fun w hw=>?_,fun y hy hd=>?_⟩ h
     . rcases List.mem_cons.1 hw with rfl|hw
       . exact ⟨_,List.mem_of_getElem? hself,by simp only [e1],by simp only [e2],Int.le_refl _⟩
       . obtain ⟨y,hy,f1,f2,f3⟩:=q.old w hw
         obtain ⟨j,hj,rfl⟩:=List.getElem_of_mem hy
         by_cases hjk:j=k
         . subst hjk
           have hxe:S[j]=x:=(List.getElem?_eq_some_iff.1 hx).2
           rw [hxe]at f1 f2 f3
           exact ⟨_,List.mem_of_getElem? hself,f1,f2,by simp only;omega⟩
         . have:(S.set k { x with a:=t,mv:=m,b:=b })[j]?=some S[j]:=by rw [List.getElem?_set_ne (Ne.symm hjk),List.getElem?_eq_getElem hj]
           exact ⟨_,List.mem_of_getElem? this,f1,f2,f3⟩
     . rcases List.mem_or_eq_of_mem_set hy with hy|rfl
       . obtain ⟨w,hw,e⟩:=q.all y hy hd
         exact ⟨w,.tail _ hw,e⟩
       . exact ⟨_,.head _,rfl,by simp only [e1],by simp only [e2]⟩
   . rw [if_neg hlt]at h ⊢
     simp only at h
     rw [h];exact q
theorem af7 {S:List (St P M)} (q:QI E [] S):least E S=none:=by
 cases h:least E S with
 |none=>rfl
 |some r=>
  obtain ⟨k,x⟩:=r
  obtain ⟨h1,h2,h3⟩:=rt h
  obtain ⟨w,hw,_⟩:=q.all x (List.mem_of_getElem? h1) h2
  cases hw
theorem popQ (ok:px E) {p0:P} {t0 lo:Int} {z:M} {S:List (St P M)} (v:Inv E p0 t0 z lo S) {w:It} {L L':List It} (q:QI E (w::L) S) (hmin:∀y∈L,w.le y) (hL:L'.Perm L):
 ∃k x,S[k]?=some x/\E.num x.p=w.m/\(x.i:Int)=w.s/\((x.dn=true\/x.a≠w.k)->QI E L' S)/\(x.dn=false->x.a=w.k->least E S=some (k,x)/\QI E L' (take S k x)):=by
 obtain ⟨x,hxm,e1,e2,e3⟩:=q.old w (.head _)
 obtain ⟨k,hk,rfl⟩:=List.getElem_of_mem hxm
 have hk?:S[k]?=some S[k]:=List.getElem?_eq_getElem hk
 generalize hx:S[k]=x at*
 have same:∀y∈S,E.num y.p=w.m->(y.i:Int)=w.s->y=x:=fun y hy f1 f2=>by
  obtain ⟨j,hj,rfl⟩:=List.getElem_of_mem hy
  have hp:=ok.inj _ _ (v.ok _ hy) (v.ok _ hxm) (f1.trans e1.symm)
  have:=v.uniq (List.getElem?_eq_getElem hj) hk? hp (by omega)
  subst this
  exact hx
 refine ⟨k,x,hk?,e1,e2,fun hst=>QI.perm ⟨fun u hu=>q.old u (.tail _ hu),fun y hy hd=>?_⟩ hL,fun hnd ha=>?_⟩
 . obtain ⟨u,hu,f1,f2,f3⟩:=q.all y hy hd
   rcases List.mem_cons.1 hu with rfl|hu
   . have:=same y hy f2.symm f3.symm
     subst this
     rcases hst with h|h
     . rw [hd]at h;cases h
     . exact absurd f1.symm h
   . exact ⟨u,hu,f1,f2,f3⟩
 . have least1:∀y∈S,y.dn=false->ltK E y x=false:=fun y hy hd=>by
    obtain ⟨u,hu,f1,f2,f3⟩:=q.all y hy hd
    have hle:w.le u:=by
     rcases List.mem_cons.1 hu with rfl|hu
     . exact .refl _
     . exact hmin u hu
    rw [N6]at hle
    unfold ltK
    simp only [decide_eq_false_iff_not]
    omega
   refine ⟨?_,QI.perm ⟨fun u hu=>?_,fun y hy hd=>?_⟩ hL⟩
   . cases hl:least E S with
     |none=>have:=Ha hl x hxm;rw [hnd]at this;cases this
     |some r=>
      obtain ⟨j,y⟩:=r
      obtain ⟨g1,g2,g3⟩:=rt hl
      have hym:=List.mem_of_getElem? g1
      obtain ⟨c1,c2,c3⟩:=ltK_tot (g3 x hxm hnd) (least1 y hym g2)
      have hp:=ok.inj _ _ (v.ok _ hym) (v.ok _ hxm) c2.symm
      have:=v.uniq g1 hk? hp c3.symm
      subst this
      rw [hk?]at g1
      cases g1
      rfl
   . obtain ⟨y,hy,f⟩:=q.old u (.tail _ hu)
     obtain ⟨j,hj,rfl⟩:=List.getElem_of_mem hy
     unfold take
     by_cases hjk:j=k
     . subst hjk
       rw [hx]at f
       exact ⟨{ x with dn:=true },List.mem_of_getElem? (i:=j) (by rw [List.getElem?_set_self hk]),f⟩
     . exact ⟨_,List.mem_of_getElem? (by rw [List.getElem?_set_ne (Ne.symm hjk)];exact List.getElem?_eq_getElem hj),f⟩
   . unfold take at hy
     rcases List.mem_or_eq_of_mem_set hy with hy|rfl
     . obtain ⟨u,hu,f1,f2,f3⟩:=q.all y hy hd
       rcases List.mem_cons.1 hu with rfl|hu
       . have hyx:=same y hy f2.symm f3.symm
         exfalso
         obtain ⟨j,hj,rfl⟩:=List.getElem_of_mem ‹y∈S.set k { x with dn:=true }›
         rw [List.getElem_set]at hyx hd
         split at hd
         . cases hd
         . rename_i hjk
           rw [if_neg hjk]at hyx
           have hj':j<S.length:=by simpa using hj
           exact hjk (v.uniq (List.getElem?_eq_getElem hj') hk? (by rw [hyx]) (by rw [hyx])).symm
       . exact ⟨u,hu,f1,f2,f3⟩
     . cases hd
inductive Dr (S:List (St P M)):Nat->List (Nat × St P M)->Prop where
 |start {k:Nat} {x:St P M} (h:S[k]?=some x) (hb:x.b<0):Dr S k [(k,x)]
 |step {k j:Nat} {x:St P M} {l:List (Nat × St P M)} (h:S[k]?=some x) (hb:x.b=(j:Nat)) (c:Dr S j l):Dr S k ((k,x)::l)
theorem So {p0:P} {t0 lo:Int} {z:M} {S:List (St P M)} (v:Inv E p0 t0 z lo S):∀(n k:Nat) (x:St P M),S[k]?=some x->(S.filter (fun y=>decide (y.a<x.a))).length<=n->∃l,Dr S k l/\l.length<=n+1
 |n,k,x,hk,hn=>by
  rcases v.by_ x (List.mem_of_getElem? hk)with ⟨h,_⟩|⟨y,h0,hy,hd,hlt,_⟩
  . exact ⟨_,.start hk (by omega),by simp⟩
  . have hym:=List.mem_of_getElem? hy
    have hmono:(S.filter (fun u=>decide (u.a<y.a))).length<(S.filter (fun u=>decide (u.a<x.a))).length:=by
     have h1:(S.filter (fun u=>decide (u.a<y.a)))=(S.filter (fun u=>decide (u.a<x.a))).filter (fun u=>decide (u.a<y.a)):=by
      rw [List.filter_filter]
      congr 1
      funext u
      rw [<- Bool.decide_and]
      exact decide_eq_decide.2 (by omega)
     rw [h1]
     have h2:y∈S.filter (fun u=>decide (u.a<x.a)):=List.mem_filter.2 ⟨hym,by simpa using hlt⟩
     refine List.length_filter_lt_length_iff_exists.2 ⟨y,h2,by simp⟩
    cases n with
    |zero=>omega
    |succ n=>
     obtain ⟨l,hl,hll⟩:=So v n x.b.toNat y hy (by omega)
     exact ⟨_,.step hk (by omega) hl,by simp;omega⟩
def mr:List (Nat × St P M)->List M
 |[]=>[]
 |[_]=>[]
 |p::l=>p.2.mv::mr l
theorem G5 {S:List (St P M)} {k:Nat} {l:List (Nat × St P M)} (c:Dr S k l):∀(f:Nat) (acc:List M),l.length<=f->path S f k acc=(mr l).reverse++acc:=by
 induction c with
 |start h hb=>
  intro f acc hf
  cases f with
  |zero=>simp at hf
  |succ f=>unfold path;rw [h];simp only [if_pos hb];rfl
 |@step k j x l h hb c ih=>
  intro f acc hf
  cases f with
  |zero=>simp at hf
  |succ f=>
   unfold path
   rw [h]
   have h0:¬x.b<0:=by omega
   simp only [if_neg h0]
   rw [show x.b.toNat=j by omega,ih f _ (by simpa using hf)]
   cases c<;>simp [mr]
theorem Lu {p0:P} {t0 lo:Int} {z:M} {S:List (St P M)} (v:Inv E p0 t0 z lo S) {k:Nat} {x:St P M} (hk:S[k]?=some x):∃l,Dr S k l/\l.length<=S.length:=by
 have hlt:(S.filter (fun y=>decide (y.a<x.a))).length<S.length:=
  List.length_filter_lt_length_iff_exists.2 ⟨x,List.mem_of_getElem? hk,by simp⟩
 obtain ⟨l,c,h⟩:=So v _ k x hk (Nat.le_refl _)
 exact ⟨l,c,by omega⟩
end
end Go.Proofs.Srch
end
section
namespace Go.Proofs.YtfflipnhffknnaaGreatDoor
open Go Go.HL Go.Proofs.Resv Go.Proofs.Srch
def bRtR:=jq bC (jq (jq (jq @uw (jq @cf88 @Cx)) (jq @Hx (jq @F2 @Ea))) (jq (jq @T2 (jq @ur @wp)) (jq @ld4 (jq @Rh @ii))))
def numP (w k:Nat) (p:Pose):Int:=2*numI w k (p.x,p.y)+(if p.d=true then 1 else 0)
def ku (w k:Nat) (T:Tb) (r:Int) (p:Pose):List Sp:=lh T r ((bo p).map (numI w k))
def wayE (C:Conf) (w k:Nat) (f:Nat->Nat->Int) (T:Tb) (r:Int) (m:Move):Move × Pose × Int × List Sp:=(m,m.t,gi C m,lh T r ((jv w k f m).map (numI w k)))
def qj (C:Conf) (w k:Nat) (f:Nat->Nat->Int) (T:Tb) (r:Int) (p:Pose):List (Move × Pose × Int × List Sp):=(kz w k f p).map (wayE C w k f T r)
def xd (m:Move) (a e:Int):Move:={ m with a:=a,e:=e }
def envE (C:Conf) (w k:Nat) (f:Nat->Nat->Int) (T:Tb) (r:Int):Env Pose Move:=⟨numP w k,fun p=>df w k f p=true,ku w k T r,qj C w k f T r,xd⟩
theorem zr {w k:Nat} {f:Nat->Nat->Int} {p:Pose} (h:df w k f p=true):inW w k (p.x,p.y)=true:=by
 unfold df at h
 rw [Bool.and_eq_true]at h
 exact Vw h.1
theorem num_inj {w k:Nat} {c e:Cell} (hc:inW w k c=true) (he:inW w k e=true) (h:numI w k c=numI w k e):c=e:=by
 unfold numI at h
 rw [if_pos hc,if_pos he]at h
 obtain ⟨a1,a2,a3,a4⟩:=ix.1 hc
 obtain ⟨b1,b2,b3,b4⟩:=ix.1 he
 have h1:c.1=(c.2*w+c.1) % w:=by rw [Int.add_comm,Int.add_mul_emod_self_right,Int.emod_eq_of_lt a1 a2]
 have h2:e.1=(e.2*w+e.1) % w:=by rw [Int.add_comm,Int.add_mul_emod_self_right,Int.emod_eq_of_lt b1 b2]
 have h3:c.1=e.1:=by rw [h1,h2,h]
 have h4:c.2*(w:Int)=e.2*(w:Int):=by omega
 have h5:c.2=e.2:=Int.eq_of_mul_eq_mul_right (by omega) h4
 exact Prod.ext h3 h5
theorem uj {w k:Nat} {f:Nat->Nat->Int} {p q:Pose} (hp:df w k f p=true) (hq:df w k f q=true) (h:numP w k p=numP w k q):p=q:=by
 have hpi:=zr hp
 have hqi:=zr hq
 unfold numP at h
 have hd:p.d=q.d:=by
  cases h1:p.d<;>cases h2:q.d<;>simp only [h1,h2,if_true,if_false,Bool.false_eq_true]at h<;>first|rfl|omega
 rw [hd]at h
 have hn:=num_inj hpi hqi (show numI w k (p.x,p.y)=numI w k (q.x,q.y)by omega)
 cases p;cases q
 simp only [Prod.mk.injEq]at hn hd
 obtain ⟨rfl,rfl⟩:=hn
 subst hd
 rfl
structure Cs where
 L1:List (Int × Value)
 L2:List (Int × Value)
 L3:List (Int × Value)
 P:Hp
def Gro (L L':List (Int × Value)):Prop:=∀k v,mget L k=some v->mget L' k=some v
theorem Gro.refl (L:List (Int × Value)):Gro L L:=fun _ _ h=>h
theorem Gro.trans {L M N:List (Int × Value)} (a:Gro L M) (b:Gro M N):Gro L N:=fun k v h=>b k v (a k v h)
structure Cs.le (c c':Cs):Prop where
 l1:Gro c.L1 c'.L1
 l2:Gro c.L2 c'.L2
 l3:Gro c.L3 c'.L3
 p:c.P.le c'.P
theorem Cs.le.refl (c:Cs):c.le c:=⟨.refl _,.refl _,.refl _,.refl _⟩
theorem Cs.le.trans {a b c:Cs} (x:a.le b) (y:b.le c):a.le c:=⟨x.l1.trans y.l1,x.l2.trans y.l2,x.l3.trans y.l3,x.p.trans y.p⟩
structure RawW where
 m:Move
 d:Int
 a:Option Addr
 n:Nat
 c:Nat
def rq:Cod RawW:=⟨13,fun x=>[.int .i64 x.m.k,.int .i64 x.m.d,.int .i64 x.m.n,.int .i64 x.m.f.x,.int .i64 x.m.f.y,.bool x.m.f.d,.int .i64 x.m.t.x,.int .i64 x.m.t.y,.bool x.m.t.d,.int .i64 x.m.a,.int .i64 x.m.e,.int .i64 x.d,.slice x.a x.n x.c],fun _=>rfl,
 fun _ v hv=>by simp at hv;rcases hv with rfl|rfl|rfl|rfl|rfl|rfl|rfl|rfl|rfl|rfl|rfl|rfl|rfl<;>rfl⟩
theorem eoway:gu P_ 232 rq.n 120:=eo232
def WayS (P:Hp) (v:Value) (W:List (Move × Pose × Int × List Sp)):Prop:=∃raws:List RawW,Slc rq 232 P v raws/\raws.length=W.length/\
 ∀(i:Nat) (x:RawW) (y:Move × Pose × Int × List Sp),raws[i]?=some x->W[i]?=some y->x.m=y.1/\x.d=y.2.2.1/\x.n=y.2.2.2.length/\Slc lw 151 P (.slice x.a x.n x.c) y.2.2.2
theorem WayS.le {P P':Hp} {v:Value} {W:List (Move × Pose × Int × List Sp)} (h:WayS P v W) (l:P.le P'):WayS P' v W:=by
 obtain ⟨raws,h1,h2,h3⟩:=h
 exact ⟨raws,h1.le l,h2,fun i x y hx hy=>let ⟨a,b,c,d⟩:=h3 i x y hx hy;⟨a,b,c,d.le l⟩⟩
structure Par where
 C:Conf
 w:Nat
 k:Nat
 f:Nat->Nat->Int
 T:Tb
 r:Int
def Par.E (p:Par):Env Pose Move:=envE p.C p.w p.k p.f p.T p.r
structure Ch (q:Par) (a:Hp) (ms mw mp:Nat) (c:Cs):Prop where
 sep:∃o1 o2 o3,MapO o1 c.L1/\MapO o2 c.L2/\MapO o3 c.L3/\HL.Sep [noHp.set ms o1,noHp.set mw o2,noHp.set mp o3,c.P] a
 m1:∀n v,mget c.L1 n=some v->∃p,df q.w q.k q.f p=true/\numP q.w q.k p=n/\Slc lw 151 c.P v (ku q.w q.k q.T q.r p)
 m2:∀n v,mget c.L2 n=some v->∃p,df q.w q.k q.f p=true/\numP q.w q.k p=n/\WayS c.P v (qj q.C q.w q.k q.f q.T q.r p)
 m3:∀n v,mget c.L3 n=some v->∃p,df q.w q.k q.f p=true/\numP q.w q.k p=n/\v=jy p
def og (C:Conf) (vb vp vr vz g:Value) (kp tp:Nat) (r:Int) (ms mw mp mt hp:Nat):List Value:=
 [.int .i64 C.w,.int .i64 C.h,.int .i64 C.ht,vb,vp,vr,vz,.int .i64 C.un,.int .i64 C.ac,.int .i64 C.sp,.int .i64 C.tu,.int .i64 C.ho,.int .i64 C.qu,.int .i64 C.re,.int .i64 C.bu,.bool C.back,g,.pointer (some ⟨kp,0,none⟩),.pointer (some ⟨tp,0,none⟩),.int .i64 r,.map (some ms),.map (some mw),.map (some mp),.map (some mt),.pointer (some ⟨hp,0,none⟩)]
structure Bg (G:Hp) (q:Par) (sp:Nat) (kp ms mw mp mt hp:Nat):Prop where
 ex:∃(ab:Option Addr) (cb:Nat) (ap:Option Addr) (cp:Nat) (ar:Option Addr) (cr:Nat) (az:Option Addr) (cs:Nat) (gp tp:Nat),∀h,Dis G h->
  CA G h q.C ab cb ap cp ar cr az cs/\(∀j,j<25->aa G h ⟨sp,j,none⟩=(og q.C (.slice ab q.C.bl.length cb) (.slice ap q.C.po.length cp) (.slice ar q.C.ro.length cr) (.slice az q.C.st.length cs) (.pointer (some ⟨gp,0,none⟩)) kp tp q.r ms mw mp mt hp)[j]?)/\
  GS G h (.pointer (some ⟨gp,0,none⟩)) q.w q.k q.f/\Rv.TSee G h tp q.T
 st:j9 G
 gt:ja q.T
 fw:Few q.T 100
structure BC (G h:Hp) (sp:Nat) (g:Value) (kp tp:Nat) (r:Int) (ms mw mp mt hp:Nat):Prop where
 g:aa G h ⟨sp,16,none⟩=some g
 k:aa G h ⟨sp,17,none⟩=some (.pointer (some ⟨kp,0,none⟩))
 t:aa G h ⟨sp,18,none⟩=some (.pointer (some ⟨tp,0,none⟩))
 r:aa G h ⟨sp,19,none⟩=some (.int .i64 r)
 ms:aa G h ⟨sp,20,none⟩=some (.map (some ms))
 mw:aa G h ⟨sp,21,none⟩=some (.map (some mw))
 mp:aa G h ⟨sp,22,none⟩=some (.map (some mp))
 mt:aa G h ⟨sp,23,none⟩=some (.map (some mt))
 hp:aa G h ⟨sp,24,none⟩=some (.pointer (some ⟨hp,0,none⟩))
theorem ux {G h:Hp} {C:Conf} {vb vp vr vz g:Value} {sp kp tp:Nat} {r:Int} {ms mw mp mt hp:Nat} (c:∀j,j<25->aa G h ⟨sp,j,none⟩=(og C vb vp vr vz g kp tp r ms mw mp mt hp)[j]?):BC G h sp g kp tp r ms mw mp mt hp:=
 ⟨by rw [c _ (by decide)];rfl,by rw [c _ (by decide)];rfl,by rw [c _ (by decide)];rfl,by rw [c _ (by decide)];rfl,by rw [c _ (by decide)];rfl,by rw [c _ (by decide)];rfl,by rw [c _ (by decide)];rfl,by rw [c _ (by decide)];rfl,by rw [c _ (by decide)];rfl⟩
theorem ug {α:Type} {c:Cod α} {G a B h h':Hp} {v:Value} {L:List α} (x:Sees c G B v L) (s:Sep [a,B] h) (d:Dis G h) (d':Dis (HL.under G h a) h'):Sees c (HL.under G h a) h' v L:=by
 obtain ⟨s',cap,e,hc,hcs⟩:=x
 refine ⟨s',cap,e,hc,hcs.imp id fun ⟨b,o,e2,hx⟩=>⟨b,o,e2,fun i y hy j hj=>?_⟩⟩
 have:=hx i y hy j hj
 rw [List.getElem?_eq_getElem (by rw [c.len];exact hj)]at this ⊢
 exact my s d d' this
theorem Bg.of {G a B h:Hp} {q:Par} {sp kp ms mw mp mt hp:Nat} {ab:Option Addr} {cb:Nat} {ap:Option Addr} {cp:Nat} {ar:Option Addr} {cr:Nat} {az:Option Addr} {cs gp tp:Nat} (s:Sep [a,B] h) (d:Dis G h)
 (ca:CA G B q.C ab cb ap cp ar cr az cs) (hB:∀j,j<25->aa G B ⟨sp,j,none⟩=(og q.C (.slice ab q.C.bl.length cb) (.slice ap q.C.po.length cp) (.slice ar q.C.ro.length cr) (.slice az q.C.st.length cs) (.pointer (some ⟨gp,0,none⟩)) kp tp q.r ms mw mp mt hp)[j]?)
 (gs:GS G B (.pointer (some ⟨gp,0,none⟩)) q.w q.k q.f) (ts:Rv.TSee G B tp q.T) (st:j9 G) (gt:ja q.T) (fw:Few q.T 100):Bg (HL.under G h a) q sp kp ms mw mp mt hp:=by
 refine ⟨⟨ab,cb,ap,cp,ar,cr,az,cs,gp,tp,fun h' d'=>⟨?_,fun j hj=>?_,?_,?_⟩⟩,st.under d (s.in 0 rfl),gt,fw⟩
 . obtain ⟨c1,c2,c3,raw,c4,c5⟩:=ca
   exact ⟨ug c1 s d d',ug c2 s d d',ug c3 s d d',raw,ug c4 s d d',fun i r s' h1 h2=>let ⟨x,y,z⟩:=c5 i r s' h1 h2;⟨x,y,ug z s d d'⟩⟩
 . have:=hB j hj
   rw [List.getElem?_eq_getElem (by simpa [og]using hj)]at this ⊢
   exact my s d d' this
 . obtain ⟨⟨gp',kb,e,h1,h2⟩,x1,x2,x3,x4⟩:=gs
   refine ⟨⟨gp',kb,e,fun j hj=>?_,fun n x hx=>my s d d' (h2 n x hx)⟩,x1,x2,x3,x4⟩
   have:=h1 j hj
   rw [List.getElem?_eq_getElem (by simpa using hj)]at this ⊢
   exact my s d d' this
 . obtain ⟨rb,e1,e2⟩:=ts
   exact ⟨rb,my s d d' e1,fun c L hc=>let ⟨x,cap,e3,e4⟩:=e2 c L hc;⟨x,cap,my s d d' e3,ug e4 s d d'⟩⟩
theorem un3r:P_.underlying 3=some (.int .i64):=by kernel_rfl
theorem unms:P_.underlying 128=some (.map 3 142):=by kernel_rfl
theorem unmw:P_.underlying 129=some (.map 3 229):=by kernel_rfl
theorem unmp:P_.underlying 130=some (.map 3 30):=by kernel_rfl
theorem zeros:ou P_ 142=some (.slice none 0 0):=by kernel_rfl
theorem zerow:ou P_ 229=some (.slice none 0 0):=by kernel_rfl
theorem zerop:ou P_ 30=some (.agg #[(0:Int),(0:Int),.bool false]):=by kernel_rfl
theorem in_pb {w k:Nat} (hw:w<=16) (hk:k<=16) {p:Pose} (h:inW w k (p.x,p.y)=true):PB p:=by
 obtain ⟨a1,a2,a3,a4⟩:=ix.1 h
 simp only at a1 a2 a3 a4
 exact ⟨⟨by omega,by omega⟩,⟨by omega,by omega⟩⟩
theorem yg {G h a:Hp} {R:List Hp} {q:Par} {sp kp ms mw mp mt hp:Nat} {c:Cs} {p:Pose} (ch:Ch q a ms mw mp c) (bg:Bg G q sp kp ms mw mp mt hp) (s:Sep (a::R) h) (hpf:df q.w q.k q.f p=true):
 aj P_ G 115 #[.pointer (some ⟨sp,0,none⟩),jy p] h (fun u h'=>u = .int .i64 (numP q.w q.k p)/\∃a' c',Ch q a' ms mw mp c'/\c.le c'/\c'.L1=c.L1/\c'.L2=c.L2/\c'.P=c.P/\mget c'.L3 (numP q.w q.k p)=some (jy p)/\Sep (a'::R) h'/\Dis G h'):=by
 obtain ⟨ab,cb,ap,cp,ar,cr,az,cs,gp,tp,hbg⟩:=bg.ex
 refine aj.assume fun d=>at0 (by simp) ?_
 have hin:=zr hpf
 unfold S115
 simp only [bRtR]
 intro x hx gx
 have s1:=s.past (o := .cells #[p.x,p.y,.bool p.d] 30 (0,0)) hx
 have d1:=d.set (o := .cells #[p.x,p.y,.bool p.d] 30 (0,0)) gx
 have hxs:(h.set x (.cells #[p.x,p.y,.bool p.d] 30 (0,0))) x=some (.cells #[p.x,p.y,.bool p.d] 30 (0,0)):=af
 generalize Hp.set h x _=h1 at s1 d1 hxs ⊢
 have cx:∀k,aa G h1 ⟨x,k,none⟩=_:=fun k=>ai (ag hxs)
 obtain ⟨ca,hB,gs,ts⟩:=hbg h1 d1
 have b:=ux hB
 try simp only [bRtR,cx,b.g]
 refine (nx (c:=(p.x,p.y)) gs).mono ?_
 rintro _ h1 ⟨rfl,rfl⟩
 have nb:=Nx (c:=(p.x,p.y)) gs.w2 gs.k2
 try simp (disch:=first|decide|omega) only [bRtR,cx]
 obtain ⟨o1,o2,o3,m1,m2,m3,sa⟩:=ch.sep
 have hmp:h1 mp=some o3:=(s1.open sa).at 2 rfl af
 have k1:∀(r':Rg) (n:Int),n=numP q.w q.k p->r' 0 = .pointer (some ⟨sp,0,none⟩)->r' 3 = .pointer (some ⟨x,0,none⟩)->r' 5 = .int .i64 n->F9 G (retK P_ G [.tmp 4] fun u h'=>u = .int .i64 (numP q.w q.k p)/\∃a' c',Ch q a' ms mw mp c'/\c.le c'/\c'.L1=c.L1/\c'.L2=c.L2/\c'.P=c.P/\mget c'.L3 (numP q.w q.k p)=some (jy p)/\Sep (a'::R) h'/\Dis G h') r' h1:=by
  intro r' n hn e0 e3 e5
  unfold F9
  simp only [bRtR,e0,e3,e5,b.mp,cx]
  refine vh unmp un3r hmp m3 fun o' mo'=>?_
  try simp (disch:=first|decide|omega) only [bRtR,Nat.reduceAdd,Nat.reduceMul,e5]
  have s2:=((s1.open sa).pick 2 rfl rfl).put (o:=o') af
  rw [set_set]at s2
  have d2:=d1.set (o:=o') (d1 _ _ hmp)
  generalize Hp.set h1 mp _=h2 at s2 d2 ⊢
  obtain ⟨a',s3,t3⟩:=Sep.pack [noHp.set mp o',noHp.set ms o1,noHp.set mw o2,c.P] s2
  subst hn
  refine ⟨rfl,a',⟨c.L1,c.L2,mput c.L3 (numP q.w q.k p) (jy p),c.P⟩,⟨⟨o1,o2,o',m1,m2,mo',t3.sel [1,2,0,3] (by decide) rfl⟩,ch.m1,ch.m2,?_⟩,⟨.refl _,.refl _,?_,.refl _⟩,rfl,rfl,rfl,?_,s3,d2⟩
  . intro n v hv
    rw [n9]at hv
    split at hv
    . rename_i e
      cases hv
      exact ⟨p,hpf,e,rfl⟩
    . exact ch.m3 n v hv
  . intro n v hv
    rw [n9]
    split
    . rename_i e
      obtain ⟨p',f',n',rfl⟩:=ch.m3 n v hv
      rw [uj hpf f' (e.trans n'.symm)]
    . exact hv
  . rw [n9,if_pos rfl]
 cases hd:p.d with
 |true=>
  rw [hd]at cx
  try simp only [bRtR]
  refine k1 _ (2*numI q.w q.k (p.x,p.y)+1) (by simp [numP,hd]) (by simp (disch:=decide) only [bRtR]) (by simp (disch:=decide) only [bRtR]) (by simp only [bRtR])
 |false=>
  rw [hd]at cx
  try simp only [bRtR]
  refine k1 _ (2*numI q.w q.k (p.x,p.y)) (by simp [numP,hd]) (by simp (disch:=decide) only [bRtR]) (by simp (disch:=decide) only [bRtR]) (by simp (disch:=decide) only [bRtR])
def C8:=jq bC (jq (jq (jq @cf108 (jq @cf115 @cf89)) (jq (jq @Cx @Sg) (jq @Sf @fa134_5))) (jq (jq (jq @ld128 @ld30) (jq @wp @V3)) (jq (jq @ld3p @Rh) (jq @jo @ii))))
theorem _root_.Go.HL.Sep.fr (A:List Hp) {R A':List Hp} {h:Hp} (s:HL.Sep (A++R) h) (is:List Nat) (nd:is.Nodup) (e:is.filterMap (fun i=>A[i]?)=A'):HL.Sep (A'++R) h:=by
 have sub:∀x∈A',x∈A:=fun x hx=>by
  rw [<- e,List.mem_filterMap]at hx
  obtain ⟨i,_,hi⟩:=hx
  exact List.mem_of_getElem? hi
 have hp:=List.pairwise_append.1 s.2
 have sA:HL.Sep A h:=⟨fun x hx=>s.1 x (List.mem_append_left _ hx),hp.1⟩
 have sA':=sA.sel is nd e
 refine ⟨fun x hx=>?_,List.pairwise_append.2 ⟨sA'.2,hp.2.1,fun x hx y hy=>hp.2.2 x (sub x hx) y hy⟩⟩
 rcases List.mem_append.1 hx with h1|h1
 . exact sA'.1 x h1
 . exact s.1 x (List.mem_append_right _ h1)
theorem Ch.look1 {q:Par} {a:Hp} {ms mw mp:Nat} {c:Cs} (ch:Ch q a ms mw mp c) {p:Pose} {v:Value} (hp:df q.w q.k q.f p=true) (h:mget c.L1 (numP q.w q.k p)=some v):Slc lw 151 c.P v (ku q.w q.k q.T q.r p):=by
 obtain ⟨p',f',n',s'⟩:=ch.m1 _ _ h
 rw [uj f' hp n']at s'
 exact s'
theorem Ch.look2 {q:Par} {a:Hp} {ms mw mp:Nat} {c:Cs} (ch:Ch q a ms mw mp c) {p:Pose} {v:Value} (hp:df q.w q.k q.f p=true) (h:mget c.L2 (numP q.w q.k p)=some v):WayS c.P v (qj q.C q.w q.k q.f q.T q.r p):=by
 obtain ⟨p',f',n',s'⟩:=ch.m2 _ _ h
 rw [uj f' hp n']at s'
 exact s'
theorem Ch.pool {q:Par} {a:Hp} {ms mw mp:Nat} {c:Cs} (ch:Ch q a ms mw mp c):c.P.le a:=by
 obtain ⟨o1,o2,o3,_,_,_,s⟩:=ch.sep
 exact s.in 3 rfl
theorem Ch.put1 {q:Par} {ms mw mp:Nat} {c:Cs} {o2 o3 o':Obj} {ip b:Hp} {p:Pose} {v:Value} (m1:∀n v,mget c.L1 n=some v->∃p,df q.w q.k q.f p=true/\numP q.w q.k p=n/\Slc lw 151 c.P v (ku q.w q.k q.T q.r p))
 (ch:Ch q b ms mw mp c) (k1:MapO o' (mput c.L1 (numP q.w q.k p) v)) (k2:MapO o2 c.L2) (k3:MapO o3 c.L3) {h:Hp} {R:List Hp} (s:HL.Sep (noHp.set ms o'::noHp.set mw o2::noHp.set mp o3::c.P::ip::R) h) (hp:df q.w q.k q.f p=true) (hn:mget c.L1 (numP q.w q.k p)=none)
 (sl:Slc lw 151 ip v (ku q.w q.k q.T q.r p)):∃a' c',Ch q a' ms mw mp c'/\c.le c'/\mget c'.L1 (numP q.w q.k p)=some v/\c'.L2=c.L2/\c'.L3=c.L3/\HL.Sep (a'::R) h:=by
 obtain ⟨P',s1,t1⟩:=Sep.pack [ip,c.P] (R:=noHp.set ms o'::noHp.set mw o2::noHp.set mp o3::R) (Sep.fr (R:=R) [noHp.set ms o',noHp.set mw o2,noHp.set mp o3,c.P,ip] s [4,3,0,1,2] (by decide) rfl)
 obtain ⟨a',s2,t2⟩:=Sep.pack [noHp.set ms o',noHp.set mw o2,noHp.set mp o3,P'] (R:=R) (Sep.fr (R:=R) [P',noHp.set ms o',noHp.set mw o2,noHp.set mp o3] s1 [1,2,3,0] (by decide) rfl)
 refine ⟨a',⟨mput c.L1 (numP q.w q.k p) v,c.L2,c.L3,P'⟩,⟨⟨o',o2,o3,k1,k2,k3,t2⟩,?_,?_,ch.m3⟩,⟨?_,.refl _,.refl _,t1.in 1 rfl⟩,by rw [n9,if_pos rfl],rfl,rfl,s2⟩
 . intro n u hu
   rw [n9]at hu
   split at hu
   . rename_i e
     cases hu
     exact ⟨p,hp,e,sl.le (t1.in 0 rfl)⟩
   . obtain ⟨p',f',n',s'⟩:=m1 n u hu
     exact ⟨p',f',n',s'.le (t1.in 1 rfl)⟩
 . intro n u hu
   obtain ⟨p',f',n',s'⟩:=ch.m2 n u hu
   exact ⟨p',f',n',s'.le (t1.in 1 rfl)⟩
 . intro n u hu
   rw [n9]
   split
   . rename_i e;rw [<- e,hn]at hu;cases hu
   . exact hu
theorem lm {G h a:Hp} {R:List Hp} {q:Par} {sp kp ms mw mp mt hp:Nat} {c:Cs} {p:Pose} (ch:Ch q a ms mw mp c) (bg:Bg G q sp kp ms mw mp mt hp) (s:HL.Sep (a::R) h) (hpf:df q.w q.k q.f p=true):
 aj P_ G 66 #[.pointer (some ⟨sp,0,none⟩),jy p] h (fun u h'=>∃a' c',Ch q a' ms mw mp c'/\c.le c'/\c'.L2=c.L2/\mget c'.L1 (numP q.w q.k p)=some u/\mget c'.L3 (numP q.w q.k p)=some (jy p)/\HL.Sep (a'::R) h'/\Dis G h'):=by
 obtain ⟨ab,cb,ap,cp,ar,cr,az,cs,gp,tp,hbg⟩:=id bg.ex
 refine aj.assume fun d=>enter66 (by simp) ?_
 have hin:=zr hpf
 obtain ⟨_,_,gs,_⟩:=hbg h d
 have hpb:=in_pb gs.w2 gs.k2 hin
 unfold S66
 simp only [C8]
 intro x hx gx
 have s1:=(s.new (o := .cells #[p.x,p.y,.bool p.d] 30 (0,0)) hx).swap
 have d1:=d.set (o := .cells #[p.x,p.y,.bool p.d] 30 (0,0)) gx
 generalize Hp.set h x _=h1 at s1 d1 ⊢
 have cx:∀k,aa G h1 ⟨x,k,none⟩=_:=fun k=>ai (ag (s1.at 1 rfl af))
 try simp (disch:=first|decide|omega) only [C8,Nat.reduceAdd,Nat.reduceMul,cx]
 refine (yg ch bg s1 hpf).mono ?_
 rintro _ h2 ⟨rfl,a2,c2,ch2,cl2,e1,e2,e3,hm3,s2,d2⟩
 obtain ⟨ca2,hB2,gs2,ts2⟩:=hbg h2 d2
 have b2:=ux hB2
 obtain ⟨o1,o2,o3,m1,m2,m3,sa⟩:=id ch2.sep
 have hms:h2 ms=some o1:=(s2.open sa).at 0 rfl af
 try simp only [C8,b2.ms]
 rw [E1 unms un3r zeros (ag hms) m1]
 cases hg:mget c2.L1 (numP q.w q.k p)with
 |some v=>
  try simp only [C8,Option.getD_some,Option.isSome_some]
  unfold O4
  try simp (disch:=decide) only [C8]
  exact ⟨a2,c2,ch2,cl2,e2,hg,hm3,s2.swap.drop,d2⟩
 |none=>
  have cx2:∀k,aa G h2 ⟨x,k,none⟩=_:=fun k=>ai (ag (s2.at 1 rfl af))
  try simp only [C8,Option.getD_none,Option.isSome_none,b2.g,b2.t,b2.r,cx2]
  refine (oy (p:=p) bg.st hpb).mono ?_
  rintro _ h3 ⟨b,rfl,hb,gb,rfl⟩
  have s3:=s2.past (o := .cells #[p.x,p.y,(east p).1,(east p).2] 28 (0,0)) hb
  have d3:=d2.set (o := .cells #[p.x,p.y,(east p).1,(east p).2] 28 (0,0)) gb
  have hbs:(h2.set b (.cells #[p.x,p.y,(east p).1,(east p).2] 28 (0,0))) b=some (.cells #[p.x,p.y,(east p).1,(east p).2] 28 (0,0)):=af
  refine ⟨b8 hb,?_⟩
  generalize Hp.set h2 b _=h3 at s3 d3 hbs ⊢
  have sc:Sees cj G h3 (.slice (some ⟨b,0,none⟩) (bo p).length 2) (bo p):=Sees.row hbs (by simp [cj,Cod.rows,bo]) (by simp [bo])
  refine (zq (bb:=100) (hbg h3 d3).2.2.1 (hbg h3 d3).2.2.2 bg.gt bg.fw (by omega) sc (by simp [bo])).mono ?_
  rintro u h4 ⟨ip,sl,s4,d4⟩
  have s5:=(s4.swap.open s3).perm (List.perm_append_singleton _ _)
  have s6:=(Sep.fr [ip,a2] s5 [1,0] (by decide) rfl).open sa
  have b4:=ux (hbg h4 d4).2.1
  have hms4:h4 ms=some o1:=s6.at 0 rfl af
  obtain ⟨su,cu,rfl,_⟩:=sl.len (by decide)
  try simp only [C8,b4.ms]
  refine vh unms un3r hms4 m1 fun o' mo'=>?_
  try simp (disch:=first|decide|omega) only [C8,Nat.reduceAdd,Nat.reduceMul]
  have s7:=s6.put (o:=o') af
  rw [set_set]at s7
  have d7:=d4.set (o:=o') (d4 _ _ hms4)
  generalize Hp.set h4 ms _=h7 at s7 d7 ⊢
  unfold O4
  try simp (disch:=decide) only [C8]
  obtain ⟨a8,c8,ch8,cl8,g8,l28,l38,s8⟩:=Ch.put1 ch2.m1 ch2 mo' m2 m3 s7 hpf hg sl
  exact ⟨a8,c8,ch8,cl2.trans cl8,by rw [l28,e2],g8,by rw [l38];exact hm3,s8.swap.drop,d7⟩
def oc:=jq bC (jq (jq (jq @pu @C2) (jq @cf113 (jq @cf114 @Oq))) (jq (jq @Oo @ld151) (jq @ld3 (jq @ln142 @true_and))))
theorem N9 {G h:Hp} {b:Nat} {t:Int} {x:Sp} (hb:aa G h ⟨b,0,none⟩=some (.int .i64 t)) (d:Dis G h):aj P_ G 114 #[.agg #[x.1,x.2],.pointer (some ⟨b,0,none⟩)] h (fun u h'=>u = .bool (insB t x)/\h'=h):=by
 refine quietly (at1 (by simp) ?_)
 unfold S114
 simp only [oc]
 intro y hy gy
 have l:=b8 (o := .cells #[x.1,x.2] 151 (0,0)) hy
 have hb2:=jg l (d.set gy) hb
 try simp only [oc,hb2]
 by_cases h1:x.1<=t
 . rw [iy h1]
   try simp only [oc,hb2]
   exact ⟨by simp [insB,h1],l⟩
 . rw [i9 h1]
   try simp only [oc,fg]
   exact ⟨by simp [insB,h1],l⟩
def insI (L:List Sp) (t:Int):Int:=match inside L t with
 |some i=>i
 |none => -1
theorem Rq {L:List Sp} {t:Int} (h:∀x∈L,insB t x=false):inside L t=none:=by
 unfold inside
 rw [List.findIdx?_eq_none_iff]
 exact h
theorem Z1 {L:List Sp} {t:Int} {i:Nat} {x:Sp} (hx:L[i]?=some x) (h:∀y∈L.take i,insB t y=false) (hi:insB t x=true):inside L t=some i:=by
 unfold inside
 rw [List.findIdx?_eq_some_iff_getElem]
 obtain ⟨hl,rfl⟩:=List.getElem?_eq_some_iff.1 hx
 refine ⟨hl,hi,fun j hj=>?_⟩
 have:=h L[j] (List.mem_of_getElem? (i:=j) (by rw [List.getElem?_take_of_lt hj];exact List.getElem?_eq_getElem (by omega)))
 rw [this];simp
theorem E3 {G h:Hp} {v:Value} {L:List Sp} {t:Int} (sv:Sees lw G h v L) (hL:L.length<=1000000000):
 aj P_ G 65 #[v,t] h (fun u h'=>u = .int .i64 (insI L t)/\h'=h):=by
 obtain ⟨sa,cap,rfl,_⟩:=id sv
 refine aj.assume fun d=>quietly (enter65 (by simp) ?_)
 unfold S65
 simp only [oc]
 intro x hx gx
 have l:=b8 (o := .cells #[t] 3 (0,0)) hx
 have d1:=d.set (o := .cells #[t] 3 (0,0)) gx
 have hxs:(h.set x (.cells #[t] 3 (0,0))) x=some (.cells #[t] 3 (0,0)):=af
 generalize Hp.set h x _=h1 at l d1 hxs ⊢
 have cx:aa G h1 ⟨x,0,none⟩=some (.int .i64 t):=by rw [ai (ag hxs)];rfl
 have key:aj P_ G 113 #[.slice sa L.length cap,.func (.func 114) #[] #[.pointer (some ⟨x,0,none⟩)]] h1 (fun u h'=>u = .int .i64 (insI L t)/\h'=h1):=by
  refine quietly (at2 (by simp) ?_)
  unfold S113
  simp only [oc]
  refine ci (fun m r h'=>∃i:Nat,m=L.length-i/\i<=L.length/\h'=h1/\r 0 = .slice sa L.length cap/\r 1 = .func (.func 114) #[] #[.pointer (some ⟨x,0,none⟩)]/\r 7 = .int .i64 L.length/\r 8 = .int .i64 i/\∀y∈L.take i,insB t y=false) ?_ (m:=L.length)
   ⟨0,rfl,by omega,rfl,by simp (disch:=decide) only [oc],by simp (disch:=decide) only [oc],by simp (disch:=decide) only [oc],by simp only [oc];rfl,by simp⟩
  rintro m r h' ⟨i,rfl,hi,rfl,g0,g1,g7,g8,hall⟩ X hX
  unfold Ym
  simp only [oc,g7,g8]
  refine bh (fun hlt=>?_) (fun hge=>?_)
  . obtain ⟨y,hy⟩:∃y,L[i]?=some y:=⟨_,List.getElem?_eq_getElem (by omega)⟩
    obtain ⟨b,o,rfl,y1,y2⟩:=Sees.span (sv.up l d1) hy
    unfold Ju
    simp (disch:=decide) only [oc,g0,g1,g8,Ro (Int.natCast_nonneg i) hlt,y1,y2]
    refine (N9 (x:=y) cx d1).mono ?_
    rintro _ h' ⟨rfl,rfl⟩
    refine pf (fun hb=>?_) (fun hb=>?_)
    . try simp (disch:=first|decide|omega) only [oc,Nat.reduceAdd,Nat.reduceMul,g8]
      refine ⟨?_,Hp.le.refl _⟩
      unfold insI
      rw [Z1 hy hall hb]
    . unfold Jt
      simp (disch:=first|decide|omega) only [oc,g8]
      refine hX (L.length-(i+1)) _ _ (by omega) ⟨i+1,rfl,by omega,rfl,by simp (disch:=decide) only [oc,g0],by simp (disch:=decide) only [oc,g1],by simp (disch:=decide) only [oc,g7],by simp only [oc];rfl,fun z hz=>?_⟩
      rw [List.take_add_one,hy]at hz
      rcases List.mem_append.1 hz with h2|h2
      . exact hall z h2
      . simp at h2;subst h2;exact hb
  . obtain rfl:i=L.length:=by omega
    try simp (disch:=first|decide|omega) only [oc,Nat.reduceAdd,Nat.reduceMul]
    unfold Yn
    try simp only [oc]
    refine ⟨?_,Hp.le.refl _⟩
    unfold insI
    rw [Rq (by rw [List.take_length]at hall;exact hall)]
 refine key.mono ?_
 rintro _ h1 ⟨rfl,rfl⟩
 try simp only [oc]
 exact l
end Go.Proofs.YtfflipnhffknnaaGreatDoor
end
section
namespace Go.Proofs.YtfflipnhffknnaaGreatDoor
open Go Go.HL
def ff:=jq bC (jq (jq (jq (jq @al30 (jq @al48 @C7)) (jq (jq @Ia @H8) (jq @fh @H4))) (jq (jq @qc (jq @cf155 @cf166)) (jq (jq @cf61 @cf78) (jq @ub @Ea)))) (jq (jq (jq @ld178 (jq @ld28 @ld30)) (jq (jq @ld4 @ld48) (jq @ld68 @ls))) (jq (jq @ji (jq @tc @J5)) (jq (jq @vc @xe) (jq @Qa @true_and)))))
abbrev Ew (m:Move):Array Value:=#[Cg m]
theorem Rb {G h:Hp} {gp:Nat} {p:Pose}:aj P_ G 149 #[.pointer (some ⟨gp,0,none⟩),jy p] h (fun u h'=>∃b1 b2,u = .func (.func 165) #[] #[.pointer (some ⟨b1,0,none⟩),.pointer (some ⟨b2,0,none⟩)]/\Sep [noHp.set b1 (.cells #[.pointer (some ⟨gp,0,none⟩)] 68 (0,0)),noHp.set b2 (.cells #[p.x,p.y,.bool p.d] 30 (0,0)),h] h'/\Dis G h'):=by
 refine aj.assume fun d=>ap8 (by simp) ?_
 unfold S149
 simp only [ff]
 intro x hx gx y hy gy
 exact ⟨x,y,rfl,(((Sep.one (h:=h)).new hx).new hy).swap,(d.set gx).set gy⟩
theorem Th {G h a q:Hp} {y g:Value} {Y:List Move->Hp->Prop} {Q0:Move->Prop} {N:Nat} {gb pb w k:Nat} {f:Nat->Nat->Int} {p:Pose}
 (yl:YlN P_ Ew Q0 N G y Y) (ya:Y [] a) (s:Sep [a,q] h) (hg:q gb=some (.cells #[g] 68 (0,0))) (hpb:q pb=some (.cells #[p.x,p.y,.bool p.d] 30 (0,0))) (gs:GS G q g w k f) (st:j9 G) (hN:(Eu w k f p).length<=N+1) (hQ:∀m∈Eu w k f p,Q0 m):
 aj P_ G 182 #[y,.pointer (some ⟨gb,0,none⟩),.pointer (some ⟨pb,0,none⟩)] h (fun _ h'=>wv G q Y (Eu w k f p) h'):=by
 refine aj.assume fun d=>ao4 (by simp) ?_
 unfold S182
 obtain ⟨T,hT⟩:∃T,Eu w k f p=T:=⟨_,rfl⟩
 rw [hT]at hN hQ ⊢
 refine ci (fun m r h3=>∃(i:Nat) (a:Hp) (L:List Move),m=4-i/\i<=4/\r 0=y/\r 1 = .pointer (some ⟨gb,0,none⟩)/\r 2 = .pointer (some ⟨pb,0,none⟩)/\r 8 = .int .i64 i/\Sep [a,q] h3/\Dis G h3/\Y L a/\L++jz (runD w k f p) i (4-i)=T) ?_
  (m:=4) ⟨0,a,[],rfl,by decide,by simp (disch:=decide) only [ff],by simp (disch:=decide) only [ff],by simp (disch:=decide) only [ff],by simp only [ff]<;>rfl,s,d,ya,hT⟩
 rintro m r h3 ⟨i,a,L,rfl,hi,g0,g1,g2,g8,s,d,ya,hT⟩ X HX
 unfold Xe
 simp only [ff,g8]
 refine bh (fun hlt=>?_) (fun hge=>?_)
 rotate_left
 . obtain rfl:i=4:=by omega
   try simp (disch:=first|decide|omega) only [ff,Nat.reduceAdd,Nat.reduceMul]
   exact wv.go s d ya (by rw [<- hT];simp [jz])
 have hlt':i<4:=by omega
 unfold Iu
 refine ci (fun m r2 h3=>∃(n:Nat) (a:Hp) (L:List Move),m=17-n/\1<=n/\n<=17/\r2 0=y/\r2 1 = .pointer (some ⟨gb,0,none⟩)/\r2 2 = .pointer (some ⟨pb,0,none⟩)/\r2 4 = .int .i64 i/\r2 5 = .int .i64 n/\r2 8 = .int .i64 i/\Sep [a,q] h3/\Dis G h3/\Y L a/\L++(ka (Ce w k f p i) (uo p i) n (17-n)++jz (runD w k f p) (i+1) (3-i))=T) ?_
  (m:=16) ⟨1,a,L,rfl,by decide,by decide,by simp (disch:=decide) only [ff,g0],by simp (disch:=decide) only [ff,g1],by simp (disch:=decide) only [ff,g2],by simp (disch:=decide) only [ff,g8],by simp (disch:=decide) only [ff]<;>rfl,by simp (disch:=decide) only [ff,g8],s,d,ya,by rw [<- hT,show 4-i=(3-i)+1 by omega];rfl⟩
 rintro m r2 h3 ⟨n,a,L,rfl,hn1,hn2,q0,q1,q2,q4,q5,q8,s,d,ya,hT⟩ X2 HX2
 have hgh:=s.at 1 rfl hg
 have hph:=s.at 1 rfl hpb
 have cg:∀j,aa G h3 ⟨gb,j,none⟩=_:=fun j=>ai (ag hgh)
 have cp:∀j,aa G h3 ⟨pb,j,none⟩=_:=fun j=>ai (ag hph)
 unfold Is
 simp only [ff,q1,q2,q4,q5,cg,cp]
 have next:∀(r3:Rg) h5 (a:Hp) (L:List Move),r3 0=r2 0->r3 1=r2 1->r3 2=r2 2->r3 8=r2 8->Sep [a,q] h5->Dis G h5->Y L a->L++jz (runD w k f p) (i+1) (3-i)=T->
  Bj G (bw X (bj 0 (tz (retK P_ G [] fun x h'=>wv G q Y T h')))) r3 h5:=by
  intro r3 h5 a L w0 w1 w2 w8 s5 d5 ya5 hT5
  unfold Bj
  have w8':=w8.trans q8
  simp (disch:=first|decide|omega) only [ff,w8']
  refine HX (4-(i+1)) _ _ (by omega) ⟨i+1,a,L,rfl,hlt',by simp (disch:=decide) only [ff,w0,q0],by simp (disch:=decide) only [ff,w1,q1],by simp (disch:=decide) only [ff,w2,q2],by simp only [ff]<;>rfl,s5,d5,ya5,by rw [<- hT5,show 4-(i+1)=3-i by omega]⟩
 refine (Gr (p:=p) (dir:=(i:Int)) (n:=(n:Int)) st).mono ?_
 rintro _ h4 ⟨rfl,rfl⟩
 simp (disch:=first|decide|exact ao|exact am|omega|rfl) only [ff]
 intro x hx gx
 generalize e5:Hp.set h4 x _=h5
 obtain ⟨l5,d5,b5⟩:=boxed e5 hx d gx
 have s5:=s.le l5
 by_cases hn:n=17
 . subst hn
   have ok:okS (i:Int) ((17:Nat):Int)=false:=by
    unfold okS
    rw [show ax ((17:Nat):Int) 0 16=false from rfl]
    rfl
   try simp only [ff,ok,if_neg (show ¬(1:Nat)=2 by decide)]
   exact next _ _ a L (by simp (disch:=decide) only [ff]) (by simp (disch:=decide) only [ff]) (by simp (disch:=decide) only [ff]) (by simp (disch:=decide) only [ff]) s5 d5 ya hT
 have ok:okS (i:Int) (n:Int)=true:=by
  unfold okS
  rw [Bool.and_eq_true,dt,dt]
  omega
 have esh:ky p i n=gh p i n:=by unfold ky;rw [if_pos ok]
 rw [esh]at b5
 have cx5:∀j,aa G h5 ⟨x,j,none⟩=_:=fun j=>ai (ag b5)
 have cg5:∀j,aa G h5 ⟨gb,j,none⟩=_:=fun j=>ai (ag (l5 _ _ hgh))
 have cp5:∀j,aa G h5 ⟨pb,j,none⟩=_:=fun j=>ai (ag (l5 _ _ hph))
 try simp only [ff,ok,cg5,cx5]
 refine (ng (p:=gh p i n) (gs.up (s5.in 1 rfl) d5) st Du).mono ?_
 rintro _ h5 ⟨rfl,rfl⟩
 have erun:ka (Ce w k f p i) (uo p i) n (17-n)=if df w k f (gh p i n)=true then uo p i n::ka (Ce w k f p i) (uo p i) (n+1) (17-(n+1))else []:=by
  rw [show 17-n=(17-(n+1))+1 by omega]
  rfl
 rw [erun]at hT
 cases hf:df w k f (gh p i n)with
 |false=>
  try simp only [ff,if_neg (show ¬(1:Nat)=2 by decide)]
  rw [hf]at hT
  exact next _ _ a L (by simp (disch:=decide) only [ff]) (by simp (disch:=decide) only [ff]) (by simp (disch:=decide) only [ff]) (by simp (disch:=decide) only [ff]) s5 d5 ya hT
 |true=>
 rw [hf,if_pos rfl,List.cons_append]at hT
 try simp only [ff]
 unfold Al
 try simp (disch:=decide) only [ff,q0,q1,q2,q4,q5,cp5,cx5]
 refine jj (fun v h6 H=>?_) (yl L (uo p i n) a q h5 (by rw [<- hT]at hN;simp only [List.length_append,List.length_cons]at hN;omega) (hQ _ (by rw [<- hT];simp)) ya s5 d5)
 obtain ⟨a6,rfl,s6,d6,z6⟩:=H
 try simp only [ff]
 unfold Am
 simp (disch:=first|decide|omega) only [ff,q5]
 refine HX2 (17-(n+1)) _ _ (by omega) ⟨n+1,a6,L++[uo p i n],rfl,by omega,by omega,by simp (disch:=decide) only [ff,q0],by simp (disch:=decide) only [ff,q1],by simp (disch:=decide) only [ff,q2],by simp (disch:=decide) only [ff,q4],by simp only [ff]<;>rfl,by simp (disch:=decide) only [ff,q8],s6,d6,z6,by rw [<- hT];simp⟩
theorem Oa {G:Hp} {y y':Value} {Y:List Move->Hp->Prop} {Q0:Move->Prop} {N:Nat} {bx l:Nat} {o:Option Exit->Obj} {r:Rg} (yl:YlN P_ Ew Q0 N G y Y) (gl:G l=none) (ho:∀e,gm (o e)=false) (g3:r 3 = .pointer (some ⟨bx,0,none⟩))
 (hy:∀(args:Array Value) (h1:Hp) (K1:Value->Hp->Prop),args.size=1->h1 l=some (o none)->
  Pg G (setR 32 #[13] args r) h1 (fun e r2 h2=>e = .normal/\h2 l=some (o none)/\∀ob,gm ob=false->Pf G r2 (h2.set l ob) (fun e _ h3=>h3 l=some ob/\match e with
   | .normal=>K1 (.bool true) (h3.set l (o none))
   | .panic _=>False
   | .outgrown=>False
   |e=>K1 (.bool false) (h3.set l (o (some e)))))->
  opH P_ G (il y' args) h1 K1):
 YlN P_ Ew Q0 N G y' (InY Y (noHp.set bx (.cells #[y] 178 (0,0))) l (o none)):=by
 rintro L m b q h hL hQm ⟨a,ya,sb⟩ s d
 have s1:Sep [q,a,noHp.set bx (.cells #[y] 178 (0,0)),noHp.set l (o none)] h:=by
  have:=s.swap.split sb
  simpa using this
 refine hy (Ew m) h _ rfl (s1.at 3 rfl af) ?_
 rw [Vm (by decide)]
 unfold Pg
 simp (disch:=first|decide|exact ao|exact am|omega|rfl) only [ff]
 intro x hx gx
 try simp (disch:=first|decide|omega) only [ff,Nat.reduceAdd,Nat.reduceMul]
 have s2:=s1.past (o:=ny m) hx
 have sx:=s1.new (o:=ny m) hx
 have d2:=d.set (o:=ny m) gx
 have nlx:l≠x:=fun e=>by rw [<- e,s1.at 3 rfl af]at hx;cases hx
 refine ⟨by rw [au nlx];exact s1.at 3 rfl af,fun ob hob=>?_⟩
 generalize Hp.set h x _=h2 at s2 sx d2 ⊢
 have s3:Sep [noHp.set l ob,noHp.set x (ny m),q,a,noHp.set bx (.cells #[y] 178 (0,0))] (h2.set l ob):=by
  have:=(sx.pick 4 rfl rfl).put (o:=ob) af
  rw [set_set]at this
  exact this
 have d3:Dis G (h2.set l ob):=d2.set gl
 generalize Hp.set h2 l ob=h3 at s3 d3 ⊢
 have cb:∀j,aa G h3 ⟨bx,j,none⟩=_:=fun j=>ai (ag (s3.at 4 rfl af))
 have cx:∀j,aa G h3 ⟨x,j,none⟩=_:=fun j=>ai (ag (s3.at 1 rfl af))
 unfold Pf
 try simp (disch:=decide) only [ff,g3,cb,cx]
 have s4:Sep [noHp.set bx (.cells #[y] 178 (0,0)),noHp.set l ob,q,a] h3:=by
  exact (s3.pick 1 rfl rfl).drop.pick 3 rfl rfl
 obtain ⟨Q,s5,sQ⟩:=s4.pack3
 refine jj (fun v h6 H=>?_) (yl L m a Q h3 hL hQm ya s5.swap d3)
 obtain ⟨a6,rfl,s6,d6,z6⟩:=H
 have s7:Sep [a6,noHp.set bx (.cells #[y] 178 (0,0)),noHp.set l ob,q] h6:=by
  have:=s6.split sQ
  simpa using this
 have hl6:=s7.at 2 rfl (af (h:=noHp) (b:=l) (o:=ob))
 have fin:∀oo:Obj,∃b',Sep [b',q] (h6.set l oo)/\Sep [a6,noHp.set bx (.cells #[y] 178 (0,0)),noHp.set l oo] b':=by
  intro oo
  have s8:Sep [noHp.set l oo,a6,noHp.set bx (.cells #[y] 178 (0,0)),q] (h6.set l oo):=by
   have:=(s7.pick 2 rfl rfl).put (o:=oo) af
   rw [set_set]at this
   exact this
  exact (s8.rot.rot.pack3)
 try simp only [ff]
 obtain ⟨b',t1,t2⟩:=fin (o none)
 exact ⟨hl6,b',t1,d6.set gl,a6,z6,t2⟩
theorem Q9 {G h a q:Hp} {y g:Value} {Y:List Move->Hp->Prop} {Q0:Move->Prop} {N:Nat} {L:List Move} {gb pb bx w k:Nat} {f:Nat->Nat->Int} {p:Pose} {T:List Move} {KK:EK} {r:Rg}
 (yl:YlN P_ Ew Q0 N G y Y) (ya:Y L a) (s:Sep [a,noHp.set bx (.cells #[y] 178 (0,0)),q] h) (d:Dis G h) (hg:q gb=some (.cells #[g] 68 (0,0))) (hpb:q pb=some (.cells #[p.x,p.y,.bool p.d] 30 (0,0))) (gs:GS G q g w k f) (st:j9 G) (hp:PB p)
 (g1:r 1 = .pointer (some ⟨gb,0,none⟩)) (g2:r 2 = .pointer (some ⟨pb,0,none⟩)) (g3:r 3 = .pointer (some ⟨bx,0,none⟩))
 (hN:L.length<=N) (hQ:wayB w k f (mo p)=true->Q0 (mo p)) (hT:L++(if wayB w k f (mo p)=true then [mo p]else [])=T) (H:∀r h',wv G q Y T h'->KK .normal r h'):Pe G KK r h:=by
 have cp:∀j,aa G h ⟨pb,j,none⟩=_:=fun j=>ai (ag (s.at 2 rfl hpb))
 unfold Pe
 simp (disch:=first|decide|exact ao|exact am|omega|rfl) only [ff,g1,g2,g3,cp]
 intro x hx gx
 have d2:=d.set (o:=ny (mo p)) gx
 have s2:=s.past (o:=ny (mo p)) hx
 have hx2:(h.set x (ny (mo p))) x=some (ny (mo p)):=af
 have e:(h.set x (.cells #[(2:Int),(0:Int),(0:Int),p.x,p.y,.bool p.d,p.x,p.y,.bool !p.d,(0:Int),(0:Int)] 48 (0,0)))=h.set x (ny (mo p)):=rfl
 try simp (disch:=first|decide|omega) only [ff,Nat.reduceAdd,Nat.reduceMul]
 rw [e]
 generalize e1:Hp.set h x _=h1 at s2 d2 hx2 ⊢
 have cg:∀j,aa G h1 ⟨gb,j,none⟩=_:=fun j=>ai (ag (s2.at 2 rfl hg))
 have cb:∀j,aa G h1 ⟨bx,j,none⟩=_:=fun j=>ai (ag (s2.at 1 rfl af))
 have cx:∀j,aa G h1 ⟨x,j,none⟩=_:=fun j=>ai (ag hx2)
 try simp only [ff,cg]
 refine (Ty (m:=mo p) (gs.up (s2.in 2 rfl) d2) st (Nh hp)).mono ?_
 rintro _ _ ⟨rfl,rfl⟩
 cases hw:wayB w k f (mo p)with
 |false=>
  rw [hw,if_neg (by simp),List.append_nil]at hT
  try simp only [ff]
  exact H _ _ (wv.go (s2.pick 1 rfl rfl).drop d2 ya hT)
 |true=>
  rw [hw,if_pos rfl]at hT
  try simp only [ff,cb,cx]
  obtain ⟨Q,s5,sQ⟩:=s2.rot.rot.pack2
  refine jj (fun v h6 R=>?_) (yl L (mo p) a Q _ hN (hQ hw) ya s5.swap d2)
  obtain ⟨a6,rfl,s6,d6,z6⟩:=R
  refine H _ _ ?_
  have s7:Sep [a6,noHp.set bx (.cells #[y] 178 (0,0)),q] h6:=by
   have:=s6.split sQ
   simpa using this
  refine ⟨a6,(s7.pick 1 rfl rfl).drop,d6,?_⟩
  rw [<- hT]
  exact z6
theorem Ra {G h a q:Hp} {y g:Value} {Y:List Move->Hp->Prop} {Q0:Move->Prop} {N:Nat} {gb pb w k:Nat} {f:Nat->Nat->Int} {p:Pose} (hyf:∃fn a b,y = .func fn a b)
 (yl:YlN P_ Ew Q0 N G y Y) (ya:Y [] a) (s:Sep [a,q] h) (hg:q gb=some (.cells #[g] 68 (0,0))) (hpb:q pb=some (.cells #[p.x,p.y,.bool p.d] 30 (0,0))) (gs:GS G q g w k f) (st:j9 G) (hp:PB p) (hN:(kz w k f p).length<=N) (hQ:∀m∈kz w k f p,Q0 m):
 aj P_ G 165 #[y,.pointer (some ⟨gb,0,none⟩),.pointer (some ⟨pb,0,none⟩)] h (fun _ h'=>wv G q Y (kz w k f p) h'):=by
 obtain ⟨fn,fa,fb,rfl⟩:=hyf
 obtain ⟨⟨gp,kb,rfl,_⟩,_⟩:=id gs
 refine aj.assume fun d=>ao8 (by simp) ?_
 unfold S165
 simp only [ff]
 intro bx hbx gbx
 have s1:Sep [a,noHp.set bx (.cells #[.func fn fa fb] 178 (0,0)),q] (h.set bx (.cells #[.func fn fa fb] 178 (0,0))):=(s.new hbx).swap
 have d1:=d.set (o := .cells #[.func fn fa fb] 178 (0,0)) gbx
 generalize Hp.set h bx _=h1 at s1 d1 ⊢
 have cg:∀j,aa G h1 ⟨gb,j,none⟩=_:=fun j=>ai (ag (s1.at 2 rfl hg))
 have cp:∀j,aa G h1 ⟨pb,j,none⟩=_:=fun j=>ai (ag (s1.at 2 rfl hpb))
 try simp only [ff,cg,cp]
 refine (ng (p:=p) (gs.up (s1.in 2 rfl) d1) st hp).mono ?_
 rintro _ _ ⟨rfl,rfl⟩
 unfold kz at hN hQ ⊢
 cases hf:df w k f p with
 |false=>
  try simp only [ff]
  exact ⟨a,(s1.pick 1 rfl rfl).drop,d1,ya⟩
 |true=>
 rw [hf,if_pos rfl,List.length_append]at hN
 rw [hf,if_pos rfl]at hQ
 try simp only [ff]
 unfold Xh
 try simp (disch:=decide) only [ff,cg,cp]
 refine (Y9 (gp:=gp) (p:=p)).mono ?_
 rintro _ _ ⟨b1,b2,rfl,hb1,gb1,hb2,gb2,rfl⟩
 have s2:Sep [(q.set b1 (.cells #[.pointer (some ⟨gp,0,none⟩)] 68 (0,0))).set b2 (.cells #[p.x,p.y,.bool p.d] 30 (0,0)),a,noHp.set bx (.cells #[.func fn fa fb] 178 (0,0))] _:=((s1.pick 2 rfl rfl).grow (o := .cells #[.pointer (some ⟨gp,0,none⟩)] 68 (0,0)) hb1).grow (o := .cells #[p.x,p.y,.bool p.d] 30 (0,0)) hb2
 have d2:=(d1.set (o := .cells #[.pointer (some ⟨gp,0,none⟩)] 68 (0,0)) gb1).set (o := .cells #[p.x,p.y,.bool p.d] 30 (0,0)) gb2
 have e12:b1≠b2:=i4 hb2
 have hq1:q b1=none:=(s1.in 2 rfl).none hb1
 have lq:q.le ((q.set b1 (.cells #[.pointer (some ⟨gp,0,none⟩)] 68 (0,0))).set b2 (.cells #[p.x,p.y,.bool p.d] 30 (0,0))):=(b8 hq1).trans (b8 (by rw [au (Ne.symm e12)];exact (s1.in 2 rfl).none (i6 hb2)))
 have hq1':((q.set b1 (.cells #[.pointer (some ⟨gp,0,none⟩)] 68 (0,0))).set b2 (.cells #[p.x,p.y,.bool p.d] 30 (0,0))) b1=some (.cells #[.pointer (some ⟨gp,0,none⟩)] 68 (0,0)):=by rw [au e12,af]
 have hq2':((q.set b1 (.cells #[.pointer (some ⟨gp,0,none⟩)] 68 (0,0))).set b2 (.cells #[p.x,p.y,.bool p.d] 30 (0,0))) b2=some (.cells #[p.x,p.y,.bool p.d] 30 (0,0)):=af
 generalize (q.set b1 (.cells #[.pointer (some ⟨gp,0,none⟩)] 68 (0,0))).set b2 (.cells #[p.x,p.y,.bool p.d] 30 (0,0))=q2 at s2 lq hq1' hq2'
 generalize Hp.set (Hp.set _ b1 _) b2 _=h2 at s2 d2 ⊢
 intro y' l o hl gl ho HY
 rw [opE76]
 have s3:Sep [a,noHp.set bx (.cells #[.func fn fa fb] 178 (0,0)),noHp.set l (o none),q2] (h2.set l (o none)):=((s2.new (o:=o none) hl).pick 3 rfl rfl).pick 3 rfl rfl
 have d3:Dis G (h2.set l (o none)):=d2.set gl
 obtain ⟨B,sB,tB⟩:=s3.pack3
 have gs2:GS G q2 (.pointer (some ⟨gp,0,none⟩)) w k f:=gs.up lq (fun b o e=>d3 b o (sB.in 1 rfl _ _ e))
 refine (Th (p:=p) (Oa yl gl ho (by simp (disch:=decide) only [ff]) HY) ⟨a,ya,tB⟩ sB hq1' hq2' gs2 st (by omega) (fun m hm=>hQ m (List.mem_append_left _ hm))).mono ?_
 rintro _ h5 ⟨b5,s5,d5,a5,ya5,t5⟩
 have s6:Sep [q2,a5,noHp.set bx (.cells #[.func fn fa fb] 178 (0,0)),noHp.set l (o none)] h5:=by
  have:=s5.swap.split t5
  simpa using this
 obtain ⟨h6,s7,t7⟩:=s6.pack3
 refine ⟨h6,s7.in 0 rfl,?_,.inl ⟨s7.at 1 rfl af,?_⟩⟩
 . rcases s7.apart (b:=noHp.set l (o none)) (by simp) l with e|e
   . exact e
   . rw [af]at e;cases e
 try simp only [ff]
 have d6:Dis G h6:=fun b o e=>d5 b o (s7.in 0 rfl _ _ e)
 refine Q9 yl ya5 ((t7.cut lq).rot.rot) d6 hg hpb gs st hp (by simp (disch:=decide) only [ff]) (by simp (disch:=decide) only [ff]) (by simp (disch:=decide) only [ff]) (by omega) (fun hw=>hQ _ (List.mem_append_right _ (by rw [if_pos hw];exact .head _))) rfl fun r h' H=>?_
 try simp only [ff]
 exact H
end Go.Proofs.YtfflipnhffknnaaGreatDoor
end
section
namespace Go.Proofs.YtfflipnhffknnaaGreatDoor
open Go Go.HL Go.Proofs.Resv Go.Proofs.Srch
def Ib:=jq bC (jq (jq (jq (jq @al48 @Ox) (jq @ab4 (jq @cf108 @cf30))) (jq (jq @cf90 (jq @an5 @Cx)) (jq @an4 (jq @Sg @Sf)))) (jq (jq (jq @ai3 @ai2) (jq @Cm (jq @V3 @ld3p))) (jq (jq @ld48p (jq @ld50p @Rh)) (jq @ii (jq @Qa @true_and)))))
def WaP (q:Par) (ip P2:Hp) (v:Value) (L:List Move):Prop:=∃raws:List RawW,Slc rq 232 ip v raws/\raws.length=L.length/\
 ∀(i:Nat) (x:RawW) (m:Move),raws[i]?=some x->L[i]?=some m->x.m=m/\x.d=gi q.C m/\x.n=(lh q.T q.r ((jv q.w q.k q.f m).map (numI q.w q.k))).length/\Slc lw 151 P2 (.slice x.a x.n x.c) (lh q.T q.r ((jv q.w q.k q.f m).map (numI q.w q.k)))
def MvY (q:Par) (kp sp xl x0 l:Nat) (ob:Obj) (L:List Move) (b:Hp):Prop:=∃ip v P2 ak,WaP q ip P2 v L/\KP ak kp q.C.un q.C.ac q.C.sp/\
 HL.Sep [ip,noHp.set xl (.cells #[v] 229 (0,0)),P2,ak,noHp.set x0 (.cells #[.pointer (some ⟨sp,0,none⟩)] 127 (0,0)),noHp.set l ob] b
theorem Kn {w k:Nat} {f:Nat->Nat->Int} {m:Move} (hw:w<=16) (hk:k<=16):(jv w k f m).length<=300:=by
 unfold jv
 split
 . have hn:(kq w k (wayL m)).Nodup:=(qx (w:=w) (k:=k) (W:=wayL m)).imp fun h e=>by subst e;omega
   have:=zu hn (fun c hc=>ix.2 (o8.1 hc).1)
   have h2:w*k<=16*16:=Nat.mul_le_mul hw hk
   omega
 . simp
theorem Q8 {G:Hp} {q:Par} {y:Value} {kp ms mw mp mt hp sp xl x0 l:Nat} {oo:Option Exit->Obj} {r:Rg} (bg:Bg G q sp kp ms mw mp mt hp) (gl:G l=none) (ho:∀e,gm (oo e)=false) (g2:r 2 = .pointer (some ⟨x0,0,none⟩)) (g6:r 6 = .pointer (some ⟨xl,0,none⟩))
 (hy:∀(args:Array Value) (h1:Hp) (K1:Value->Hp->Prop),args.size=1->h1 l=some (oo none)->
  Pw G (setR 71 #[29] args r) h1 (fun e r2 h2=>e = .normal/\h2 l=some (oo none)/\∀ob,gm ob=false->Pv G r2 (h2.set l ob) (fun e _ h3=>h3 l=some ob/\match e with
   | .normal=>K1 (.bool true) (h3.set l (oo none))
   | .panic _=>False
   | .outgrown=>False
   |e=>K1 (.bool false) (h3.set l (oo (some e)))))->
  opH P_ G (il y args) h1 K1):YlN P_ Ew MB 1000 G y (MvY q kp sp xl x0 l (oo none)):=by
 rintro L m b R h hL hm ⟨ip,v,P2,ak,⟨raws,sl,hlen,hraw⟩,kpk,sb⟩ s d
 obtain ⟨ab,cb,ap,cp,ar,cr,az,cs,gp,tp,hbg⟩:=id bg.ex
 have s1:HL.Sep [ip,noHp.set xl (.cells #[v] 229 (0,0)),P2,ak,noHp.set x0 (.cells #[.pointer (some ⟨sp,0,none⟩)] 127 (0,0)),noHp.set l (oo none),R] h:=s.open sb
 refine hy (Ew m) h _ rfl (s1.at 5 rfl af) ?_
 rw [Vm (by decide)]
 unfold Pw
 simp (disch:=first|decide|exact ao|exact am|omega|rfl) only [Ib]
 intro xm hxm gxm
 try simp (disch:=first|decide|omega) only [Ib,Nat.reduceAdd,Nat.reduceMul]
 have s2:=s1.new (o:=ny m) hxm
 have d2:=d.set (o:=ny m) gxm
 have nlx:l≠xm:=fun e=>by rw [<- e,s1.at 5 rfl af]at hxm;cases hxm
 refine ⟨by rw [au nlx];exact s1.at 5 rfl af,fun ob hob=>?_⟩
 generalize Hp.set h xm _=h2 at s2 d2 ⊢
 have s3:=(s2.pick 6 rfl rfl).put (o:=ob) af
 rw [set_set]at s3
 have d3:Dis G (h2.set l ob):=d2.set gl
 generalize Hp.set h2 l ob=h3 at s3 d3 ⊢
 obtain ⟨sv,cv,rfl,hcv⟩:=sl.len (by decide)
 obtain ⟨Q,s4,sQ⟩:=Sep.pack [noHp.set xl (.cells #[.slice sv raws.length cv] 229 (0,0)),noHp.set xm (ny m),noHp.set x0 (.cells #[.pointer (some ⟨sp,0,none⟩)] 127 (0,0))] (R:=[ak,P2,ip,noHp.set l ob,R]) (s3.sel [3,1,6,5,4,2,0,7] (by decide) rfl)
 have dQ:Dis G Q:=fun b o e=>d3 b o (s4.in 0 rfl _ _ e)
 obtain ⟨caQ,cQ,gsQ,tsQ⟩:=hbg Q dQ
 simp only [og]at cQ
 have cl:aa G Q ⟨xl,0,none⟩=some (.slice sv raws.length cv):=by rw [ai (ag (sQ.at 0 rfl af))];rfl
 have cm:∀j,aa G Q ⟨xm,j,none⟩=_:=fun j=>ai (ag (sQ.at 1 rfl af))
 have c0:aa G Q ⟨x0,0,none⟩=some (.pointer (some ⟨sp,0,none⟩)):=by rw [ai (ag (sQ.at 2 rfl af))];rfl
 unfold Pv
 refine ⟨Q,s4.in 0 rfl,?_⟩
 try simp (disch:=decide) only [Ib,g2,g6,cl,cm,c0,cQ]
 refine (T3 (m:=m) (hbg h3 d3).1.cv kpk (s4.pick 1 rfl rfl) hm.n).mono ?_
 rintro _ h5 ⟨rfl,ak5,kpk5,s5,d5⟩
 refine ⟨s5.in 1 rfl,?_⟩
 obtain ⟨ca5,c5,gs5,ts5⟩:=hbg h5 d5
 refine (S8 (m:=m) gs5 bg.st hm).mono ?_
 rintro u6 h6 ⟨ip6,sl6,s6,d6⟩
 have s6':=(s6.swap.open s5)
 refine ⟨s6'.in 1 rfl,?_⟩
 obtain ⟨ca6,c6,gs6,ts6⟩:=hbg h6 d6
 refine (zq (bb:=100) gs6 ts6 bg.gt bg.fw (by omega) (sl6.see (by decide) (s6.in 0 rfl)) (Kn gs6.w2 gs6.k2)).mono ?_
 rintro u7 h7 ⟨ip7,sl7,s7,d7⟩
 have s7':=s7.swap.open s6'
 refine ⟨s7'.in 1 rfl,?_⟩
 obtain ⟨s8v,c8v,rfl,hc8⟩:=sl7.len (by decide)
 try simp only [Ib]
 intro xb hxb gxb
 have s8:=s7'.past (o := .cells (rq.enc ⟨m,gi q.C m,s8v,(lh q.T q.r ((jv q.w q.k q.f m).map (numI q.w q.k))).length,c8v⟩).toArray 232 (0,0)) hxb
 have d8:=d7.set (o := .cells (rq.enc ⟨m,gi q.C m,s8v,(lh q.T q.r ((jv q.w q.k q.f m).map (numI q.w q.k))).length,c8v⟩).toArray 232 (0,0)) gxb
 have hxs:(h7.set xb (.cells (rq.enc ⟨m,gi q.C m,s8v,(lh q.T q.r ((jv q.w q.k q.f m).map (numI q.w q.k))).length,c8v⟩).toArray 232 (0,0))) xb=some (.cells (rq.enc ⟨m,gi q.C m,s8v,(lh q.T q.r ((jv q.w q.k q.f m).map (numI q.w q.k))).length,c8v⟩).toArray 232 (0,0)):=af
 simp only [rq]at s8 d8 hxs
 generalize Hp.set h7 xb _=h8 at s8 d8 hxs ⊢
 refine dw rq (by decide) (L:=raws) (M:=[⟨m,gi q.C m,s8v,(lh q.T q.r ((jv q.w q.k q.f m).map (numI q.w q.k))).length,c8v⟩]) un229 eoway (by decide) (by decide) (s8.pick 3 rfl rfl) d8 sl (Sees.row hxs (by simp [rq,Cod.rows]) (by simp)) (by simp;omega) ?_
 intro v9 ip9 h9 sl9 s9 d9
 obtain ⟨sa9,c9,rfl,hc9⟩:=sl9.len (by decide)
 try simp (disch:=first|decide|omega) only [Ib,Nat.reduceAdd,Nat.reduceMul]
 have s10:HL.Sep [noHp.set xl (.cells #[.slice sv raws.length cv] 229 (0,0)),noHp.set xm (ny m),noHp.set x0 (.cells #[.pointer (some ⟨sp,0,none⟩)] 127 (0,0)),ip9,ak5,P2,noHp.set l ob,R,ip6,ip7] h9:=(s9.pick 2 rfl rfl).open sQ
 have hk9:h9 xl=some (.cells [Value.slice sv raws.length cv].toArray 229 (0,0)):=s10.at 0 rfl af
 rw [di sz229 rfl hk9 (by simp)]
 try simp only [Ib,List.set_cons_zero]
 generalize hraws9:(raws++[⟨m,gi q.C m,s8v,(lh q.T q.r ((jv q.w q.k q.f m).map (numI q.w q.k))).length,c8v⟩])=raws9 at*
 have s11:=s10.put (o := .cells #[.slice sa9 raws9.length c9] 229 (0,0)) af
 rw [set_set]at s11
 have d11:=d9.set (o := .cells #[.slice sa9 raws9.length c9] 229 (0,0)) (d9 _ _ hk9)
 generalize Hp.set h9 xl _=h11 at s11 d11 ⊢
 try simp (disch:=first|decide|omega) only [Ib,Nat.reduceAdd,Nat.reduceMul]
 refine ⟨s11.at 6 rfl af,?_⟩
 have s12:=(s11.pick 6 rfl rfl).put (o:=oo none) af
 rw [set_set]at s12
 obtain ⟨P9,s13,t13⟩:=Sep.pack [P2,ip7] (R:=[ip9,noHp.set xl (.cells #[.slice sa9 raws9.length c9] 229 (0,0)),ak5,noHp.set x0 (.cells #[.pointer (some ⟨sp,0,none⟩)] 127 (0,0)),noHp.set l (oo none),R]) (s12.sel [6,9,4,1,5,3,0,7] (by decide) rfl)
 obtain ⟨b',t1,t2⟩:=Sep.pack [ip9,noHp.set xl (.cells #[.slice sa9 raws9.length c9] 229 (0,0)),P9,ak5,noHp.set x0 (.cells #[.pointer (some ⟨sp,0,none⟩)] 127 (0,0)),noHp.set l (oo none)] (R:=[R]) (s13.sel [1,2,0,3,4,5,6] (by decide) rfl)
 refine ⟨b',t1,d11.set gl,ip9,.slice sa9 raws9.length c9,P9,ak5,⟨raws9,sl9,by rw [<- hraws9];simp [hlen],fun i x u hx hu=>?_⟩,kpk5,t2⟩
 rw [<- hraws9]at hx
 by_cases hi:i<L.length
 . rw [List.getElem?_append_left (by omega)]at hx
   rw [List.getElem?_append_left hi]at hu
   obtain ⟨q1,q2,q3,q4⟩:=hraw i x u hx hu
   exact ⟨q1,q2,q3,q4.le (t13.in 0 rfl)⟩
 . rw [List.getElem?_append_right (by omega)]at hx hu
   rw [hlen]at hx
   obtain hi0:i-L.length=0:=by
    have:=(List.getElem?_eq_some_iff.1 hu).1
    simp at this;omega
   rw [hi0]at hx hu
   cases hx
   cases hu
   exact ⟨rfl,rfl,rfl,sl7.le (t13.in 1 rfl)⟩
def sd:=jq bC (jq (jq (jq (jq @al229 @fh) (jq @qc @cf115)) (jq (jq @cf149 @Cx) (jq @fa134_6 (jq @an3 @ld127)))) (jq (jq (jq @ai3 @ld129) (jq @ld129p (jq @ld229 @ai2))) (jq (jq @ld30 @wp) (jq @Rh (jq @jo @ii)))))
theorem Vo {α:Type} {ok:Nat->Bool} {mk:Nat->α}:∀{k n:Nat} {m:α},m∈ka ok mk n k->∃j,n<=j/\j<n+k/\ok j=true/\m=mk j
 |0,n,m,h=>by simp [ka]at h
 |k+1,n,m,h=>by
  unfold ka at h
  split at h
  . rename_i ho
    rcases List.mem_cons.1 h with rfl|h
    . exact ⟨n,by omega,by omega,ho,rfl⟩
    . obtain ⟨j,h1,h2,h3,h4⟩:=Vo h
      exact ⟨j,by omega,by omega,h3,h4⟩
  . cases h
theorem Vp {α:Type} {ok:Nat->Bool} {mk:Nat->α}:∀{k n:Nat},(ka ok mk n k).length<=k
 |0,n=>by simp [ka]
 |k+1,n=>by
  unfold ka
  split
  . have:=Vp (ok:=ok) (mk:=mk) (k:=k) (n:=n+1)
    simpa using this
  . simp
theorem Sj {α:Type} {D:Nat->List α}:∀{k i:Nat} {m:α},m∈jz D i k->∃j,i<=j/\j<i+k/\m∈D j
 |0,i,m,h=>by simp [jz]at h
 |k+1,i,m,h=>by
  unfold jz at h
  rcases List.mem_append.1 h with h|h
  . exact ⟨i,by omega,by omega,h⟩
  . obtain ⟨j,h1,h2,h3⟩:=Sj h
    exact ⟨j,by omega,by omega,h3⟩
theorem zn {w k:Nat} {f:Nat->Nat->Int} {p:Pose} {m:Move} (h:m∈kz w k f p):df w k f p=true/\((∃d n,d<4/\1<=n/\n<=16/\Ce w k f p d n=true/\m=uo p d n)\/(wayB w k f (mo p)=true/\m=mo p)):=by
 unfold kz at h
 split at h
 . rename_i hf
   refine ⟨hf,?_⟩
   rcases List.mem_append.1 h with h|h
   . obtain ⟨d,h1,h2,h3⟩:=Sj h
     obtain ⟨n,n1,n2,n3,rfl⟩:=Vo h3
     exact .inl ⟨d,n,by omega,n1,by omega,n3,rfl⟩
   . split at h
     . rename_i hw
       rw [List.mem_singleton]at h
       exact .inr ⟨hw,h⟩
     . cases h
 . cases h
theorem K5 {w k:Nat} {f:Nat->Nat->Int} {p:Pose}:(kz w k f p).length<=65:=by
 unfold kz
 split
 . rw [List.length_append]
   have h1:(Eu w k f p).length<=64:=by
    unfold Eu
    simp only [jz,List.length_append,List.length_nil]
    have:=fun d=>Vp (ok:=Ce w k f p d) (mk:=uo p d) (k:=16) (n:=1)
    have h0:=this 0
    have h1:=this (0+1)
    have h2:=this (0+1+1)
    have h3:=this (0+1+1+1)
    unfold runD
    omega
   split
   . simp;omega
   . simp;omega
 . simp
theorem ag7 {w k:Nat} {f:Nat->Nat->Int} {p:Pose} (hp:PB p):∀m∈kz w k f p,MB m:=by
 intro m hm
 rcases (zn hm).2 with ⟨d,n,_,h1,h2,_,rfl⟩|⟨_,rfl⟩
 . refine ⟨⟨?_,?_⟩,hp⟩
   . show (-9223372036854775808:Int)<=(n:Int);omega
   . show (n:Int)<=9223372036854775807;omega
 . exact Nh hp
theorem _root_.Go.HL.xCallV_func {P:Program} {G h:Hp} {y:Value} {args:Array Value} {K:VK} (H:opH P G (il y args) h K):∃fn a b,y = .func fn a b:=by
 cases y<;>first|exact ⟨_,_,_,rfl⟩|exact H.elim
theorem Zo {G:Hp} {a b y:Value} {h:Hp} {K:VK}:opE P_ G (il (.func (.func 165) #[] #[a,b]) #[y]) h K=aj P_ G 165 #[y,a,b] h K:=by kernel_rfl
theorem Ch.put2 {q:Par} {ms mw mp:Nat} {c:Cs} {o1 o3 o':Obj} {ip P2 b:Hp} {p:Pose} {v:Value} (ch:Ch q b ms mw mp c) (k1:MapO o1 c.L1) (k2:MapO o' (mput c.L2 (numP q.w q.k p) v)) (k3:MapO o3 c.L3) {h:Hp} {R:List Hp}
 (s:HL.Sep (noHp.set ms o1::noHp.set mw o'::noHp.set mp o3::c.P::ip::P2::R) h) (hp:df q.w q.k q.f p=true) (hn:mget c.L2 (numP q.w q.k p)=none) (sl:WaP q ip P2 v (kz q.w q.k q.f p)):
 ∃a' c',Ch q a' ms mw mp c'/\c.le c'/\mget c'.L2 (numP q.w q.k p)=some v/\c'.L1=c.L1/\c'.L3=c.L3/\HL.Sep (a'::R) h:=by
 obtain ⟨P',s1,t1⟩:=Sep.pack [ip,P2,c.P] (R:=noHp.set ms o1::noHp.set mw o'::noHp.set mp o3::R) (Sep.fr (R:=R) [noHp.set ms o1,noHp.set mw o',noHp.set mp o3,c.P,ip,P2] s [4,5,3,0,1,2] (by decide) rfl)
 obtain ⟨a',s2,t2⟩:=Sep.pack [noHp.set ms o1,noHp.set mw o',noHp.set mp o3,P'] (R:=R) (Sep.fr (R:=R) [P',noHp.set ms o1,noHp.set mw o',noHp.set mp o3] s1 [1,2,3,0] (by decide) rfl)
 refine ⟨a',⟨c.L1,mput c.L2 (numP q.w q.k p) v,c.L3,P'⟩,⟨⟨o1,o',o3,k1,k2,k3,t2⟩,?_,?_,ch.m3⟩,⟨.refl _,?_,.refl _,t1.in 2 rfl⟩,by rw [n9,if_pos rfl],rfl,rfl,s2⟩
 . intro n u hu
   obtain ⟨p',f',n',s'⟩:=ch.m1 n u hu
   exact ⟨p',f',n',s'.le (t1.in 2 rfl)⟩
 . intro n u hu
   rw [n9]at hu
   split at hu
   . rename_i e
     cases hu
     refine ⟨p,hp,e,?_⟩
     obtain ⟨raws,r1,r2,r3⟩:=sl
     refine ⟨raws,r1.le (t1.in 0 rfl),by rw [r2];simp [qj],fun i x y hx hy=>?_⟩
     unfold qj at hy
     rw [List.getElem?_map]at hy
     cases hm:(kz q.w q.k q.f p)[i]? with
     |none=>rw [hm]at hy;cases hy
     |some m=>
      rw [hm]at hy
      cases hy
      obtain ⟨q1,q2,q3,q4⟩:=r3 i x m hx hm
      exact ⟨q1,q2,q3,by have:=q4.le (t1.in 1 rfl);exact this⟩
   . obtain ⟨p',f',n',s'⟩:=ch.m2 n u hu
     exact ⟨p',f',n',s'.le (t1.in 2 rfl)⟩
 . intro n u hu
   rw [n9]
   split
   . rename_i e;rw [<- e,hn]at hu;cases hu
   . exact hu
theorem Qd {G h a ak:Hp} {R:List Hp} {q:Par} {sp kp ms mw mp mt hp:Nat} {c:Cs} {p:Pose} (ch:Ch q a ms mw mp c) (kpk:KP ak kp q.C.un q.C.ac q.C.sp) (bg:Bg G q sp kp ms mw mp mt hp) (s:HL.Sep (a::ak::R) h) (hpf:df q.w q.k q.f p=true):
 aj P_ G 121 #[.pointer (some ⟨sp,0,none⟩),jy p] h (fun u h'=>∃a' ak' c',Ch q a' ms mw mp c'/\KP ak' kp q.C.un q.C.ac q.C.sp/\c.le c'/\c'.L1=c.L1/\mget c'.L2 (numP q.w q.k p)=some u/\HL.Sep (a'::ak'::R) h'/\Dis G h'):=by
 obtain ⟨ab,cb,ap,cp,ar,cr,az,cs,gp,tp,hbg⟩:=id bg.ex
 refine aj.assume fun d=>as4 (by simp) ?_
 have hin:=zr hpf
 obtain ⟨_,_,gs,_⟩:=hbg h d
 have hpb:=in_pb gs.w2 gs.k2 hin
 unfold S121
 simp only [sd]
 intro x0 hx0 gx0 xp hxp gxp
 have s1:=(s.new (o := .cells #[.pointer (some ⟨sp,0,none⟩)] 127 (0,0)) hx0).new (o := .cells #[p.x,p.y,.bool p.d] 30 (0,0)) hxp
 have d1:=(d.set (o := .cells #[.pointer (some ⟨sp,0,none⟩)] 127 (0,0)) gx0).set (o := .cells #[p.x,p.y,.bool p.d] 30 (0,0)) gxp
 generalize Hp.set (Hp.set h x0 _) xp _=h1 at s1 d1 ⊢
 have c01:aa G h1 ⟨x0,0,none⟩=some (.pointer (some ⟨sp,0,none⟩)):=by rw [ai (ag (s1.at 1 rfl af))];rfl
 have cx1:∀k,aa G h1 ⟨xp,k,none⟩=_:=fun k=>ai (ag (s1.at 0 rfl af))
 try simp only [sd,c01,cx1]
 have s1':=Sep.fr [_,_,_,_] s1 [2,3,1,0] (by decide) rfl
 refine (yg ch bg s1' hpf).mono ?_
 rintro _ h2 ⟨rfl,a2,c2,ch2,cl2,e1,e2,e3,hm3,s2,d2⟩
 have b2:=ux (hbg h2 d2).2.1
 have c02:aa G h2 ⟨x0,0,none⟩=some (.pointer (some ⟨sp,0,none⟩)):=by rw [ai (ag (s2.at 2 rfl af))];rfl
 have cx2:∀k,aa G h2 ⟨xp,k,none⟩=_:=fun k=>ai (ag (s2.at 3 rfl af))
 obtain ⟨o1,o2,o3,m1,m2,m3,sa⟩:=id ch2.sep
 have hmw:h2 mw=some o2:=(s2.open sa).at 1 rfl af
 try simp only [sd,c02,b2.mw]
 rw [E1 unmw un3r zerow (ag hmw) m2]
 cases hg:mget c2.L2 (numP q.w q.k p)with
 |some v=>
  have hw:=ch2.look2 hpf hg
  obtain ⟨raws,r1,_,_⟩:=hw
  obtain ⟨sv,cv,rfl,_⟩:=r1.len (by decide)
  try simp only [sd,Option.getD_some,Option.isSome_some]
  intro xl hxl gxl
  have s3:=s2.past (o := .cells #[.slice sv raws.length cv] 229 (0,0)) hxl
  have d3:=d2.set (o := .cells #[.slice sv raws.length cv] 229 (0,0)) gxl
  have hxs:(h2.set xl (.cells #[.slice sv raws.length cv] 229 (0,0))) xl=some (.cells #[.slice sv raws.length cv] 229 (0,0)):=af
  rw [di sz229 rfl af (by simp),set_set]
  try simp only [sd,List.set_cons_zero]
  generalize Hp.set h2 xl _=h3 at s3 d3 hxs ⊢
  have cl:aa G h3 ⟨xl,0,none⟩=some (.slice sv raws.length cv):=by rw [ai (ag hxs)];rfl
  try simp (disch:=first|decide|omega) only [sd,Nat.reduceAdd,Nat.reduceMul,cl]
  exact ⟨a2,ak,c2,ch2,kpk,cl2,e1,hg,Sep.fr (R:=R) [_,_,_,_] s3 [0,1] (by decide) rfl,d3⟩
 |none=>
  try simp only [sd,Option.getD_none,Option.isSome_none]
  intro xl hxl gxl
  obtain ⟨Qr,s2r,sR⟩:=Sep.rest [a2,ak,noHp.set x0 (.cells #[.pointer (some ⟨sp,0,none⟩)] 127 (0,0)),noHp.set xp (.cells #[p.x,p.y,.bool p.d] 30 (0,0))] s2
  have s3:=s2r.new (o := .cells #[.slice none 0 0] 229 (0,0)) hxl
  have d3:=d2.set (o := .cells #[.slice none 0 0] 229 (0,0)) gxl
  rw [di sz229 rfl af (by simp),set_set]
  try simp only [sd,List.set_cons_zero]
  generalize Hp.set h2 xl _=h3 at s3 d3 ⊢
  unfold Yg
  obtain ⟨ca3,c3,gs3,ts3⟩:=hbg h3 d3
  have b3:=ux c3
  have c03:aa G h3 ⟨x0,0,none⟩=some (.pointer (some ⟨sp,0,none⟩)):=by rw [ai (ag (s3.at 3 rfl af))];rfl
  have cx3:∀k,aa G h3 ⟨xp,k,none⟩=_:=fun k=>ai (ag (s3.at 4 rfl af))
  try simp (disch:=decide) only [sd,c03,b3.g,cx3]
  refine Rb.mono ?_
  rintro _ h4 ⟨b1,b2',rfl,s4,d4⟩
  have s5:HL.Sep [noHp.set xl (.cells #[.slice none 0 0] 229 (0,0)),a2,ak,noHp.set x0 (.cells #[.pointer (some ⟨sp,0,none⟩)] 127 (0,0)),noHp.set xp (.cells #[p.x,p.y,.bool p.d] 30 (0,0)),Qr,noHp.set b1 (.cells #[.pointer (some ⟨gp,0,none⟩)] 68 (0,0)),noHp.set b2' (.cells #[p.x,p.y,.bool p.d] 30 (0,0))] h4:=(s4.pick 2 rfl rfl).open s3
  try simp (disch:=first|decide|omega) only [sd,Nat.reduceAdd,Nat.reduceMul]
  intro y l oo hl gl hoo hy
  rw [Zo]
  have yl:=Q8 (xl:=xl) (x0:=x0) bg gl hoo (by simp (disch:=decide) only [sd]) (by simp (disch:=decide) only [sd]) hy
  obtain ⟨ay,s6,say⟩:=Sep.pack [noHp,noHp.set xl (.cells #[.slice none 0 0] 229 (0,0)),noHp,ak,noHp.set x0 (.cells #[.pointer (some ⟨sp,0,none⟩)] 127 (0,0)),noHp.set l (oo none)] (R:=[noHp.set b1 (.cells #[.pointer (some ⟨gp,0,none⟩)] 68 (0,0)),noHp.set b2' (.cells #[p.x,p.y,.bool p.d] 30 (0,0)),a2,noHp.set xp (.cells #[p.x,p.y,.bool p.d] 30 (0,0)),Qr])
   ((s5.new (o:=oo none) hl).none.none.sel [0,3,1,5,6,2,9,10,4,7,8] (by decide) rfl)
  obtain ⟨Qy,s7,sQy⟩:=Sep.rest [ay] s6
  have d7:Dis G (h4.set l (oo none)):=d4.set gl
  have yb:MvY q kp sp xl x0 l (oo none) [] ay:=⟨noHp,.slice none 0 0,noHp,ak,⟨[],Slc.nil,rfl,fun i x m hx=>by simp at hx⟩,kpk,say⟩
  have hyf:=xCallV_func (yl [] (mo p) ay Qy _ (by simp) (Nh hpb) yb s7 d7)
  have dQ:Dis G Qy:=fun b o e=>d7 b o (s7.in 1 rfl _ _ e)
  refine (Ra hyf yl yb s7 (sQy.at 0 rfl af) (sQy.at 1 rfl af) (hbg Qy dQ).2.2.1 bg.st hpb (by have:=K5 (w:=q.w) (k:=q.k) (f:=q.f) (p:=p);omega) (ag7 hpb)).mono ?_
  rintro _ h8 ⟨a8,s8,d8,ip,v,P2,ak8,wa,kpk8,sa8⟩
  have s9:=Sep.unrest [ip,noHp.set xl (.cells #[v] 229 (0,0)),P2,ak8,noHp.set x0 (.cells #[.pointer (some ⟨sp,0,none⟩)] 127 (0,0)),noHp.set l (oo none)] (s8.open sa8) sQy
  obtain ⟨h9,s10,t10⟩:=Sep.pack [ip,noHp.set xl (.cells #[v] 229 (0,0)),P2,ak8,noHp.set x0 (.cells #[.pointer (some ⟨sp,0,none⟩)] 127 (0,0)),a2,Qr] (R:=[noHp.set l (oo none)]) (s9.sel [0,1,2,3,4,8,10,5] (by decide) rfl)
  have d9:Dis G h9:=fun b o e=>d8 b o (s10.in 0 rfl _ _ e)
  refine ⟨h9,s10.in 0 rfl,?_,.inl ⟨s10.at 1 rfl af,?_⟩⟩
  . rcases s10.apart (b:=noHp.set l (oo none)) (by simp) l with e|e
    . exact e
    . rw [af]at e;cases e
  try simp only [sd]
  unfold Ye
  have b9:=ux (hbg h9 d9).2.1
  have c09:aa G h9 ⟨x0,0,none⟩=some (.pointer (some ⟨sp,0,none⟩)):=by rw [ai (ag (t10.at 4 rfl af))];rfl
  have cl9:aa G h9 ⟨xl,0,none⟩=some v:=by rw [ai (ag (t10.at 1 rfl af))];rfl
  have t11:=(t10.pick 5 rfl rfl).open sa
  have hmw9:h9 mw=some o2:=t11.at 1 rfl af
  have hv:∃s n c,v = .slice s n c:=by
   obtain ⟨raws,r1,_⟩:=wa
   obtain ⟨s,c,e,_⟩:=r1.len (by decide)
   exact ⟨s,_,c,e⟩
  obtain ⟨sv,nv,cv,rfl⟩:=hv
  try simp (disch:=decide) only [sd,c09,b9.mw,cl9]
  refine vh unmw un3r hmw9 m2 fun o' mo'=>?_
  have s12:=(t11.pick 1 rfl rfl).put (o:=o') af
  rw [set_set]at s12
  have d12:=d9.set (o:=o') (d9 _ _ hmw9)
  generalize Hp.set h9 mw _=h12 at s12 d12 ⊢
  have cl12:aa G h12 ⟨xl,0,none⟩=some (.slice sv nv cv):=by rw [ai (ag (s12.at 5 rfl af))];rfl
  try simp only [sd,cl12]
  obtain ⟨a13,c13,ch13,cl13,g13,l1,l3,s13⟩:=Ch.put2 (R:=[ak8,Qr]) ch2 m1 mo' m3 (s12.sel [1,0,2,3,4,6,7,9] (by decide) rfl) hpf hg wa
  refine ⟨a13,ak8,c13,ch13,kpk8,cl2.trans cl13,by rw [l1,e1],g13,Sep.unrest [a13,ak8] s13 sR,d12⟩
end Go.Proofs.YtfflipnhffknnaaGreatDoor
end
section
namespace Go.Proofs.YtfflipnhffknnaaGreatDoor
open Go Go.HL
section
variable (G:Hp) (K:EK) (r:Rg) (h:Hp)
def md63:Nat->Hint
 |_=>mh false [] [] [] false
def S63:Prop:=
 o_ G (Instr.build 218 #[(0,(r 0))]) h fun v0 h0=>o_ G (Instr.box 218 v0) h0 fun v1 h1=>
 K .ret (u5 r 2 (.pointer none) 3 (r 0) 4 v0 5 v1 2 v1) h1
theorem enter63:Ent 6 63 [.tmp 2] S63:=ent_ (m:=md63) (c:=(Tryz.f63.body.getD .skip)) (fun _ _ _ _=>by kernel_rfl) Tryz.func63 rfl rfl rfl
def md64:Nat->Hint
 |_=>mh false [] [] [] false
def az1:Prop:=
 o_ G (Instr.fieldAt 139 (r 2) 1) h fun v2 h2=>o_ G (Instr.fieldAt 137 v2 1) h2 fun v3 h3=>o_ G (Instr.loadAt 3 v3) h3 fun v4 h4=>o_ G (Instr.fieldAt 139 (r 3) 1) h4 fun v5 h5=>o_ G (Instr.fieldAt 137 v5 1) h5 fun v6 h6=>o_ G (Instr.loadAt 3 v6) h6 fun v7 h7=>o_ G (binOp .lss 3 v4 v7) h7 fun v8 h8=>
 K .ret (u8 r 31 v2 32 v3 33 v4 34 v5 35 v6 36 v7 37 v8 4 v8) h8
def S64:Prop:=
 o_ G (Instr.box 139 (r 0)) h fun v0 h0=>o_ G (Instr.box 139 (r 1)) h0 fun v1 h1=>o_ G (Instr.fieldAt 139 v0 0) h1 fun v9 h9=>o_ G (Instr.loadAt 3 v9) h9 fun v10 h10=>o_ G (Instr.fieldAt 139 v1 0) h10 fun v11 h11=>o_ G (Instr.loadAt 3 v11) h11 fun v12 h12=>
 opH P_ G (xEq .neq 3 (.tmp 0) (.tmp 0) v10 v12) h12 fun v13 h13=>
 cond v13
 (o_ G (Instr.fieldAt 139 v0 0) h13 fun v14 h14=>o_ G (Instr.loadAt 3 v14) h14 fun v15 h15=>o_ G (Instr.fieldAt 139 v1 0) h15 fun v16 h16=>o_ G (Instr.loadAt 3 v16) h16 fun v17 h17=>o_ G (binOp .lss 3 v15 v17) h17 fun v18 h18=>
 K .ret (u5 (u10 r 2 v0 3 v1 4 (.bool false) 6 v9 7 v10 8 v11 9 v12 10 v13 5 v13 11 v14) 12 v15 13 v16 14 v17 15 v18 4 v18) h18)
 (o_ G (Instr.fieldAt 139 v0 1) h13 fun v19 h19=>o_ G (Instr.fieldAt 137 v19 0) h19 fun v20 h20=>o_ G (Instr.loadAt 3 v20) h20 fun v21 h21=>o_ G (Instr.fieldAt 139 v1 1) h21 fun v22 h22=>o_ G (Instr.fieldAt 137 v22 0) h22 fun v23 h23=>o_ G (Instr.loadAt 3 v23) h23 fun v24 h24=>
 opH P_ G (xEq .neq 3 (.tmp 0) (.tmp 0) v21 v24) h24 fun v25 h25=>
 cond v25
 (o_ G (Instr.fieldAt 139 v0 1) h25 fun v26 h26=>o_ G (Instr.fieldAt 137 v26 0) h26 fun v27 h27=>o_ G (Instr.loadAt 3 v27) h27 fun v28 h28=>o_ G (Instr.fieldAt 139 v1 1) h28 fun v29 h29=>o_ G (Instr.fieldAt 137 v29 0) h29 fun v30 h30=>o_ G (Instr.loadAt 3 v30) h30 fun v31 h31=>o_ G (binOp .lss 3 v28 v31) h31 fun v32 h32=>
 K .ret (u5 (u10 (u10 r 2 v0 3 v1 4 (.bool false) 6 v9 7 v10 8 v11 9 v12 10 v13 5 v13 17 v19) 18 v20 19 v21 20 v22 21 v23 22 v24 23 v25 16 v25 24 v26 25 v27 26 v28) 27 v29 28 v30 29 v31 30 v32 4 v32) h32)
 (az1 G K (u7 (u10 r 2 v0 3 v1 4 (.bool false) 6 v9 7 v10 8 v11 9 v12 10 v13 5 v13 17 v19) 18 v20 19 v21 20 v22 21 v23 22 v24 23 v25 16 v25) h25))
theorem enter64:Ent 38 64 [.tmp 4] S64:=ent_ (m:=md64) (c:=(Tryz.f64.body.getD .skip)) (fun _ _ _ _=>by kernel_rfl) Tryz.func64 rfl rfl rfl
def md68:Nat->Hint
 |_=>mh false [] [] [] false
def ay9:Prop:=
 opH P_ G (xNil (r 0)) h fun v7 h7=>o_ G (Instr.fieldAt 218 v7 1) h7 fun v8 h8=>o_ G (Instr.loadAt 216 v8) h8 fun v9 h9=>o_ G (Builtin.len_ #[216] 3 #[v9]) h9 fun v10 h10=>o_ G (binOp .sub 3 v10 (.int .i64 1)) h10 fun v11 h11=>
 c_ G 118 #[(r 0),(.int .i64 0),v11] h11 fun v12 h12=>
 opH P_ G (xNil (r 0)) h12 fun v13 h13=>o_ G (Instr.fieldAt 218 v13 1) h13 fun v14 h14=>o_ G (Instr.loadAt 216 v14) h14 fun v15 h15=>o_ G (Instr.build 227 #[]) h15 fun v16 h16=>o_ G (Instr.indexAt 216 v15 v11) h16 fun v17 h17=>
 opH P_ G (su (Instr.storeAt 227 v17 v16)) h17 fun v18 h18=>
 opH P_ G (xNil (r 0)) h18 fun v19 h19=>o_ G (Instr.fieldAt 218 v19 1) h19 fun v20 h20=>o_ G (Instr.loadAt 216 v20) h20 fun v21 h21=>o_ G (Instr.sliceAt 216 v21 none (some v11) none) h21 fun v22 h22=>
 opH P_ G (xNil (r 0)) h22 fun v23 h23=>o_ G (Instr.fieldAt 218 v23 1) h23 fun v24 h24=>
 opH P_ G (su (Instr.storeAt 216 v24 v22)) h24 fun v25 h25=>
 c_ G 119 #[(r 0),(.int .i64 0)] h25 fun v26 h26=>o_ G (Instr.loadAt 139 (r 4)) h26 fun v27 h27=>
 opH P_ G (su (Instr.storeAt 139 (r 2) v27)) h27 fun v28 h28=>
 K .ret (u10 (u10 (u10 r 15 (r 0) 16 v7 17 v8 18 v9 19 v10 20 v11 6 v11 21 (r 0) 22 v11 23 v12) 24 (r 0) 25 v13 26 v14 27 v15 28 v11 29 v16 30 v17 31 (r 0) 32 (r 0) 33 v19) 34 v20 35 v21 36 v11 37 v22 38 v23 39 v24 40 (r 0) 41 v26 42 v27 3 (.bool true)) h28
def S68:Prop:=
 o_ G (Instr.alloc 139 true (.tuple #[])) h fun v0 h0=>
 c_ G 117 #[(r 0)] h0 fun v1 h1=>o_ G (Instr.extract v1 0) h1 fun v2 h2=>o_ G (Instr.extract v1 1) h2 fun v3 h3=>o_ G (Instr.alloc 139 true (.tuple #[])) h3 fun v4 h4=>
 opH P_ G (su (Instr.storeAt 139 v4 v2)) h4 fun v5 h5=>o_ G (Op.unary .not v3) h5 fun v6 h6=>
 cond v6
 (o_ G (Instr.loadAt 139 v4) h6 fun v29 h29=>
 opH P_ G (su (Instr.storeAt 139 v0 v29)) h29 fun v30 h30=>
 K .ret (u3 (u10 r 2 v0 3 (.bool false) 8 (r 0) 9 v1 7 v1 10 v2 11 v3 4 v4 5 v3 12 v3) 13 v6 14 v29 3 (.bool false)) h30)
 (ay9 G K (upd (u10 r 2 v0 3 (.bool false) 8 (r 0) 9 v1 7 v1 10 v2 11 v3 4 v4 5 v3 12 v3) 13 v6) h6)
theorem Ww:Ent 43 68 [.cell 2 139,.tmp 3] S68:=ent_ (m:=md68) (c:=(Tryz.f68.body.getD .skip)) (fun _ _ _ _=>by kernel_rfl) Tryz.func68 rfl rfl rfl
def md116:Nat->Hint
 |2=>mh false [0,0,2,6,14,0,0,64,192,448,992,2016,4094,8191,16383,32767] [n_,n_,n_,n_,m_,m_,n_,n_,n_,m_,n_,.alloc,e_,n_,n_,.store] (fs 16) false
 |_=>mh false [] [] [] false
def Yk:Prop:=
 bm P_ noHp noHp (xNil (r 0)) h fun v8 h8=>
 p_ (Instr.fieldAt 218 v8 1) h8 fun v9 h9=>
 w_ G h (Instr.loadAt 216 v9) h9 fun v10 h10=>
 w_ G h (Instr.loadAt 139 (r 3)) h10 fun v11 h11=>
 bm P_ noHp noHp (xNil (r 0)) h11 fun v12 h12=>
 p_ (Instr.fieldAt 218 v12 2) h12 fun v13 h13=>
 w_ G h (Instr.loadAt 3 v13) h13 fun v14 h14=>
 p_ (Instr.build 227 #[(0,v11),(1,v14)]) h14 fun v15 h15=>o_ G (Instr.buildSlice 216 1 #[(0,v15)]) h15 fun v16 h16=>o_ G (Builtin.append_ #[216,216] 216 #[v10,v16]) h16 fun v17 h17=>
 bm P_ noHp noHp (xNil (r 0)) h17 fun v18 h18=>
 p_ (Instr.fieldAt 218 v18 1) h18 fun v19 h19=>
 opH P_ G (su (Instr.storeAt 216 v19 v17)) h19 fun v20 h20=>
 opH P_ G (xNil (r 0)) h20 fun v21 h21=>o_ G (Instr.fieldAt 218 v21 2) h21 fun v22 h22=>o_ G (Instr.loadAt 3 v22) h22 fun v23 h23=>o_ G (binOp .add 3 v23 (.int .i64 1)) h23 fun v24 h24=>
 opH P_ G (xNil (r 0)) h24 fun v25 h25=>o_ G (Instr.fieldAt 218 v25 2) h25 fun v26 h26=>
 opH P_ G (su (Instr.storeAt 3 v26 v24)) h26 fun v27 h27=>
 opH P_ G (xNil (r 0)) h27 fun v28 h28=>o_ G (Instr.fieldAt 218 v28 1) h28 fun v29 h29=>o_ G (Instr.loadAt 216 v29) h29 fun v30 h30=>o_ G (Builtin.len_ #[216] 3 #[v30]) h30 fun v31 h31=>o_ G (binOp .sub 3 v31 (.int .i64 1)) h31 fun v32 h32=>
 c_ G 147 #[(r 0),v32] h32 fun v33 h33=>
 K .normal (u10 (u10 (u10 r 13 (r 0) 14 (r 0) 15 v8 16 v9 17 v10 18 v11 19 (r 0) 20 v12 21 v13 22 v14) 23 v15 24 v16 25 v17 26 v18 27 v19 28 (r 0) 29 v21 30 v22 31 v23 32 v24) 33 v25 34 v26 35 (r 0) 36 (r 0) 37 v28 38 v29 39 v30 40 v31 41 v32 42 v33) h33
def S116:Prop:=
 o_ G (Instr.box 139 (r 1)) h fun v0 h0=>
 opH P_ G (xEq .eql 132 (.tmp 0) (.const .nilFunc) (r 0) (.pointer none)) h0 fun v1 h1=>g_ v1 false (fun K1=>K1 (r 0) h1) h1 fun v2 h2=>g_ v1 false (opH P_ G (xNil v2) h2) h2 fun v3 h3=>g_ v1 false (o_ G (Instr.fieldAt 218 v3 0) h3) h3 fun v4 h4=>g_ v1 false (o_ G (Instr.loadAt 140 v4) h4) h4 fun v5 h5=>g_ v1 false (opH P_ G (xEq .eql 140 (.tmp 0) (.const .nilFunc) v5 .nilFunc) h5) h5 fun v6 h6=>
 opH P_ G (bf v1 (.bool true) v6) h6 fun v7 h7=>
 (fun q=>cond v7
 (K .ret q h7)
 (Yk G K q h7))
 (u10 r 3 v0 4 (r 0) 5 v1 6 v1 7 v2 8 v3 9 v4 10 v5 11 v6 12 v7)
theorem as9:Ent 43 116 [] S116:=ent_ (m:=md116) (c:=(Tryz.f116.body.getD .skip)) (fun _ _ _ _=>by kernel_rfl) Tryz.func116 rfl rfl rfl
def md117:Nat->Hint
 |_=>mh false [] [] [] false
def Yj:Prop:=
 opH P_ G (xNil (r 0)) h fun v9 h9=>o_ G (Instr.fieldAt 218 v9 1) h9 fun v10 h10=>o_ G (Instr.loadAt 216 v10) h10 fun v11 h11=>o_ G (Instr.indexAt 216 v11 (.int .i64 0)) h11 fun v12 h12=>o_ G (Instr.fieldAt 227 v12 0) h12 fun v13 h13=>o_ G (Instr.loadAt 139 v13) h13 fun v14 h14=>
 opH P_ G (su (Instr.storeAt 139 (r 2) v14)) h14 fun v15 h15=>
 K .ret (u8 r 16 (r 0) 17 v9 18 v10 19 v11 20 v12 21 v13 22 v14 3 (.bool true)) h15
def S117:Prop:=
 o_ G (Instr.alloc 139 true (.tuple #[])) h fun v0 h0=>
 opH P_ G (xEq .eql 132 (.tmp 0) (.const .nilFunc) (r 0) (.pointer none)) h0 fun v1 h1=>g_ v1 false (fun K1=>K1 (r 0) h1) h1 fun v2 h2=>g_ v1 false (opH P_ G (xNil v2) h2) h2 fun v3 h3=>g_ v1 false (o_ G (Instr.fieldAt 218 v3 1) h3) h3 fun v4 h4=>g_ v1 false (o_ G (Instr.loadAt 216 v4) h4) h4 fun v5 h5=>g_ v1 false (o_ G (Builtin.len_ #[216] 3 #[v5]) h5) h5 fun v6 h6=>g_ v1 false (opH P_ G (xEq .eql 3 (.tmp 0) (.const .nilFunc) v6 (.int .i64 0)) h6) h6 fun v7 h7=>
 opH P_ G (bf v1 (.bool true) v7) h7 fun v8 h8=>
 cond v8
 (o_ G (Instr.alloc 139 true (.tuple #[])) h8 fun v16 h16=>o_ G (Instr.loadAt 139 v16) h16 fun v17 h17=>
 opH P_ G (su (Instr.storeAt 139 v0 v17)) h17 fun v18 h18=>
 K .ret (u5 (u10 r 2 v0 3 (.bool false) 5 (r 0) 6 v1 7 v1 8 v2 9 v3 10 v4 11 v5 12 v6) 13 v7 14 v8 4 v16 15 v17 3 (.bool false)) h18)
 (Yj G K (u2 (u10 r 2 v0 3 (.bool false) 5 (r 0) 6 v1 7 v1 8 v2 9 v3 10 v4 11 v5 12 v6) 13 v7 14 v8) h8)
theorem as8:Ent 23 117 [.cell 2 139,.tmp 3] S117:=ent_ (m:=md117) (c:=(Tryz.f117.body.getD .skip)) (fun _ _ _ _=>by kernel_rfl) Tryz.func117 rfl rfl rfl
def md118:Nat->Hint
 |0=>mh false [0,1,3,7,0,0,32,96,224,0,0,1024,3072,7168,0,31744,64512,0,131072,393216,917504,0,4063232,8257536,16776703,33553919,67108863,134217727] [n_,n_,n_,m_,n_,n_,n_,n_,m_,n_,n_,n_,n_,m_,n_,n_,m_,n_,n_,n_,m_,n_,n_,m_,n_,.store,n_,.store] (fs 28) false
 |_=>mh false [] [] [] false
def S118:Prop:=
 bm P_ noHp noHp (xNil (r 0)) h fun v0 h0=>
 p_ (Instr.fieldAt 218 v0 1) h0 fun v1 h1=>
 w_ G h (Instr.loadAt 216 v1) h1 fun v2 h2=>
 bm P_ noHp noHp (xNil (r 0)) h2 fun v3 h3=>
 p_ (Instr.fieldAt 218 v3 1) h3 fun v4 h4=>
 w_ G h (Instr.loadAt 216 v4) h4 fun v5 h5=>
 bm P_ noHp noHp (xNil (r 0)) h5 fun v6 h6=>
 p_ (Instr.fieldAt 218 v6 1) h6 fun v7 h7=>
 w_ G h (Instr.loadAt 216 v7) h7 fun v8 h8=>
 p_ (Instr.indexAt 216 v8 (r 2)) h8 fun v9 h9=>
 w_ G h (Instr.loadAt 227 v9) h9 fun v10 h10=>
 bm P_ noHp noHp (xNil (r 0)) h10 fun v11 h11=>
 p_ (Instr.fieldAt 218 v11 1) h11 fun v12 h12=>
 w_ G h (Instr.loadAt 216 v12) h12 fun v13 h13=>
 p_ (Instr.indexAt 216 v13 (r 1)) h13 fun v14 h14=>
 w_ G h (Instr.loadAt 227 v14) h14 fun v15 h15=>
 p_ (Instr.indexAt 216 v2 (r 1)) h15 fun v16 h16=>
 opH P_ G (su (Instr.storeAt 227 v16 v10)) h16 fun v17 h17=>
 p_ (Instr.indexAt 216 v5 (r 2)) h17 fun v18 h18=>
 opH P_ G (su (Instr.storeAt 227 v18 v15)) h18 fun v19 h19=>
 K .normal (u6 (u10 (u10 r 6 (r 0) 7 v0 8 v1 9 v2 10 (r 1) 11 (r 0) 12 v3 13 v4 14 v5 15 (r 2)) 16 (r 0) 17 v6 18 v7 19 v8 20 (r 2) 21 v9 22 v10 23 (r 0) 24 v11 25 v12) 26 v13 27 (r 1) 28 v14 29 v15 30 v16 31 v18) h19
theorem as7:Ent 32 118 [] S118:=ent_ (m:=md118) (c:=(Tryz.f118.body.getD .skip)) (fun _ _ _ _=>by kernel_rfl) Tryz.func118 rfl rfl rfl
def md119:Nat->Hint
 |_=>mh false [] [] [] false
def Jr:Prop:=
 c_ G 118 #[(r 0),(r 1),(r 4)] h fun v6 h6=>
 K .normal (u6 r 36 (r 0) 37 (r 1) 38 (r 4) 39 v6 40 (r 4) 1 (r 4)) h6
def Js:Prop:=
 opH P_ G (xEq .eql 3 (.tmp 0) (.tmp 0) (r 4) (r 1)) h fun v5 h5=>
 cond v5
 (K .ret (u3 r 33 (r 4) 34 (r 1) 35 v5) h5)
 (Jr G K (u3 r 33 (r 4) 34 (r 1) 35 v5) h5)
def od:Prop:=
 o_ G (binOp .add 3 (r 15) (.int .i64 1)) h fun v8 h8=>
 K .normal (u2 r 32 v8 15 v8) h8
def ue:Prop:=
 o_ G (Instr.index 110 (r 14) (r 15)) h fun v9 h9=>
 opH P_ G (xNil (r 0)) h9 fun v10 h10=>o_ G (Instr.fieldAt 218 v10 1) h10 fun v11 h11=>o_ G (Instr.loadAt 216 v11) h11 fun v12 h12=>o_ G (Builtin.len_ #[216] 3 #[v12]) h12 fun v13 h13=>o_ G (binOp .lss 3 v9 v13) h13 fun v14 h14=>g_ v14 true (fun K1=>K1 (r 0) h14) h14 fun v15 h15=>g_ v14 true (fun K1=>K1 v9 h15) h15 fun v16 h16=>g_ v14 true (fun K1=>K1 (r 4) h16) h16 fun v17 h17=>g_ v14 true (c_ G 148 #[v15,v16,v17] h17) h17 fun v18 h18=>
 opH P_ G (bf v14 v18 (.bool false)) h18 fun v19 h19=>
 (fun q=>cond v19
 (od G K (u2 q 31 v9 4 v9) h19)
 (od G K q h19))
 (u5 (u10 r 17 v9 6 v9 18 v9 19 (r 0) 20 v10 21 v11 22 v12 23 v13 24 v14 25 v14) 26 v15 27 v16 28 v17 29 v18 30 v19)
def Jq (r:Rg) (h:Hp) (K:EK):Prop:=
 o_ G (binOp .lss 3 (r 15) (.int .i64 2)) h fun v7 h7=>
 cond v7
 (ue G K (upd r 16 v7) h7)
 (K (.exit 2) (upd r 16 v7) h7)
def Yi (r:Rg) (h:Hp) (K:EK):Prop:=
 o_ G (binOp .mul 3 (.int .i64 2) (r 1)) h fun v0 h0=>o_ G (binOp .add 3 v0 (.int .i64 1)) h0 fun v1 h1=>o_ G (binOp .mul 3 (.int .i64 2) (r 1)) h1 fun v2 h2=>o_ G (binOp .add 3 v2 (.int .i64 2)) h2 fun v3 h3=>o_ G (Instr.build 110 #[(0,v1),(1,v3)]) h3 fun v4 h4=>
 dc (Jq G) (u10 r 7 (r 1) 4 (r 1) 8 (r 1) 9 v0 10 v1 11 (r 1) 12 v2 13 v3 14 v4 15 (.int .i64 0)) h4 (bj 2 (bw (Js G K) (bj 1 K)))
def S119:Prop:=
 dc (Yi G) r h (bj 0 K)
theorem as6:Ent 41 119 [] S119:=ent_ (m:=md119) (c:=(Tryz.f119.body.getD .skip)) (fun _ _ _ _=>by kernel_rfl) Tryz.func119 rfl rfl rfl
def md147:Nat->Hint
 |_=>mh false [] [] [] false
def I1:Prop:=
 o_ G (binOp .sub 3 (r 1) (.int .i64 1)) h fun v8 h8=>o_ G (binOp .quo 3 v8 (.int .i64 2)) h8 fun v9 h9=>
 c_ G 118 #[(r 0),(r 1),v9] h9 fun v10 h10=>o_ G (binOp .sub 3 (r 1) (.int .i64 1)) h10 fun v11 h11=>o_ G (binOp .quo 3 v11 (.int .i64 2)) h11 fun v12 h12=>
 K .normal (u10 r 14 (r 0) 15 (r 1) 16 (r 1) 17 v8 18 v9 19 v10 20 (r 1) 21 v11 22 v12 1 v12) h12
def Xo (r:Rg) (h:Hp) (K:EK):Prop:=
 o_ G (binOp .gtr 3 (r 1) (.int .i64 0)) h fun v0 h0=>g_ v0 true (fun K1=>K1 (r 0) h0) h0 fun v1 h1=>g_ v0 true (fun K1=>K1 (r 1) h1) h1 fun v2 h2=>g_ v0 true (fun K1=>K1 (r 1) h2) h2 fun v3 h3=>g_ v0 true (o_ G (binOp .sub 3 v3 (.int .i64 1)) h3) h3 fun v4 h4=>g_ v0 true (o_ G (binOp .quo 3 v4 (.int .i64 2)) h4) h4 fun v5 h5=>g_ v0 true (c_ G 148 #[v1,v2,v5] h5) h5 fun v6 h6=>
 opH P_ G (bf v0 v6 (.bool false)) h6 fun v7 h7=>
 (fun q=>cond v7
 (I1 G K q h7)
 (K (.exit 0) q h7))
 (u10 r 4 (r 1) 5 v0 6 v0 7 v1 8 v2 9 v3 10 v4 11 v5 12 v6 13 v7)
def S147:Prop:=
 dc (Xo G) r h (bj 0 K)
theorem aq0:Ent 23 147 [] S147:=ent_ (m:=md147) (c:=(Tryz.f147.body.getD .skip)) (fun _ _ _ _=>by kernel_rfl) Tryz.func147 rfl rfl rfl
def md148:Nat->Hint
 |1=>mh false [0,1,3,7,0,31,63,0,128,384,896,0,3968,8064,0,0,49279,131071] [n_,n_,n_,m_,n_,n_,m_,n_,n_,n_,m_,n_,n_,m_,.alloc,.alloc,.store,.store] [false,false,false,false,false,false,false,false,false,false,false,false,false,false,false,false,true,false] false
 |2=>mh false [0,1,3,7,0,16,0,64,255,511] [n_,n_,n_,m_,n_,m_,n_,m_,e_,n_] (fs 10) false
 |4=>mh false [0,1,3,7,0,16,0,64,255,511] [n_,n_,n_,m_,n_,m_,n_,m_,e_,n_] (fs 10) false
 |_=>mh false [] [] [] false
def Xn:Prop:=
 o_ G (Instr.fieldAt 227 (r 7) 1) h fun v14 h14=>o_ G (Instr.loadAt 3 v14) h14 fun v15 h15=>o_ G (Instr.fieldAt 227 (r 8) 1) h15 fun v16 h16=>o_ G (Instr.loadAt 3 v16) h16 fun v17 h17=>o_ G (binOp .lss 3 v15 v17) h17 fun v18 h18=>
 K .ret (u6 r 43 v14 44 v15 45 v16 46 v17 47 v18 6 v18) h18
def S148:Prop:=
 bm P_ noHp noHp (xNil (r 0)) h fun v0 h0=>
 p_ (Instr.fieldAt 218 v0 1) h0 fun v1 h1=>
 w_ G h (Instr.loadAt 216 v1) h1 fun v2 h2=>
 p_ (Instr.indexAt 216 v2 (r 1)) h2 fun v3 h3=>
 w_ G h (Instr.loadAt 227 v3) h3 fun v4 h4=>
 bm P_ noHp noHp (xNil (r 0)) h4 fun v5 h5=>
 p_ (Instr.fieldAt 218 v5 1) h5 fun v6 h6=>
 w_ G h (Instr.loadAt 216 v6) h6 fun v7 h7=>
 p_ (Instr.indexAt 216 v7 (r 2)) h7 fun v8 h8=>
 w_ G h (Instr.loadAt 227 v8) h8 fun v9 h9=>o_ G (Instr.alloc 227 true (.tuple #[])) h9 fun v10 h10=>o_ G (Instr.alloc 227 true (.tuple #[])) h10 fun v11 h11=>
 opH P_ G (su (Instr.storeAt 227 v10 v4)) h11 fun v12 h12=>h.le h12/\
 opH P_ G (su (Instr.storeAt 227 v11 v9)) h12 fun v13 h13=>
 bm P_ noHp noHp (xNil (r 0)) h13 fun v19 h19=>
 p_ (Instr.fieldAt 218 v19 0) h19 fun v20 h20=>
 w_ G h13 (Instr.loadAt 140 v20) h20 fun v21 h21=>
 p_ (Instr.fieldAt 227 v10 0) h21 fun v22 h22=>
 w_ G h13 (Instr.loadAt 139 v22) h22 fun v23 h23=>
 p_ (Instr.fieldAt 227 v11 0) h23 fun v24 h24=>
 w_ G h13 (Instr.loadAt 139 v24) h24 fun v25 h25=>
 opH P_ G (il v21 #[v23,v25]) h25 fun v26 h26=>
 cond v26
 (K .ret (u8 (u10 (u10 r 6 (.bool false) 9 (r 0) 10 v0 11 v1 12 v2 13 (r 1) 14 v3 15 v4 16 (r 0) 17 v5) 18 v6 19 v7 20 (r 2) 21 v8 22 v9 7 v10 8 v11 24 (r 0) 25 v19 26 v20) 27 v21 28 v22 29 v23 30 v24 31 v25 32 v26 23 v26 6 (.bool true)) h26)
 (bm P_ noHp noHp (xNil (r 0)) h26 fun v27 h27=>
 p_ (Instr.fieldAt 218 v27 0) h27 fun v28 h28=>
 w_ G h26 (Instr.loadAt 140 v28) h28 fun v29 h29=>
 p_ (Instr.fieldAt 227 v11 0) h29 fun v30 h30=>
 w_ G h26 (Instr.loadAt 139 v30) h30 fun v31 h31=>
 p_ (Instr.fieldAt 227 v10 0) h31 fun v32 h32=>
 w_ G h26 (Instr.loadAt 139 v32) h32 fun v33 h33=>
 opH P_ G (il v29 #[v31,v33]) h33 fun v34 h34=>
 cond v34
 (K .ret (u8 (u10 (u10 (u10 r 6 (.bool false) 9 (r 0) 10 v0 11 v1 12 v2 13 (r 1) 14 v3 15 v4 16 (r 0) 17 v5) 18 v6 19 v7 20 (r 2) 21 v8 22 v9 7 v10 8 v11 24 (r 0) 25 v19 26 v20) 27 v21 28 v22 29 v23 30 v24 31 v25 32 v26 23 v26 34 (r 0) 35 v27 36 v28) 37 v29 38 v30 39 v31 40 v32 41 v33 42 v34 33 v34 6 (.bool false)) h34)
 (Xn G K (u7 (u10 (u10 (u10 r 6 (.bool false) 9 (r 0) 10 v0 11 v1 12 v2 13 (r 1) 14 v3 15 v4 16 (r 0) 17 v5) 18 v6 19 v7 20 (r 2) 21 v8 22 v9 7 v10 8 v11 24 (r 0) 25 v19 26 v20) 27 v21 28 v22 29 v23 30 v24 31 v25 32 v26 23 v26 34 (r 0) 35 v27 36 v28) 37 v29 38 v30 39 v31 40 v32 41 v33 42 v34 33 v34) h34))
theorem ap9:Ent 48 148 [.tmp 6] S148:=ent_ (m:=md148) (c:=(Tryz.f148.body.getD .skip)) (fun _ _ _ _=>by kernel_rfl) Tryz.func148 rfl rfl rfl
end
end Go.Proofs.YtfflipnhffknnaaGreatDoor
end

/- Texts of the proof, one behind the other. -/
import Derived.Test.YtfflipnhffknnaaGreatDoorM2
import Derived.Test.YtfflipnhffknnaaGreatDoorH3
import Derived.Test.YtfflipnhffknnaaGreatDoorM1
set_option linter.unusedSimpArgs false
set_option linter.unusedVariables false
set_option maxRecDepth 100000
set_option maxHeartbeats 4000000
set_option linter.defProp false
section
namespace Go.Proofs.YtfflipnhffknnaaGreatDoor
open Go Go.HL
def bRpF:=jq bC (jq (jq (jq (jq @Bool.true_and (jq @al28 @yw)) (jq (jq @tq @pu) (jq @uw @H6))) (jq (jq @Sq (jq @cf88 @eq68sp)) (jq (jq @Sa @al6) (jq @Cw @Bc)))) (jq (jq (jq @Wb (jq @Bb @Wa)) (jq (jq @ub @Ea) (jq @Hb @ld28))) (jq (jq @ld3 (jq @ld3p @ld4)) (jq (jq @jo @ii) (jq @Qb @true_and)))))
theorem un81:P_.underlying 245=some (.array 4 28):=by kernel_rfl
theorem ix81 {G h:Hp} {a:Addr} {k:IntKind} {i:Int} {K:VK} (h1:0<=i) (h2:i<(4:Nat)):wpH P_ G (Instr.indexAt 245 (.pointer (some a)) (.int k i)) h K=K (.pointer (some (a.add (i.toNat*2)))) h:=D5 un81 sz28 h1 h2
theorem V6 {G h:Hp} {a:Addr} {k:IntKind} {i:Int} {K:Value->Prop} (h1:0<=i) (h2:i<(4:Nat)):pw P_ G h (Instr.indexAt 245 (.pointer (some a)) (.int k i)) K=K (.pointer (some (a.add (i.toNat*2)))):=Hd un81 sz28 h1 h2
def Es:List Value:=[.int .i64 0,.int .i64 (-1),.int .i64 1,.int .i64 0,.int .i64 0,.int .i64 1,.int .i64 (-1),.int .i64 0]
def j9 (G:Hp):Prop:=∃e f,G 0=some (.cells Es.toArray e f)
theorem j9.cell {G h:Hp} (s:j9 G) (d:Dis G h) (k:Nat):aa G h ⟨0,k,none⟩=Es[k]?:=by
 obtain ⟨e,f,s⟩:=s
 rw [Sr d s rfl]
 simp [ve]
theorem j9.free {G h:Hp} (s:j9 G) (d:Dis G h):h 0=none:=by
 obtain ⟨e,f,s⟩:=s
 cases q:h 0 with
 |none=>rfl
 |some o=>rw [d _ _ q]at s;cases s
theorem j9.under {G h a:Hp} (s:j9 G) (d:Dis G h) (l:a.le h):j9 (under G h a):=by
 have h0:=s.free d
 obtain ⟨e,f,s⟩:=s
 refine ⟨e,f,?_⟩
 unfold HL.under HL.look
 rw [l.none h0,h0]
 simpa using s
def ju {α:Type} (w h:Nat) (f:Nat->Nat->α):List α:=(List.range (w*h)).map fun n=>f (n % w) (n / w)
theorem fd {α:Type} {w h:Nat} {f:Nat->Nat->α}:(ju w h f).length=w*h:=by simp [ju]
theorem ut {α:Type} {w h:Nat} {f:Nat->Nat->α} {x y:Nat} (hx:x<w) (hy:y<h):(ju w h f)[y*w+x]?=some (f x y):=by
 have hlt:y*w+x<w*h:=by
  have:(y+1)*w<=h*w:=Nat.mul_le_mul_right _ hy
  rw [Nat.succ_mul]at this
  rw [Nat.mul_comm w h];omega
 unfold ju
 rw [List.getElem?_map,List.getElem?_range hlt,Option.map_some]
 rw [Nat.mul_comm y w,Nat.mul_add_mod,Nat.mod_eq_of_lt hx,Nat.mul_add_div (by omega),Nat.div_eq_of_lt hx,Nat.add_zero]
theorem uu {α:Type} {w h:Nat} {f:Nat->Nat->α} {n:Nat} (hn:n<w*h):(ju w h f)[n]?=some (f (n % w) (n / w)):=by
 unfold ju
 rw [List.getElem?_map,List.getElem?_range hn,Option.map_some]
theorem Lg {α:Type} {w h:Nat} {f:Nat->Nat->α} {x y:Nat} {v:α} (hx:x<w):(ju w h f).set (y*w+x) v=ju w h (fun a b=>if a=x/\b=y then v else f a b):=by
 apply List.ext_getElem?
 intro n
 rw [List.getElem?_set]
 by_cases hn:n<w*h
 . rw [uu hn,uu hn,fd]
   have hw:0<w:=by omega
   by_cases e:y*w+x=n
   . subst e
     rw [if_pos rfl,if_pos hn,Nat.mul_comm y w,Nat.mul_add_mod,Nat.mod_eq_of_lt hx,Nat.mul_add_div hw,Nat.div_eq_of_lt hx,Nat.add_zero]
     simp
   . rw [if_neg e,if_neg]
     rintro ⟨e1,e2⟩
     apply e
     rw [<- e1,<- e2,Nat.mul_comm]
     exact Nat.div_add_mod n w
 . rw [List.getElem?_eq_none (by rw [fd];omega),List.getElem?_eq_none (by rw [fd];omega)]
   split
   . rw [if_neg (by rw [fd];omega)]
   . rfl
structure GS (G h:Hp) (g:Value) (w k:Nat) (f:Nat->Nat->Int):Prop where
 ex:∃gp kb,g = .pointer (some ⟨gp,0,none⟩)/\(∀j,j<3->aa G h ⟨gp,j,none⟩=[Value.int .i64 w,.int .i64 k,.slice (some ⟨kb,0,none⟩) (w*k) (w*k)][j]?)/\(∀n x,(ju w k f)[n]?=some x->aa G h ⟨kb,n,none⟩=some (.int .i64 x))
 w1:1<=w
 w2:w<=16
 k1:1<=k
 k2:k<=16
theorem GS.up {G h h':Hp} {g:Value} {w k:Nat} {f:Nat->Nat->Int} (s:GS G h g w k f) (l:h.le h') (d:Dis G h'):GS G h' g w k f:=by
 obtain ⟨⟨gp,kb,e,h1,h2⟩,a,b,c,e2⟩:=s
 refine ⟨⟨gp,kb,e,fun j hj=>?_,fun n x hx=>jg l d (h2 n x hx)⟩,a,b,c,e2⟩
 have:=h1 j hj
 rw [List.getElem?_eq_getElem (by simpa using hj)]at this ⊢
 exact jg l d this
def inW (w k:Nat) (c:Cell):Bool:=ax c.1 0 (w-1)&&ax c.2 0 (k-1)
def numI (w k:Nat) (c:Cell):Int:=if inW w k c=true then c.2*w+c.1 else -1
def fAt (f:Nat->Nat->Int) (c:Cell):Int:=f c.1.toNat c.2.toNat
def nn (w k:Nat) (f:Nat->Nat->Int) (c:Cell):Bool:=inW w k c && !(fAt f c == -1)
theorem ix {w k:Nat} {c:Cell}:inW w k c=true↔0<=c.1/\c.1<w/\0<=c.2/\c.2<k:=by
 unfold inW ax
 simp only [Bool.and_eq_true,decide_eq_true_eq]
 omega
theorem jh {G h:Hp} {n a b:Int}:aj P_ G 129 #[n,a,b] h (fun u h'=>u = .bool (ax n a b)/\h'=h):=by
 refine quietly (ar7 (by simp) ?_)
 unfold S129
 simp only [bRpF]
 unfold ax
 cases hc:decide (n>=a)with
 |false=>simp only [bRpF,hc];exact ⟨rfl,Hp.le.refl h⟩
 |true=>simp only [bRpF,hc];exact Hp.le.refl h
theorem nx {G h:Hp} {g:Value} {w k:Nat} {f:Nat->Nat->Int} {c:Cell} (s:GS G h g w k f):aj P_ G 88 #[g,tl c] h (fun u h'=>u = .int .i64 (numI w k c)/\h'=h):=by
 have s0:=s
 obtain ⟨⟨gp,kb,rfl,g1,g2⟩,w1,w2,k1,k2⟩:=s
 refine aj.assume fun d=>quietly (enter88 (by simp) ?_)
 unfold S88
 simp only [bRpF]
 intro x hx gx
 generalize e1:Hp.set h x _=h1
 obtain ⟨l1,d1,b1⟩:=boxed e1 hx d gx
 have cx:∀j,aa G h1 ⟨x,j,none⟩=_:=fun j=>ai (ag b1)
 have y0:aa G h1 ⟨gp,0,none⟩=some (.int .i64 w):=jg l1 d1 (g1 0 (by decide))
 have y1:aa G h1 ⟨gp,1,none⟩=some (.int .i64 k):=jg l1 d1 (g1 1 (by decide))
 try simp (disch:=first|decide|omega) only [bRpF,cx,y0,y1]
 try rw [li (by omega) (by omega)]
 refine (jh (n:=c.1) (a:=0) (b:=(w:Int)-1)).mono ?_
 rintro _ _ ⟨rfl,rfl⟩
 unfold numI inW
 cases h1:ax c.1 0 ((w:Int)-1)with
 |false=>try simp only [bRpF];exact ⟨by simp,l1⟩
 |true=>
 try simp (disch:=first|decide|omega) only [bRpF,cx,y0,y1]
 try rw [li (by omega) (by omega)]
 refine (jh (n:=c.2) (a:=0) (b:=(k:Int)-1)).mono ?_
 rintro _ _ ⟨rfl,rfl⟩
 cases h2:ax c.2 0 ((k:Int)-1)with
 |false=>try simp only [bRpF];exact ⟨by simp,l1⟩
 |true=>
 unfold ax at h1 h2
 simp only [Bool.and_eq_true,decide_eq_true_eq]at h1 h2
 have hm:0<=c.2*(w:Int)/\c.2*(w:Int)<=15*16:=⟨Int.mul_nonneg (by omega) (by omega),Int.mul_le_mul (by omega) (by omega) (by omega) (by omega)⟩
 try simp only [bRpF]
 unfold ax2
 try simp (disch:=first|decide|omega) only [bRpF,cx,y0,y1]
 try rw [li (x:=c.2*(w:Int)) (by omega) (by omega)]
 try rw [li (by omega) (by omega)]
 first|exact l1|exact ⟨by simp,l1⟩
theorem GS.kind {G h:Hp} {g:Value} {w k:Nat} {f:Nat->Nat->Int} (s:GS G h g w k f) {c:Cell} (hc:inW w k c=true):
 ∃gp kb,g = .pointer (some ⟨gp,0,none⟩)/\aa G h ⟨gp,2,none⟩=some (.slice (some ⟨kb,0,none⟩) (w*k) (w*k))/\aa G h ⟨kb,(numI w k c).toNat,none⟩=some (.int .i64 (fAt f c))/\0<=numI w k c/\numI w k c<((w*k:Nat):Int):=by
 obtain ⟨⟨gp,kb,rfl,g1,g2⟩,w1,w2,k1,k2⟩:=s
 obtain ⟨a1,a2,a3,a4⟩:=ix.1 hc
 have hn:numI w k c=((c.2.toNat*w+c.1.toNat:Nat):Int):=by
  unfold numI
  rw [if_pos hc]
  rw [Int.natCast_add,Int.natCast_mul,Int.toNat_of_nonneg a1,Int.toNat_of_nonneg a3]
 refine ⟨gp,kb,rfl,g1 2 (by decide),?_,by omega,?_⟩
 . rw [hn,Int.toNat_natCast]
   exact g2 _ _ (ut (by omega) (by omega))
 . rw [hn]
   have:(c.2.toNat+1)*w<=k*w:=Nat.mul_le_mul_right _ (by omega)
   rw [Nat.succ_mul]at this
   rw [Nat.mul_comm w k]
   omega
theorem G6 {w k:Nat} {c:Cell} (h:inW w k c=false):numI w k c = -1:=by unfold numI;rw [h];rfl
theorem ix57k {G h:Hp} {kb n:Nat} {i:Int} {K:VK} (h1:0<=i) (h2:i<(n:Int)):wpH P_ G (Instr.indexAt 168 (.slice (some ⟨kb,0,none⟩) n n) (.int .i64 i)) h K=K (.pointer (some ⟨kb,i.toNat,none⟩)) h:=by
 rw [Rn h1 h2];simp only [mn,Nat.zero_add,Nat.mul_one]
theorem zm {G h:Hp} {g:Value} {w k:Nat} {f:Nat->Nat->Int} {c:Cell} (s:GS G h g w k f):aj P_ G 62 #[g,tl c] h (fun u h'=>u = .bool (nn w k f c)/\h'=h):=by
 refine aj.assume fun d=>quietly (enter62 (by simp) ?_)
 unfold S62
 simp only [bRpF]
 intro x hx gx
 generalize e1:Hp.set h x _=h1
 obtain ⟨l1,d1,b1⟩:=boxed e1 hx d gx
 have cx:∀j,aa G h1 ⟨x,j,none⟩=_:=fun j=>ai (ag b1)
 try simp (disch:=first|decide|omega) only [bRpF,Nat.reduceAdd,Nat.reduceMul,cx]
 refine (nx (c:=c) (s.up l1 d1)).mono ?_
 rintro _ _ ⟨rfl,rfl⟩
 unfold nn
 cases hc:inW w k c with
 |false=>
  try simp only [bRpF,G6 hc,show decide ((-1:Int)>=0)=false from rfl]
  first|exact l1|exact ⟨by simp,l1⟩
 |true=>
  obtain ⟨gp,kb,rfl,z2,zk,n0,n1⟩:=(s.up l1 d1).kind hc
  try simp only [bRpF,show decide (numI w k c>=0)=true from decide_eq_true n0,z2,ix57k n0 n1,zk]
  first|exact l1|exact ⟨by simp [bne],l1⟩
theorem Nl {G h:Hp} {g:Value} {w k:Nat} {f:Nat->Nat->Int} {c:Cell} (s:GS G h g w k f):aj P_ G 158 #[g,tl c] h (fun u h'=>u = .bool (inW w k c&&(fAt f c==0))/\h'=h):=by
 refine aj.assume fun d=>quietly (ap0 (by simp) ?_)
 unfold S158
 simp only [bRpF]
 intro x hx gx
 generalize e1:Hp.set h x _=h1
 obtain ⟨l1,d1,b1⟩:=boxed e1 hx d gx
 have cx:∀j,aa G h1 ⟨x,j,none⟩=_:=fun j=>ai (ag b1)
 try simp (disch:=first|decide|omega) only [bRpF,Nat.reduceAdd,Nat.reduceMul,cx]
 refine (nx (c:=c) (s.up l1 d1)).mono ?_
 rintro _ _ ⟨rfl,rfl⟩
 cases hc:inW w k c with
 |false=>
  try simp only [bRpF,G6 hc,show decide ((-1:Int)>=0)=false from rfl]
  first|exact l1|exact ⟨by simp,l1⟩
 |true=>
  obtain ⟨gp,kb,rfl,z2,zk,n0,n1⟩:=(s.up l1 d1).kind hc
  try simp only [bRpF,show decide (numI w k c>=0)=true from decide_eq_true n0,z2,ix57k n0 n1,zk]
  first|exact l1|exact ⟨by simp,l1⟩
def Bd (x:Int):Prop := -9223372036854775808<=x/\x<=9223372036854775807
def PB (p:Pose):Prop:=Bd p.x/\Bd p.y
theorem oy {G h:Hp} {g:Value} {p:Pose} (st:j9 G) (hp:PB p):aj P_ G 89 #[g,jy p] h (fun u h'=>∃b,u = .slice (some ⟨b,0,none⟩) 2 2/\h b=none/\G b=none/\h'=h.set b (.cells #[p.x,p.y,(east p).1,(east p).2] 28 (0,0))):=by
 obtain ⟨⟨p1,p2⟩,p3,p4⟩:=hp
 refine aj.assume fun d=>aj.less (enter89 (by simp) (R:=fun u h'=>∃b,u = .slice (some ⟨b,0,none⟩) 2 2/\h b=none/\G b=none/\(h.set b (.cells #[p.x,p.y,(east p).1,(east p).2] 28 (0,0))).le h') ?_) ?_
 rotate_left
 . rintro v h' ⟨b,e,h1,h2,h3⟩
   exact ⟨_,h3,b,e,h1,h2,rfl⟩
 unfold S89
 simp only [bRpF]
 intro x hx gx
 generalize e1:Hp.set h x _=h1
 obtain ⟨l1,d1,b1⟩:=boxed e1 hx d gx
 have c0:=fun j=>st.cell d1 j
 try simp (disch:=first|decide|exact ao|exact am|omega|rfl) only [bRpF,Nat.reduceAdd,ix81 (by decide:(0:Int)<=1) (by decide:(1:Int)<(4:Nat)),Int.toNat_one,Nat.one_mul,c0,Es]
 intro y hy gy
 generalize e2:Hp.set h1 y _=h2
 obtain ⟨l2,d2,b2⟩:=boxed e2 hy d1 gy
 have cx:∀j,aa G h2 ⟨x,j,none⟩=_:=fun j=>ai (ag (l2 _ _ b1))
 have cy:∀j,aa G h2 ⟨y,j,none⟩=_:=fun j=>ai (ag b2)
 have L:=l1.trans l2
 try simp only [bRpF,cx]
 unfold east wr
 cases hd:p.d with
 |false=>
  try simp only [bRpF]
  unfold O3
  try simp (disch:=first|decide|omega) only [bRpF,cx,cy]
  rw [show (p.y+0:Int)=p.y by omega]
  intro b hb gb
  exact ⟨b,rfl,L.none hb,gb,L.both⟩
 |true=>
  have c2:=fun j=>st.cell d2 j
  try simp only [bRpF,Nat.reduceAdd,Nat.reduceMul,ix81 (by decide:(0:Int)<=2) (by decide:(2:Int)<(4:Nat)),show Int.toNat 2=2 from rfl,c2,Es]
  rw [qk sz28 b2 (by simp [mj]) (by simp) (by simp [mj,jt])]
  have nxy:x≠y:=gf b1 hy
  generalize e3:Hp.set h2 y _=h3
  have cx3:∀j,aa G h3 ⟨x,j,none⟩=[Value.int .i64 p.x,.int .i64 p.y,.bool p.d][j]?:=fun j=>by rw [<- e3,al nxy];exact cx j
  have cy3:∀j,aa G h3 ⟨y,j,none⟩=[Value.int .i64 0,.int .i64 1][j]?:=fun j=>by rw [<- e3,ai (ag af)];first|rfl|simp [putL,mj]
  have L3:h.le h3:=by
   rw [<- e3]
   exact L.set (l1.none hy)
  unfold O3
  try simp (disch:=first|decide|omega) only [bRpF,cx3,cy3]
  rw [show (p.x+0:Int)=p.x by omega]
  intro b hb gb
  exact ⟨b,rfl,L3.none hb,gb,L3.both⟩
def bRpG:=jq bC (jq (jq @Bool.true_and (jq @cf62 @cf89)) (jq @ld28 (jq @ld30 @true_and)))
def df (w k:Nat) (f:Nat->Nat->Int) (p:Pose):Bool:=nn w k f (p.x,p.y)&&nn w k f (east p)
theorem ng {G h:Hp} {g:Value} {w k:Nat} {f:Nat->Nat->Int} {p:Pose} (s:GS G h g w k f) (st:j9 G) (hp:PB p):aj P_ G 61 #[g,jy p] h (fun u h'=>u = .bool (df w k f p)/\h'=h):=by
 refine aj.assume fun d=>quietly (enter61 (by simp) ?_)
 unfold S61
 simp only [bRpG]
 intro x hx gx
 generalize e1:Hp.set h x _=h1
 obtain ⟨l1,d1,b1⟩:=boxed e1 hx d gx
 have cx:∀j,aa G h1 ⟨x,j,none⟩=_:=fun j=>ai (ag b1)
 try simp (disch:=first|decide|omega) only [bRpG,Nat.reduceAdd,Nat.reduceMul,cx]
 refine (oy (g:=g) (p:=p) st hp).mono ?_
 rintro _ _ ⟨b,rfl,hb,gb,rfl⟩
 generalize e3:Hp.set h1 b _=h3
 obtain ⟨l3,d3,b3⟩:=boxed e3 hb d1 gb
 have L:=l1.trans l3
 have cb3:∀k,aa G h3 ⟨b,k,none⟩=_:=fun k=>ai (ag b3)
 try simp only [bRpG,cb3,ix22 (by decide:(0:Int)<=0) (by decide:(0:Int)<(2:Nat)),Int.toNat_zero,Nat.zero_mul]
 refine (zm (c:=(p.x,p.y)) (s.up L d3)).mono ?_
 rintro _ _ ⟨rfl,rfl⟩
 unfold df
 cases hc:nn w k f (p.x,p.y)with
 |false=>simp only [bRpG,hc];exact ⟨rfl,L⟩
 |true=>
 try simp only [bRpG,Nat.reduceAdd,cb3,ix22 (by decide:(0:Int)<=1) (by decide:(1:Int)<(2:Nat)),Int.toNat_one,Nat.one_mul]
 refine (zm (c:=east p) (s.up L d3)).mono ?_
 rintro _ _ ⟨rfl,rfl⟩
 try simp only [bRpG]
 first|exact L|exact ⟨by simp,L⟩
theorem Qm {α:Type} (c:Cod α) (hn:c.n=1) {L:List α} {i:Nat} {x:α} {v:Value} (hv:c.enc x=[v]) (hi:i<L.length):(c.rows L).set i v=c.rows (L.set i x):=by
 have h:=c.rows_put (t:=[]) (x:=x) hi
 rw [List.append_nil,List.append_nil,hn,Nat.mul_one,hv]at h
 rw [<- h,qz _ _ _ (by rw [c.rows_length,hn];simp;omega)]
 rw [List.set_eq_take_append_cons_drop,if_pos (by rw [c.rows_length,hn];omega)]
 simp
theorem qy {α:Type} (c:Cod α) (hn:c.n=1) {L:List α} {i:Nat} {x:α} {v:Value} (hv:c.enc x=[v]) (hx:L[i]?=some x):(c.rows L)[i]?=some v:=by
 have h:=c.rows_get (t:=[]) (j:=0) hx (by omega)
 rw [List.append_nil,hn,Nat.mul_one,Nat.add_zero,hv]at h
 exact h
structure GO (a:Hp) (gp kb:Nat) (w k:Nat) (f:Nat->Nat->Int):Prop where
 hd:a gp=some (.cells #[w,k,.slice (some ⟨kb,0,none⟩) (w*k) (w*k)] 215 (0,0))
 row:a kb=some (.cells (icC.rows (ju w k f)).toArray 3 (0,0))
 w1:1<=w
 w2:w<=16
 k1:1<=k
 k2:k<=16
theorem GO.ne {a:Hp} {gp kb w k:Nat} {f:Nat->Nat->Int} (g:GO a gp kb w k f):gp≠kb:=fun e=>by
 have h1:=g.hd
 have h2:=g.row
 rw [e,h2]at h1
 simp at h1
theorem GO.le {a h:Hp} {gp kb w k:Nat} {f:Nat->Nat->Int} (g:GO a gp kb w k f) (l:a.le h):GO h gp kb w k f:=⟨l _ _ g.hd,l _ _ g.row,g.w1,g.w2,g.k1,g.k2⟩
theorem GO.gs {G a:Hp} {gp kb w k:Nat} {f:Nat->Nat->Int} (g:GO a gp kb w k f):GS G a (.pointer (some ⟨gp,0,none⟩)) w k f:=
 ⟨⟨gp,kb,rfl,fun j hj=>ai (ag g.hd),fun n x hx=>by rw [ai (ag g.row)];exact qy icC rfl rfl hx⟩,g.w1,g.w2,g.k1,g.k2⟩
theorem GO.put {a:Hp} {gp kb w k:Nat} {f:Nat->Nat->Int} (g:GO a gp kb w k f) {x y:Nat} {v:Int} (hx:x<w) (hy:y<k):
 GO (a.set kb (.cells ((icC.rows (ju w k f)).set (y*w+x) (.int .i64 v)).toArray 3 (0,0))) gp kb w k (fun p q=>if p=x/\q=y then v else f p q):=by
 refine ⟨by rw [au g.ne];exact g.hd,?_,g.w1,g.w2,g.k1,g.k2⟩
 rw [af,Qm icC rfl (x:=v) rfl,Lg hx]
 rw [fd]
 have:(y+1)*w<=k*w:=Nat.mul_le_mul_right _ hy
 rw [Nat.succ_mul]at this
 rw [Nat.mul_comm w k];omega
def MK (a:Hp) (mb w k:Nat) (f:Nat->Nat->Bool):Prop:=a mb=some (.cells (bcC.rows (ju w k f)).toArray 4 (0,0))
theorem MK.put {a:Hp} {mb w k:Nat} {f:Nat->Nat->Bool} (g:MK a mb w k f) {x y:Nat} {v:Bool} (hx:x<w) (hy:y<k):
 MK (a.set mb (.cells ((bcC.rows (ju w k f)).set (y*w+x) (.bool v)).toArray 4 (0,0))) mb w k (fun p q=>if p=x/\q=y then v else f p q):=by
 unfold MK
 rw [af,Qm bcC rfl (x:=v) rfl,Lg hx]
 rw [fd]
 have:(y+1)*w<=k*w:=Nat.mul_le_mul_right _ hy
 rw [Nat.succ_mul]at this
 rw [Nat.mul_comm w k];omega
theorem yh {w k:Nat} {c:Cell} (hc:inW w k c=true):numI w k c=((c.2.toNat*w+c.1.toNat:Nat):Int)/\c.1.toNat<w/\c.2.toNat<k/\c.2.toNat*w+c.1.toNat<w*k:=by
 obtain ⟨a1,a2,a3,a4⟩:=ix.1 hc
 refine ⟨?_,by omega,by omega,?_⟩
 . unfold numI
   rw [if_pos hc]
   rw [Int.natCast_add,Int.natCast_mul,Int.toNat_of_nonneg a1,Int.toNat_of_nonneg a3]
 . have:(c.2.toNat+1)*w<=k*w:=Nat.mul_le_mul_right _ (by omega)
   rw [Nat.succ_mul]at this
   rw [Nat.mul_comm w k];omega
def kd (T:List Cell) (nb:Nat) (x y:Nat):Int:=if ((x:Int),(y:Int))∈T then (if T.idxOf ((x:Int),(y:Int))<nb then -1 else (T.idxOf ((x:Int),(y:Int)):Int)-nb+1)else 0
def ir (T:List Cell) (x y:Nat):Bool:=decide (((x:Int),(y:Int))∈T)
theorem kd_snoc {T:List Cell} {nb:Nat} {c:Cell} (hc:c∉T) (h1:0<=c.1) (h2:0<=c.2):kd (T++[c]) nb=fun p q=>if p=c.1.toNat/\q=c.2.toNat then (if T.length<nb then -1 else (T.length:Int)-nb+1)else kd T nb p q:=by
 funext p q
 unfold kd
 by_cases hpq:p=c.1.toNat/\q=c.2.toNat
 . have e:((p:Int),(q:Int))=c:=by rw [hpq.1,hpq.2,Int.toNat_of_nonneg h1,Int.toNat_of_nonneg h2]
   rw [if_pos hpq,e,if_pos (by simp),List.idxOf_append,if_neg hc,List.idxOf_cons_self,Nat.zero_add]
 . have e:((p:Int),(q:Int))≠c:=fun e=>hpq (by rw [<- e];simp)
   rw [if_neg hpq]
   by_cases hm:((p:Int),(q:Int))∈T
   . rw [if_pos (by simp [hm]),if_pos hm,List.idxOf_append,if_pos hm]
   . rw [if_neg (by simp [hm,e]),if_neg hm]
theorem Dx {T:List Cell} {c:Cell} (h1:0<=c.1) (h2:0<=c.2):ir (T++[c])=fun p q=>if p=c.1.toNat/\q=c.2.toNat then true else ir T p q:=by
 funext p q
 unfold ir
 by_cases hpq:p=c.1.toNat/\q=c.2.toNat
 . have e:((p:Int),(q:Int))=c:=by rw [hpq.1,hpq.2,Int.toNat_of_nonneg h1,Int.toNat_of_nonneg h2]
   rw [if_pos hpq,e];simp
 . have e:((p:Int),(q:Int))≠c:=fun e=>hpq (by rw [<- e];simp)
   rw [if_neg hpq]
   simp [e]
def bRpH:=jq bC (jq (jq (jq (jq @List.length_nil.{0} @al28) (jq @tq @cf88)) (jq (jq @Cw @al5) (jq @Ht (jq @Om @Hb)))) (jq (jq (jq @N7 @ld22) (jq @V4 (jq @ld28 @ld4))) (jq (jq @ln22 @ln22p) (jq @jo (jq @ii @Qb)))))
theorem K8 {G h:Hp} {v:Value} {L:List Cell} (sv:Sees cj G h v L) (hL:L.length<=1000):aj P_ G 157 #[v] h (fun u h'=>∃b,Slc cj 28 b u L/\Sep [b,h] h'/\Dis G h'):=by
 obtain ⟨sa,cap,rfl⟩:=sv.len
 refine aj.assume fun d=>ap1 (by simp) ?_
 unfold S157
 simp only [bRpH]
 by_cases hL0:L=[]
 . subst hL0
   try simp only [bRpH,List.length_nil,show (((0:Nat):Int)==0)=true from rfl]
   exact ⟨noHp,Slc.nil,Sep.one.none,d⟩
 . have hpos:=List.length_pos_iff.2 hL0
   have e:((L.length:Int)==0)=false:=by
    have:(L.length:Int)≠0:=by omega
    simpa using this
   try simp only [bRpH,e]
   unfold Xj
   try simp (disch:=decide) only [bRpH]
   rw [tg cj (0,0) (by decide) un22 eocell (by kernel_rfl) (by omega) (by omega)]
   intro x hx gx
   have d1:=d.set (o := .cells (cj.rows (List.replicate L.length (0,0))).toArray 28 (0,0)) gx
   rw [Sn cj (by decide) un22 eocell (L:=L) af (by simp) (sv.up (b8 hx) d1) hL0 rfl,set_set]
   try simp (disch:=first|decide|omega) only [bRpH,Nat.reduceAdd,Nat.reduceMul]
   exact ⟨noHp.set x _,⟨some x,_,[],rfl,by rw [af,List.append_nil],by rw [List.append_nil,cj.rows_length]⟩,Sep.one.new hx,d.set gx⟩
structure Py (C:Conf):Prop where
 w:ax C.w 1 16=true
 h:ax C.h 1 16=true
 po8:C.po.length<=8
 few:(C.bl.length:Int)<=C.w*C.h
 all:∀c∈C.bl++C.po,inW C.w.toNat C.h.toNat c=true
 once:(C.bl++C.po).Nodup
theorem D1 {G h:Hp} {mb n:Nat} {i:Nat} {K:VK} (h2:i<n):wpH P_ G (Instr.indexAt 90 (.slice (some ⟨mb,0,none⟩) n n) (.int .i64 (i:Int))) h K=K (.pointer (some ⟨mb,i,none⟩)) h:=by
 rw [ix90 (by omega) (by omega)];simp only [mn,Nat.zero_add,Nat.mul_one,Int.toNat_natCast]
theorem Lc {G h:Hp} {kb n:Nat} {i:Nat} {K:VK} (h2:i<n):wpH P_ G (Instr.indexAt 168 (.slice (some ⟨kb,0,none⟩) n n) (.int .i64 (i:Int))) h K=K (.pointer (some ⟨kb,i,none⟩)) h:=by
 rw [Rn (by omega) (by omega)];simp only [mn,Nat.zero_add,Nat.mul_one,Int.toNat_natCast]
theorem ix57np {G h:Hp} {kb n:Nat} {i:Nat} {K:Value->Prop} (h2:i<n):pw P_ G h (Instr.indexAt 168 (.slice (some ⟨kb,0,none⟩) n n) (.int .i64 (i:Int))) K=K (.pointer (some ⟨kb,i,none⟩)):=by
 rw [T4 (by omega) (by omega)];simp only [mn,Nat.zero_add,Nat.mul_one,Int.toNat_natCast]
theorem Tv {G a h:Hp} {mb w k:Nat} {f:Nat->Nat->Bool} (m:MK a mb w k f) (l:a.le h) {x y:Nat} (hx:x<w) (hy:y<k):aa G h ⟨mb,y*w+x,none⟩=some (.bool (f x y)):=by
 rw [ai (ag (l _ _ m))]
 exact qy bcC rfl rfl (ut hx hy)
theorem Z0 {G h1:Hp} {C:Conf} {ab:Option Addr} {cb:Nat} {x gp kb mb w k:Nat} {ip:Hp} {iv:Value} {T:List Cell} {KK:EK}
 (cx0:∀h3,h1.le h3->Dis G h3->aa G h3 ⟨x,3,none⟩=some (.slice ab C.bl.length cb)) (hT:T.length<=1000) (hB:C.bl.length<=1000) (o:Slc cj 28 ip iv T) (hk:1<=w/\w<=16/\1<=k/\k<=16)
 (r:Rg) (h:Hp) (ga ma:Hp) (g1:r 1 = .pointer (some ⟨x,0,none⟩)) (g4:r 4 = .pointer (some ⟨gp,0,none⟩)) (g5:r 5 = .slice (some ⟨mb,0,none⟩) (w*k) (w*k)) (g59:r 59=iv) (g60:r 60 = .int .i64 T.length) (g61:r 61 = .int .i64 0)
 (go:GO ga gp kb w k (kd [] C.bl.length)) (mk:MK ma mb w k (ir [])) (s:Sep [ga,ma,ip,h1] h) (d:Dis G h)
 (H1:(∀c∈T,inW w k c=true)->T.Nodup->∀(r':Rg) h' ga',r' 4=r 4->GO ga' gp kb w k (kd T C.bl.length)->Sep [ga',h1] h'->Dis G h'->KK (.exit 0) r' h')
 (H2:¬((∀c∈T,inW w k c=true)/\T.Nodup)->∀(r':Rg) h',r' 2 = .pointer none->r' 3 = .bool false->h1.le h'->Dis G h'->KK .ret r' h'):dc (Pp G) r h KK:=by
 obtain ⟨sa,cap,rfl,hcap⟩:=o.len (by decide)
 refine ci (fun m r2 h3=>∃(i:Nat) (ga ma:Hp),m=T.length-i/\i<=T.length/\r2 1=r 1/\r2 4=r 4/\r2 5=r 5/\r2 59=r 59/\r2 60=r 60/\r2 61 = .int .i64 i/\(∀c∈T.take i,inW w k c=true)/\(T.take i).Nodup/\
  GO ga gp kb w k (kd (T.take i) C.bl.length)/\MK ma mb w k (ir (T.take i))/\Sep [ga,ma,ip,h1] h3/\Dis G h3) ?_
  (m:=T.length) ⟨0,ga,ma,rfl,Nat.zero_le _,rfl,rfl,rfl,rfl,rfl,by rw [g61];rfl,by simp,by simp,by simpa using go,by simpa using mk,s,d⟩
 rintro m r2 h3 ⟨i,ga,ma,rfl,hi,q1,q4,q5,q59,q60,q61,hin,hnd,go,mk,s3,d3⟩ X HX
 rw [g1]at q1
 rw [g4]at q4
 rw [g5]at q5
 rw [g59]at q59
 rw [g60]at q60
 unfold Pp
 simp only [bRpH,q60,q61]
 refine bh (fun hlt=>?_) (fun hge=>?_)
 rotate_left
 . obtain rfl:i=T.length:=by omega
   rw [List.take_of_length_le (Nat.le_refl _)]at hin hnd go
   exact H1 hin hnd _ _ ga (by simp (disch:=decide) only [bRpH,q4,g4]) go ((s3.pick 3 rfl rfl).swap.take 2 rfl) d3
 have hlt':i<T.length:=by omega
 obtain ⟨y,hy⟩:∃x,T[i]?=some x:=⟨_,List.getElem?_eq_getElem hlt'⟩
 obtain ⟨b,ofs,rfl,z0,z1⟩:=Sees.cell (G:=G) (o.sees (by decide) (s3.in 2 rfl)) hy
 unfold Ji
 simp (disch:=first|decide|exact ao|exact am|omega|rfl) only [bRpH,q59,q61,ix22 (Int.natCast_nonneg i) hlt,z0,z1]
 intro t ht gt
 have s4:=s3.past (o := .cells #[y.1,y.2] 28 (0,0)) ht
 have d4:=d3.set (o := .cells #[y.1,y.2] 28 (0,0)) gt
 try simp only [bRpH,q4]
 generalize Hp.set h3 t _=h4 at s4 d4 ⊢
 refine (nx (c:=y) ((go.gs (G:=G)).up s4.hd d4)).mono ?_
 rintro _ h4 ⟨rfl,rfl⟩
 have hyT:y∈T:=List.mem_of_getElem? hy
 cases hc:inW w k y with
 |false=>
  try simp only [bRpH,G6 hc,show decide ((-1:Int)<0)=true from rfl]
  refine H2 (fun q=>?_) _ _ (by simp (disch:=decide) only [bRpH]) (by simp only [bRpH]) (s4.in 3 rfl) d4
  have:=q.1 y hyT
  rw [hc]at this;cases this
 |true=>
 obtain ⟨hn,hx,hyk,hlt2⟩:=yh hc
 have hxy:((y.1.toNat:Int),(y.2.toNat:Int))=y:=by
  obtain ⟨a1,a2,a3,a4⟩:=ix.1 hc
  rw [Int.toNat_of_nonneg a1,Int.toNat_of_nonneg a3]
 obtain ⟨a1,a2,a3,a4⟩:=ix.1 hc
 have mg:=Tv (G:=G) mk (s4.in 1 rfl) hx hyk
 rw [show ir (T.take i) y.1.toNat y.2.toNat=decide (y∈T.take i)by unfold ir;rw [hxy]]at mg
 rw [hn]
 generalize hnn:y.2.toNat*w+y.1.toNat=n at hn hlt2 mg
 try simp only [bRpH,show decide ((n:Int)<0)=false from decide_eq_false (by omega),q5,D1 hlt2,mg]
 by_cases hmem:y∈T.take i
 . try simp only [bRpH,decide_eq_true hmem]
   exact H2 (fun q=>uk hy hmem q.2) _ _ (by simp (disch:=decide) only [bRpH]) (by simp only [bRpH]) (s4.in 3 rfl) d4
 try simp only [bRpH,decide_eq_false hmem]
 unfold Jh
 have mb4:=s4.at 1 rfl mk
 try simp (disch:=decide) only [bRpH,q5,D1 hlt2]
 rw [di sz4 rfl mb4 (by rw [bcC.rows_length,fd];simp [bcC];exact hlt2)]
 have s5:=(s4.pick 1 rfl rfl).put (o := .cells ((bcC.rows (ju w k (ir (T.take i)))).set n (.bool true)).toArray 4 (0,0)) mk
 have d5:Dis G (h4.set mb (.cells ((bcC.rows (ju w k (ir (T.take i)))).set n (.bool true)).toArray 4 (0,0))):=d4.set (d4 _ _ mb4)
 generalize Hp.set h4 mb _=h5 at s5 d5 ⊢
 have g5h:=s5.at 1 rfl go.hd
 have cg5:∀j,aa G h5 ⟨gp,j,none⟩=_:=fun j=>ai (ag g5h)
 try simp only [bRpH,q4,cg5,Lc hlt2]
 have kb5:=s5.at 1 rfl go.row
 rw [di sz3 rfl kb5 (by rw [icC.rows_length,fd];simp [icC];exact hlt2)]
 have go6:=go.put (v := -1) hx hyk
 rw [hnn]at go6
 have s6:=(s5.pick 1 rfl rfl).put (o := .cells ((icC.rows (ju w k (kd (T.take i) C.bl.length))).set n (.int .i64 (-1))).toArray 3 (0,0)) go.row
 have d6:Dis G (h5.set kb (.cells ((icC.rows (ju w k (kd (T.take i) C.bl.length))).set n (.int .i64 (-1))).toArray 3 (0,0))):=d5.set (d5 _ _ kb5)
 generalize Hp.set h5 kb _=h6 at s6 d6 ⊢
 have c3:=cx0 h6 (s6.in 3 rfl) d6
 have mk6:=mk.put (v:=true) hx hyk
 rw [hnn]at mk6
 have htl:(T.take i).length=i:=by rw [List.length_take];omega
 have next:∀(r3:Rg) h7 ga7,r3 1=r2 1->r3 4=r2 4->r3 5=r2 5->r3 59=r2 59->r3 60=r2 60->r3 61=r2 61->GO ga7 gp kb w k (kd (T.take (i+1)) C.bl.length)->Sep [ga7,ma.set mb (.cells ((bcC.rows (ju w k (ir (T.take i)))).set n (.bool true)).toArray 4 (0,0)),ip,h1] h7->Dis G h7->wb G (bw X KK) r3 h7:=by
  intro r3 h7 ga7 w1 w4 w5 w59 w60 w61 go7 s7 d7
  unfold wb
  have w61':=w61.trans q61
  simp (disch:=first|decide|omega) only [bRpH,w61']
  refine HX (T.length-(i+1)) _ _ (by omega) ⟨i+1,ga7,_,rfl,hlt',by simp (disch:=decide) only [bRpH,w1,q1,g1],by simp (disch:=decide) only [bRpH,w4,q4,g4],by simp (disch:=decide) only [bRpH,w5,q5,g5],by simp (disch:=decide) only [bRpH,w59,q59,g59],by simp (disch:=decide) only [bRpH,w60,q60,g60],by simp only [bRpH]<;>rfl,?_,wo hy hnd hmem,go7,?_,s7,d7⟩
  . rw [fq hy]
    intro c hc'
    rcases List.mem_append.1 hc' with q|q
    . exact hin c q
    . simp at q;rw [q];exact hc
  . rw [fq hy,Dx a1 a3]
    exact mk6
 have kds:=kd_snoc (nb:=C.bl.length) hmem a1 a3
 rw [<- fq hy,htl]at kds
 try simp (disch:=first|decide|omega) only [bRpH,q1,c3,q61]
 by_cases hib:i<C.bl.length
 . have e:decide ((i:Int)>=(C.bl.length:Int))=false:=decide_eq_false (by omega)
   try simp only [bRpH,e]
   refine next _ _ _ (by simp (disch:=decide) only [bRpH,q1]) (by simp (disch:=decide) only [bRpH,q4]) (by simp (disch:=decide) only [bRpH,q5]) (by simp (disch:=decide) only [bRpH,q59]) (by simp (disch:=decide) only [bRpH,q60]) (by simp (disch:=decide) only [bRpH,q61]) ?_ (s6.swap.swap) d6
   rw [kds,if_pos hib]
   exact go6
 . have e:decide ((i:Int)>=(C.bl.length:Int))=true:=decide_eq_true (by omega)
   have g6h:=s6.at 0 rfl go6.hd
   have cg6:∀j,aa G h6 ⟨gp,j,none⟩=_:=fun j=>ai (ag g6h)
   try simp only [bRpH,e,q4,cg6,q1,c3,ix57np hlt2]
   have kb6:=s6.at 0 rfl go6.row
   rw [di sz3 rfl kb6 (by rw [icC.rows_length,fd];simp [icC];exact hlt2)]
   have go7:=go6.put (v:=(i:Int)-C.bl.length+1) hx hyk
   rw [hnn]at go7
   have s7:=s6.put (o := .cells ((icC.rows (ju w k fun p q=>if p=y.1.toNat/\q=y.2.toNat then -1 else kd (T.take i) C.bl.length p q)).set n (.int .i64 ((i:Int)-C.bl.length+1))).toArray 3 (0,0)) go6.row
   refine next _ _ _ (by simp (disch:=decide) only [bRpH,q1]) (by simp (disch:=decide) only [bRpH,q4]) (by simp (disch:=decide) only [bRpH,q5]) (by simp (disch:=decide) only [bRpH,q59]) (by simp (disch:=decide) only [bRpH,q60]) (by simp (disch:=decide) only [bRpH,q61]) ?_ s7 (d6.set (d6 _ _ kb6))
   rw [kds,if_neg hib]
   have e2:(fun p q=>if p=y.1.toNat/\q=y.2.toNat then (i:Int)-C.bl.length+1 else if p=y.1.toNat/\q=y.2.toNat then -1 else kd (T.take i) C.bl.length p q)=fun p q=>if p=y.1.toNat/\q=y.2.toNat then (i:Int)-C.bl.length+1 else kd (T.take i) C.bl.length p q:=by
    funext p q
    by_cases h:p=y.1.toNat/\q=y.2.toNat<;>simp [h]
   rw [<- e2]
   exact go7
def bRpJ:=jq bC (jq (jq (jq (jq @Oy @kf) (jq @uw (jq @Sq @cf157))) (jq (jq @Be @Wh) (jq @Eb (jq @We @Ht)))) (jq (jq (jq @Om @Ol) (jq @Ok (jq @ld22 @V4))) (jq (jq @ld3 @ld3p) (jq @ln22 (jq @ln22p @lr)))))
theorem tj {α:Type} {w k:Nat} {d:α}:ju w k (fun _ _=>d)=List.replicate (w*k) d:=by
 apply List.ext_getElem?
 intro n
 by_cases hn:n<w*k
 . rw [uu hn,List.getElem?_replicate,if_pos hn]
 . rw [List.getElem?_eq_none (by rw [fd];omega),List.getElem?_eq_none (by simp;omega)]
theorem kd_nil {nb:Nat}:kd [] nb=fun _ _=>0:=by funext x y;simp [kd]
theorem Gu:ir []=fun _ _=>false:=by funext x y;simp [ir]
theorem eobool:gu P_ 4 bcC.n 1:=⟨by kernel_rfl,by kernel_rfl,by kernel_rfl⟩
def LaidR (G h:Hp) (C:Conf) (u:Value) (h':Hp):Prop:=h.le h'/\Dis G h'/\
 ((Py C/\∃ga gp kb,u = .tuple #[.pointer (some ⟨gp,0,none⟩),.bool true]/\GO ga gp kb C.w.toNat C.h.toNat (kd (C.bl++C.po) C.bl.length)/\Sep [ga,h] h')\/(¬Py C/\u = .tuple #[.pointer none,.bool false]))
theorem Zz {G h:Hp} {v:Value} {C:Conf} (hv:CV G h v C):aj P_ G 130 #[v] h (LaidR G h C):=by
 obtain ⟨ab,cb,ap,cp,ar,cr,az,cs,rfl,ca⟩:=hv
 refine aj.assume fun d=>ar6 (by simp) ?_
 unfold S130
 simp (disch:=decide) only [bRpJ]
 intro x hx gx
 have s1:=Sep.one.past (h:=h) (o := .cells #[C.w,C.h,C.ht,.slice ab C.bl.length cb,.slice ap C.po.length cp,.slice ar C.ro.length cr,.slice az C.st.length cs,C.un,C.ac,C.sp,C.tu,C.ho,C.qu,C.re,C.bu,.bool C.back] 26 (0,0)) hx
 generalize e1:Hp.set h x _=h1 at s1
 obtain ⟨l1,d1,b1⟩:=boxed e1 hx d gx
 have cx:∀j,aa G h1 ⟨x,j,none⟩=_:=fun j=>ai (ag b1)
 try simp (disch:=first|decide|omega) only [bRpJ,Nat.reduceAdd,Nat.reduceMul,cx]
 refine (jh (n:=C.w) (a:=1) (b:=16)).mono ?_
 rintro _ _ ⟨rfl,rfl⟩
 cases hw:ax C.w 1 16 with
 |false=>
  try simp only [bRpJ]
  exact ⟨l1,d1,.inr ⟨fun q=>absurd (q.w.symm.trans hw) (by decide),rfl⟩⟩
 |true=>
 try simp only [bRpJ,cx]
 refine (jh (n:=C.h) (a:=1) (b:=16)).mono ?_
 rintro _ h1 ⟨rfl,rfl⟩
 cases hk:ax C.h 1 16 with
 |false=>
  try simp only [bRpJ]
  exact ⟨l1,d1,.inr ⟨fun q=>absurd (q.h.symm.trans hk) (by decide),rfl⟩⟩
 |true=>
 have hw':=hw
 have hk':=hk
 unfold ax at hw' hk'
 simp only [Bool.and_eq_true,decide_eq_true_eq]at hw' hk'
 obtain ⟨w,hwn⟩:∃w:Nat,C.w=w:=⟨C.w.toNat,by omega⟩
 obtain ⟨k,hkn⟩:∃k:Nat,C.h=k:=⟨C.h.toNat,by omega⟩
 try simp only [bRpJ,cx]
 by_cases hP:C.po.length<=8
 rotate_left
 . try simp only [bRpJ,show decide ((C.po.length:Int)>8)=true from decide_eq_true (by omega)]
   exact ⟨l1,d1,.inr ⟨fun q=>hP q.po8,rfl⟩⟩
 have hm:C.w*C.h=((w*k:Nat):Int):=by rw [hwn,hkn,Int.natCast_mul]
 have hm2:w*k<=16*16:=Nat.mul_le_mul (by omega) (by omega)
 have hwr:IntKind.i64.wrap (C.w*C.h)=((w*k:Nat):Int):=by rw [hm,li (by omega) (by omega)]
 try simp only [bRpJ,show decide ((C.po.length:Int)>8)=false from decide_eq_false (by omega),cx,hwr]
 by_cases hB:C.bl.length<=w*k
 rotate_left
 . try simp only [bRpJ,show decide ((C.bl.length:Int)>((w*k:Nat):Int))=true from decide_eq_true (by omega)]
   exact ⟨l1,d1,.inr ⟨fun q=>hB (by have:=q.few;rw [hm]at this;omega),rfl⟩⟩
 try simp only [bRpJ,show decide ((C.bl.length:Int)>((w*k:Nat):Int))=false from decide_eq_false (by omega)]
 unfold Ya
 refine ⟨h1,Hp.le.refl _,?_⟩
 try simp (disch:=decide) only [bRpJ,cx,hwr]
 rw [tg icC 0 (by decide) Ep eoint (by kernel_rfl) (by omega) (by omega)]
 intro kb hkb gkb
 refine ⟨b8 hkb,?_⟩
 try simp only [bRpJ]
 intro gp hgp ggp
 have s2:=(Sep.one.new (o := .cells (icC.rows (List.replicate (w*k) 0)).toArray 3 (0,0)) hkb).grow (o := .cells #[C.w,C.h,.slice (some ⟨kb,0,none⟩) (w*k) (w*k)] 215 (0,0)) hgp
 have d2:=(d1.set (o := .cells (icC.rows (List.replicate (w*k) 0)).toArray 3 (0,0)) gkb).set (o := .cells #[C.w,C.h,.slice (some ⟨kb,0,none⟩) (w*k) (w*k)] 215 (0,0)) ggp
 have ngk:kb≠gp:=i4 hgp
 have go0:GO ((noHp.set kb (.cells (icC.rows (List.replicate (w*k) 0)).toArray 3 (0,0))).set gp (.cells #[C.w,C.h,.slice (some ⟨kb,0,none⟩) (w*k) (w*k)] 215 (0,0))) gp kb w k (kd [] C.bl.length):=
  ⟨by rw [af,hwn,hkn],by rw [au ngk,af,kd_nil,tj],by omega,by omega,by omega,by omega⟩
 generalize (noHp.set kb (.cells (icC.rows (List.replicate (w*k) 0)).toArray 3 (0,0))).set gp (.cells #[C.w,C.h,.slice (some ⟨kb,0,none⟩) (w*k) (w*k)] 215 (0,0))=ga at s2 go0
 generalize Hp.set (Hp.set h1 kb _) gp _=h2 at s2 d2 ⊢
 have cx2:∀j,aa G h2 ⟨x,j,none⟩=_:=fun j=>ai (ag (s2.in 1 rfl _ _ b1))
 try simp only [bRpJ,cx2,hwr]
 rw [tg bcC false (by decide) un90 eobool (by kernel_rfl) (by omega) (by omega)]
 intro mb hmb gmb
 have s3:=s2.new (o := .cells (bcC.rows (List.replicate (w*k) false)).toArray 4 (0,0)) hmb
 have d3:=d2.set (o := .cells (bcC.rows (List.replicate (w*k) false)).toArray 4 (0,0)) gmb
 have mk0:MK (noHp.set mb (.cells (bcC.rows (List.replicate (w*k) false)).toArray 4 (0,0))) mb w k (ir []):=by
  unfold MK;rw [af,Gu,tj]
 generalize noHp.set mb (.cells (bcC.rows (List.replicate (w*k) false)).toArray 4 (0,0))=ma at s3 mk0
 generalize Hp.set h2 mb _=h3 at s3 d3 ⊢
 have l3:h1.le h3:=s3.in 2 rfl
 have cx3:∀j,aa G h3 ⟨x,j,none⟩=_:=fun j=>ai (ag (l3 _ _ b1))
 have ca3:=ca.up (l1.trans l3) d3
 refine ⟨h3,Hp.le.refl _,?_⟩
 try simp only [bRpJ,cx3]
 refine (K8 ca3.bl (by omega)).mono ?_
 rintro v4 h4 ⟨ip,o4,s4,d4⟩
 refine ⟨s4.in 1 rfl,?_⟩
 try simp (disch:=first|decide|omega) only [bRpJ,Nat.reduceAdd,Nat.reduceMul,cx3]
 refine dw cj (by decide) un22 eocell (by decide) (by decide) s4 d4 o4 (ca3.po.up (s4.in 1 rfl) d4) (by omega) fun v5 ip5 h5 o5 s5 d5=>?_
 have s6:=(s5.split s3).pick 2 rfl rfl
 have s7:Sep [ga,ma,ip5,h1] h5:=s6.pick 2 rfl rfl |>.swap
 obtain ⟨sa5,cp5,rfl,_⟩:=o5.len (by decide)
 try simp only [bRpJ]
 refine Z0 (C:=C) (ab:=ab) (cb:=cb) (x:=x) (T:=C.bl++C.po) (fun h6 l6 d6=>by rw [ai (ag (l6 _ _ b1))];rfl) (by rw [List.length_append];omega) (by omega) o5 ⟨by omega,by omega,by omega,by omega⟩ _ _ ga ma
  (by simp (disch:=decide) only [bRpJ]) (by simp (disch:=decide) only [bRpJ]) (by simp (disch:=decide) only [bRpJ]) (by simp (disch:=decide) only [bRpJ]) (by simp (disch:=decide) only [bRpJ]) (by simp only [bRpJ]) go0 mk0 s7 d5 (fun hin hnd r' h' ga' j4 go' s' d'=>?_) (fun hbad r' h' j2 j3 l' d'=>?_)
 . simp only [jk,if_true,iq]
   have j4':r' 4 = .pointer (some ⟨gp,0,none⟩):=j4.trans (by simp (disch:=decide) only [bRpJ])
   unfold X9
   simp (disch:=decide) only [bRpJ,j4']
   refine ⟨l1.trans (s'.in 1 rfl),d',.inl ⟨⟨hw,hk,hP,by rw [hm];omega,by rw [hwn,hkn];exact hin,hnd⟩,ga',gp,kb,rfl,by rw [hwn,hkn];exact go',?_⟩⟩
   exact (s'.swap.cut l1).swap
 . simp only [bRpJ,j2,j3]
   exact ⟨l1.trans l',d',.inr ⟨fun q=>hbad ⟨by have:=q.all;rw [hwn,hkn]at this;exact this,q.once⟩,rfl⟩⟩
def bRpK:=jq bC (jq (jq (jq (jq @al30 @ac1) (jq @C7 @bd30_0p)) (jq (jq @kf @av9) (jq @av8 (jq @cf61 @Sa)))) (jq (jq (jq @Cw @ub) (jq @Hb (jq @ld28 @ld3))) (jq (jq @ld30 @ld3p) (jq @jo (jq @ii @xe)))))
theorem Ru {α:Type} {w k:Nat} {f f':Nat->Nat->α} (h:∀x y,x<w->y<k->f x y=f' x y):ju w k f=ju w k f':=by
 apply List.ext_getElem?
 intro n
 by_cases hn:n<w*k
 . rw [uu hn,uu hn,h]
   . exact Nat.mod_lt _ (by
      rcases Nat.eq_zero_or_pos w with e|e
      . rw [e]at hn;simp at hn
      . exact e)
   . exact Nat.div_lt_of_lt_mul hn
 . rw [List.getElem?_eq_none (by rw [fd];omega),List.getElem?_eq_none (by rw [fd];omega)]
theorem GO.congr {a:Hp} {gp kb w k:Nat} {f f':Nat->Nat->Int} (g:GO a gp kb w k f) (h:∀x y,x<w->y<k->f x y=f' x y):GO a gp kb w k f':=
 ⟨g.hd,by rw [<- Ru h];exact g.row,g.w1,g.w2,g.k1,g.k2⟩
theorem ye {w k:Nat} {f f':Nat->Nat->Int} (h:∀x y,x<w->y<k->(f x y = -1↔f' x y = -1)) (c:Cell):nn w k f c=nn w k f' c:=by
 unfold nn
 cases hc:inW w k c with
 |false=>rfl
 |true=>
  obtain ⟨a1,a2,a3,a4⟩:=ix.1 hc
  have:=h c.1.toNat c.2.toNat (by omega) (by omega)
  simp only [Bool.true_and,fAt]
  congr 1
  rw [Bool.eq_iff_iff]
  simpa using this
theorem yq {w k:Nat} {f f':Nat->Nat->Int} (h:∀x y,x<w->y<k->(f x y = -1↔f' x y = -1)) (p:Pose):df w k f p=df w k f' p:=by
 unfold df;rw [ye h,ye h]
def us (w k:Nat) (f:Nat->Nat->Int) (x y:Nat):Bool:=(f x y == -1)||(df w k f ⟨x,y,false⟩||df w k f ⟨x,y,true⟩)
def f1 (w k:Nat) (f:Nat->Nat->Int) (x y:Nat):Int:=if us w k f x y=true then f x y else -2
def fN (w k:Nat) (f:Nat->Nat->Int) (n x y:Nat):Int:=if y*w+x<n then f1 w k f x y else f x y
theorem Wr {w k:Nat} {f:Nat->Nat->Int} (x y:Nat):f1 w k f x y = -1↔f x y = -1:=by
 unfold f1
 by_cases h:us w k f x y=true
 . rw [if_pos h]
 . rw [if_neg h]
   constructor
   . intro e;omega
   . intro e
     exfalso
     apply h
     unfold us
     simp [e]
theorem fN_open {w k:Nat} {f:Nat->Nat->Int} {n:Nat} (x y:Nat):fN w k f n x y = -1↔f x y = -1:=by
 unfold fN
 split
 . exact Wr x y
 . exact Iff.rfl
theorem cellN {w n x y:Nat} (hw:0<w) (hx:x<w):y*w+x=n↔x=n % w/\y=n / w:=by
 constructor
 . intro e
   subst e
   rw [Nat.mul_comm y w,Nat.mul_add_mod,Nat.mod_eq_of_lt hx,Nat.mul_add_div hw,Nat.div_eq_of_lt hx]
   simp
 . rintro ⟨rfl,rfl⟩
   rw [Nat.mul_comm]
   exact Nat.div_add_mod n w
theorem robots1 {G:Hp} {gp kb w k:Nat} {f:Nat->Nat->Int} {KK:EK} (st:j9 G) (r:Rg) (h:Hp) (g0:r 0 = .pointer (some ⟨gp,0,none⟩)) (g20:r 20 = .int .i64 ((w*k:Nat):Int)) (g21:r 21 = .int .i64 0)
 (go:GO h gp kb w k f) (d:Dis G h)
 (H1:(∀x y,x<w->y<k->us w k f x y=false->f x y<=0)->∀(r':Rg) h',r' 0=r 0->r' 1=r 1->GO h' gp kb w k (f1 w k f)->Dis G h'->KK (.exit 0) r' h')
 (H2:(∃x y,x<w/\y<k/\us w k f x y=false/\0<f x y)->∀(r':Rg) h',r' 4 = .bool false->Dis G h'->KK .ret r' h'):dc (Jg G) r h KK:=by
 refine ci (fun m r2 h3=>∃n:Nat,m=w*k-n/\n<=w*k/\r2 0=r 0/\r2 1=r 1/\r2 20=r 20/\r2 21 = .int .i64 n/\(∀x y,x<w->y<k->y*w+x<n->us w k f x y=false->f x y<=0)/\GO h3 gp kb w k (fN w k f n)/\Dis G h3) ?_
  (m:=w*k) ⟨0,rfl,Nat.zero_le _,rfl,rfl,rfl,by rw [g21];rfl,fun x y _ _ h=>absurd h (by omega),go.congr fun x y _ _=>by simp [fN],d⟩
 rintro m r2 h3 ⟨n,rfl,hn,q0,q1,q20,q21,hok,go,d3⟩ X HX
 rw [g0]at q0
 rw [g20]at q20
 have hw0:0<w:=go.w1
 have hw2:=go.w2
 have hk2:=go.k2
 have hm2:w*k<=16*16:=Nat.mul_le_mul go.w2 go.k2
 unfold Jg
 simp only [bRpK,q20,q21]
 refine bh (fun hlt=>?_) (fun hge=>?_)
 rotate_left
 . obtain rfl:n=w*k:=by omega
   refine H1 (fun x y hx hy=>hok x y hx hy ?_) _ _ (by simp (disch:=decide) only [bRpK,q0,g0]) (by simp (disch:=decide) only [bRpK,q1]) (go.congr fun x y hx hy=>?_) d3
   . have:=(ut (f:=f) hx hy);have:=(List.getElem?_eq_some_iff.1 this).1;rwa [fd]at this
   . unfold fN
     rw [if_pos]
     have:=(ut (f:=f) hx hy);have:=(List.getElem?_eq_some_iff.1 this).1;rwa [fd]at this
 have hlt':n<w*k:=by omega
 have hx:n % w<w:=Nat.mod_lt _ hw0
 have hy:n / w<k:=Nat.div_lt_of_lt_mul hlt'
 have hnn:n / w*w+n % w=n:=by rw [Nat.mul_comm];exact Nat.div_add_mod n w
 have cg:∀j,aa G h3 ⟨gp,j,none⟩=_:=fun j=>ai (ag go.hd)
 have kn:aa G h3 ⟨kb,n,none⟩=some (.int .i64 (f (n % w) (n / w))):=by
  rw [ai (ag go.row)]
  refine qy icC rfl rfl ?_
  rw [uu hlt']
  unfold fN
  rw [hnn,if_neg (by omega)]
 have tm:(n:Int).tmod (w:Int)=((n % w:Nat):Int):=rfl
 have td:(n:Int).tdiv (w:Int)=((n / w:Nat):Int):=rfl
 have hcell:∀x y,x<w->(y*w+x=n↔x=n % w/\y=n / w):=fun x y h=>cellN hw0 h
 generalize n % w=cx at*
 generalize n / w=cy at*
 unfold Dm
 simp (disch:=first|decide|exact ao|exact am|omega|rfl) only [bRpK,q0,q21,cg,tm,td]
 intro t ht gt
 try rw [xe]
 have go4:GO (h3.set t (.cells #[cx,cy,.bool false] 30 (0,0))) gp kb w k (fN w k f n):=go.le (b8 ht)
 have d4:=d3.set (o := .cells #[cx,cy,.bool false] 30 (0,0)) gt
 have bt:(h3.set t (.cells #[cx,cy,.bool false] 30 (0,0))) t=some (.cells #[cx,cy,.bool false] 30 (0,0)):=af
 have kn4:=jg (b8 (o := .cells #[cx,cy,.bool false] 30 (0,0)) ht) d4 kn
 generalize h3.set t (.cells #[cx,cy,.bool false] 30 (0,0))=h4 at*
 have cg4:∀j,aa G h4 ⟨gp,j,none⟩=_:=fun j=>ai (ag go4.hd)
 have ct:∀j,aa G h4 ⟨t,j,none⟩=_:=fun j=>ai (ag bt)
 try simp only [bRpK,q0,q21,cg4,Lc hlt',kn4]
 have next:∀(r3:Rg) h5,r3 0=r2 0->r3 1=r2 1->r3 20=r2 20->r3 21=r2 21->(us w k f cx cy=false->f cx cy<=0)->GO h5 gp kb w k (fN w k f (n+1))->Dis G h5->rc G (bw X KK) r3 h5:=by
  intro r3 h5 w0 w1 w20 w21 hk go5 d5
  unfold rc
  have w21':=w21.trans q21
  simp (disch:=first|decide|omega) only [bRpK,w21']
  refine HX (w*k-(n+1)) _ _ (by omega) ⟨n+1,rfl,hlt',by simp (disch:=decide) only [bRpK,w0,q0,g0],by simp (disch:=decide) only [bRpK,w1,q1],by simp (disch:=decide) only [bRpK,w20,q20,g20],by simp only [bRpK]<;>rfl,fun x y hx' hy' hlt2 hkp=>?_,go5,d5⟩
  by_cases e:y*w+x=n
  . obtain ⟨rfl,rfl⟩:=(hcell x y hx').1 e
    exact hk hkp
  . exact hok x y hx' hy' (by omega) hkp
 have keeps:us w k f cx cy=true->GO h4 gp kb w k (fN w k f (n+1)):=fun hkp=>go4.congr fun x y hx' hy'=>by
  unfold fN
  by_cases e:y*w+x=n
  . obtain ⟨rfl,rfl⟩:=(hcell x y hx').1 e
    rw [e,if_neg (by omega),if_pos (by omega)]
    unfold f1
    rw [if_pos hkp]
  . by_cases e2:y*w+x<n
    . rw [if_pos e2,if_pos (by omega)]
    . rw [if_neg e2,if_neg (by omega)]
 have fcong:∀p,df w k (fN w k f n) p=df w k f p:=yq fun x y _ _=>fN_open x y
 have hfp:∀b,PB ⟨(cx:Int),(cy:Int),b⟩:=fun b=>⟨⟨by show -9223372036854775808<=(cx:Int);omega,by show (cx:Int)<=9223372036854775807;omega⟩,⟨by show -9223372036854775808<=(cy:Int);omega,by show (cy:Int)<=9223372036854775807;omega⟩⟩
 have kcase:us w k f cx cy=((f cx cy == -1)||(df w k f ⟨cx,cy,false⟩||df w k f ⟨cx,cy,true⟩)):=rfl
 cases hb:(f cx cy == -1)with
 |true=>
  try simp only [bRpK]
  exact next _ _ (by simp (disch:=decide) only [bRpK,q0]) (by simp (disch:=decide) only [bRpK,q1]) (by simp (disch:=decide) only [bRpK,q20]) (by simp (disch:=decide) only [bRpK,q21]) (fun h=>by rw [kcase,hb]at h;simp at h) (keeps (by rw [kcase,hb];rfl)) d4
 |false=>
 try simp only [bRpK,ct]
 refine (ng (p:=⟨(cx:Int),(cy:Int),false⟩) (go4.gs (G:=G)) st (hfp _)).mono ?_
 rintro _ h4 ⟨rfl,rfl⟩
 rw [fcong]
 cases hf1:df w k f ⟨(cx:Int),(cy:Int),false⟩with
 |true=>
  try simp only [bRpK]
  exact next _ _ (by simp (disch:=decide) only [bRpK,q0]) (by simp (disch:=decide) only [bRpK,q1]) (by simp (disch:=decide) only [bRpK,q20]) (by simp (disch:=decide) only [bRpK,q21]) (fun h=>by rw [kcase,hb,hf1]at h;simp at h) (keeps (by rw [kcase,hb,hf1];rfl)) d4
 |false=>
 try simp only [bRpK,ct,q0]
 refine (ng (p:=⟨(cx:Int),(cy:Int),true⟩) (go4.gs (G:=G)) st (hfp _)).mono ?_
 rintro _ h4 ⟨rfl,rfl⟩
 rw [fcong]
 cases hf2:df w k f ⟨(cx:Int),(cy:Int),true⟩with
 |true=>
  try simp only [bRpK]
  exact next _ _ (by simp (disch:=decide) only [bRpK,q0]) (by simp (disch:=decide) only [bRpK,q1]) (by simp (disch:=decide) only [bRpK,q20]) (by simp (disch:=decide) only [bRpK,q21]) (fun h=>by rw [kcase,hb,hf1,hf2]at h;simp at h) (keeps (by rw [kcase,hb,hf1,hf2];rfl)) d4
 |false=>
 have hkf:us w k f cx cy=false:=by rw [kcase,hb,hf1,hf2];rfl
 try simp only [bRpK]
 unfold Dl
 try simp (disch:=decide) only [bRpK,q0,cg4,Lc hlt',kn4]
 by_cases hpos:f cx cy>0
 . try simp only [bRpK,decide_eq_true hpos]
   exact H2 ⟨cx,cy,hx,hy,hkf,hpos⟩ _ _ (by simp only [bRpK]) d4
 try simp only [bRpK,decide_eq_false hpos]
 unfold Dk
 try simp (disch:=decide) only [bRpK,q0,cg4,Lc hlt']
 have kb4:=go4.row
 rw [di sz3 rfl kb4 (by rw [icC.rows_length,fd];simp [icC];exact hlt')]
 have go5:=go4.put (v := -2) hx hy
 rw [hnn]at go5
 refine next _ _ (by simp (disch:=decide) only [bRpK,q0]) (by simp (disch:=decide) only [bRpK,q1]) (by simp (disch:=decide) only [bRpK,q20]) (by simp (disch:=decide) only [bRpK,q21]) (fun _=>by omega) (go5.congr fun x y hx' hy'=>?_) (d4.set (d4 _ _ kb4))
 unfold fN
 by_cases e:y*w+x=n
 . obtain ⟨rfl,rfl⟩:=(hcell x y hx').1 e
   rw [if_pos ⟨rfl,rfl⟩,if_pos (by omega)]
   unfold f1
   rw [hkf]
   rfl
 . rw [if_neg (fun q=>e ((hcell x y hx').2 q))]
   by_cases e2:y*w+x<n
   . rw [if_pos e2,if_pos (by omega)]
   . rw [if_neg e2,if_neg (by omega)]
def bRpL:=jq bC (jq (jq (jq (jq @al28 @al30) (jq @kf @cf61)) (jq (jq @cf88 @cf89) (jq @Cw (jq @Hb @ld28)))) (jq (jq (jq @ld3 @ld30) (jq @ld4 @K7)) (jq (jq @ln22 @ln23) (jq @jo (jq @Qb @xe)))))
def f2 (w k:Nat) (f:Nat->Nat->Int) (T:List Cell) (x y:Nat):Int:=if ((x:Int),(y:Int))∈T then -2 else f1 w k f x y
theorem Wq {w k:Nat} {f:Nat->Nat->Int} {T:List Cell} (hT:∀c∈T,fAt f c ≠ -1) (x y:Nat):f2 w k f T x y = -1↔f x y = -1:=by
 unfold f2
 split
 . rename_i h
   have:=hT _ h
   simp only [fAt,Int.toNat_natCast]at this
   constructor
   . intro e;omega
   . intro e;exact absurd e this
 . exact Wr x y
theorem f2_snoc {w k:Nat} {f:Nat->Nat->Int} {T:List Cell} {c:Cell} (h1:0<=c.1) (h2:0<=c.2):f2 w k f (T++[c])=fun p q=>if p=c.1.toNat/\q=c.2.toNat then -2 else f2 w k f T p q:=by
 funext p q
 unfold f2
 by_cases hpq:p=c.1.toNat/\q=c.2.toNat
 . have e:((p:Int),(q:Int))=c:=by rw [hpq.1,hpq.2,Int.toNat_of_nonneg h1,Int.toNat_of_nonneg h2]
   rw [if_pos hpq,e,if_pos (by simp)]
 . have e:((p:Int),(q:Int))≠c:=fun e=>hpq (by rw [<- e];simp)
   rw [if_neg hpq]
   by_cases hm:((p:Int),(q:Int))∈T
   . rw [if_pos (by simp [hm]),if_pos hm]
   . rw [if_neg (by simp [hm,e]),if_neg hm]
theorem GO.other {h:Hp} {gp kb w k:Nat} {f:Nat->Nat->Int} (g:GO h gp kb w k f) {b:Nat} {cs:Array Value} {e:TypeId} {o:Obj} (hb:h b=some (.cells cs e (0,0))) (h1:e≠215) (h2:e≠3):GO (h.set b o) gp kb w k f:=by
 have n1:gp≠b:=fun q=>by have:=g.hd;rw [q,hb]at this;simp at this;exact h1 this.2
 have n2:kb≠b:=fun q=>by have:=g.row;rw [q,hb]at this;simp at this;exact h2 this.2
 exact ⟨by rw [au n1];exact g.hd,by rw [au n2];exact g.row,g.w1,g.w2,g.k1,g.k2⟩
theorem MK.other {h:Hp} {mb w k:Nat} {f:Nat->Nat->Bool} (g:MK h mb w k f) {b:Nat} {cs:Array Value} {e:TypeId} {o:Obj} (hb:h b=some (.cells cs e (0,0))) (h1:e≠4):MK (h.set b o) mb w k f:=by
 unfold MK at*
 have n1:mb≠b:=fun q=>by rw [q,hb]at g;simp at g;exact h1 g.2
 rw [au n1];exact g
theorem MK.le {a h:Hp} {mb w k:Nat} {f:Nat->Nat->Bool} (g:MK a mb w k f) (l:a.le h):MK h mb w k f:=l _ _ g
theorem Zc {G:Hp} {gp kb mb w k:Nat} {f:Nat->Nat->Int} {KK:EK} {cs T0:List Cell} {cb:Nat} {p:Pose} (r:Rg) (h:Hp) (hcs:cs=bo p) (hin:∀c∈cs,inW w k c=true)
 (hc:h cb=some (.cells #[p.x,p.y,(east p).1,(east p).2] 28 (0,0))) (g0:r 0 = .pointer (some ⟨gp,0,none⟩)) (g7:r 7 = .slice (some ⟨mb,0,none⟩) (w*k) (w*k)) (g91:r 91 = .slice (some ⟨cb,0,none⟩) 2 2) (g92:r 92 = .int .i64 2) (g93:r 93 = .int .i64 0)
 (go:GO h gp kb w k (f2 w k f T0)) (mk:MK h mb w k (ir T0)) (d:Dis G h) (hnd0:T0.Nodup)
 (H1:(∀c∈cs,fAt (f1 w k f) c<=0)->(T0++cs).Nodup->∀(r':Rg) h',r' 0=r 0->r' 7=r 7->r' 79=r 79->r' 80=r 80->r' 81=r 81->GO h' gp kb w k (f2 w k f (T0++cs))->MK h' mb w k (ir (T0++cs))->Dis G h'->KK (.exit 4) r' h')
 (H2:¬((∀c∈cs,fAt (f1 w k f) c<=0)/\(T0++cs).Nodup)->∀(r':Rg) h',r' 4 = .bool false->Dis G h'->KK .ret r' h'):dc (Br G) r h KK:=by
 have hlen:cs.length=2:=by rw [hcs];rfl
 refine ci (fun m r2 h3=>∃j:Nat,m=2-j/\j<=2/\r2 0=r 0/\r2 7=r 7/\r2 79=r 79/\r2 80=r 80/\r2 81=r 81/\r2 91=r 91/\r2 92=r 92/\r2 93 = .int .i64 j/\(∀c∈cs.take j,fAt (f1 w k f) c<=0)/\(T0++cs.take j).Nodup/\
  GO h3 gp kb w k (f2 w k f (T0++cs.take j))/\MK h3 mb w k (ir (T0++cs.take j))/\h3 cb=some (.cells #[p.x,p.y,(east p).1,(east p).2] 28 (0,0))/\Dis G h3) ?_
  (m:=2) ⟨0,rfl,Nat.zero_le _,rfl,rfl,rfl,rfl,rfl,rfl,rfl,by rw [g93];rfl,by simp,by simpa using hnd0,by simpa using go,by simpa using mk,hc,d⟩
 rintro m r2 h3 ⟨j,rfl,hj,q0,q7,q79,q80,q81,q91,q92,q93,hok,hnd,go,mk,hc3,d3⟩ X HX
 rw [g0]at q0
 rw [g7]at q7
 rw [g91]at q91
 rw [g92]at q92
 unfold Br
 simp only [bRpL,q92,q93]
 refine bh (fun hlt=>?_) (fun hge=>?_)
 rotate_left
 . obtain rfl:j=2:=by omega
   rw [List.take_of_length_le (by omega)]at hok hnd go mk
   exact H1 hok hnd _ _ (by simp (disch:=decide) only [bRpL,q0,g0]) (by simp (disch:=decide) only [bRpL,q7,g7]) (by simp (disch:=decide) only [bRpL,q79]) (by simp (disch:=decide) only [bRpL,q80]) (by simp (disch:=decide) only [bRpL,q81]) go mk d3
 have hlt':j<2:=by omega
 obtain ⟨y,hy⟩:∃x,cs[j]?=some x:=⟨_,List.getElem?_eq_getElem (by omega)⟩
 have hym:y∈cs:=List.mem_of_getElem? hy
 have sv:Sees cj G h3 (.slice (some ⟨cb,0,none⟩) cs.length 2) cs:=by rw [hcs];exact Sees.row hc3 rfl (Nat.le_refl _)
 obtain ⟨b,ofs,eb,z0,z1⟩:=Sees.cell sv hy
 cases eb
 rw [Nat.zero_add]at z0 z1
 unfold As
 simp (disch:=first|decide|exact ao|exact am|omega|rfl) only [bRpL,q91,q93,ix22 (Int.natCast_nonneg j) (show (j:Int)<(2:Nat)by omega),z0,z1]
 intro t ht gt
 have go4:GO (h3.set t (.cells #[y.1,y.2] 28 (0,0))) gp kb w k (f2 w k f (T0++cs.take j)):=go.le (b8 ht)
 have mk4:MK (h3.set t (.cells #[y.1,y.2] 28 (0,0))) mb w k (ir (T0++cs.take j)):=mk.le (b8 ht)
 have hc4:=b8 (o := .cells #[y.1,y.2] 28 (0,0)) ht _ _ hc3
 have d4:=d3.set (o := .cells #[y.1,y.2] 28 (0,0)) gt
 try simp only [bRpL,q0]
 generalize h3.set t (.cells #[y.1,y.2] 28 (0,0))=h4 at*
 refine (nx (c:=y) (go4.gs (G:=G))).mono ?_
 rintro _ h4 ⟨rfl,rfl⟩
 have hc':=hin y hym
 obtain ⟨hn,hx,hyk,hlt2⟩:=yh hc'
 obtain ⟨a1,a2,a3,a4⟩:=ix.1 hc'
 have hxy:((y.1.toNat:Int),(y.2.toNat:Int))=y:=by rw [Int.toNat_of_nonneg a1,Int.toNat_of_nonneg a3]
 have mg:=Tv (G:=G) mk4 (Hp.le.refl _) hx hyk
 rw [show ir (T0++cs.take j) y.1.toNat y.2.toNat=decide (y∈T0++cs.take j)by unfold ir;rw [hxy]]at mg
 have kn:aa G h4 ⟨kb,y.2.toNat*w+y.1.toNat,none⟩=some (.int .i64 (f2 w k f (T0++cs.take j) y.1.toNat y.2.toNat)):=by
  rw [ai (ag go4.row)]
  exact qy icC rfl rfl (ut hx hyk)
 have cg4:∀j,aa G h4 ⟨gp,j,none⟩=_:=fun j=>ai (ag go4.hd)
 have g5:=go4.put (v := -2) hx hyk
 have m5:=mk4.put (v:=true) hx hyk
 rw [hn]
 generalize hnn:y.2.toNat*w+y.1.toNat=n at hn hlt2 mg kn g5 m5
 have htk:T0++cs.take (j+1)=(T0++cs.take j)++[y]:=by rw [fq hy,List.append_assoc]
 have bad:y∈T0++cs.take j\/fAt (f1 w k f) y>0->¬((∀c∈cs,fAt (f1 w k f) c<=0)/\(T0++cs).Nodup):=by
  rintro (hm|hp) ⟨h1,h2⟩
  . refine uk (L:=T0++cs) (i:=T0.length+j) (x:=y) (by rw [List.getElem?_append_right (by omega),Nat.add_sub_cancel_left];exact hy) ?_ h2
    rw [List.take_append,List.take_of_length_le (by omega),Nat.add_sub_cancel_left]
    exact hm
  . have:=h1 y hym;omega
 try simp only [bRpL,q7,D1 hlt2,mg]
 by_cases hmem:y∈T0++cs.take j
 . try simp only [bRpL,decide_eq_true hmem]
   exact H2 (bad (.inl hmem)) _ _ (by simp only [bRpL]) d4
 have hf2:f2 w k f (T0++cs.take j) y.1.toNat y.2.toNat=fAt (f1 w k f) y:=by
  unfold f2
  rw [hxy,if_neg hmem]
  rfl
 rw [hf2]at kn
 try simp only [bRpL,decide_eq_false hmem,q0,cg4,Lc hlt2,kn]
 by_cases hpos:fAt (f1 w k f) y>0
 . try simp only [bRpL,decide_eq_true hpos]
   exact H2 (bad (.inr hpos)) _ _ (by simp only [bRpL]) d4
 try simp only [bRpL,decide_eq_false hpos]
 unfold zd
 try simp (disch:=decide) only [bRpL,q7,D1 hlt2]
 rw [di sz4 rfl mk4 (by rw [bcC.rows_length,fd];simp [bcC];exact hlt2)]
 have go6:=go4.other (o := .cells ((bcC.rows (ju w k (ir (T0++cs.take j)))).set n (.bool true)).toArray 4 (0,0)) mk4 (by decide) (by decide)
 have hc6:(h4.set mb (.cells ((bcC.rows (ju w k (ir (T0++cs.take j)))).set n (.bool true)).toArray 4 (0,0))) cb=_:=(au (fun q=>by unfold MK at mk4;rw [<- q,hc4]at mk4;simp at mk4)).trans hc4
 have d6:Dis G (h4.set mb (.cells ((bcC.rows (ju w k (ir (T0++cs.take j)))).set n (.bool true)).toArray 4 (0,0))):=d4.set (d4 _ _ mk4)
 generalize h4.set mb (.cells ((bcC.rows (ju w k (ir (T0++cs.take j)))).set n (.bool true)).toArray 4 (0,0))=h6 at*
 have cg6:∀j,aa G h6 ⟨gp,j,none⟩=_:=fun j=>ai (ag go6.hd)
 try simp only [bRpL,q0,cg6,Lc hlt2]
 rw [di sz3 rfl go6.row (by rw [icC.rows_length,fd];simp [icC];exact hlt2)]
 have go7:=go6.put (v := -2) hx hyk
 rw [hnn,<- f2_snoc a1 a3,<- htk]at go7
 have mk7:=m5.other (o := .cells ((icC.rows (ju w k (f2 w k f (T0++cs.take j)))).set n (.int .i64 (-2))).toArray 3 (0,0)) go6.row (by decide)
 rw [<- Dx a1 a3,<- htk]at mk7
 have nkc:cb≠kb:=fun q=>by have:=go6.row;rw [<- q,hc6]at this;simp at this
 unfold ze
 simp (disch:=first|decide|omega) only [bRpL,q93]
 refine HX (2-(j+1)) _ _ (by omega) ⟨j+1,rfl,hlt',by simp (disch:=decide) only [bRpL,q0,g0],by simp (disch:=decide) only [bRpL,q7,g7],by simp (disch:=decide) only [bRpL,q79],by simp (disch:=decide) only [bRpL,q80],by simp (disch:=decide) only [bRpL,q81],by simp (disch:=decide) only [bRpL,q91,g91],by simp (disch:=decide) only [bRpL,q92,g92],by simp only [bRpL]<;>rfl,?_,?_,go7,mk7,(au nkc).trans hc6,d6.set (d6 _ _ go6.row)⟩
 . rw [fq hy]
   intro c hc
   rcases List.mem_append.1 hc with q|q
   . exact hok c q
   . simp at q;rw [q];omega
 . rw [htk]
   exact List.nodup_append.2 ⟨hnd,by simp,fun a ha b hb=>by simp at hb;subst hb;exact fun e=>hmem (e▸ha)⟩
structure Dq (w k:Nat) (f:Nat->Nat->Int) (ro:List Pose):Prop where
 r8:ro.length<=8
 plain:∀x y,x<w->y<k->us w k f x y=false->f x y<=0
 fit:∀p∈ro,df w k f p=true
 low:∀c∈ro.flatMap bo,fAt (f1 w k f) c<=0
 once:(ro.flatMap bo).Nodup
theorem ox {w k:Nat} {f:Nat->Nat->Int} {p:Pose} (h:df w k f p=true):∀c∈bo p,inW w k c=true/\fAt f c ≠ -1:=by
 unfold df nn at h
 simp only [Bool.and_eq_true]at h
 intro c hc
 unfold bo at hc
 simp only [List.mem_cons,List.not_mem_nil,or_false]at hc
 rcases hc with rfl|rfl
 . exact ⟨h.1.1,by have:=h.1.2;simpa using this⟩
 . exact ⟨h.2.1,by have:=h.2.2;simpa using this⟩
def RobR (w k gp kb:Nat) (f:Nat->Nat->Int) (ro:List Pose) (u:Value) (h':Hp):Prop:=
 (Dq w k f ro/\u = .bool true/\GO h' gp kb w k (f2 w k f (ro.flatMap bo)))\/(¬Dq w k f ro/\u = .bool false)
theorem Qp {G h:Hp} {gp kb w k:Nat} {f:Nat->Nat->Int} {ro:List Pose} {rv:Value} (go:GO h gp kb w k f) (st:j9 G) (sv:zh yc G rv ro) (hp:∀p∈ro,PB p):
 aj P_ G 131 #[.pointer (some ⟨gp,0,none⟩),rv] h (RobR w k gp kb f ro):=by
 refine aj.assume fun d=>ar5 (by simp) ?_
 obtain ⟨sa,cap,hrv⟩:=(sv h d).len
 have hm2:w*k<=16*16:=Nat.mul_le_mul go.w2 go.k2
 unfold S131
 simp only [bRpL,hrv]
 by_cases h8:ro.length<=8
 rotate_left
 . try simp only [bRpL,show decide ((ro.length:Int)>8)=true from decide_eq_true (by omega)]
   exact .inr ⟨fun q=>h8 q.r8,rfl⟩
 try simp only [bRpL,show decide ((ro.length:Int)>8)=false from decide_eq_false (by omega)]
 unfold X8
 have cg:∀j,aa G h ⟨gp,j,none⟩=_:=fun j=>ai (ag go.hd)
 try simp (disch:=decide) only [bRpL,cg]
 refine robots1 st _ h (by simp (disch:=decide) only [bRpL]) (by simp (disch:=decide) only [bRpL]) (by simp only [bRpL]) go d (fun hpl r2 h2 q0 q1 go2 d2=>?_) (fun ⟨x,y,hx,hy,hk,hpos⟩ r2 h2 q4 d2=>?_)
 rotate_left
 . simp only [bRpL,q4]
   exact .inr ⟨fun q=>by have:=q.plain x y hx hy hk;omega,rfl⟩
 simp only [jk,if_true,iq]
 have q0':r2 0 = .pointer (some ⟨gp,0,none⟩):=q0.trans (by simp (disch:=decide) only [bRpL])
 have q1':r2 1=rv:=q1.trans (by simp (disch:=decide) only [bRpL,hrv])
 have cg2:∀j,aa G h2 ⟨gp,j,none⟩=_:=fun j=>ai (ag go2.hd)
 unfold X7
 try simp only [bRpL,q0',cg2]
 rw [tg bcC false (by decide) un90 eobool (by kernel_rfl) (by omega) (by omega)]
 intro mb hmb gmb
 have go3:GO (h2.set mb (.cells (bcC.rows (List.replicate (w*k) false)).toArray 4 (0,0))) gp kb w k (f2 w k f []):=(go2.le (b8 hmb)).congr fun x y _ _=>by simp [f2]
 have mk3:MK (h2.set mb (.cells (bcC.rows (List.replicate (w*k) false)).toArray 4 (0,0))) mb w k (ir []):=by unfold MK;rw [af,Gu,tj]
 have d3:=d2.set (o := .cells (bcC.rows (List.replicate (w*k) false)).toArray 4 (0,0)) gmb
 generalize h2.set mb (.cells (bcC.rows (List.replicate (w*k) false)).toArray 4 (0,0))=h3 at*
 try simp only [bRpL,q1',hrv]
 have no:¬Dq w k f ro->∀hh,RobR w k gp kb f ro (.bool false) hh:=fun q hh => .inr ⟨q,rfl⟩
 refine ci (fun m r4 h4=>∃i:Nat,m=ro.length-i/\i<=ro.length/\r4 0 = .pointer (some ⟨gp,0,none⟩)/\r4 7 = .slice (some ⟨mb,0,none⟩) (w*k) (w*k)/\r4 79=rv/\r4 80 = .int .i64 ro.length/\r4 81 = .int .i64 i/\
  (∀p∈ro.take i,df w k f p=true)/\(∀c∈(ro.take i).flatMap bo,fAt (f1 w k f) c<=0)/\((ro.take i).flatMap bo).Nodup/\
  GO h4 gp kb w k (f2 w k f ((ro.take i).flatMap bo))/\MK h4 mb w k (ir ((ro.take i).flatMap bo))/\Dis G h4) ?_
  (m:=ro.length) ⟨0,rfl,Nat.zero_le _,by simp (disch:=decide) only [bRpL,q0'],by simp (disch:=decide) only [bRpL],by simp (disch:=decide) only [bRpL,q1',hrv],by simp (disch:=decide) only [bRpL],by simp only [bRpL]<;>rfl,by simp,by simp,by simp,by simpa using go3,by simpa using mk3,d3⟩
 rintro m r4 h4 ⟨i,rfl,hi,k0,k7,k79,k80,k81,hfit,hlow,hnd,go4,mk4,d4⟩ X HX
 unfold X5
 simp only [bRpL,k80,k81]
 refine bh (fun hlt=>?_) (fun hge=>?_)
 rotate_left
 . obtain rfl:i=ro.length:=by omega
   rw [List.take_of_length_le (Nat.le_refl _)]at hfit hlow hnd go4
   try simp (disch:=first|decide|omega) only [bRpL,Nat.reduceAdd,Nat.reduceMul]
   unfold X6
   simp only [bRpL]
   exact .inl ⟨⟨h8,hpl,hfit,hlow,hnd⟩,rfl,go4⟩
 have hlt':i<ro.length:=by omega
 obtain ⟨y,hy⟩:∃x,ro[i]?=some x:=⟨_,List.getElem?_eq_getElem hlt'⟩
 have hym:y∈ro:=List.mem_of_getElem? hy
 have sv4:=sv h4 d4
 rw [hrv]at sv4
 obtain ⟨b,ofs,eb,z0,z1,z2⟩:=Sees.pose sv4 hy
 subst eb
 unfold Jf
 simp (disch:=first|decide|exact ao|exact am|omega|rfl) only [bRpL,k79,hrv,k81,ix23 (Int.natCast_nonneg i) hlt,z0,z1,z2]
 intro t ht gt
 try rw [xe]
 have go5:GO (h4.set t (.cells #[y.x,y.y,.bool y.d] 30 (0,0))) gp kb w k (f2 w k f ((ro.take i).flatMap bo)):=go4.le (b8 ht)
 have mk5:MK (h4.set t (.cells #[y.x,y.y,.bool y.d] 30 (0,0))) mb w k (ir ((ro.take i).flatMap bo)):=mk4.le (b8 ht)
 have bt:(h4.set t (.cells #[y.x,y.y,.bool y.d] 30 (0,0))) t=some (.cells #[y.x,y.y,.bool y.d] 30 (0,0)):=af
 have d5:=d4.set (o := .cells #[y.x,y.y,.bool y.d] 30 (0,0)) gt
 generalize h4.set t (.cells #[y.x,y.y,.bool y.d] 30 (0,0))=h5 at*
 have ct:∀j,aa G h5 ⟨t,j,none⟩=_:=fun j=>ai (ag bt)
 try simp only [bRpL,ct,k0]
 refine (ng (p:=y) (go5.gs (G:=G)) st (hp y hym)).mono ?_
 rintro _ h5 ⟨rfl,rfl⟩
 have hop:∀c∈(ro.take i).flatMap bo,fAt f c ≠ -1:=by
  intro c hc
  obtain ⟨p,hp1,hp2⟩:=List.mem_flatMap.1 hc
  exact (ox (hfit p hp1) c hp2).2
 rw [yq (f':=f) (fun x y _ _=>Wq hop x y)]
 cases hf:df w k f y with
 |false=>
  try simp only [bRpL]
  exact no (fun q=>by have:=q.fit y hym;rw [hf]at this;cases this) _
 |true=>
 try simp only [bRpL]
 unfold Jd
 try simp (disch:=decide) only [bRpL,ct,k0]
 refine (oy (p:=y) st (hp y hym)).mono ?_
 rintro _ _ ⟨cb,rfl,hcb,gcb,rfl⟩
 have go6:GO (h5.set cb (.cells #[y.x,y.y,(east y).1,(east y).2] 28 (0,0))) gp kb w k (f2 w k f ((ro.take i).flatMap bo)):=go5.le (b8 hcb)
 have mk6:MK (h5.set cb (.cells #[y.x,y.y,(east y).1,(east y).2] 28 (0,0))) mb w k (ir ((ro.take i).flatMap bo)):=mk5.le (b8 hcb)
 have hcs:(h5.set cb (.cells #[y.x,y.y,(east y).1,(east y).2] 28 (0,0))) cb=_:=af
 have d6:=d5.set (o := .cells #[y.x,y.y,(east y).1,(east y).2] 28 (0,0)) gcb
 generalize h5.set cb (.cells #[y.x,y.y,(east y).1,(east y).2] 28 (0,0))=h6 at*
 try simp only [bRpL]
 have htk:(ro.take (i+1)).flatMap bo=(ro.take i).flatMap bo++bo y:=by rw [fq hy,List.flatMap_append];simp
 refine Zc (cs:=bo y) (p:=y) _ h6 rfl (fun c hc=>(ox hf c hc).1) hcs (by simp (disch:=decide) only [bRpL,k0]) (by simp (disch:=decide) only [bRpL,k7]) (by simp (disch:=decide) only [bRpL]) (by simp (disch:=decide) only [bRpL]<;>rfl) (by simp only [bRpL]) go6 mk6 d6 hnd (fun hlw hnd2 r7 h7 j0 j7 j79 j80 j81 go7 mk7 d7=>?_) (fun hbad r7 h7 j4 d7=>?_)
 . simp only [jk,if_true,fh,iq]
   unfold Je
   have j81':r7 81 = .int .i64 i:=j81.trans (by simp (disch:=decide) only [bRpL,k81])
   simp (disch:=first|decide|omega) only [bRpL,j81']
   refine HX (ro.length-(i+1)) _ _ (by omega) ⟨i+1,rfl,hlt',by simp (disch:=decide) only [bRpL,j0,k0],by simp (disch:=decide) only [bRpL,j7,k7],by simp (disch:=decide) only [bRpL,j79,k79],by simp (disch:=decide) only [bRpL,j80,k80],by simp only [bRpL]<;>rfl,?_,?_,?_,?_,?_,d7⟩
   . rw [fq hy]
     intro c hc
     rcases List.mem_append.1 hc with q|q
     . exact hfit c q
     . simp at q;rw [q];exact hf
   . rw [htk]
     intro c hc
     rcases List.mem_append.1 hc with q|q
     . exact hlow c q
     . exact hlw c q
   . rw [htk];exact hnd2
   . rw [htk];exact go7
   . rw [htk];exact mk7
 . simp only [bRpL,j4]
   refine no (fun q=>hbad ⟨fun c hc=>q.low c (List.mem_flatMap.2 ⟨y,hym,hc⟩),?_⟩) _
   have hsub:((ro.take (i+1)).flatMap bo).Nodup:=by
    have e:ro.flatMap bo=(ro.take (i+1)).flatMap bo++(ro.drop (i+1)).flatMap bo:=by rw [<- List.flatMap_append,List.take_append_drop]
    have:=q.once
    rw [e]at this
    exact (List.nodup_append.1 this).1
   rwa [htk]at hsub
def bRpM:=jq bC (jq (jq (jq (jq @al234 @kf) (jq @Sq @cf158)) (jq (jq @cf88 @Cw) (jq @fa234_0 @Wi))) (jq (jq (jq @Hb @ld234) (jq @ld28 @ld3)) (jq (jq @ld4 @K7) (jq @ln24 (jq @jo @ad5)))))
theorem un102:P_.underlying 269=some (.map 3 3):=by kernel_rfl
theorem un3:P_.underlying 3=some (.int .i64):=by kernel_rfl
theorem zero3:ou P_ 3=some (.int .i64 0):=by kernel_rfl
theorem mm102 {G h:Hp} {K:VK}:wpH P_ G (Instr.makeMap 269 none) h K=∀r,h r=none->G r=none->K (.map (some r)) (h.set r (.map #[] 0)):=by kernel_rfl
def GStk (G:Hp) (v:Value) (st:List (Cell × List Int)):Prop:=∃raw:List Raw,zh rawC G v raw/\raw.length=st.length/\
 ∀(i:Nat) (r:Raw) (s:Cell × List Int),raw[i]?=some r->st[i]?=some s->(r.x,r.y)=s.1/\r.n=s.2.length/\zh icC G (.slice r.a s.2.length r.c) s.2
theorem GStk.len {G:Hp} {v:Value} {st:List (Cell × List Int)} (g:GStk G v st) {h:Hp} (d:Dis G h):∃sa cap,v = .slice sa st.length cap:=by
 obtain ⟨raw,h1,h2,_⟩:=g
 obtain ⟨sa,cap,e⟩:=(h1 h d).len
 exact ⟨sa,cap,by rw [e,h2]⟩
theorem GStk.get {G:Hp} {sa:Option Addr} {n cap:Nat} {st:List (Cell × List Int)} (g:GStk G (.slice sa n cap) st) {h:Hp} (d:Dis G h) {i:Nat} {s:Cell × List Int} (hs:st[i]?=some s):
 ∃b o a c,sa=some ⟨b,o,none⟩/\aa G h ⟨b,o+i*3,none⟩=some (.int .i64 s.1.1)/\aa G h ⟨b,o+i*3+1,none⟩=some (.int .i64 s.1.2)/\aa G h ⟨b,o+i*3+2,none⟩=some (.slice a s.2.length c)/\zh icC G (.slice a s.2.length c) s.2:=by
 obtain ⟨raw,h1,hl,h2⟩:=g
 have hi:i<raw.length:=by rw [hl];exact (List.getElem?_eq_some_iff.1 hs).1
 have hr:raw[i]?=some raw[i]:=List.getElem?_eq_getElem hi
 obtain ⟨k1,k2,k3⟩:=h2 i _ s hr hs
 obtain ⟨b,o,c,e1,e2⟩:=(h1 h d).get hr
 simp only [Value.slice.injEq]at e1
 have z0:=e2 0 (by decide)
 have z1:=e2 1 (by decide)
 have z2:=e2 2 (by decide)
 simp only [rawC,Nat.add_zero,List.getElem?_cons_zero,List.getElem?_cons_succ]at z0 z1 z2
 refine ⟨b,o,_,_,e1.1,?_,?_,?_,k3⟩
 . rw [z0,<- k1]
 . rw [z1,<- k1]
 . rw [z2,k2]
theorem GO.past {h:Hp} {gp kb w k:Nat} {f:Nat->Nat->Int} (g:GO h gp kb w k f) {b:Nat} {p o:Obj} (hb:h b=some p) (hp:gm p=false):GO (h.set b o) gp kb w k f:=by
 have n1:gp≠b:=fun q=>by have:=g.hd;rw [q,hb]at this;cases this;cases hp
 have n2:kb≠b:=fun q=>by have:=g.row;rw [q,hb]at this;cases this;cases hp
 exact ⟨by rw [au n1];exact g.hd,by rw [au n2];exact g.row,g.w1,g.w2,g.k1,g.k2⟩
theorem MK.past {h:Hp} {mb w k:Nat} {f:Nat->Nat->Bool} (g:MK h mb w k f) {b:Nat} {p o:Obj} (hb:h b=some p) (hp:gm p=false):MK (h.set b o) mb w k f:=by
 unfold MK at*
 have n1:mb≠b:=fun q=>by rw [q,hb]at g;cases g;cases hp
 rw [au n1];exact g
structure NM (h:Hp) (mp:Nat) (B:List Int):Prop where
 ex:∃o L,h mp=some o/\MapO o L/\L.map (·.1)=B/\∀p∈L,p.2 = .int .i64 1
theorem mget_in {L:List (Int × Value)} (h:∀p∈L,p.2 = .int .i64 1) {b:Int}:(mget L b).getD (.int .i64 0) = .int .i64 (if b∈L.map (·.1)then 1 else 0):=by
 induction L with
 |nil=>rfl
 |cons p L ih=>
  rw [rj]
  by_cases e:p.1=b
  . rw [if_pos e,if_pos (by rw [List.map_cons,e];exact .head _)]
    exact h p (.head _)
  . rw [if_neg e,ih fun q hq=>h q (.tail _ hq)]
    congr 1
    simp only [List.map_cons,List.mem_cons]
    by_cases hm:b∈L.map (·.1)
    . simp [hm]
    . have e2:¬b=p.1:=fun q=>e q.symm
      simp [hm,e2]
theorem NM.put {G h:Hp} {mp:Nat} {B:List Int} (n:NM h mp B) {b:Int} (hb:b∉B) {K:Unit->Hp->Prop} (H:∀o',NM (h.set mp o') mp (B++[b])->K () (h.set mp o')):
 wpH P_ G (Instr.mapUpdate 269 (.map (some mp)) (.int .i64 b) (.int .i64 1)) h K:=by
 obtain ⟨o,L,h1,h2,h3,h4⟩:=n
 refine vh un102 un3 h1 h2 fun o' m'=>H o' ⟨o',_,af,m',?_,?_⟩
 . rw [K3,h3,if_neg hb]
 . have:midx L b=none:=by
    unfold midx
    rw [List.findIdx?_eq_none_iff]
    intro p hp
    have:p.1≠b:=fun e=>hb (by rw [<- h3,<- e];exact List.mem_map_of_mem (f:=(·.1)) hp)
    simpa using this
   unfold mput
   rw [this]
   intro p hp
   rcases List.mem_append.1 hp with q|q
   . exact h4 p q
   . simp at q;rw [q]
theorem Y3 {G:Hp} {gp kb mb mp w k:Nat} {f:Nat->Nat->Int} {mf:Nat->Nat->Bool} {KK:EK} {L B0:List Int} {v:Value} (r:Rg) (h:Hp) (sv:zh icC G v L) (hL:L.length<=100000) (hB0:B0.length<=512)
 (g8:r 8 = .map (some mp)) (g54:r 54=v) (g55:r 55 = .int .i64 L.length) (g56:r 56 = .int .i64 0)
 (go:GO h gp kb w k f) (mk:MK h mb w k mf) (nm:NM h mp B0) (d:Dis G h) (hnd0:B0.Nodup)
 (H1:(∀b∈L,ax b 1 1000000000=true)->(B0++L).Nodup->(B0++L).length<=512->∀(r':Rg) h',r' 0=r 0->r' 2=r 2->r' 7=r 7->r' 8=r 8->r' 20=r 20->r' 21=r 21->r' 22=r 22->GO h' gp kb w k f->MK h' mb w k mf->NM h' mp (B0++L)->Dis G h'->KK (.exit 2) r' h')
 (H2:¬((∀b∈L,ax b 1 1000000000=true)/\(B0++L).Nodup/\(B0++L).length<=512)->∀(r':Rg) h',r' 6 = .bool false->Dis G h'->KK .ret r' h'):dc (Bq G) r h KK:=by
 obtain ⟨sa,cap,hve⟩:=(sv h d).len
 refine ci (fun m r2 h3=>∃j:Nat,m=L.length-j/\j<=L.length/\r2 0=r 0/\r2 2=r 2/\r2 7=r 7/\r2 8=r 8/\r2 20=r 20/\r2 21=r 21/\r2 22=r 22/\r2 54=r 54/\r2 55=r 55/\r2 56 = .int .i64 j/\(∀b∈L.take j,ax b 1 1000000000=true)/\(B0++L.take j).Nodup/\(B0++L.take j).length<=512/\
  GO h3 gp kb w k f/\MK h3 mb w k mf/\NM h3 mp (B0++L.take j)/\Dis G h3) ?_
  (m:=L.length) ⟨0,rfl,Nat.zero_le _,rfl,rfl,rfl,rfl,rfl,rfl,rfl,rfl,rfl,by rw [g56];rfl,by simp,by simpa using hnd0,by simpa using hB0,go,mk,by simpa using nm,d⟩
 rintro m r2 h3 ⟨j,rfl,hj,q0,q2,q7,q8,q20,q21,q22,q54,q55,q56,hok,hnd,hle,go,mk,nm,d3⟩ X HX
 rw [g8]at q8
 rw [g54,hve]at q54
 rw [g55]at q55
 unfold Bq
 simp only [bRpM,q55,q56]
 refine bh (fun hlt=>?_) (fun hge=>?_)
 rotate_left
 . obtain rfl:j=L.length:=by omega
   rw [List.take_of_length_le (Nat.le_refl _)]at hok hnd hle nm
   exact H1 hok hnd hle _ _ (by simp (disch:=decide) only [bRpM,q0]) (by simp (disch:=decide) only [bRpM,q2]) (by simp (disch:=decide) only [bRpM,q7]) (by simp (disch:=decide) only [bRpM,q8,g8]) (by simp (disch:=decide) only [bRpM,q20]) (by simp (disch:=decide) only [bRpM,q21]) (by simp (disch:=decide) only [bRpM,q22]) go mk nm d3
 have hlt':j<L.length:=by omega
 obtain ⟨y,hy⟩:∃x,L[j]?=some x:=⟨_,List.getElem?_eq_getElem hlt'⟩
 have hym:y∈L:=List.mem_of_getElem? hy
 have sv3:=sv h3 d3
 rw [hve]at sv3
 obtain ⟨b,ofs,eb,z0⟩:=Sees.int sv3 hy
 subst eb
 have htk:B0++L.take (j+1)=(B0++L.take j)++[y]:=by rw [fq hy,List.append_assoc]
 have hpre:∀{P:Prop},(((B0++L.take (j+1)).Nodup/\(B0++L.take (j+1)).length<=512->P)->((B0++L).Nodup/\(B0++L).length<=512->P)):=by
  intro P h q
  have e:B0++L=(B0++L.take (j+1))++L.drop (j+1):=by rw [List.append_assoc,List.take_append_drop]
  rw [e]at q
  refine h ⟨(List.nodup_append.1 q.1).1,?_⟩
  have:=q.2
  rw [List.length_append]at this;omega
 obtain ⟨o,ML,n1,n2,n3,n4⟩:=id nm.ex
 have nlk:HL.look G h3 mp=some o:=ag n1
 unfold Ar
 simp (disch:=decide) only [bRpM,q54,q56,Rn (Int.natCast_nonneg j) hlt,Nat.mul_one,z0]
 refine (jh (n:=y) (a:=1) (b:=1000000000)).mono ?_
 rintro _ h3 ⟨rfl,rfl⟩
 cases hw:ax y 1 1000000000 with
 |false=>
  try simp only [bRpM]
  exact H2 (fun q=>by have:=q.1 y hym;rw [hw]at this;cases this) _ _ (by simp only [bRpM]) d3
 |true=>
 try simp only [bRpM,q8,Tx un102 un3 zero3 nlk n2,mget_in n4,n3]
 by_cases hm:y∈B0++L.take j
 . try simp only [bRpM,if_pos hm,show decide ((1:Int)>0)=true from rfl]
   refine H2 (fun q=>hpre (P:=False) (fun ⟨q1,_⟩=>?_) q.2) _ _ (by simp only [bRpM]) d3
   rw [htk]at q1
   exact (List.nodup_append.1 q1).2.2 y hm y (by simp) rfl
 try simp only [bRpM,if_neg hm,show decide ((0:Int)>0)=false from rfl,q8,Zu un102 nlk n2]
 have hll:ML.length=(B0++L.take j).length:=by rw [<- n3,List.length_map]
 by_cases h512:(B0++L.take j).length=512
 . try simp only [bRpM,hll,h512,show (((512:Nat):Int)==512)=true from rfl]
   refine H2 (fun q=>hpre (P:=False) (fun ⟨_,q1⟩=>?_) q.2) _ _ (by simp only [bRpM]) d3
   rw [htk,List.length_append,h512]at q1
   simp at q1
 have e512:(((B0++L.take j).length:Int)==512)=false:=by
  have:((B0++L.take j).length:Int)≠512:=by omega
  simpa using this
 try simp only [bRpM,hll,e512]
 unfold Ap
 try simp (disch:=decide) only [bRpM,q8]
 refine NM.put nm hm fun o' nm'=>?_
 unfold Aq
 try simp (disch:=first|decide|omega) only [bRpM,q56]
 refine HX (L.length-(j+1)) _ _ (by omega) ⟨j+1,rfl,hlt',by simp (disch:=decide) only [bRpM,q0],by simp (disch:=decide) only [bRpM,q2],by simp (disch:=decide) only [bRpM,q7],by simp (disch:=decide) only [bRpM,q8,g8],by simp (disch:=decide) only [bRpM,q20],by simp (disch:=decide) only [bRpM,q21],by simp (disch:=decide) only [bRpM,q22],by simp (disch:=decide) only [bRpM,q54,g54,hve],by simp (disch:=decide) only [bRpM,q55,g55],by simp only [bRpM]<;>rfl,?_,?_,?_,go.past n1 n2.cells,mk.past n1 n2.cells,by rw [htk];exact nm',d3.set (d3 _ _ n1)⟩
 . rw [fq hy]
   intro c hc
   rcases List.mem_append.1 hc with q|q
   . exact hok c q
   . simp at q;rw [q];exact hw
 . rw [htk]
   exact List.nodup_append.2 ⟨hnd,by simp,fun a ha b hb=>by simp at hb;subst hb;exact fun e=>hm (e▸ha)⟩
 . rw [htk,List.length_append]
   simp only [List.length_cons,List.length_nil]
   omega
structure Dc (w k:Nat) (f:Nat->Nat->Int) (ht:Int) (st:List (Cell × List Int)):Prop where
 each:∀s∈st,inW w k s.1=true/\fAt f s.1=0/\(s.2.length:Int)<=ht
 apart:(st.map Prod.fst).Nodup
 nums:∀b∈st.flatMap Prod.snd,ax b 1 1000000000=true
 once:(st.flatMap Prod.snd).Nodup
 most:(st.flatMap Prod.snd).length<=512
def StR (w k gp kb:Nat) (f:Nat->Nat->Int) (ht:Int) (st:List (Cell × List Int)) (u:Value) (h':Hp):Prop:=
 (Dc w k f ht st/\u = .bool true/\GO h' gp kb w k f)\/(¬Dc w k f ht st/\u = .bool false)
theorem P8 {G h:Hp} {gp kb w k:Nat} {f:Nat->Nat->Int} {ht:Int} {st:List (Cell × List Int)} {sv:Value} (go:GO h gp kb w k f) (gs:GStk G sv st) (hht:ht<=8) (hsl:st.length<=100000000000000):
 aj P_ G 132 #[.pointer (some ⟨gp,0,none⟩),sv,ht] h (StR w k gp kb f ht st):=by
 refine aj.assume fun d=>ar4 (by simp) ?_
 obtain ⟨sa,cap,hsv⟩:=gs.len d
 have hm2:w*k<=16*16:=Nat.mul_le_mul go.w2 go.k2
 have cg:∀j,aa G h ⟨gp,j,none⟩=_:=fun j=>ai (ag go.hd)
 unfold S132
 simp only [bRpM,hsv,cg]
 rw [tg bcC false (by decide) un90 eobool (by kernel_rfl) (by omega) (by omega)]
 intro mb hmb gmb
 have go1:GO (h.set mb (.cells (bcC.rows (List.replicate (w*k) false)).toArray 4 (0,0))) gp kb w k f:=go.le (b8 hmb)
 have mk1:MK (h.set mb (.cells (bcC.rows (List.replicate (w*k) false)).toArray 4 (0,0))) mb w k (ir []):=by unfold MK;rw [af,Gu,tj]
 have d1:=d.set (o := .cells (bcC.rows (List.replicate (w*k) false)).toArray 4 (0,0)) gmb
 generalize h.set mb (.cells (bcC.rows (List.replicate (w*k) false)).toArray 4 (0,0))=h1 at*
 try simp only [bRpM,mm102]
 intro mp hmp gmp
 have go2:GO (h1.set mp (.map #[] 0)) gp kb w k f:=go1.le (b8 hmp)
 have mk2:MK (h1.set mp (.map #[] 0)) mb w k (ir []):=mk1.le (b8 hmp)
 have nm2:NM (h1.set mp (.map #[] 0)) mp []:=⟨_,[],af,⟨#[],0,rfl,rfl⟩,rfl,fun p hp=>by cases hp⟩
 have d2:=d1.set (o := .map #[] 0) gmp
 generalize h1.set mp (.map #[] 0)=h2 at*
 try simp (disch:=first|decide|omega) only [bRpM,Nat.reduceAdd,Nat.reduceMul]
 have no:¬Dc w k f ht st->∀hh,StR w k gp kb f ht st (.bool false) hh:=fun q hh => .inr ⟨q,rfl⟩
 refine ci (fun m r4 h4=>∃i:Nat,m=st.length-i/\i<=st.length/\r4 0 = .pointer (some ⟨gp,0,none⟩)/\r4 2 = .int .i64 ht/\r4 7 = .slice (some ⟨mb,0,none⟩) (w*k) (w*k)/\r4 8 = .map (some mp)/\r4 20=sv/\r4 21 = .int .i64 st.length/\r4 22 = .int .i64 i/\
  (∀s∈st.take i,inW w k s.1=true/\fAt f s.1=0/\(s.2.length:Int)<=ht)/\((st.take i).map Prod.fst).Nodup/\(∀b∈(st.take i).flatMap Prod.snd,ax b 1 1000000000=true)/\((st.take i).flatMap Prod.snd).Nodup/\((st.take i).flatMap Prod.snd).length<=512/\
  GO h4 gp kb w k f/\MK h4 mb w k (ir ((st.take i).map Prod.fst))/\NM h4 mp ((st.take i).flatMap Prod.snd)/\Dis G h4) ?_
  (m:=st.length) ⟨0,rfl,Nat.zero_le _,by simp (disch:=decide) only [bRpM],by simp (disch:=decide) only [bRpM],by simp (disch:=decide) only [bRpM],by simp (disch:=decide) only [bRpM],by simp (disch:=decide) only [bRpM,hsv],by simp (disch:=decide) only [bRpM],by simp only [bRpM]<;>rfl,by simp,by simp,by simp,by simp,by simp,go2,by simpa using mk2,by simpa using nm2,d2⟩
 rintro m r4 h4 ⟨i,rfl,hi,k0,k2,k7,k8,k20,k21,k22,hea,hap,hnu,hon,hmo,go4,mk4,nm4,d4⟩ X HX
 unfold X3
 simp only [bRpM,k21,k22]
 refine bh (fun hlt=>?_) (fun hge=>?_)
 rotate_left
 . obtain rfl:i=st.length:=by omega
   rw [List.take_of_length_le (Nat.le_refl _)]at hea hap hnu hon hmo
   try simp (disch:=first|decide|omega) only [bRpM,Nat.reduceAdd,Nat.reduceMul]
   unfold X4
   simp only [bRpM]
   exact .inl ⟨⟨hea,hap,hnu,hon,hmo⟩,rfl,go4⟩
 have hlt':i<st.length:=by omega
 obtain ⟨y,hy⟩:∃x,st[i]?=some x:=⟨_,List.getElem?_eq_getElem hlt'⟩
 have hym:y∈st:=List.mem_of_getElem? hy
 have gs4:=gs
 rw [hsv]at gs4
 obtain ⟨b,ofs,a,c,eb,z0,z1,z2,z3⟩:=gs4.get d4 hy
 subst eb
 unfold Jc
 simp (disch:=first|decide|exact ao|exact am|omega|rfl) only [bRpM,k20,hsv,k22,ix24 (Int.natCast_nonneg i) hlt,z0,z1,z2]
 intro t ht' gt
 try rw [ad5]
 have go5:GO (h4.set t (.cells #[y.1.1,y.1.2,.slice a y.2.length c] 234 (0,0))) gp kb w k f:=go4.le (b8 ht')
 have mk5:MK (h4.set t (.cells #[y.1.1,y.1.2,.slice a y.2.length c] 234 (0,0))) mb w k (ir ((st.take i).map Prod.fst)):=mk4.le (b8 ht')
 have nm5:NM (h4.set t (.cells #[y.1.1,y.1.2,.slice a y.2.length c] 234 (0,0))) mp ((st.take i).flatMap Prod.snd):=by
  obtain ⟨o,L,n1,n2⟩:=nm4
  exact ⟨o,L,b8 ht' _ _ n1,n2⟩
 have bt:(h4.set t (.cells #[y.1.1,y.1.2,.slice a y.2.length c] 234 (0,0))) t=some (.cells #[y.1.1,y.1.2,.slice a y.2.length c] 234 (0,0)):=af
 have d5:=d4.set (o := .cells #[y.1.1,y.1.2,.slice a y.2.length c] 234 (0,0)) gt
 generalize h4.set t (.cells #[y.1.1,y.1.2,.slice a y.2.length c] 234 (0,0))=h5 at*
 have ct:∀j,aa G h5 ⟨t,j,none⟩=_:=fun j=>ai (ag bt)
 try simp only [bRpM,ct,k0]
 refine (Nl (c:=y.1) (go5.gs (G:=G))).mono ?_
 rintro _ h5 ⟨rfl,rfl⟩
 cases hst:(inW w k y.1&&(fAt f y.1==0))with
 |false=>
  try simp only [bRpM]
  refine no (fun q=>?_) _
  obtain ⟨q1,q2,_⟩:=q.each y hym
  rw [q1,q2]at hst
  cases hst
 |true=>
 have hst':=hst
 simp only [Bool.and_eq_true,beq_iff_eq]at hst'
 obtain ⟨hc',hf0⟩:=hst'
 try simp only [bRpM,ct,k0,k7]
 refine (nx (c:=y.1) (go5.gs (G:=G))).mono ?_
 rintro _ h5 ⟨rfl,rfl⟩
 obtain ⟨hn,hx,hyk,hlt2⟩:=yh hc'
 obtain ⟨a1,a2,a3,a4⟩:=ix.1 hc'
 have hxy:((y.1.1.toNat:Int),(y.1.2.toNat:Int))=y.1:=by rw [Int.toNat_of_nonneg a1,Int.toNat_of_nonneg a3]
 have mg:=Tv (G:=G) mk5 (Hp.le.refl _) hx hyk
 rw [show ir ((st.take i).map Prod.fst) y.1.1.toNat y.1.2.toNat=decide (y.1∈(st.take i).map Prod.fst)by unfold ir;rw [hxy]]at mg
 have m6:=mk5.put (v:=true) hx hyk
 have hn0:=hn
 rw [hn]
 generalize hnn:y.1.2.toNat*w+y.1.1.toNat=n at hn hlt2 mg m6
 try simp only [bRpM,D1 hlt2,mg]
 by_cases hmem:y.1∈(st.take i).map Prod.fst
 . try simp only [bRpM,decide_eq_true hmem]
   refine no (fun q=>uk (L:=st.map Prod.fst) (i:=i) (x:=y.1) (by rw [List.getElem?_map,hy];rfl) ?_ q.apart) _
   rw [<- List.map_take];exact hmem
 try simp only [bRpM,decide_eq_false hmem,ct,k2]
 by_cases hlen:(y.2.length:Int)<=ht
 rotate_left
 . try simp only [bRpM,show decide ((y.2.length:Int)>ht)=true from decide_eq_true (by omega)]
   exact no (fun q=>hlen (q.each y hym).2.2) _
 try simp only [bRpM,show decide ((y.2.length:Int)>ht)=false from decide_eq_false (by omega)]
 unfold Ja
 try simp (disch:=decide) only [bRpM,ct,k0]
 refine (nx (c:=y.1) (go5.gs (G:=G))).mono ?_
 rintro _ h5 ⟨rfl,rfl⟩
 rw [hn]
 try simp only [bRpM,k7,D1 hlt2]
 rw [di sz4 rfl mk5 (by rw [bcC.rows_length,fd];simp [bcC];exact hlt2)]
 have go6:=go5.other (o := .cells ((bcC.rows (ju w k (ir ((st.take i).map Prod.fst)))).set n (.bool true)).toArray 4 (0,0)) mk5 (by decide) (by decide)
 have nm6:NM (h5.set mb (.cells ((bcC.rows (ju w k (ir ((st.take i).map Prod.fst)))).set n (.bool true)).toArray 4 (0,0))) mp ((st.take i).flatMap Prod.snd):=by
  obtain ⟨o,L,n1,n2,n3⟩:=nm5
  exact ⟨o,L,by rw [au (fun q=>by unfold MK at mk5;rw [<- q,n1]at mk5;cases mk5;exact absurd n2.cells (by simp [gm]))];exact n1,n2,n3⟩
 have bt6:(h5.set mb (.cells ((bcC.rows (ju w k (ir ((st.take i).map Prod.fst)))).set n (.bool true)).toArray 4 (0,0))) t=_:=(au (fun q=>by unfold MK at mk5;rw [<- q,bt]at mk5;simp at mk5)).trans bt
 have d6:Dis G (h5.set mb (.cells ((bcC.rows (ju w k (ir ((st.take i).map Prod.fst)))).set n (.bool true)).toArray 4 (0,0))):=d5.set (d5 _ _ mk5)
 generalize h5.set mb (.cells ((bcC.rows (ju w k (ir ((st.take i).map Prod.fst)))).set n (.bool true)).toArray 4 (0,0))=h6 at*
 have ct6:∀j,aa G h6 ⟨t,j,none⟩=_:=fun j=>ai (ag bt6)
 try simp only [bRpM,ct6]
 have mk7:MK h6 mb w k (ir ((st.take (i+1)).map Prod.fst)):=by
  rw [fq hy,List.map_append,List.map_singleton,Dx a1 a3]
  exact m6
 have hft:(st.take (i+1)).flatMap Prod.snd=(st.take i).flatMap Prod.snd++y.2:=by rw [fq hy,List.flatMap_append];simp
 refine Y3 (L:=y.2) (B0:=(st.take i).flatMap Prod.snd) _ h6 z3 (by omega) hmo (by simp (disch:=decide) only [bRpM,k8]) (by simp (disch:=decide) only [bRpM]) (by simp (disch:=decide) only [bRpM]) (by simp only [bRpM]) go6 mk7 nm6 d6 hon (fun hw2 hnd2 hl2 r7 h7 j0 j2 j7 j8 j20 j21 j22 go7 mk8 nm8 d7=>?_) (fun hbad r7 h7 j6 d7=>?_)
 . simp only [jk,if_true,fh,iq]
   unfold Jb
   have j22':r7 22 = .int .i64 i:=j22.trans (by simp (disch:=decide) only [bRpM,k22])
   simp (disch:=first|decide|omega) only [bRpM,j22']
   refine HX (st.length-(i+1)) _ _ (by omega) ⟨i+1,rfl,hlt',by simp (disch:=decide) only [bRpM,j0,k0],by simp (disch:=decide) only [bRpM,j2,k2],by simp (disch:=decide) only [bRpM,j7,k7],by simp (disch:=decide) only [bRpM,j8,k8],by simp (disch:=decide) only [bRpM,j20,k20],by simp (disch:=decide) only [bRpM,j21,k21],by simp only [bRpM]<;>rfl,?_,?_,?_,?_,?_,go7,mk8,by rw [hft];exact nm8,d7⟩
   . rw [fq hy]
     intro s hs
     rcases List.mem_append.1 hs with q|q
     . exact hea s q
     . simp at q;rw [q];exact ⟨hc',hf0,hlen⟩
   . rw [fq hy,List.map_append]
     exact List.nodup_append.2 ⟨hap,by simp,fun p hp q hq=>by simp at hq;subst hq;exact fun e=>hmem (e▸hp)⟩
   . rw [hft]
     intro c hc
     rcases List.mem_append.1 hc with q|q
     . exact hnu c q
     . exact hw2 c q
   . rw [hft];exact hnd2
   . rw [hft];exact hl2
 . simp only [bRpM,j6]
   have e:st.flatMap Prod.snd=((st.take i).flatMap Prod.snd++y.2)++(st.drop (i+1)).flatMap Prod.snd:=by rw [<- hft,<- List.flatMap_append,List.take_append_drop]
   refine no (fun q=>hbad ⟨fun c hc=>q.nums c (List.mem_flatMap.2 ⟨y,hym,hc⟩),?_,?_⟩) _
   . have:=q.once
     rw [e]at this
     exact (List.nodup_append.1 this).1
   . have:=q.most
     rw [e,List.length_append]at this
     omega
def bRpN:=jq bC (jq (jq (jq (jq @Ab @Sq) (jq @cf130 (jq @cf131 @cf132))) (jq (jq @Cv @Cu) (jq @Wg (jq @Wf @F3)))) (jq (jq (jq @al0 @Hs) (jq @Ug (jq @Hr @Oj))) (jq (jq @Oi (jq @ld23 @ld24)) (jq @ld26 (jq @ld3 @K7)))))
def wC (C:Conf):Nat:=C.w.toNat
def kC (C:Conf):Nat:=C.h.toNat
def f0C (C:Conf):Nat->Nat->Int:=kd (C.bl++C.po) C.bl.length
def f3C (C:Conf):Nat->Nat->Int:=f2 (wC C) (kC C) (f0C C) (C.ro.flatMap bo)
structure fc (C:Conf):Prop where
 six:∀n∈[C.un,C.ac,C.sp,C.tu,C.ho,C.re],ax n 1 1000=true
 ht:ax C.ht 1 8=true
 qu:ax C.qu 1 16=true
 bu:ax C.bu 1 1048576=true
 laid:Py C
 rob:Dq (wC C) (kC C) (f0C C) C.ro
 sta:Dc (wC C) (kC C) (f3C C) C.ht C.st
def MadeR (G h:Hp) (C:Conf) (u:Value) (h':Hp):Prop:=h.le h'/\Dis G h'/\
 ((fc C/\∃ga gp kb,u = .pointer (some ⟨gp,0,none⟩)/\GO ga gp kb (wC C) (kC C) (f3C C)/\Sep [ga,h] h')\/(¬fc C/\u = .pointer none))
theorem CA.gstk {G h h0 a:Hp} {C:Conf} {ab:Option Addr} {cb:Nat} {ap:Option Addr} {cp:Nat} {ar:Option Addr} {cr:Nat} {az:Option Addr} {cs:Nat} (ca:CA G h0 C ab cb ap cp ar cr az cs) (s:Sep [a,h0] h) (d:Dis G h):GStk (under G h a) (.slice az C.st.length cs) C.st:=by
 obtain ⟨raw,h1,h2⟩:=ca.st
 refine ⟨raw,h1.gnd s d,?_,fun i r t hr ht=>?_⟩
 . obtain ⟨sa,c,e⟩:=h1.len
   simp only [Value.slice.injEq]at e
   exact e.2.1.symm
 . obtain ⟨k1,k2,k3⟩:=h2 i r t hr ht
   exact ⟨k1,k2,k3.gnd s d⟩
theorem Zv {G h:Hp} {v:Value} {C:Conf} (hv:CV G h v C) (st:j9 G) (hp:∀p∈C.ro,PB p) (hsl:C.st.length<=100000000000000):aj P_ G 80 #[v] h (MadeR G h C):=by
 obtain ⟨ab,cb,ap,cp,ar,cr,az,cs,rfl,ca⟩:=hv
 refine aj.assume fun d=>enter80 (by simp) ?_
 unfold S80
 simp only [bRpN]
 intro x hx gx
 generalize e1:Hp.set h x _=h1
 obtain ⟨l1,d1,b1⟩:=boxed e1 hx d gx
 have cx:∀j,aa G h1 ⟨x,j,none⟩=_:=fun j=>ai (ag b1)
 try simp (disch:=first|decide|omega) only [bRpN,Nat.reduceAdd,Nat.reduceMul,cx]
 intro nb hnb gnb
 generalize e2:Hp.set h1 nb _=h2
 obtain ⟨l2,d2,b2⟩:=boxed e2 hnb d1 gnb
 have L2:=l1.trans l2
 have cx2:∀j,aa G h2 ⟨x,j,none⟩=_:=fun j=>ai (ag (l2 _ _ b1))
 have sv:Sees icC G h2 (.slice (some ⟨nb,0,none⟩) 6 6) [C.un,C.ac,C.sp,C.tu,C.ho,C.re]:=Sees.row (c:=icC) (L:=[C.un,C.ac,C.sp,C.tu,C.ho,C.re]) b2 rfl (Nat.le_refl _)
 have no:∀{hh:Hp},¬fc C->h.le hh->Dis G hh->MadeR G h C (.pointer none) hh:=fun q l d=>⟨l,d,.inr ⟨q,rfl⟩⟩
 try simp (disch:=first|decide|omega) only [bRpN,Nat.reduceAdd,Nat.reduceMul]
 refine ci (fun m r h3=>∃j:Nat,m=6-j/\j<=6/\r 1 = .pointer (some ⟨x,0,none⟩)/\r 19 = .slice (some ⟨nb,0,none⟩) 6 6/\r 20 = .int .i64 6/\r 21 = .int .i64 j/\h3=h2/\∀n∈[C.un,C.ac,C.sp,C.tu,C.ho,C.re].take j,ax n 1 1000=true) ?_
  (m:=6) ⟨0,rfl,by decide,by simp (disch:=decide) only [bRpN],by simp (disch:=decide) only [bRpN],by simp (disch:=decide) only [bRpN]<;>rfl,by simp only [bRpN]<;>rfl,rfl,by simp⟩
 rintro m r h3 ⟨j,rfl,hj,g1,g19,g20,g21,rfl,hw⟩ X HX
 unfold ax8
 simp only [bRpN,g20,g21]
 refine bh (fun hlt=>?_) (fun hge=>?_)
 . have hlt':j<6:=by omega
   obtain ⟨y,hy⟩:∃n,[C.un,C.ac,C.sp,C.tu,C.ho,C.re][j]?=some n:=⟨_,List.getElem?_eq_getElem (by simpa using hlt')⟩
   obtain ⟨b,o,eb,z0⟩:=Sees.int sv hy
   cases eb
   rw [Nat.zero_add]at z0
   unfold Mi
   simp (disch:=decide) only [bRpN,g19,g21,Rn (Int.natCast_nonneg j) (show (j:Int)<(6:Nat)by omega),Nat.mul_one,z0]
   refine (jh (n:=y) (a:=1) (b:=1000)).mono ?_
   rintro _ h3 ⟨rfl,rfl⟩
   cases hb:ax y 1 1000 with
   |false=>
    try simp only [bRpN]
    exact no (fun q=>by have:=q.six y (List.mem_of_getElem? hy);rw [hb]at this;cases this) L2 d2
   |true=>
    try simp only [bRpN]
    unfold Mh
    simp (disch:=first|decide|omega) only [bRpN,g21]
    refine HX (6-(j+1)) _ _ (by omega) ⟨j+1,rfl,hlt',by simp (disch:=decide) only [bRpN,g1],by simp (disch:=decide) only [bRpN,g19],by simp (disch:=decide) only [bRpN,g20],by simp only [bRpN]<;>rfl,rfl,?_⟩
    rw [fq hy]
    intro c hc
    rcases List.mem_append.1 hc with q|q
    . exact hw c q
    . simp at q;rw [q];exact hb
 obtain rfl:j=6:=by omega
 rw [List.take_of_length_le (by simp)]at hw
 try simp (disch:=first|decide|omega) only [bRpN,Nat.reduceAdd,Nat.reduceMul]
 unfold ay1
 try simp (disch:=decide) only [bRpN,g1,cx2]
 refine (jh (n:=C.ht) (a:=1) (b:=8)).mono ?_
 rintro _ h3 ⟨rfl,rfl⟩
 cases hht:ax C.ht 1 8 with
 |false=>try simp only [bRpN];exact no (fun q=>absurd (q.ht.symm.trans hht) (by decide)) L2 d2
 |true=>
 try simp only [bRpN,g1,cx2]
 refine (jh (n:=C.qu) (a:=1) (b:=16)).mono ?_
 rintro _ h3 ⟨rfl,rfl⟩
 cases hqu:ax C.qu 1 16 with
 |false=>try simp only [bRpN];exact no (fun q=>absurd (q.qu.symm.trans hqu) (by decide)) L2 d2
 |true=>
 try simp only [bRpN,g1,cx2]
 refine (jh (n:=C.bu) (a:=1) (b:=1048576)).mono ?_
 rintro _ h3 ⟨rfl,rfl⟩
 cases hbu:ax C.bu 1 1048576 with
 |false=>try simp only [bRpN];exact no (fun q=>absurd (q.bu.symm.trans hbu) (by decide)) L2 d2
 |true=>
 try simp only [bRpN]
 unfold ay0
 try simp (disch:=decide) only [bRpN,g1,cx2]
 have ca2:=ca.up L2 d2
 refine (Zz ca2.cv).mono ?_
 rintro _ h4 ⟨l4,d4,⟨hl,ga,gp,kb,rfl,go,s4⟩|⟨hl,rfl⟩⟩
 rotate_left
 . try simp only [bRpN]
   exact no (fun q=>hl q.laid) (L2.trans l4) d4
 have cx4:∀j,aa G h4 ⟨x,j,none⟩=_:=fun j=>ai (ag (l4 _ _ (l2 _ _ b1)))
 try simp only [bRpN,g1,cx4]
 refine (s4.on (Qp (w:=wC C) (k:=kC C) (f:=f0C C) go (st.under d4 s4.hd) (ca2.ro.gnd s4 d4) hp)).mono ?_
 rintro _ h5 ⟨ga5,⟨hr,rfl,go5⟩|⟨hr,rfl⟩,s5,d5⟩
 rotate_left
 . try simp only [bRpN]
   exact no (fun q=>hr q.rob) (L2.trans (s5.in 1 rfl)) d5
 have cx5:∀j,aa G h5 ⟨x,j,none⟩=_:=fun j=>ai (ag (s5.in 1 rfl _ _ (l2 _ _ b1)))
 try simp only [bRpN,g1,cx5]
 have hht8:C.ht<=8:=by unfold ax at hht;simp only [Bool.and_eq_true,decide_eq_true_eq]at hht;exact hht.2
 refine (s5.on (P8 (st:=C.st) go5 (ca2.gstk s5 d5) hht8 hsl)).mono ?_
 rintro _ h6 ⟨ga6,⟨hs,rfl,go6⟩|⟨hs,rfl⟩,s6,d6⟩
 rotate_left
 . try simp only [bRpN]
   exact no (fun q=>hs q.sta) (L2.trans (s6.in 1 rfl)) d6
 try simp only [bRpN]
 unfold ax9
 try simp (disch:=decide) only [bRpN]
 exact ⟨L2.trans (s6.in 1 rfl),d6,.inl ⟨⟨hw,hht,hqu,hbu,hl,hr,hs⟩,ga6,gp,kb,rfl,go6,(s6.swap.cut L2).swap⟩⟩
def bRpO:=jq bC (jq (jq @cf80 (jq @eq68n @eq68s)) (jq (jq @ld26 @ne68n) (jq @ne68s @lr)))
def NewR (G h:Hp) (C:Conf) (u:Value) (h':Hp):Prop:=h.le h'/\Dis G h'/\
 ((fc C/\∃ga gp kb,u = .tuple #[.pointer (some ⟨gp,0,none⟩),(0:Int)]/\GO ga gp kb (wC C) (kC C) (f3C C)/\Sep [ga,h] h')\/(¬fc C/\u = .tuple #[.pointer none,(5:Int)]))
theorem um {G h:Hp} {v:Value} {C:Conf} (hv:CV G h v C) (st:j9 G) (hp:∀p∈C.ro,PB p) (hsl:C.st.length<=100000000000000):aj P_ G 37 #[v] h (NewR G h C):=by
 have hv0:=hv
 obtain ⟨ab,cb,ap,cp,ar,cr,az,cs,rfl,ca⟩:=hv
 refine aj.assume fun d=>enter37 (by simp) ?_
 unfold S37
 simp (disch:=decide) only [bRpO]
 intro x hx gx
 generalize e1:Hp.set h x _=h1
 obtain ⟨l1,d1,b1⟩:=boxed e1 hx d gx
 have cx:∀j,aa G h1 ⟨x,j,none⟩=_:=fun j=>ai (ag b1)
 try simp (disch:=first|decide|omega) only [bRpO,Nat.reduceAdd,Nat.reduceMul,cx]
 refine (Zv (ca.up l1 d1).cv st hp hsl).mono ?_
 rintro _ h2 ⟨l2,d2,⟨hm,ga,gp,kb,rfl,go,s2⟩|⟨hm,rfl⟩⟩
 . try simp only [bRpO]
   unfold aB8
   try simp (disch:=decide) only [bRpO]
   exact ⟨l1.trans l2,d2,.inl ⟨hm,ga,gp,kb,rfl,go,(s2.swap.cut l1).swap⟩⟩
 . try simp only [bRpO]
   exact ⟨l1.trans l2,d2,.inr ⟨hm,rfl⟩⟩
section
variable (G:Hp) (K:EK) (r:Rg) (h:Hp)
def md99:Nat->Hint
 |_=>mh false [] [] [] false
def ud:Prop:=
 o_ G (Instr.loadAt 30 (r 3)) h fun v2 h2=>
 opH P_ G (su (Instr.storeAt 30 (r 6) v2)) h2 fun v3 h3=>
 K .ret (upd r 44 v2) h3
def S99:Prop:=
 o_ G (Instr.box 30 (r 0)) h fun v0 h0=>o_ G (Instr.alloc 30 true (.tuple #[])) h0 fun v1 h1=>
 opH P_ G (xEq .eql 3 (.tmp 0) (.const .nilFunc) (r 1) (.int .i64 0)) h1 fun v4 h4=>
 cond v4
 (o_ G (Instr.fieldAt 30 v0 0) h4 fun v5 h5=>o_ G (Instr.fieldAt 28 v5 1) h5 fun v6 h6=>o_ G (Instr.loadAt 3 v6) h6 fun v7 h7=>o_ G (binOp .sub 3 v7 (r 2)) h7 fun v8 h8=>o_ G (Instr.fieldAt 30 v0 0) h8 fun v9 h9=>o_ G (Instr.fieldAt 28 v9 1) h9 fun v10 h10=>
 opH P_ G (su (Instr.storeAt 3 v10 v8)) h10 fun v11 h11=>
 ud G K (u2 (u10 r 3 v0 6 v1 7 (r 1) 9 v4 8 v4 10 v5 11 v6 12 v7 13 (r 2) 14 v8) 15 v9 16 v10) h11)
 (opH P_ G (xEq .eql 3 (.tmp 0) (.const .nilFunc) (r 1) (.int .i64 1)) h4 fun v12 h12=>
 cond v12
 (o_ G (Instr.fieldAt 30 v0 0) h12 fun v13 h13=>o_ G (Instr.fieldAt 28 v13 0) h13 fun v14 h14=>o_ G (Instr.loadAt 3 v14) h14 fun v15 h15=>o_ G (binOp .add 3 v15 (r 2)) h15 fun v16 h16=>o_ G (Instr.fieldAt 30 v0 0) h16 fun v17 h17=>o_ G (Instr.fieldAt 28 v17 0) h17 fun v18 h18=>
 opH P_ G (su (Instr.storeAt 3 v18 v16)) h18 fun v19 h19=>
 ud G K (u4 (u10 r 3 v0 6 v1 7 (r 1) 9 v4 8 v4 18 v12 17 v12 19 v13 20 v14 21 v15) 22 (r 2) 23 v16 24 v17 25 v18) h19)
 (opH P_ G (xEq .eql 3 (.tmp 0) (.const .nilFunc) (r 1) (.int .i64 2)) h12 fun v20 h20=>
 cond v20
 (o_ G (Instr.fieldAt 30 v0 0) h20 fun v21 h21=>o_ G (Instr.fieldAt 28 v21 1) h21 fun v22 h22=>o_ G (Instr.loadAt 3 v22) h22 fun v23 h23=>o_ G (binOp .add 3 v23 (r 2)) h23 fun v24 h24=>o_ G (Instr.fieldAt 30 v0 0) h24 fun v25 h25=>o_ G (Instr.fieldAt 28 v25 1) h25 fun v26 h26=>
 opH P_ G (su (Instr.storeAt 3 v26 v24)) h26 fun v27 h27=>
 ud G K (u6 (u10 r 3 v0 6 v1 7 (r 1) 9 v4 8 v4 18 v12 17 v12 27 v20 26 v20 28 v21) 29 v22 30 v23 31 (r 2) 32 v24 33 v25 34 v26) h27)
 (opH P_ G (xEq .eql 3 (.tmp 0) (.const .nilFunc) (r 1) (.int .i64 3)) h20 fun v28 h28=>
 cond v28
 (o_ G (Instr.fieldAt 30 v0 0) h28 fun v29 h29=>o_ G (Instr.fieldAt 28 v29 0) h29 fun v30 h30=>o_ G (Instr.loadAt 3 v30) h30 fun v31 h31=>o_ G (binOp .sub 3 v31 (r 2)) h31 fun v32 h32=>o_ G (Instr.fieldAt 30 v0 0) h32 fun v33 h33=>o_ G (Instr.fieldAt 28 v33 0) h33 fun v34 h34=>
 opH P_ G (su (Instr.storeAt 3 v34 v32)) h34 fun v35 h35=>
 ud G K (u8 (u10 r 3 v0 6 v1 7 (r 1) 9 v4 8 v4 18 v12 17 v12 27 v20 26 v20 36 v28) 35 v28 37 v29 38 v30 39 v31 40 (r 2) 41 v32 42 v33 43 v34) h35)
 (ud G K (upd (u10 r 3 v0 6 v1 7 (r 1) 9 v4 8 v4 18 v12 17 v12 27 v20 26 v20 36 v28) 35 v28) h28))))
theorem enter99:Ent 45 99 [.cell 6 30] S99:=ent_ (m:=md99) (c:=(Tryz.f99.body.getD .skip)) (fun _ _ _ _=>by kernel_rfl) Tryz.func99 rfl rfl rfl
def md45:Nat->Hint
 |5=>mh true [0,1,3,7,15,31,63,127,255,511,1023,2047,4095,2047,10239,2047,34815,2047,133119,518143,1048575,2097151] [n_,m_,e_,n_,n_,n_,m_,e_,n_,n_,n_,n_,m_,n_,m_,n_,m_,n_,m_,e_,m_,n_] [false,false,true,false,false,false,false,true,false,false,false,false,false,false,false,false,false,false,false,true,false,false] true
 |10=>mh false [0,0,2,0,8,0,62,127,255] [m_,n_,m_,n_,m_,n_,e_,e_,n_] [false,false,false,false,false,false,true,false,false] true
 |18=>mh false [0,0,0,6,14,31,63] [m_,n_,n_,n_,m_,e_,n_] (fs 7) false
 |_=>mh false [] [] [] false
def O7 (G:Hp) (K:EK) (r:Rg) (h:Hp):Prop:=
 K .ret (upd r 4 (.bool false)) h
def aA6 (G:Hp) (K:EK) (r:Rg) (h:Hp):Prop:=
 K .ret (upd r 4 (.bool true)) h
def My:Prop:=
 o_ G (binOp .add 3 (r 5) (.int .i64 1)) h fun v34 h34=>
 K .normal (u3 r 43 (r 5) 44 v34 5 v34) h34
def Mz:Prop:=
 ∃q35:Hp,q35.le h/\
 w_ G q35 (Instr.loadAt 26 (r 2)) h fun v36 h36=>
 p_ (Instr.fieldAt 48 (r 3) 3) h36 fun v37 h37=>
 w_ G q35 (Instr.loadAt 30 v37) h37 fun v38 h38=>
 p_ (Instr.fieldAt 48 (r 3) 1) h38 fun v39 h39=>
 w_ G q35 (Instr.loadAt 3 v39) h39 fun v40 h40=>
 c_ G 99 #[v38,v40,(r 5)] h40 fun v41 h41=>q35.le h41/\
 c_ G 22 #[v36,v41] h41 fun v42 h42=>
 p_ (Op.unary .not v42) h42 fun v43 h43=>
 (fun q=>cond v43
 (K .ret (upd q 4 (.bool false)) h43)
 (My G K q h43))
 (u9 r 45 v36 46 v37 47 v38 48 v39 49 v40 50 (r 5) 51 v41 52 v42 53 v43)
def aA4 (r:Rg) (h:Hp) (K:EK):Prop:=
 o_ G (Instr.fieldAt 48 (r 3) 2) h fun v31 h31=>o_ G (Instr.loadAt 3 v31) h31 fun v32 h32=>o_ G (binOp .leq 3 (r 5) v32) h32 fun v33 h33=>
 cond v33
 (Mz G K (u4 r 39 (r 5) 40 v31 41 v32 42 v33) h33)
 (K (.exit 1) (u4 r 39 (r 5) 40 v31 41 v32 42 v33) h33)
def aA7:Prop:=
 dc (aA4 G) (upd r 5 (.int .i64 1)) h (bj 1 (bw (aA6 G K) (bj 0 (bw (O7 G K) K))))
def aA5:Prop:=
 o_ G (Instr.fieldAt 48 (r 3) 2) h fun v48 h48=>o_ G (Instr.loadAt 3 v48) h48 fun v49 h49=>
 opH P_ G (xEq .eql 3 (.tmp 0) (.const .nilFunc) v49 (.int .i64 0)) h49 fun v50 h50=>g_ v50 true (o_ G (Instr.fieldAt 48 (r 3) 1) h50) h50 fun v51 h51=>g_ v50 true (o_ G (Instr.loadAt 3 v51) h51) h51 fun v52 h52=>g_ v50 true (opH P_ G (xEq .eql 3 (.tmp 0) (.const .nilFunc) v52 (.int .i64 0)) h52) h52 fun v53 h53=>
 opH P_ G (bf v50 v53 (.bool false)) h53 fun v54 h54=>g_ v54 true (o_ G (Instr.fieldAt 48 (r 3) 4) h54) h54 fun v55 h55=>g_ v54 true (o_ G (Instr.loadAt 30 v55) h55) h55 fun v56 h56=>g_ v54 true (o_ G (Instr.fieldAt 48 (r 3) 3) h56) h56 fun v57 h57=>g_ v54 true (o_ G (Instr.fieldAt 30 v57 0) h57) h57 fun v58 h58=>g_ v54 true (o_ G (Instr.loadAt 28 v58) h58) h58 fun v59 h59=>g_ v54 true (o_ G (Instr.fieldAt 48 (r 3) 3) h59) h59 fun v60 h60=>g_ v54 true (o_ G (Instr.fieldAt 30 v60 1) h60) h60 fun v61 h61=>g_ v54 true (o_ G (Instr.loadAt 4 v61) h61) h61 fun v62 h62=>g_ v54 true (o_ G (Op.unary .not v62) h62) h62 fun v63 h63=>g_ v54 true (o_ G (Instr.build 30 #[(0,v59),(1,v63)]) h63) h63 fun v64 h64=>g_ v54 true (opH P_ G (xEq .eql 30 (.tmp 0) (.tmp 0) v56 v64) h64) h64 fun v65 h65=>
 opH P_ G (bf v54 v65 (.bool false)) h65 fun v66 h66=>
 K .ret (u2 (u10 (u10 r 70 v48 71 v49 72 v50 73 v50 74 v51 75 v52 76 v53 77 v54 78 v54 79 v55) 80 v56 81 v57 82 v58 83 v59 84 v60 85 v61 86 v62 87 v63 88 v64 89 v65) 90 v66 4 v66) h66
def Ij:Prop:=
 o_ G (binOp .add 3 (r 7) (.int .i64 1)) h fun v68 h68=>
 K .normal (u3 r 61 (r 7) 62 v68 7 v68) h68
def Ik:Prop:=
 w_ G h (Instr.loadAt 26 (r 2)) h fun v69 h69=>
 p_ (Instr.indexAt 22 (r 6) (r 7)) h69 fun v70 h70=>
 w_ G h (Instr.loadAt 28 v70) h70 fun v71 h71=>
 c_ G 60 #[v69,v71] h71 fun v72 h72=>
 p_ (Op.unary .not v72) h72 fun v73 h73=>
 (fun q=>cond v73
 (K .ret (upd q 4 (.bool false)) h73)
 (Ij G K q h73))
 (u7 r 63 v69 64 (r 6) 65 (r 7) 66 v70 67 v71 68 v72 69 v73)
def aA3 (r:Rg) (h:Hp) (K:EK):Prop:=
 o_ G (binOp .lss 3 (r 7) (.int .i64 4)) h fun v67 h67=>
 cond v67
 (Ik G K (u2 r 59 (r 7) 60 v67) h67)
 (K (.exit 3) (u2 r 59 (r 7) 60 v67) h67)
def Dj:Prop:=
 cond (r 91)
 (o_ G (Instr.fieldAt 48 (r 3) 2) h fun v75 h75=>o_ G (Instr.loadAt 3 v75) h75 fun v76 h76=>
 opH P_ G (xEq .eql 3 (.tmp 0) (.const .nilFunc) v76 (.int .i64 0)) h76 fun v77 h77=>g_ v77 true (o_ G (Instr.fieldAt 48 (r 3) 1) h77) h77 fun v78 h78=>g_ v77 true (o_ G (Instr.loadAt 3 v78) h78) h78 fun v79 h79=>g_ v77 true (opH P_ G (xEq .eql 3 (.tmp 0) (.const .nilFunc) v79 (.int .i64 0)) h79) h79 fun v80 h80=>
 opH P_ G (bf v77 v80 (.bool false)) h80 fun v81 h81=>g_ v81 true (o_ G (Instr.fieldAt 48 (r 3) 4) h81) h81 fun v82 h82=>g_ v81 true (o_ G (Instr.loadAt 30 v82) h82) h82 fun v83 h83=>g_ v81 true (o_ G (Instr.fieldAt 48 (r 3) 3) h83) h83 fun v84 h84=>g_ v81 true (o_ G (Instr.loadAt 30 v84) h84) h84 fun v85 h85=>g_ v81 true (opH P_ G (xEq .eql 30 (.tmp 0) (.tmp 0) v83 v85) h85) h85 fun v86 h86=>
 opH P_ G (bf v81 v86 (.bool false)) h86 fun v87 h87=>
 K .ret (u6 (u10 r 94 v75 95 v76 96 v77 97 v77 98 v78 99 v79 100 v80 101 v81 102 v81 103 v82) 104 v83 105 v84 106 v85 107 v86 108 v87 4 v87) h87)
 (O7 G K r h)
def aA8:Prop:=
 o_ G (Instr.fieldAt 48 (r 3) 0) h fun v7 h7=>o_ G (Instr.loadAt 3 v7) h7 fun v8 h8=>
 opH P_ G (xEq .eql 3 (.tmp 0) (.const .nilFunc) v8 (.int .i64 1)) h8 fun v9 h9=>
 cond v9
 (∃q10:Hp,q10.le h9/\
 p_ (Instr.fieldAt 48 (r 3) 2) h9 fun v11 h11=>
 w_ G q10 (Instr.loadAt 3 v11) h11 fun v12 h12=>
 c_ G 98 #[v12,(.int .i64 1),(.int .i64 16)] h12 fun v13 h13=>q10.le h13/\
 p_ (Op.unary .not v13) h13 fun v14 h14=>g_ v14 false (p_ (Instr.fieldAt 48 (r 3) 1) h14) h14 fun v15 h15=>g_ v14 false (w_ G q10 (Instr.loadAt 3 v15) h15) h15 fun v16 h16=>g_ v14 false (fun K1=>c_ G 98 #[v16,(.int .i64 0),(.int .i64 3)] h16 fun v h'=>q10.le h'/\K1 v h') h16 fun v17 h17=>g_ v14 false (p_ (Op.unary .not v17) h17) h17 fun v18 h18=>
 bm P_ noHp noHp (bf v14 (.bool true) v18) h18 fun v19 h19=>g_ v19 false (p_ (Instr.fieldAt 48 (r 3) 4) h19) h19 fun v20 h20=>g_ v19 false (w_ G q10 (Instr.loadAt 30 v20) h20) h20 fun v21 h21=>g_ v19 false (p_ (Instr.fieldAt 48 (r 3) 3) h21) h21 fun v22 h22=>g_ v19 false (w_ G q10 (Instr.loadAt 30 v22) h22) h22 fun v23 h23=>g_ v19 false (p_ (Instr.fieldAt 48 (r 3) 1) h23) h23 fun v24 h24=>g_ v19 false (w_ G q10 (Instr.loadAt 3 v24) h24) h24 fun v25 h25=>g_ v19 false (p_ (Instr.fieldAt 48 (r 3) 2) h25) h25 fun v26 h26=>g_ v19 false (w_ G q10 (Instr.loadAt 3 v26) h26) h26 fun v27 h27=>g_ v19 false (fun K1=>c_ G 99 #[v23,v25,v27] h27 fun v h'=>q10.le h'/\K1 v h') h27 fun v28 h28=>g_ v19 false (bm P_ G q10 (xEq .neq 30 (.tmp 0) (.tmp 0) v21 v28) h28) h28 fun v29 h29=>
 bm P_ noHp noHp (bf v19 (.bool true) v29) h29 fun v30 h30=>
 cond v30
 (K .ret (u7 (u10 (u10 r 13 v7 14 v8 16 v9 15 v9 17 v11 18 v12 19 v13 20 v14 21 v14 22 v15) 23 v16 24 v17 25 v18 26 v19 27 v19 28 v20 29 v21 30 v22 31 v23 32 v24) 33 v25 34 v26 35 v27 36 v28 37 v29 38 v30 4 (.bool false)) h30)
 (aA7 G K (u6 (u10 (u10 r 13 v7 14 v8 16 v9 15 v9 17 v11 18 v12 19 v13 20 v14 21 v14 22 v15) 23 v16 24 v17 25 v18 26 v19 27 v19 28 v20 29 v21 30 v22 31 v23 32 v24) 33 v25 34 v26 35 v27 36 v28 37 v29 38 v30) h30))
 (opH P_ G (xEq .eql 3 (.tmp 0) (.const .nilFunc) v8 (.int .i64 2)) h9 fun v44 h44=>
 cond v44
 (o_ G (Instr.fieldAt 48 (r 3) 3) h44 fun v45 h45=>o_ G (Instr.loadAt 30 v45) h45 fun v46 h46=>
 c_ G 100 #[v46] h46 fun v47 h47=>
 dc (aA3 G) (upd (u10 r 13 v7 14 v8 16 v9 15 v9 55 v44 54 v44 56 v45 57 v46 58 v47 6 v47) 7 (.int .i64 0)) h47 (bj 3 (bw (aA5 G K) (bj 0 (bw (O7 G K) K)))))
 (opH P_ G (xEq .eql 3 (.tmp 0) (.const .nilFunc) v8 (.int .i64 3)) h44 fun v74 h74=>
 cond v74
 (Dj G K (u8 r 13 v7 14 v8 16 v9 15 v9 55 v44 54 v44 92 v74 91 v74) h74)
 (opH P_ G (xEq .eql 3 (.tmp 0) (.const .nilFunc) v8 (.int .i64 4)) h74 fun v88 h88=>
 Dj G K (u10 r 13 v7 14 v8 16 v9 15 v9 55 v44 54 v44 92 v74 91 v74 93 v88 91 v88) h88)))
def S45:Prop:=
 o_ G (Instr.box 26 (r 0)) h fun v0 h0=>o_ G (Instr.box 48 (r 1)) h0 fun v1 h1=>o_ G (Instr.loadAt 26 v0) h1 fun v2 h2=>o_ G (Instr.fieldAt 48 v1 3) h2 fun v3 h3=>o_ G (Instr.loadAt 30 v3) h3 fun v4 h4=>
 c_ G 22 #[v2,v4] h4 fun v5 h5=>o_ G (Op.unary .not v5) h5 fun v6 h6=>
 (fun q=>cond v6
 (K .ret (upd q 4 (.bool false)) h6)
 (aA8 G K q h6))
 (u8 r 2 v0 3 v1 4 (.bool false) 8 v2 9 v3 10 v4 11 v5 12 v6)
theorem enter45:Ent 109 45 [.tmp 4] S45:=ent_ (m:=md45) (c:=(Tryz.f45.body.getD .skip)) (fun _ _ _ _=>by kernel_rfl) Tryz.func45 rfl rfl rfl
def md100:Nat->Hint
 |_=>mh false [] [] [] false
def S100:Prop:=
 o_ G (Instr.box 30 (r 0)) h fun v0 h0=>o_ G (Instr.fieldAt 30 v0 0) h0 fun v1 h1=>o_ G (Instr.fieldAt 28 v1 0) h1 fun v2 h2=>o_ G (Instr.loadAt 3 v2) h2 fun v3 h3=>o_ G (Instr.fieldAt 30 v0 0) h3 fun v4 h4=>o_ G (Instr.fieldAt 28 v4 1) h4 fun v5 h5=>o_ G (Instr.loadAt 3 v5) h5 fun v6 h6=>o_ G (Instr.build 28 #[(0,v3),(1,v6)]) h6 fun v7 h7=>o_ G (binOp .add 3 v3 (.int .i64 1)) h7 fun v8 h8=>o_ G (Instr.build 28 #[(0,v8),(1,v6)]) h8 fun v9 h9=>o_ G (binOp .add 3 v6 (.int .i64 1)) h9 fun v10 h10=>o_ G (Instr.build 28 #[(0,v3),(1,v10)]) h10 fun v11 h11=>o_ G (binOp .add 3 v3 (.int .i64 1)) h11 fun v12 h12=>o_ G (binOp .add 3 v6 (.int .i64 1)) h12 fun v13 h13=>o_ G (Instr.build 28 #[(0,v12),(1,v13)]) h13 fun v14 h14=>o_ G (Instr.buildSlice 22 4 #[(0,v7),(1,v9),(2,v11),(3,v14)]) h14 fun v15 h15=>
 K .ret (u8 (u10 (u10 r 1 v0 2 (.slice none 0 0) 5 v1 6 v2 7 v3 3 v3 8 v4 9 v5 10 v6 4 v6) 11 v3 12 v6 13 v7 14 v3 15 v8 16 v6 17 v9 18 v3 19 v6 20 v10) 21 v11 22 v3 23 v12 24 v6 25 v13 26 v14 27 v15 2 v15) h15
theorem au0:Ent 28 100 [.tmp 2] S100:=ent_ (m:=md100) (c:=(Tryz.f100.body.getD .skip)) (fun _ _ _ _=>by kernel_rfl) Tryz.func100 rfl rfl rfl
def md48:Nat->Hint
 |_=>mh false [] [] [] false
def U7 (G:Hp) (K:EK) (r:Rg) (h:Hp):Prop:=
 K .ret (u2 r 65 (r 7) 4 (r 7)) h
def Mt:Prop:=
 o_ G (binOp .add 3 (r 8) (.int .i64 1)) h fun v11 h11=>
 K .normal (u3 r 45 (r 8) 46 v11 8 v11) h11
def ra:Prop:=
 o_ G (binOp .add 3 (r 9) (.int .i64 1)) h fun v15 h15=>
 K .normal (u3 r 51 (r 9) 52 v15 9 v15) h15
def Dh:Prop:=
 o_ G (Instr.build 28 #[(0,(r 9)),(1,(r 8))]) h fun v16 h16=>
 c_ G 83 #[(r 5),v16] h16 fun v17 h17=>o_ G (binOp .gtr 3 v17 (.int .i64 0)) h17 fun v18 h18=>
 cond v18
 (o_ G (Instr.build 28 #[(0,(r 9)),(1,(r 8))]) h18 fun v19 h19=>o_ G (Instr.buildSlice 22 1 #[(0,v19)]) h19 fun v20 h20=>o_ G (Builtin.append_ #[22,22] 22 #[(r 7),v20]) h20 fun v21 h21=>
 ra G K (u3 (u10 r 53 (r 5) 54 (r 9) 55 (r 8) 56 v16 57 v17 58 v18 59 (r 7) 60 (r 9) 61 (r 8) 62 v19) 63 v20 64 v21 7 v21) h21)
 (ra G K (u6 r 53 (r 5) 54 (r 9) 55 (r 8) 56 v16 57 v17 58 v18) h18)
def Ms (r:Rg) (h:Hp) (K:EK):Prop:=
 o_ G (Instr.fieldAt 26 (r 2) 0) h fun v12 h12=>o_ G (Instr.loadAt 3 v12) h12 fun v13 h13=>o_ G (binOp .lss 3 (r 9) v13) h13 fun v14 h14=>
 cond v14
 (Dh G K (u4 r 47 (r 9) 48 v12 49 v13 50 v14) h14)
 (K (.exit 5) (u4 r 47 (r 9) 48 v12 49 v13 50 v14) h14)
def Mu:Prop:=
 dc (Ms G) (upd r 9 (.int .i64 0)) h (bj 5 (bj 4 (bw (Mt G K) K)))
def az9 (r:Rg) (h:Hp) (K:EK):Prop:=
 o_ G (Instr.fieldAt 26 (r 2) 1) h fun v8 h8=>o_ G (Instr.loadAt 3 v8) h8 fun v9 h9=>o_ G (binOp .lss 3 (r 8) v9) h9 fun v10 h10=>
 cond v10
 (Mu G K (u4 r 41 (r 8) 42 v8 43 v9 44 v10) h10)
 (K (.exit 3) (u4 r 41 (r 8) 42 v8 43 v9 44 v10) h10)
def Eh:Prop:=
 dc (az9 G) (u2 r 7 (.slice none 0 0) 8 (.int .i64 0)) h (bj 3 (bw (U7 G K) K))
def Fl:Prop:=
 o_ G (binOp .add 3 (r 6) (.int .i64 1)) h fun v26 h26=>
 K .normal (u3 r 25 (r 6) 26 v26 6 v26) h26
def Fm:Prop:=
 o_ G (Instr.fieldAt 48 (r 3) 3) h fun v27 h27=>o_ G (Instr.loadAt 30 v27) h27 fun v28 h28=>o_ G (Instr.fieldAt 48 (r 3) 1) h28 fun v29 h29=>o_ G (Instr.loadAt 3 v29) h29 fun v30 h30=>
 c_ G 99 #[v28,v30,(r 6)] h30 fun v31 h31=>
 c_ G 40 #[v31] h31 fun v32 h32=>o_ G (Builtin.append_ #[22,22] 22 #[(r 5),v32]) h32 fun v33 h33=>
 Fl G K (u10 r 27 (r 5) 28 v27 29 v28 30 v29 31 v30 32 (r 6) 33 v31 34 v32 35 v33 5 v33) h33
def Xa (r:Rg) (h:Hp) (K:EK):Prop:=
 o_ G (Instr.fieldAt 48 (r 3) 2) h fun v23 h23=>o_ G (Instr.loadAt 3 v23) h23 fun v24 h24=>o_ G (binOp .leq 3 (r 6) v24) h24 fun v25 h25=>
 cond v25
 (Fm G K (u4 r 21 (r 6) 22 v23 23 v24 24 v25) h25)
 (K (.exit 1) (u4 r 21 (r 6) 22 v23 23 v24 24 v25) h25)
def aA0:Prop:=
 o_ G (Instr.fieldAt 48 (r 3) 0) h fun v6 h6=>o_ G (Instr.loadAt 3 v6) h6 fun v7 h7=>
 opH P_ G (xEq .eql 3 (.tmp 0) (.const .nilFunc) v7 (.int .i64 1)) h7 fun v22 h22=>
 cond v22
 (dc (Xa G) (u6 r 5 (.slice none 0 0) 14 v6 15 v7 20 v22 19 v22 6 (.int .i64 0)) h22 (bj 1 (bj 0 (bw (Eh G K) K))))
 (opH P_ G (xEq .eql 3 (.tmp 0) (.const .nilFunc) v7 (.int .i64 2)) h22 fun v34 h34=>
 cond v34
 (o_ G (Instr.fieldAt 48 (r 3) 3) h34 fun v35 h35=>o_ G (Instr.loadAt 30 v35) h35 fun v36 h36=>
 c_ G 100 #[v36] h36 fun v37 h37=>
 Eh G K (upd (u10 r 5 (.slice none 0 0) 14 v6 15 v7 20 v22 19 v22 37 v34 36 v34 38 v35 39 v36 40 v37) 5 v37) h37)
 (o_ G (Instr.fieldAt 48 (r 3) 3) h34 fun v38 h38=>o_ G (Instr.loadAt 30 v38) h38 fun v39 h39=>
 c_ G 40 #[v39] h39 fun v40 h40=>
 Eh G K (upd (u10 r 5 (.slice none 0 0) 14 v6 15 v7 20 v22 19 v22 37 v34 36 v34 16 v38 17 v39 18 v40) 5 v40) h40))
def S48:Prop:=
 o_ G (Instr.box 26 (r 0)) h fun v0 h0=>o_ G (Instr.box 48 (r 1)) h0 fun v1 h1=>o_ G (Instr.loadAt 26 v0) h1 fun v2 h2=>o_ G (Instr.loadAt 48 v1) h2 fun v3 h3=>
 c_ G 45 #[v2,v3] h3 fun v4 h4=>o_ G (Op.unary .not v4) h4 fun v5 h5=>
 (fun q=>cond v5
 (K .ret (upd q 4 (.slice none 0 0)) h5)
 (aA0 G K q h5))
 (u7 r 2 v0 3 v1 4 (.slice none 0 0) 10 v2 11 v3 12 v4 13 v5)
theorem enter48:Ent 66 48 [.tmp 4] S48:=ent_ (m:=md48) (c:=(Tryz.f48.body.getD .skip)) (fun _ _ _ _=>by kernel_rfl) Tryz.func48 rfl rfl rfl
end
section
variable (G:Hp) (K:EK) (r:Rg) (h:Hp)
def md28:Nat->Hint
 |_=>mh false [] [] [] false
def S28:Prop:=
 o_ G (Instr.box 26 (r 0)) h fun v0 h0=>o_ G (Instr.alloc 26 true (.tuple #[])) h0 fun v1 h1=>o_ G (Instr.fieldAt 26 v0 3) h1 fun v2 h2=>o_ G (Instr.loadAt 22 v2) h2 fun v3 h3=>o_ G (Builtin.append_ #[22,22] 22 #[(.slice none 0 0),v3]) h3 fun v4 h4=>o_ G (Instr.fieldAt 26 v0 3) h4 fun v5 h5=>
 opH P_ G (su (Instr.storeAt 22 v5 v4)) h5 fun v6 h6=>o_ G (Instr.fieldAt 26 v0 4) h6 fun v7 h7=>o_ G (Instr.loadAt 22 v7) h7 fun v8 h8=>o_ G (Builtin.append_ #[22,22] 22 #[(.slice none 0 0),v8]) h8 fun v9 h9=>o_ G (Instr.fieldAt 26 v0 4) h9 fun v10 h10=>
 opH P_ G (su (Instr.storeAt 22 v10 v9)) h10 fun v11 h11=>o_ G (Instr.fieldAt 26 v0 5) h11 fun v12 h12=>o_ G (Instr.loadAt 23 v12) h12 fun v13 h13=>o_ G (Builtin.append_ #[23,23] 23 #[(.slice none 0 0),v13]) h13 fun v14 h14=>o_ G (Instr.fieldAt 26 v0 5) h14 fun v15 h15=>
 opH P_ G (su (Instr.storeAt 23 v15 v14)) h15 fun v16 h16=>o_ G (Instr.fieldAt 26 v0 6) h16 fun v17 h17=>o_ G (Instr.loadAt 24 v17) h17 fun v18 h18=>
 c_ G 71 #[v18] h18 fun v19 h19=>o_ G (Instr.fieldAt 26 v0 6) h19 fun v20 h20=>
 opH P_ G (su (Instr.storeAt 24 v20 v19)) h20 fun v21 h21=>o_ G (Instr.loadAt 26 v0) h21 fun v22 h22=>
 opH P_ G (su (Instr.storeAt 26 v1 v22)) h22 fun v23 h23=>
 K .ret (u9 (u10 r 1 v0 2 v1 3 v2 4 v3 5 v4 6 v5 7 v7 8 v8 9 v9 10 v10) 11 v12 12 v13 13 v14 14 v15 15 v17 16 v18 17 v19 18 v20 19 v22) h23
theorem enter28:Ent 20 28 [.cell 2 26] S28:=ent_ (m:=md28) (c:=(Tryz.f28.body.getD .skip)) (fun _ _ _ _=>by kernel_rfl) Tryz.func28 rfl rfl rfl
def md71:Nat->Hint
 |5=>mh false [0,0,0,6,14,30,0,0,192,448,960,1984,4094,8190,16383,32767] [n_,n_,n_,n_,n_,m_,n_,n_,n_,n_,m_,e_,n_,.alloc,e_,n_] [false,false,false,false,false,false,false,false,false,false,false,true,false,false,false,false] true
 |_=>mh false [] [] [] false
def ay7 (G:Hp) (K:EK) (r:Rg) (h:Hp):Prop:=
 K .ret (u2 r 26 (r 3) 2 (r 3)) h
def Mk:Prop:=
 o_ G (binOp .add 3 (r 4) (.int .i64 1)) h fun v2 h2=>
 K .normal (u3 r 9 (r 4) 10 v2 4 v2) h2
def Ml:Prop:=
 ∃q3:Hp,q3.le h/\
 p_ (Instr.indexAt 24 (r 0) (r 4)) h fun v4 h4=>
 p_ (Instr.fieldAt 234 v4 0) h4 fun v5 h5=>
 w_ G q3 (Instr.loadAt 28 v5) h5 fun v6 h6=>
 p_ (Instr.indexAt 24 (r 0) (r 4)) h6 fun v7 h7=>
 p_ (Instr.fieldAt 234 v7 1) h7 fun v8 h8=>
 w_ G q3 (Instr.loadAt 168 v8) h8 fun v9 h9=>
 c_ G 122 #[v9] h9 fun v10 h10=>q3.le h10/\
 p_ (Instr.build 234 #[(0,v6),(1,v10)]) h10 fun v11 h11=>o_ G (Instr.buildSlice 24 1 #[(0,v11)]) h11 fun v12 h12=>o_ G (Builtin.append_ #[24,24] 24 #[(r 3),v12]) h12 fun v13 h13=>
 Mk G K (u6 (u10 r 11 (r 3) 12 (r 0) 13 (r 4) 14 v4 15 v5 16 v6 17 (r 0) 18 (r 4) 19 v7 20 v8) 21 v9 22 v10 23 v11 24 v12 25 v13 3 v13) h13
def ay6 (r:Rg) (h:Hp) (K:EK):Prop:=
 o_ G (Builtin.len_ #[24] 3 #[(r 0)]) h fun v0 h0=>o_ G (binOp .lss 3 (r 4) v0) h0 fun v1 h1=>
 cond v1
 (Ml G K (u4 r 5 (r 4) 6 (r 0) 7 v0 8 v1) h1)
 (K (.exit 0) (u4 r 5 (r 4) 6 (r 0) 7 v0 8 v1) h1)
def S71:Prop:=
 dc (ay6 G) (u3 r 2 (.slice none 0 0) 3 (.slice none 0 0) 4 (.int .i64 0)) h (bj 0 (bw (ay7 G K) K))
theorem enter71:Ent 27 71 [.tmp 2] S71:=ent_ (m:=md71) (c:=(Tryz.f71.body.getD .skip)) (fun _ _ _ _=>by kernel_rfl) Tryz.func71 rfl rfl rfl
def md122:Nat->Hint
 |_=>mh false [] [] [] false
def S122:Prop:=
 o_ G (Builtin.append_ #[168,168] 168 #[(.slice none 0 0),(r 0)]) h fun v0 h0=>
 K .ret (u4 r 2 (.slice none 0 0) 3 (r 0) 4 v0 2 v0) h0
theorem as3:Ent 5 122 [.tmp 2] S122:=ent_ (m:=md122) (c:=(Tryz.f122.body.getD .skip)) (fun _ _ _ _=>by kernel_rfl) Tryz.func122 rfl rfl rfl
end
def bRpQ:=jq bC (jq (jq (jq (jq @Bool.true_and @al30) (jq @bd30_ (jq @beq_self_eq_true.{0} @uw))) (jq (jq @Sq @Bc) (jq @Wb (jq @Bb @Wa)))) (jq (jq (jq @ub @F2) (jq @ld3 (jq @ld30 @ld3p))) (jq (jq @xu @uh) (jq @lr (jq @xe @st3s)))))
def dxI (d:Int):Int:=if d=1 then 1 else if d=3 then -1 else 0
def dyI (d:Int):Int:=if d=0 then -1 else if d=2 then 1 else 0
def okS (d n:Int):Bool:=ax n 0 16&&ax d 0 3
def gh (p:Pose) (d n:Int):Pose:=⟨wr (p.x+n*dxI d),wr (p.y+n*dyI d),p.d⟩
def ky (p:Pose) (d n:Int):Pose:=if okS d n=true then gh p d n else ⟨0,0,false⟩
theorem wr_bd (x:Int):Bd (wr x):=by
 unfold Bd wr IntKind.wrap
 simp [IntKind.signed,IntKind.bits]
 omega
theorem Kh {x:Int} (h:Bd x):wr x=x:=by
 unfold Bd at h
 exact li (by omega) (by omega)
theorem Du {p:Pose} {d n:Int}:PB (gh p d n):=⟨wr_bd _,wr_bd _⟩
theorem dt {n a b:Int}:ax n a b=true↔a<=n/\n<=b:=by
 unfold ax
 simp only [Bool.and_eq_true,decide_eq_true_eq]
 try exact Iff.rfl
theorem j9.ne {G:Hp} (s:j9 G) {x:Nat} (gx:G x=none):0≠x:=fun e=>by
 obtain ⟨a,b,s⟩:=s
 subst e
 rw [gx]at s
 cases s
theorem Gr {G h:Hp} {g:Value} {p:Pose} {dir n:Int} (st:j9 G):aj P_ G 155 #[g,jy p,dir,n] h (fun u h'=>u = .tuple #[jy (ky p dir n),.bool (okS dir n)]/\h'=h):=by
 refine aj.assume fun d=>quietly (ap3 (by simp) ?_)
 unfold S155
 simp (disch:=decide) only [bRpQ]
 intro x hx gx y hy gy
 have l:=(b8 (o := .cells #[p.x,p.y,.bool p.d] 30 (0,0)) hx).trans (b8 (o := .cells #[(0:Int),(0:Int),.bool false] 30 (0,0)) hy)
 have exy:=i4 hy
 unfold ky okS
 try simp (disch:=first|decide|omega) only [bRpQ,Nat.reduceAdd,Nat.reduceMul]
 refine (jh (n:=n) (a:=0) (b:=16)).mono ?_
 rintro _ _ ⟨rfl,rfl⟩
 cases h1:ax n 0 16 with
 |false=>
  try simp (disch:=first|decide|exact ao|exact am|omega|rfl) only [bRpQ]
  first|exact l|exact ⟨rfl,l⟩
 |true=>
 try simp only [bRpQ]
 refine (jh (n:=dir) (a:=0) (b:=3)).mono ?_
 rintro _ _ ⟨rfl,rfl⟩
 cases h2:ax dir 0 3 with
 |false=>
  try simp (disch:=first|decide|exact ao|exact am|omega|rfl) only [bRpQ]
  first|exact l|exact ⟨rfl,l⟩
 |true=>
 have n0:=st.ne gx
 have n1:=st.ne gy
 have c0:=fun j=>st.cell d j
 obtain ⟨a1,a2⟩:=dt.1 h2
 obtain ⟨b1,b2⟩:=dt.1 h1
 try simp (disch:=first|decide|exact ao|exact am|omega|rfl) only [bRpQ]
 unfold Xk
 have hd:dir=0\/dir=1\/dir=2\/dir=3:=by omega
 have hy2:∀o,(h.set x o) y=none:=fun o=>by rw [au (Ne.symm exy)];exact i6 hy
 rcases hd with rfl|rfl|rfl|rfl
 . try simp -implicitDefEqProofs (maxSteps:=2000000) (disch:=first|decide|with_reducible exact Nat.ne_of_beq_eq_false rfl|exact ao|exact am|omega|rfl|(simp;done)|fail) only [bRpQ,V6 (by decide:(0:Int)<=0) (by decide:(0:Int)<(4:Nat)),show Int.toNat 0=0 from rfl,Nat.zero_mul,al exy,al n0,al n1,c0,Es,dm exy]
   exact ⟨rfl,(b8 hx).trans (b8 (hy2 _))⟩
 . try simp -implicitDefEqProofs (maxSteps:=2000000) (disch:=first|decide|with_reducible exact Nat.ne_of_beq_eq_false rfl|exact ao|exact am|omega|rfl|(simp;done)|fail) only [bRpQ,Nat.reduceAdd,V6 (by decide:(0:Int)<=1) (by decide:(1:Int)<(4:Nat)),show Int.toNat 1=1 from rfl,Nat.one_mul,al exy,al n0,al n1,c0,Es,dm exy]
   exact ⟨rfl,(b8 hx).trans (b8 (hy2 _))⟩
 . try simp -implicitDefEqProofs (maxSteps:=2000000) (disch:=first|decide|with_reducible exact Nat.ne_of_beq_eq_false rfl|exact ao|exact am|omega|rfl|(simp;done)|fail) only [bRpQ,Nat.reduceAdd,Nat.reduceMul,V6 (by decide:(0:Int)<=2) (by decide:(2:Int)<(4:Nat)),show Int.toNat 2=2 from rfl,al exy,al n0,al n1,c0,Es,dm exy]
   exact ⟨rfl,(b8 hx).trans (b8 (hy2 _))⟩
 . try simp -implicitDefEqProofs (maxSteps:=2000000) (disch:=first|decide|with_reducible exact Nat.ne_of_beq_eq_false rfl|exact ao|exact am|omega|rfl|(simp;done)|fail) only [bRpQ,Nat.reduceAdd,Nat.reduceMul,V6 (by decide:(0:Int)<=3) (by decide:(3:Int)<(4:Nat)),show Int.toNat 3=3 from rfl,al exy,al n0,al n1,c0,Es,dm exy]
   exact ⟨rfl,(b8 hx).trans (b8 (hy2 _))⟩
def bz (p:Pose) (d n:Int):Pose:=⟨if d=1 then wr (p.x+n)else if d=3 then wr (p.x-n)else p.x,if d=0 then wr (p.y-n)else if d=2 then wr (p.y+n)else p.y,p.d⟩
theorem uf {p:Pose} {d n:Int} (hp:PB p) (hd:0<=d/\d<=3):gh p d n=bz p d n:=by
 obtain ⟨h1,h2⟩:=hp
 have hd:d=0\/d=1\/d=2\/d=3:=by omega
 have e:n * -1 = -n:=by omega
 rcases hd with rfl|rfl|rfl|rfl<;>simp [gh,bz,dxI,dyI,Kh h1,Kh h2,Int.mul_one,e,Int.sub_eq_add_neg]
theorem xi {G h:Hp} {p:Pose} {dir n:Int}:aj P_ G 99 #[jy p,dir,n] h (fun u h'=>u=jy (bz p dir n)/\h'=h):=by
 refine aj.assume fun d=>quietly (enter99 (by simp) ?_)
 unfold S99
 simp only [bRpQ]
 intro x hx gx y hy gy
 have exy:=i4 hy
 have hy2:∀o,(h.set x o) y=none:=fun o=>by rw [au (Ne.symm exy)];exact i6 hy
 unfold bz wr
 by_cases h0:dir=0
 . subst h0
   try simp (disch:=first|decide|exact ao|exact am|omega|rfl) only [bRpQ,al exy,dm exy]
   unfold ud
   try simp -implicitDefEqProofs (maxSteps:=2000000) (disch:=first|decide|with_reducible exact Nat.ne_of_beq_eq_false rfl|exact ao|exact am|omega|rfl|(simp;done)|fail) only [bRpQ,al exy,dm exy]
   exact ⟨rfl,(b8 hx).trans (b8 (hy2 _))⟩
 by_cases h1:dir=1
 . subst h1
   try simp (disch:=first|decide|exact ao|exact am|omega|rfl) only [bRpQ,show ((1:Int)==0)=false from rfl,al exy,dm exy]
   unfold ud
   try simp -implicitDefEqProofs (maxSteps:=2000000) (disch:=first|decide|with_reducible exact Nat.ne_of_beq_eq_false rfl|exact ao|exact am|omega|rfl|(simp;done)|fail) only [bRpQ,al exy,dm exy]
   exact ⟨rfl,(b8 hx).trans (b8 (hy2 _))⟩
 by_cases h2:dir=2
 . subst h2
   try simp (disch:=first|decide|exact ao|exact am|omega|rfl) only [bRpQ,show ((2:Int)==0)=false from rfl,show ((2:Int)==1)=false from rfl,al exy,dm exy]
   unfold ud
   try simp -implicitDefEqProofs (maxSteps:=2000000) (disch:=first|decide|with_reducible exact Nat.ne_of_beq_eq_false rfl|exact ao|exact am|omega|rfl|(simp;done)|fail) only [bRpQ,al exy,dm exy]
   exact ⟨rfl,(b8 hx).trans (b8 (hy2 _))⟩
 by_cases h3:dir=3
 . subst h3
   try simp (disch:=first|decide|exact ao|exact am|omega|rfl) only [bRpQ,show ((3:Int)==0)=false from rfl,show ((3:Int)==1)=false from rfl,show ((3:Int)==2)=false from rfl,al exy,dm exy]
   unfold ud
   try simp -implicitDefEqProofs (maxSteps:=2000000) (disch:=first|decide|with_reducible exact Nat.ne_of_beq_eq_false rfl|exact ao|exact am|omega|rfl|(simp;done)|fail) only [bRpQ,al exy,dm exy]
   exact ⟨rfl,(b8 hx).trans (b8 (hy2 _))⟩
 try simp (disch:=first|decide|omega) only [bRpQ,beq_eq_false_iff_ne.2 h0,beq_eq_false_iff_ne.2 h1,beq_eq_false_iff_ne.2 h2,beq_eq_false_iff_ne.2 h3]
 unfold ud
 try simp (disch:=first|decide|exact ao|exact am|omega|rfl) only [bRpQ,al exy,dm exy]
 exact ⟨by rw [if_neg h1,if_neg h3,if_neg h0,if_neg h2],(b8 hx).trans (b8 (hy2 _))⟩
def bRpR:=jq bC (jq (jq (jq @W5 @cf82) (jq @Be @Bc)) (jq (jq @Bb @ld26) (jq @ld28 (jq @ld3 @true_and))))
def numR (C:Conf) (c:Cell):Int:=if inB C c=true then c.2*C.w+c.1 else -1
theorem inB_iff {C:Conf} {c:Cell}:inB C c=true↔0<=c.1/\0<=c.2/\c.1<C.w/\c.2<C.h:=by
 unfold inB
 simp only [Bool.and_eq_true,decide_eq_true_eq,ge_iff_le]
theorem Nm {G h:Hp} {v:Value} {C:Conf} {c:Cell} (hv:CV G h v C) (hw:C.w<=16) (hh:C.h<=16):aj P_ G 41 #[v,tl c] h (fun u h'=>u = .int .i64 (numR C c)/\h'=h):=by
 have hv0:=hv
 obtain ⟨ab,cb,ap,cp,ar,cr,az,cs,rfl,ca⟩:=hv
 refine aj.assume fun d=>quietly (enter41 (by simp) ?_)
 unfold S41
 simp only [bRpR]
 intro x hx gx
 generalize e1:Hp.set h x _=h1
 obtain ⟨l1,d1,b1⟩:=boxed e1 hx d gx
 intro y hy gy
 generalize e2:Hp.set h1 y _=h2
 obtain ⟨l2,d2,b2⟩:=boxed e2 hy d1 gy
 have cx:∀k,aa G h2 ⟨x,k,none⟩=_:=fun k=>ai (ag (l2 _ _ b1))
 have cy:∀k,aa G h2 ⟨y,k,none⟩=_:=fun k=>ai (ag b2)
 have ca2:=ca.up (l1.trans l2) d2
 try simp only [bRpR,cx,cy]
 refine (F1 ca2.cv).mono ?_
 rintro _ _ ⟨rfl,rfl⟩
 unfold numR
 cases hc:inB C c with
 |false=>try simp only [bRpR,hc];exact ⟨by simp,l1.trans l2⟩
 |true=>
 obtain ⟨a1,a2,a3,a4⟩:=inB_iff.1 hc
 have hm:0<=c.2*C.w/\c.2*C.w<=15*16:=⟨Int.mul_nonneg (by omega) (by omega),Int.mul_le_mul (by omega) (by omega) (by omega) (by omega)⟩
 try simp only [bRpR]
 unfold aB1
 try simp (disch:=first|decide|omega) only [bRpR,cx,cy]
 first|exact l1.trans l2|exact ⟨by simp,l1.trans l2⟩
theorem Aw {G h:Hp} {a n:Int} (ha:Bd a) (hn:0<n) (hn2:n<=4611686018427387904):aj P_ G 25 #[a,n] h (fun v h'=>v = .int .i64 (a % n)/\h'=h):=by
 refine quietly (Wx (by simp) ?_)
 obtain ⟨ha1,ha2⟩:=ha
 unfold S25
 have e1:a.tmod n=if 0<=a\/a % n=0 then a % n else a % n-n:=by
  rw [Int.tmod_eq_emod]
  have:(n.natAbs:Int)=n:=by omega
  by_cases h0:0<=a
  . simp [h0]
  . simp [h0,this,Int.dvd_iff_emod_eq_zero]
    split<;>omega
 have hb:=Int.emod_nonneg a (show n≠0 by omega)
 have hb2:=Int.emod_lt_of_pos a hn
 simp (disch:=first|decide|omega) only [bRpR]
 by_cases hc:0<=a\/a % n=0
 . rw [if_pos hc]at e1
   rw [e1,i9 (show ¬a % n<0 by omega)]
   simp only [bRpR]
   unfold Em
   simp (disch:=decide) only [bRpR]
   exact Hp.le.refl h
 . rw [if_neg hc]at e1
   have:a % n≠0:=fun e=>hc (.inr e)
   rw [e1,iy (show a % n-n<0 by omega)]
   simp only [bRpR]
   unfold Em
   simp only [bRpR]
   exact ⟨by congr 1;omega,Hp.le.refl h⟩
structure Move where
 k:Int
 d:Int
 n:Int
 f:Pose
 t:Pose
 a:Int
 e:Int
 deriving DecidableEq
abbrev Cg (m:Move):Value := .agg #[m.k,m.d,m.n,m.f.x,m.f.y,.bool m.f.d,m.t.x,m.t.y,.bool m.t.d,m.a,m.e]
def Yl {α:Type} (enc:α->Value) (G:Hp) (y:Value) (Y Z:List α->Hp->Prop) (c:List α->Bool):Prop:=
 ∀(L:List α) (m:α) (a q h:Hp),Y L a->Sep [a,q] h->Dis G h->
  opH P_ G (il y #[enc m]) h (fun v h'=>∃a',v = .bool (c (L++[m]))/\Sep [a',q] h'/\Dis G h'/\(if c (L++[m])=true then Y (L++[m]) a' else Z (L++[m]) a'))
def feed {α:Type} (c:List α->Bool):List α->List α->List α × Bool
 |L,[]=>(L,true)
 |L,m::M=>if c (L++[m])=true then feed c (L++[m]) M else (L++[m],false)
theorem Ho {α:Type} {c:List α->Bool} {L M:List α} {m:α} (h:c (L++[m])=true):feed c L (m::M)=feed c (L++[m]) M:=by rw [feed,if_pos h]
theorem Oe {α:Type} {c:List α->Bool} {L M:List α} {m:α} (h:c (L++[m])=false):feed c L (m::M)=(L++[m],false):=by rw [feed,if_neg (by simp [h])]
def Af {α:Type} (k:Int) (L:List α):Bool:=decide ((L.length:Int)<k)
theorem zv {α:Type} {k:Int}:∀{M L:List α},(L.length:Int)<k->feed (Af k) L M=(L++M.take (k.toNat-L.length),decide (((L++M).length:Int)<k))
 |[],L,h=>by simp [feed,h]
 |m::M,L,h=>by
  have e1:k.toNat-L.length=(k.toNat-(L++[m]).length)+1:=by rw [List.length_append,List.length_singleton];omega
  by_cases h2:((L++[m]).length:Int)<k
  . rw [Ho (by unfold Af;exact decide_eq_true h2),zv h2,e1,List.take_succ_cons]
    simp
  . rw [Oe (by unfold Af;exact decide_eq_false h2)]
    rw [List.length_append,List.length_singleton]at h2
    have e2:k.toNat-(L++[m]).length=0:=by rw [List.length_append,List.length_singleton];omega
    rw [e1,e2]
    simp only [List.take_succ_cons,List.take_zero,List.length_append,List.length_cons,Prod.mk.injEq,true_and]
    symm
    apply decide_eq_false
    omega
def Fin {α:Type} (T:List α × Bool) (Y Z:List α->Hp->Prop) (a:Hp):Prop:=if T.2=true then Y T.1 a else Z T.1 a
def ka {α:Type} (ok:Nat->Bool) (mk:Nat->α):Nat->Nat->List α
 |_,0=>[]
 |n,k+1=>if ok n=true then mk n::ka ok mk (n+1) k else []
def jz {α:Type} (D:Nat->List α):Nat->Nat->List α
 |_,0=>[]
 |i,k+1=>D i++jz D (i+1) k
def Ce (w k:Nat) (f:Nat->Nat->Int) (p:Pose) (d n:Nat):Bool:=df w k f (gh p d n)
def uo (p:Pose) (d n:Nat):Move:=⟨1,d,n,p,gh p d n,0,0⟩
def runD (w k:Nat) (f:Nat->Nat->Int) (p:Pose) (d:Nat):List Move:=ka (Ce w k f p d) (uo p d) 1 16
def Eu (w k:Nat) (f:Nat->Nat->Int) (p:Pose):List Move:=jz (runD w k f p) 0 4
def RunsR (G q:Hp) (Y Z:List Move->Hp->Prop) (T:List Move × Bool) (h':Hp):Prop:=∃a',Sep [a',q] h'/\Dis G h'/\Fin T Y Z a'
theorem RunsR.go {G q a h':Hp} {Y Z:List Move->Hp->Prop} {T:List Move × Bool} {L:List Move} {c:List Move->Bool} (s:Sep [a,q] h') (d:Dis G h') (y:Y L a) (e:feed c L []=T):RunsR G q Y Z T h':=by
 subst e
 exact ⟨a,s,d,y⟩
def bRpU:=jq bC (jq (jq (jq (jq (jq @Bool.and_true @al28) (jq @al30 (jq @yw @ac0))) (jq (jq @H7 @pu) (jq @yv (jq @cf127 @cf155)))) (jq (jq (jq @cf156 @cf61) (jq @cf62 (jq @cf89 @eq30p))) (jq (jq @Bc @Bb) (jq @ub (jq @F2 @fa30_1p))))) (jq (jq (jq (jq @Ba @Oh) (jq @Hq (jq @Og @Uf))) (jq (jq @Of @V9) (jq @ld28 (jq @ur @ld3)))) (jq (jq (jq @ld30 @wp) (jq @ld3p (jq @ld48 @ld4p))) (jq (jq @ln22 @lr) (jq @Qb (jq @xe @true_and))))))
def dv (c:Cell):List Cell:=[(c.1,c.2),(wr (c.1+1),c.2),(c.1,wr (c.2+1)),(wr (c.1+1),wr (c.2+1))]
theorem Qc {G h:Hp} {c:Cell}:aj P_ G 156 #[tl c] h (fun u h'=>∃ip s,u = .slice s 4 4/\Slc cj 28 ip u (dv c)/\Sep [ip,h] h'/\Dis G h'):=by
 refine aj.assume fun d=>ap2 (by simp) ?_
 unfold S156
 simp only [bRpU]
 intro x hx gx
 generalize e1:Hp.set h x _=h1
 obtain ⟨l1,d1,b1⟩:=boxed e1 hx d gx
 have cx:∀j,aa G h1 ⟨x,j,none⟩=_:=fun j=>ai (ag b1)
 try simp (disch:=first|decide|omega) only [bRpU,Nat.reduceAdd,Nat.reduceMul,cx]
 intro b hb gb
 refine ⟨noHp.set b _,some ⟨b,0,none⟩,rfl,⟨some b,4,[],rfl,af,rfl⟩,(Sep.one.new (hb)).swap.cut l1 |>.swap,d1.set gb⟩
def p8 (w k:Nat) (f:Nat->Nat->Int) (m:Move) (i:Nat):Bool:=okS m.d i&&df w k f (gh m.f m.d i)
def xa (p:Pose):Pose:=⟨p.x,p.y,!p.d⟩
def wayB (w k:Nat) (f:Nat->Nat->Int) (m:Move):Bool:=df w k f m.f&&
 (if m.k=1 then decide (1<=m.n)&&((List.range (m.n.toNat+1)).all (p8 w k f m)&&decide (m.t=gh m.f m.d m.n))
  else decide (m.d=0/\m.n=0)&&(if m.k=2 then (dv (m.f.x,m.f.y)).all (nn w k f)&&decide (m.t=xa m.f)else decide (m.k=3\/m.k=4)&&decide (m.t=m.f)))
def wayL (m:Move):List Cell:=if m.k=1 then (List.range (m.n.toNat+1)).flatMap (fun (i:Nat)=>bo (gh m.f m.d i))else if m.k=2 then dv (m.f.x,m.f.y)else bo m.f
def WayR (G h:Hp) (w k:Nat) (f:Nat->Nat->Int) (m:Move) (u:Value) (h':Hp):Prop:=
 ∃ip v L,u = .tuple #[v,.bool (wayB w k f m)]/\Slc cj 28 ip v L/\Sep [ip,h] h'/\Dis G h'/\(wayB w k f m=true->L=wayL m)
theorem WayR.no {G h h':Hp} {w k:Nat} {f:Nat->Nat->Int} {m:Move} (l:h.le h') (d:Dis G h') (e:wayB w k f m=false):WayR G h w k f m (.tuple #[.slice none 0 0,.bool false]) h':=
 ⟨noHp,_,[],by rw [e],Slc.nil,(Sep.one.le l).none,d,fun q=>by rw [e]at q;cases q⟩
theorem WayR.less {G h0 h h':Hp} {w k:Nat} {f:Nat->Nat->Int} {m:Move} {u:Value} (l:h0.le h) (x:WayR G h w k f m u h'):WayR G h0 w k f m u h':=by
 obtain ⟨ip,v,L,e1,e2,s,d,e3⟩:=x
 exact ⟨ip,v,L,e1,e2,(s.swap.cut l).swap,d,e3⟩
structure MB (m:Move):Prop where
 n:Bd m.n
 f:PB m.f
theorem nf {p q:Pose}:((p.x==q.x&&p.y==q.y)&&(p.d==q.d))=decide (p=q):=by
 obtain ⟨a,b,c⟩:=p
 obtain ⟨a',b',c'⟩:=q
 rw [Bool.eq_iff_iff]
 simp [and_assoc]
theorem store30 {G h:Hp} {lb:Nat} {z0 z1 z2:Value} {p:Pose} {K:Unit->Hp->Prop} (hb:h lb=some (.cells #[z0,z1,z2] 30 (0,0))):
 wpH P_ G (Instr.storeAt 30 (.pointer (some ⟨lb,0,none⟩)) (jy p)) h K=K () (h.set lb (.cells #[p.x,p.y,.bool p.d] 30 (0,0))):=by
 conv=>lhs;rw [<- xh hb]
 exact xe
theorem fg {w:Bool} {X:(Value->Hp->Prop)->Prop} {h:Hp} {K:VK}:gd (Ge undef w) X h K=K undef h:=by cases w<;>rfl
abbrev ny (m:Move):Obj := .cells #[m.k,m.d,m.n,m.f.x,m.f.y,.bool m.f.d,m.t.x,m.t.y,.bool m.t.d,m.a,m.e] 48 (0,0)
def E2 (m:Move) (i:Nat):Pose:=if i=0 then m.f else gh m.f m.d ((i:Int)-1)
theorem xx {s:Nat->Bool} {i:Nat} (h:∀j,j<i->s j=true) (hs:s i=true):∀j,j<i+1->s j=true:=fun j hj=>by
 rcases Nat.lt_succ_iff_lt_or_eq.1 hj with h1|rfl
 . exact h j h1
 . exact hs
theorem aa1 {α:Type} {F:Nat->List α} {i:Nat}:(List.range (i+1)).flatMap F=(List.range i).flatMap F++F i:=by
 rw [List.range_succ,List.flatMap_append]
 simp
theorem Gd {w k:Nat} {f:Nat->Nat->Int} {m:Move} (hk:m.k=1):wayB w k f m=(df w k f m.f&&(decide (1<=m.n)&&((List.range (m.n.toNat+1)).all (p8 w k f m)&&decide (m.t=gh m.f m.d m.n)))):=by
 unfold wayB
 rw [if_pos hk]
theorem way_run {G h h1 h0:Hp} {x lb w k:Nat} {g:Value} {f:Nat->Nat->Int} {m:Move} {r:Rg} (gs:GS G h1 g w k f) (st:j9 G) (nb:Bd m.n) (hf:df w k f m.f=true) (hk:m.k=1)
 (bx:h1 x=some (ny m)) (g0:r 0=g) (g3:r 3 = .pointer (some ⟨x,0,none⟩)) (g6:r 6 = .slice none 0 0) (g7:r 7 = .pointer (some ⟨lb,0,none⟩)) (g8:r 8 = .int .i64 0)
 (s:Sep [noHp.set lb (.cells #[m.f.x,m.f.y,.bool m.f.d] 30 (0,0)),h1] h) (d:Dis G h) (l0:h0.le h1):
 dc (Pq G) r h (bj 1 (bw (Ps G (retK P_ G [.tmp 4,.tmp 5] (WayR G h0 w k f m))) (bj 0 (bw (zz G (retK P_ G [.tmp 4,.tmp 5] (WayR G h0 w k f m))) (retK P_ G [.tmp 4,.tmp 5] (WayR G h0 w k f m)))))):=by
 refine ci (fun mm r2 h3=>∃(i:Nat) (ip:Hp) (sv:Value),mm=18-i/\i<=17/\(m.n<0->i=0)/\(0<=m.n->(i:Int)<=m.n+1)/\r2 0=g/\r2 3 = .pointer (some ⟨x,0,none⟩)/\r2 7 = .pointer (some ⟨lb,0,none⟩)/\r2 8 = .int .i64 i/\r2 6=sv/\
  Slc cj 28 ip sv ((List.range i).flatMap fun (j:Nat)=>bo (gh m.f m.d j))/\Sep [ip,noHp.set lb (.cells #[(E2 m i).x,(E2 m i).y,.bool (E2 m i).d] 30 (0,0)),h1] h3/\Dis G h3/\(∀j,j<i->p8 w k f m j=true)) ?_
  (m:=18) ⟨0,noHp,_,rfl,by decide,fun _=>rfl,fun h=>by simp;omega,g0,g3,g7,g8,g6,Slc.nil,by simpa [E2]using s.none,d,by simp⟩
 rintro mm r2 h3 ⟨i,ip,sv,rfl,hi,hneg,hpos,q0,q3,q7,q8,q6,o,s3,d3,hs⟩ X HX
 have bx3:=s3.at 2 rfl bx
 have cx:∀j,aa G h3 ⟨x,j,none⟩=_:=fun j=>ai (ag bx3)
 unfold Pq
 simp only [bRpU,q3,q8,cx]
 refine bh (fun hle=>?_) (fun hgt=>?_)
 rotate_left
 . -- the end
   try simp (disch:=first|decide|omega) only [bRpU,Nat.reduceAdd,Nat.reduceMul]
   unfold Ps
   have cl:∀j,aa G h3 ⟨lb,j,none⟩=_:=fun j=>ai (ag (s3.at 1 rfl af))
   try simp (disch:=decide) only [bRpU,q3,q7,cx]
   by_cases h1n:1<=m.n
   . have e1:decide (m.n>=1)=true:=decide_eq_true h1n
     have hin:(i:Int)=m.n+1:=by have:=hpos (by omega);omega
     have elast:E2 m i=gh m.f m.d m.n:=by
      unfold E2
      rw [if_neg (by omega),show (i:Int)-1=m.n by omega]
     have eall:(List.range (m.n.toNat+1)).all (p8 w k f m)=true:=by
      rw [List.all_eq_true]
      intro j hj
      exact hs j (by have:=List.mem_range.1 hj;omega)
     try simp only [bRpU,Nat.reduceAdd,e1,q3,q7,cx,cl,nf,q6]
     rw [elast]
     have ew:wayB w k f m=decide (m.t=gh m.f m.d m.n):=by
      rw [Gd hk,hf,eall,decide_eq_true h1n]
      simp
     refine WayR.less l0 ⟨ip,sv,_,?_,o,(s3.pick 1 rfl rfl).drop,d3,fun _=>?_⟩
     . rw [ew]
     . unfold wayL
       rw [if_pos hk,show m.n.toNat+1=i by omega]
   . have e1:decide (m.n>=1)=false:=decide_eq_false (by omega)
     try simp only [bRpU,e1,q6]
     have ew:wayB w k f m=false:=by
      rw [Gd hk,decide_eq_false (show ¬1<=m.n from h1n)]
      simp
     refine WayR.less l0 ⟨ip,sv,_,by rw [ew],o,(s3.pick 1 rfl rfl).drop,d3,fun q=>by rw [ew]at q;cases q⟩
 unfold Jl
 try simp (disch:=decide) only [bRpU,Nat.reduceAdd,q0,q3,q8,cx]
 refine (Gr (p:=m.f) (dir:=m.d) (n:=(i:Int)) st).mono ?_
 rintro _ h3 ⟨rfl,rfl⟩
 try simp (disch:=first|decide|exact ao|exact am|omega|rfl) only [bRpU]
 intro y hy gy
 have s4:=s3.past (o := .cells #[(ky m.f m.d i).x,(ky m.f m.d i).y,.bool (ky m.f m.d i).d] 30 (0,0)) hy
 have hy4:(h3.set y (.cells #[(ky m.f m.d i).x,(ky m.f m.d i).y,.bool (ky m.f m.d i).d] 30 (0,0))) y=some (.cells #[(ky m.f m.d i).x,(ky m.f m.d i).y,.bool (ky m.f m.d i).d] 30 (0,0)):=af
 have sg:=(s3.pick 2 rfl rfl).grow (o := .cells #[(ky m.f m.d i).x,(ky m.f m.d i).y,.bool (ky m.f m.d i).d] 30 (0,0)) hy
 have d4:=d3.set (o := .cells #[(ky m.f m.d i).x,(ky m.f m.d i).y,.bool (ky m.f m.d i).d] 30 (0,0)) gy
 generalize Hp.set h3 y _=h4 at s4 hy4 d4 sg ⊢
 have hin:p8 w k f m i=false->0<=m.n->wayB w k f m=false:=fun e h0=>by
  rw [Gd hk]
  have:(List.range (m.n.toNat+1)).all (p8 w k f m)=false:=by
   rw [List.all_eq_false]
   exact ⟨i,List.mem_range.2 (by omega),by simp [e]⟩
  rw [this]
  simp
 have h0n:0<=m.n:=by omega
 have cy:∀j,aa G h4 ⟨y,j,none⟩=_:=fun j=>ai (ag hy4)
 cases hok:okS m.d i with
 |false=>
  try simp only [bRpU]
  exact WayR.less l0 <| WayR.no (s4.in 2 rfl) d4 (hin (by unfold p8;rw [hok];rfl) h0n)
 |true=>
 have hi16:i<=16:=by
  unfold okS at hok
  rw [Bool.and_eq_true]at hok
  have:=(dt.1 hok.1).2
  omega
 have esh:ky m.f m.d i=gh m.f m.d i:=by unfold ky;rw [if_pos hok]
 rw [esh]at cy hy4 sg
 try simp only [bRpU,cy]
 refine (ng (p:=gh m.f m.d i) (gs.up (s4.in 2 rfl) d4) st Du).mono ?_
 rintro _ h4 ⟨rfl,rfl⟩
 cases hfi:df w k f (gh m.f m.d i)with
 |false=>
  try simp only [bRpU]
  exact WayR.less l0 <| WayR.no (s4.in 2 rfl) d4 (hin (by unfold p8;rw [hok,hfi];rfl) h0n)
 |true=>
 try simp only [bRpU]
 unfold Jj
 try simp (disch:=decide) only [bRpU,q0,q6,cy]
 refine (oy (g:=g) (p:=gh m.f m.d i) st Du).mono ?_
 rintro _ _ ⟨b,rfl,hb,gb,rfl⟩
 generalize e5:Hp.set h4 b _=h5
 obtain ⟨l5,d5,b5⟩:=boxed e5 hb d4 gb
 have s5:=(sg.le l5).pick 1 rfl rfl
 have hlen:((List.range i).flatMap fun (j:Nat)=>bo (gh m.f m.d j)).length=2*i:=by
  rw [List.length_flatMap,show (fun (j:Nat)=>(bo (gh m.f m.d j)).length)=fun _=>2 from rfl,List.map_const',List.sum_replicate_nat,List.length_range,Nat.mul_comm]
 try simp (disch:=first|decide|omega) only [bRpU,Nat.reduceAdd,Nat.reduceMul]
 refine dw cj (by decide) un22 eocell (by decide) (by decide) (M:=bo (gh m.f m.d i)) s5 d5 o (Sees.row b5 rfl (Nat.le_refl _)) (by rw [hlen,show (bo (gh m.f m.d i)).length=2 from rfl];omega) fun v' a' h6 o' s6 d6=>?_
 have cy6:∀j,aa G h6 ⟨y,j,none⟩=_:=fun j=>ai (ag (s6.at 1 rfl af))
 have hlb6:=s6.at 2 rfl af
 try simp only [bRpU,cy6,q7]
 rw [store30 (p:=gh m.f m.d i) hlb6]
 have hy1:h1 y=none:=(s3.in 2 rfl).none hy
 have s7:=((s6.pick 2 rfl rfl).put (o := .cells #[(gh m.f m.d i).x,(gh m.f m.d i).y,.bool (gh m.f m.d i).d] 30 (0,0)) af)
 rw [set_set]at s7
 have s8:=((s7.pick 2 rfl rfl).cut (b8 hy1))
 have s9:=(s8.pick 1 rfl rfl).pick 2 rfl rfl
 have d9:Dis G (h6.set lb (.cells #[(gh m.f m.d i).x,(gh m.f m.d i).y,.bool (gh m.f m.d i).d] 30 (0,0))):=d6.set (d6 _ _ hlb6)
 unfold Jk
 try simp (disch:=first|decide|omega) only [bRpU,q8]
 have el:E2 m (i+1)=gh m.f m.d i:=by
  unfold E2
  rw [if_neg (by omega),show ((i+1:Nat):Int)-1=i by omega]
 refine HX (18-(i+1)) _ _ (by omega) ⟨i+1,a',v',rfl,by omega,fun h=>absurd h (by omega),fun h=>by omega,by simp (disch:=decide) only [bRpU,q0],by simp (disch:=decide) only [bRpU,q3],by simp (disch:=decide) only [bRpU,q7],by simp only [bRpU]<;>rfl,by simp (disch:=decide) only [bRpU],?_,?_,d9,xx hs (by unfold p8;rw [hok,hfi];rfl)⟩
 . rw [aa1]
   exact o'
 . rw [el]
   exact s9
theorem Kj {w k:Nat} {f:Nat->Nat->Int} {m:Move} (hf:df w k f m.f=true) (hk:m.k=2) (hz:m.d=0/\m.n=0):wayB w k f m=((dv (m.f.x,m.f.y)).all (nn w k f)&&decide (m.t=xa m.f)):=by
 unfold wayB
 rw [if_neg (by omega),if_pos hk,hf,decide_eq_true hz]
 simp
theorem Kk {w k:Nat} {f:Nat->Nat->Int} {m:Move} (hf:df w k f m.f=true) (hk1:m.k≠1) (hk:m.k≠2) (hz:m.d=0/\m.n=0):wayB w k f m=(decide (m.k=3\/m.k=4)&&decide (m.t=m.f)):=by
 unfold wayB
 rw [if_neg hk1,if_neg hk,hf,decide_eq_true hz]
 simp
theorem ac8 {G h h1 h0 ip:Hp} {x w k:Nat} {g sv:Value} {f:Nat->Nat->Int} {m:Move} {r:Rg} (gs:GS G h1 g w k f) (hf:df w k f m.f=true) (hk:m.k=2) (hz:m.d=0/\m.n=0)
 (bx:h1 x=some (ny m)) (g0:r 0=g) (g3:r 3 = .pointer (some ⟨x,0,none⟩)) (g11:r 11=sv) (g84:r 84=sv) (g85:r 85 = .int .i64 4) (g86:r 86 = .int .i64 0)
 (o:Slc cj 28 ip sv (dv (m.f.x,m.f.y))) (s:Sep [ip,h1] h) (d:Dis G h) (l0:h0.le h1):
 dc (Jm G) r h (bj 3 (bw (Pr G (retK P_ G [.tmp 4,.tmp 5] (WayR G h0 w k f m))) (bj 0 (bw (zz G (retK P_ G [.tmp 4,.tmp 5] (WayR G h0 w k f m))) (retK P_ G [.tmp 4,.tmp 5] (WayR G h0 w k f m)))))):=by
 obtain ⟨sa,cap,rfl,hcap⟩:=o.len (by decide)
 refine ci (fun mm r2 h3=>∃(i:Nat),mm=4-i/\i<=4/\r2 0=g/\r2 3 = .pointer (some ⟨x,0,none⟩)/\r2 11=r 11/\r2 84=r 84/\r2 85 = .int .i64 4/\r2 86 = .int .i64 i/\Sep [ip,h1] h3/\Dis G h3/\((dv (m.f.x,m.f.y)).take i).all (nn w k f)=true) ?_
  (m:=4) ⟨0,rfl,by decide,g0,g3,rfl,rfl,g85,g86,s,d,by simp⟩
 rintro mm r2 h3 ⟨i,rfl,hi,q0,q3,q11,q84,q85,q86,s3,d3,hs⟩ X HX
 rw [g11]at q11
 rw [g84]at q84
 have bx3:=s3.at 1 rfl bx
 have cx:∀j,aa G h3 ⟨x,j,none⟩=_:=fun j=>ai (ag bx3)
 unfold Jm
 simp only [bRpU,q85,q86]
 refine bh (fun hlt=>?_) (fun hge=>?_)
 rotate_left
 . obtain rfl:i=4:=by omega
   try simp (disch:=first|decide|omega) only [bRpU,Nat.reduceAdd,Nat.reduceMul]
   unfold Pr
   try simp (disch:=decide) only [bRpU,Nat.reduceAdd,q3,q11,cx,nf]
   rw [List.take_of_length_le (show (dv (m.f.x,m.f.y)).length<=4 from Nat.le_refl 4)]at hs
   refine WayR.less l0 ⟨ip,_,_,?_,o,s3,d3,fun _=>?_⟩
   . rw [Kj hf hk hz,hs,Bool.true_and,<- nf]
     rfl
   . unfold wayL
     rw [if_neg (by omega),if_pos hk]
 have hlt':i<4:=by omega
 obtain ⟨y,hy⟩:∃y,(dv (m.f.x,m.f.y))[i]?=some y:=⟨_,List.getElem?_eq_getElem (by simpa [dv]using hlt')⟩
 obtain ⟨b,ofs,rfl,z0,z1⟩:=Sees.cell (G:=G) (o.sees (by decide) (s3.in 0 rfl)) hy
 unfold Dp
 try simp (disch:=first|decide|exact ao|exact am|omega|rfl) only [bRpU,q0,q84,q86,ix22 (Int.natCast_nonneg i) (show (i:Int)<(dv (m.f.x,m.f.y)).length from hlt),z0,z1]
 intro t ht gt
 have s4:=s3.past (o := .cells #[y.1,y.2] 28 (0,0)) ht
 have d4:=d3.set (o := .cells #[y.1,y.2] 28 (0,0)) gt
 try simp (disch:=first|decide|omega) only [bRpU,Nat.reduceAdd,Nat.reduceMul]
 generalize Hp.set h3 t _=h4 at s4 d4 ⊢
 refine (zm (c:=y) (gs.up (s4.in 1 rfl) d4)).mono ?_
 rintro _ _ ⟨rfl,rfl⟩
 have hym:y∈dv (m.f.x,m.f.y):=List.mem_of_getElem? hy
 cases hc:nn w k f y with
 |false=>
  try simp only [bRpU]
  refine WayR.less l0 <| WayR.no (s4.in 1 rfl) d4 ?_
  rw [Kj hf hk hz]
  have:(dv (m.f.x,m.f.y)).all (nn w k f)=false:=by
   rw [List.all_eq_false]
   exact ⟨y,hym,by simp [hc]⟩
  rw [this]
  rfl
 |true=>
  try simp only [bRpU]
  unfold Dn
  try simp (disch:=first|decide|omega) only [bRpU,q86]
  refine HX (4-(i+1)) _ _ (by omega) ⟨i+1,rfl,hlt',by simp (disch:=decide) only [bRpU,q0],by simp (disch:=decide) only [bRpU,q3],by simp (disch:=decide) only [bRpU,q11,g11],by simp (disch:=decide) only [bRpU,q84,g84],by simp (disch:=decide) only [bRpU,q85],by simp only [bRpU]<;>rfl,s4,d4,?_⟩
  rw [List.take_add_one,hy]
  simp [hs,hc]
theorem P0 {G h:Hp} {g:Value} {w k:Nat} {f:Nat->Nat->Int} {m:Move} (gs:GS G h g w k f) (st:j9 G) (mb:MB m):aj P_ G 127 #[g,Cg m] h (WayR G h w k f m):=by
 obtain ⟨nb,fb⟩:=mb
 refine aj.assume fun d=>ar8 (by simp) ?_
 unfold S127
 simp (disch:=decide) only [bRpU,Nat.reduceAdd]
 intro x hx gx
 generalize e1:Hp.set h x _=h1
 obtain ⟨l1,d1,b1⟩:=boxed e1 hx d gx
 have gs1:=gs.up l1 d1
 have cx:∀j,aa G h1 ⟨x,j,none⟩=_:=fun j=>ai (ag b1)
 try simp (disch:=first|decide|omega) only [bRpU,Nat.reduceAdd,Nat.reduceMul,cx]
 refine (ng (p:=m.f) gs1 st fb).mono ?_
 rintro _ h1 ⟨rfl,rfl⟩
 cases hf:df w k f m.f with
 |false=>
  try simp only [bRpU]
  exact WayR.no l1 d1 (by unfold wayB;rw [hf];rfl)
 |true=>
 try simp only [bRpU]
 unfold Yb
 try simp (disch:=decide) only [bRpU,cx]
 by_cases hk1:m.k=1
 . try simp only [bRpU,fg,show (m.k != 1)=false by simp [hk1]]
   unfold Pt
   try simp (disch:=first|decide|exact ao|exact am|omega|rfl) only [bRpU,Nat.reduceAdd,cx,show (m.k==1)=true by simp [hk1]]
   intro lb hlb glb
   try simp (disch:=first|decide|omega) only [bRpU,Nat.reduceAdd,Nat.reduceMul]
   exact way_run gs1 st nb hf hk1 b1 (by simp (disch:=decide) only [bRpU]) (by simp (disch:=decide) only [bRpU]) (by simp (disch:=decide) only [bRpU]) (by simp (disch:=decide) only [bRpU]) (by simp only [bRpU]) (Sep.one.new hlb) (d1.set glb) l1
 have ek1:(m.k != 1)=true:=by simp [hk1]
 have ek1':(m.k==1)=false:=by simp [hk1]
 by_cases hz:m.d=0/\m.n=0
 rotate_left
 . have ew:wayB w k f m=false:=by
    unfold wayB
    rw [if_neg hk1,decide_eq_false hz]
    simp
   by_cases hd:m.d=0
   . have hn:(m.n != 0)=true:=by
      have:m.n≠0:=fun e=>hz ⟨hd,e⟩
      simp [this]
     try simp only [bRpU,cx,ek1,hn,show (m.d != 0)=false by simp [hd]]
     exact WayR.no l1 d1 ew
   . try simp only [bRpU,cx,fg,ek1,show (m.d != 0)=true by simp [hd]]
     exact WayR.no l1 d1 ew
 try simp only [bRpU,cx,ek1,show (m.d != 0)=false by simp [hz.1],show (m.n != 0)=false by simp [hz.2]]
 unfold Pt
 by_cases hk2:m.k=2
 . try simp (disch:=first|decide|exact ao|exact am|omega|rfl) only [bRpU,Nat.reduceAdd,cx,ek1',show (m.k==2)=true by simp [hk2]]
   refine (Qc (c:=(m.f.x,m.f.y))).mono ?_
   rintro _ h2 ⟨ip,sa,rfl,o,s2,d2⟩
   try simp only [bRpU]
   exact ac8 gs1 hf hk2 hz b1 (by simp (disch:=decide) only [bRpU]) (by simp (disch:=decide) only [bRpU]) (by simp (disch:=decide) only [bRpU]) (by simp (disch:=decide) only [bRpU]) (by simp (disch:=decide) only [bRpU]<;>rfl) (by simp only [bRpU]) o s2 d2 l1
 have ek2:(m.k==2)=false:=by simp [hk2]
 by_cases hk34:m.k=3\/m.k=4
 rotate_left
 . have ew:wayB w k f m=false:=by
    rw [Kk hf hk1 hk2 hz,decide_eq_false hk34]
    rfl
   try simp (disch:=first|decide|exact ao|exact am|omega|rfl) only [bRpU,Nat.reduceAdd,cx,ek1',ek2,show (m.k==3)=false by simp;omega,show (m.k==4)=false by simp;omega]
   unfold zf
   try simp (disch:=decide) only [bRpU,Nat.reduceAdd]
   unfold zz
   try simp (disch:=decide) only [bRpU]
   exact WayR.no l1 d1 ew
 have k13:∀r:Rg,r 0=g->r 3 = .pointer (some ⟨x,0,none⟩)->r 107 = .bool true->zf G (retK P_ G [.tmp 4,.tmp 5] (WayR G h w k f m)) r h1:=by
  intro r g0 g3 g107
  unfold zf
  simp (disch:=decide) only [bRpU,g107]
  refine ⟨h1,Hp.le.refl _,?_⟩
  try simp only [bRpU,Nat.reduceAdd,g0,g3,cx]
  refine (oy (g:=g) (p:=m.f) st fb).mono ?_
  rintro _ _ ⟨b,rfl,hb,gb,rfl⟩
  refine ⟨b8 hb,?_⟩
  try simp only [bRpU,g3,cx,nf]
  refine WayR.less l1 ⟨noHp.set b _,_,bo m.f,?_,⟨some b,2,[],rfl,af,rfl⟩,Sep.one.new hb,d1.set gb,fun _=>?_⟩
  . rw [Kk hf hk1 hk2 hz,decide_eq_true hk34]
    rfl
  . unfold wayL
    rw [if_neg hk1,if_neg hk2]
 rcases hk34 with h3|h4
 . try simp (disch:=first|decide|exact ao|exact am|omega|rfl) only [bRpU,Nat.reduceAdd,cx,ek1',ek2,show (m.k==3)=true by simp [h3]]
   exact k13 _ (by simp (disch:=decide) only [bRpU]) (by simp (disch:=decide) only [bRpU]) (by simp only [bRpU])
 . try simp (disch:=first|decide|exact ao|exact am|omega|rfl) only [bRpU,Nat.reduceAdd,cx,ek1',ek2,show (m.k==3)=false by simp [h4],show (m.k==4)=true by simp [h4]]
   exact k13 _ (by simp (disch:=decide) only [bRpU]) (by simp (disch:=decide) only [bRpU]) (by simp only [bRpU])
theorem Ty {G h:Hp} {g:Value} {w k:Nat} {f:Nat->Nat->Int} {m:Move} (gs:GS G h g w k f) (st:j9 G) (mb:MB m):aj P_ G 78 #[g,Cg m] h (fun u h'=>u = .bool (wayB w k f m)/\h'=h):=by
 refine aj.assume fun d=>quietly (enter78 (by simp) ?_)
 unfold S78
 simp only [bRpU]
 intro x hx gx
 generalize e1:Hp.set h x _=h1
 obtain ⟨l1,d1,b1⟩:=boxed e1 hx d gx
 have cx:∀j,aa G h1 ⟨x,j,none⟩=_:=fun j=>ai (ag b1)
 try simp (disch:=first|decide|omega) only [bRpU,Nat.reduceAdd,Nat.reduceMul,cx]
 refine (P0 (gs.up l1 d1) st mb).mono ?_
 rintro _ h2 ⟨ip,v,L,rfl,o,s2,d2,_⟩
 try simp only [bRpU]
 exact l1.trans (s2.in 1 rfl)
def bRpV:=jq bC (jq (jq (jq (jq @al48 @C7) (jq @H8 (jq @fh @H4))) (jq (jq @qc @cf166) (jq @cf61 (jq @cf78 @ub)))) (jq (jq (jq @Ea @ld178) (jq @ld28 (jq @ld30 @ld4))) (jq (jq @ld48 (jq @ld68 @ls)) (jq @ji (jq @Qa @true_and)))))
theorem _root_.Go.HL.Sep.pack2 {x y h:Hp} {R:List Hp} (s:Sep (x::y::R) h):∃b,Sep (b::R) h/\Sep [x,y] b:=by
 obtain ⟨s1,ap⟩:=s.join
 exact ⟨_,s1,⟨fun a ha=>by
  simp only [List.mem_cons,List.not_mem_nil,or_false]at ha
  rcases ha with rfl|rfl
  . exact Hp.le_join
  . exact Hp.le_join2 ap,by simp [ap]⟩⟩
theorem _root_.Go.HL.Sep.pack3 {x y z h:Hp} {R:List Hp} (s:Sep (x::y::z::R) h):∃b,Sep (b::R) h/\Sep [x,y,z] b:=by
 have s1:Sep (y::z::x::R) h:=s.rot.rot
 obtain ⟨s2,a2⟩:=s1.join
 obtain ⟨s3,a3⟩:=s2.swap.join
 refine ⟨_,s3,fun a ha=>?_,(List.pairwise_append (l₁:=[x,y,z]) (l₂:=R)).1 s.2 |>.1⟩
 simp only [List.mem_cons,List.not_mem_nil,or_false]at ha
 rcases ha with rfl|rfl|rfl
 . exact Hp.le_join
 . exact Hp.le_join.trans (Hp.le_join2 a3)
 . exact (Hp.le_join2 a2).trans (Hp.le_join2 a3)
theorem opE76 {G:Hp} {a b y:Value} {h:Hp} {K:VK}:opE P_ G (il (.func (.func 182) #[] #[a,b]) #[y]) h K=aj P_ G 182 #[y,a,b] h K:=by kernel_rfl
theorem Vm {n d:Nat} {v:Value} {r:Rg} (hd:d<n):setR n #[d] #[v] r=upd r d v:=by
 unfold setR
 simp [putR,hd]
theorem Y9 {G h:Hp} {gp:Nat} {p:Pose}:aj P_ G 166 #[.pointer (some ⟨gp,0,none⟩),jy p] h (fun u h'=>∃b1 b2,u = .func (.func 182) #[] #[.pointer (some ⟨b1,0,none⟩),.pointer (some ⟨b2,0,none⟩)]/\h b1=none/\G b1=none/\(h.set b1 (.cells #[.pointer (some ⟨gp,0,none⟩)] 68 (0,0))) b2=none/\G b2=none/\h'=(h.set b1 (.cells #[.pointer (some ⟨gp,0,none⟩)] 68 (0,0))).set b2 (.cells #[p.x,p.y,.bool p.d] 30 (0,0))):=by
 refine ao7 (by simp) ?_
 unfold S166
 simp only [bRpV]
 intro x hx gx y hy gy
 exact ⟨x,y,rfl,hx,gx,hy,gy,rfl⟩
def mo (p:Pose):Move:=⟨2,0,0,p,xa p,0,0⟩
def kz (w k:Nat) (f:Nat->Nat->Int) (p:Pose):List Move:=if df w k f p=true then Eu w k f p++(if wayB w k f (mo p)=true then [mo p]else [])else []
def InY (Y:List Move->Hp->Prop) (eb:Hp) (l:Nat) (o:Obj) (L:List Move) (b:Hp):Prop:=∃a,Y L a/\Sep [a,eb,noHp.set l o] b
theorem Nh {p:Pose} (hp:PB p):MB (mo p):=⟨⟨show (-9223372036854775808:Int)<=0 by decide,show (0:Int)<=9223372036854775807 by decide⟩,hp⟩
def mu:Cod Move:=⟨11,fun m=>[.int .i64 m.k,.int .i64 m.d,.int .i64 m.n,.int .i64 m.f.x,.int .i64 m.f.y,.bool m.f.d,.int .i64 m.t.x,.int .i64 m.t.y,.bool m.t.d,.int .i64 m.a,.int .i64 m.e],fun _=>rfl,fun _ v hv=>by simp at hv;rcases hv with rfl|rfl|rfl|rfl|rfl|rfl|rfl|rfl|rfl|rfl|rfl<;>rfl⟩
theorem eomove:gu P_ 48 mu.n 88:=eo48
def GY {α:Type} (c:Cod α) (e T:TypeId) (most:Int) (lb mb:Nat) (L:List α) (a:Hp):Prop:=∃ip v,Slc c e ip v L/\Sep [ip,noHp.set lb (.cells #[v] T (0,0)),noHp.set mb (.cells #[most] 3 (0,0))] a
def GYb {α:Type} (c:Cod α) (e T:TypeId) (most:Int) (lb mb:Nat) (L:List α) (a:Hp):Prop:=GY c e T most lb mb L a/\(L.length:Int)<most
end Go.Proofs.YtfflipnhffknnaaGreatDoor
end

/- Texts of the proof, one behind the other. -/
import Derived.Test.YtfflipnhffknnaaGreatDoorEM2
import Derived.Test.YtfflipnhffknnaaGreatDoorEH3
import Derived.Test.YtfflipnhffknnaaGreatDoorEM1
set_option linter.unusedSimpArgs false
set_option linter.unusedVariables false
set_option maxRecDepth 100000
set_option maxHeartbeats 4000000
set_option linter.defProp false
section
namespace Go.Proofs.YtfflipnhffknnaaGreatDoor
open Go Go.HL
def bRpF:=jq bC (jq (jq (jq (jq @Bool.true_and (jq @al28 @Ip)) (jq (jq @wh @ud) (jq @vg @Ik))) (jq (jq @Th (jq @cf88 @eq68sp)) (jq (jq @Sq @ao1) (jq @C9 @Eh)))) (jq (jq (jq @W8 (jq @Eg @W7)) (jq (jq @wd @H4) (jq @Hk @ld28))) (jq (jq @ld3 (jq @ld3p @ld4)) (jq (jq @ju @ik) (jq @Qm @true_and)))))
theorem un81:P_.underlying 245=some (.array 4 28):=by kernel_rfl
theorem ix81 {G h:Hp} {a:Addr} {k:IntKind} {i:Int} {K:VK} (h1:0<=i) (h2:i<(4:Nat)):wpH P_ G (Instr.indexAt 245 (.pointer (some a)) (.int k i)) h K=K (.pointer (some (a.add (i.toNat*2)))) h:=Eb un81 sz28 h1 h2
theorem W2 {G h:Hp} {a:Addr} {k:IntKind} {i:Int} {K:Value->Prop} (h1:0<=i) (h2:i<(4:Nat)):pw P_ G h (Instr.indexAt 245 (.pointer (some a)) (.int k i)) K=K (.pointer (some (a.add (i.toNat*2)))):=Ho un81 sz28 h1 h2
def Ew:List Value:=[.int .i64 0,.int .i64 (-1),.int .i64 1,.int .i64 0,.int .i64 0,.int .i64 1,.int .i64 (-1),.int .i64 0]
def jb (G:Hp):Prop:=∃e f,G 0=some (.cells Ew.toArray e f)
theorem jb.cell {G h:Hp} (s:jb G) (d:Dis G h) (k:Nat):af G h ⟨0,k,none⟩=Ew[k]?:=by
 obtain ⟨e,f,s⟩:=s
 rw [Ti d s rfl]
 simp [vo]
theorem jb.free {G h:Hp} (s:jb G) (d:Dis G h):h 0=none:=by
 obtain ⟨e,f,s⟩:=s
 cases q:h 0 with
 |none=>rfl
 |some o=>rw [d _ _ q]at s;cases s
theorem jb.under {G h a:Hp} (s:jb G) (d:Dis G h) (l:a.le h):jb (under G h a):=by
 have h0:=s.free d
 obtain ⟨e,f,s⟩:=s
 refine ⟨e,f,?_⟩
 unfold HL.under HL.look
 rw [l.none h0,h0]
 simpa using s
def jz {α:Type} (w h:Nat) (f:Nat->Nat->α):List α:=(List.range (w*h)).map fun n=>f (n % w) (n / w)
theorem du {α:Type} {w h:Nat} {f:Nat->Nat->α}:(jz w h f).length=w*h:=by simp [jz]
theorem uz {α:Type} {w h:Nat} {f:Nat->Nat->α} {x y:Nat} (hx:x<w) (hy:y<h):(jz w h f)[y*w+x]?=some (f x y):=by
 have hlt:y*w+x<w*h:=by
  have:(y+1)*w<=h*w:=Nat.mul_le_mul_right _ hy
  rw [Nat.succ_mul]at this
  rw [Nat.mul_comm w h];omega
 unfold jz
 rw [List.getElem?_map,List.getElem?_range hlt,Option.map_some]
 rw [Nat.mul_comm y w,Nat.mul_add_mod,Nat.mod_eq_of_lt hx,Nat.mul_add_div (by omega),Nat.div_eq_of_lt hx,Nat.add_zero]
theorem vc {α:Type} {w h:Nat} {f:Nat->Nat->α} {n:Nat} (hn:n<w*h):(jz w h f)[n]?=some (f (n % w) (n / w)):=by
 unfold jz
 rw [List.getElem?_map,List.getElem?_range hn,Option.map_some]
theorem Lr {α:Type} {w h:Nat} {f:Nat->Nat->α} {x y:Nat} {v:α} (hx:x<w):(jz w h f).set (y*w+x) v=jz w h (fun a b=>if a=x/\b=y then v else f a b):=by
 apply List.ext_getElem?
 intro n
 rw [List.getElem?_set]
 by_cases hn:n<w*h
 . rw [vc hn,vc hn,du]
   have hw:0<w:=by omega
   by_cases e:y*w+x=n
   . subst e
     rw [if_pos rfl,if_pos hn,Nat.mul_comm y w,Nat.mul_add_mod,Nat.mod_eq_of_lt hx,Nat.mul_add_div hw,Nat.div_eq_of_lt hx,Nat.add_zero]
     simp
   . rw [if_neg e,if_neg]
     rintro ⟨e1,e2⟩
     apply e
     rw [<- e1,<- e2,Nat.mul_comm]
     exact Nat.div_add_mod n w
 . rw [List.getElem?_eq_none (by rw [du];omega),List.getElem?_eq_none (by rw [du];omega)]
   split
   . rw [if_neg (by rw [du];omega)]
   . rfl
structure GS (G h:Hp) (g:Value) (w k:Nat) (f:Nat->Nat->Int):Prop where
 ex:∃gp kb,g = .pointer (some ⟨gp,0,none⟩)/\(∀j,j<3->af G h ⟨gp,j,none⟩=[Value.int .i64 w,.int .i64 k,.slice (some ⟨kb,0,none⟩) (w*k) (w*k)][j]?)/\(∀n x,(jz w k f)[n]?=some x->af G h ⟨kb,n,none⟩=some (.int .i64 x))
 w1:1<=w
 w2:w<=16
 k1:1<=k
 k2:k<=16
theorem GS.up {G h h':Hp} {g:Value} {w k:Nat} {f:Nat->Nat->Int} (s:GS G h g w k f) (l:h.le h') (d:Dis G h'):GS G h' g w k f:=by
 obtain ⟨⟨gp,kb,e,h1,h2⟩,a,b,c,e2⟩:=s
 refine ⟨⟨gp,kb,e,fun j hj=>?_,fun n x hx=>jh l d (h2 n x hx)⟩,a,b,c,e2⟩
 have:=h1 j hj
 rw [List.getElem?_eq_getElem (by simpa using hj)]at this ⊢
 exact jh l d this
def inW (w k:Nat) (c:Cell):Bool:=ax c.1 0 (w-1)&&ax c.2 0 (k-1)
def numI (w k:Nat) (c:Cell):Int:=if inW w k c=true then c.2*w+c.1 else -1
def fAt (f:Nat->Nat->Int) (c:Cell):Int:=f c.1.toNat c.2.toNat
def ny (w k:Nat) (f:Nat->Nat->Int) (c:Cell):Bool:=inW w k c && !(fAt f c == -1)
theorem i7 {w k:Nat} {c:Cell}:inW w k c=true↔0<=c.1/\c.1<w/\0<=c.2/\c.2<k:=by
 unfold inW ax
 simp only [Bool.and_eq_true,decide_eq_true_eq]
 omega
theorem ji {G h:Hp} {n a b:Int}:al P_ G 129 #[n,a,b] h (fun u h'=>u = .bool (ax n a b)/\h'=h):=by
 refine quietly (at8 (by simp) ?_)
 unfold S129
 simp only [bRpF]
 unfold ax
 cases hc:decide (n>=a)with
 |false=>simp only [bRpF,hc];exact ⟨rfl,Hp.le.refl h⟩
 |true=>simp only [bRpF,hc];exact Hp.le.refl h
theorem og {G h:Hp} {g:Value} {w k:Nat} {f:Nat->Nat->Int} {c:Cell} (s:GS G h g w k f):al P_ G 88 #[g,vf c] h (fun u h'=>u = .int .i64 (numI w k c)/\h'=h):=by
 have s0:=s
 obtain ⟨⟨gp,kb,rfl,g1,g2⟩,w1,w2,k1,k2⟩:=s
 refine al.assume fun d=>quietly (enter88 (by simp) ?_)
 unfold S88
 simp only [bRpF]
 intro x hx gx
 generalize e1:Hp.set h x _=h1
 obtain ⟨l1,d1,b1⟩:=boxed e1 hx d gx
 have cx:∀j,af G h1 ⟨x,j,none⟩=_:=fun j=>aj (ai b1)
 have y0:af G h1 ⟨gp,0,none⟩=some (.int .i64 w):=jh l1 d1 (g1 0 (by decide))
 have y1:af G h1 ⟨gp,1,none⟩=some (.int .i64 k):=jh l1 d1 (g1 1 (by decide))
 try simp (disch:=first|decide|omega) only [bRpF,cx,y0,y1]
 try rw [ky (by omega) (by omega)]
 refine (ji (n:=c.1) (a:=0) (b:=(w:Int)-1)).mono ?_
 rintro _ _ ⟨rfl,rfl⟩
 unfold numI inW
 cases h1:ax c.1 0 ((w:Int)-1)with
 |false=>try simp only [bRpF];exact ⟨by simp,l1⟩
 |true=>
 try simp (disch:=first|decide|omega) only [bRpF,cx,y0,y1]
 try rw [ky (by omega) (by omega)]
 refine (ji (n:=c.2) (a:=0) (b:=(k:Int)-1)).mono ?_
 rintro _ _ ⟨rfl,rfl⟩
 cases h2:ax c.2 0 ((k:Int)-1)with
 |false=>try simp only [bRpF];exact ⟨by simp,l1⟩
 |true=>
 unfold ax at h1 h2
 simp only [Bool.and_eq_true,decide_eq_true_eq]at h1 h2
 have hm:0<=c.2*(w:Int)/\c.2*(w:Int)<=15*16:=⟨Int.mul_nonneg (by omega) (by omega),Int.mul_le_mul (by omega) (by omega) (by omega) (by omega)⟩
 try simp only [bRpF]
 unfold ay8
 try simp (disch:=first|decide|omega) only [bRpF,cx,y0,y1]
 try rw [ky (x:=c.2*(w:Int)) (by omega) (by omega)]
 try rw [ky (by omega) (by omega)]
 first|exact l1|exact ⟨by simp,l1⟩
theorem GS.kind {G h:Hp} {g:Value} {w k:Nat} {f:Nat->Nat->Int} (s:GS G h g w k f) {c:Cell} (hc:inW w k c=true):
 ∃gp kb,g = .pointer (some ⟨gp,0,none⟩)/\af G h ⟨gp,2,none⟩=some (.slice (some ⟨kb,0,none⟩) (w*k) (w*k))/\af G h ⟨kb,(numI w k c).toNat,none⟩=some (.int .i64 (fAt f c))/\0<=numI w k c/\numI w k c<((w*k:Nat):Int):=by
 obtain ⟨⟨gp,kb,rfl,g1,g2⟩,w1,w2,k1,k2⟩:=s
 obtain ⟨a1,a2,a3,a4⟩:=i7.1 hc
 have hn:numI w k c=((c.2.toNat*w+c.1.toNat:Nat):Int):=by
  unfold numI
  rw [if_pos hc]
  rw [Int.natCast_add,Int.natCast_mul,Int.toNat_of_nonneg a1,Int.toNat_of_nonneg a3]
 refine ⟨gp,kb,rfl,g1 2 (by decide),?_,by omega,?_⟩
 . rw [hn,Int.toNat_natCast]
   exact g2 _ _ (uz (by omega) (by omega))
 . rw [hn]
   have:(c.2.toNat+1)*w<=k*w:=Nat.mul_le_mul_right _ (by omega)
   rw [Nat.succ_mul]at this
   rw [Nat.mul_comm w k]
   omega
theorem Hd {w k:Nat} {c:Cell} (h:inW w k c=false):numI w k c = -1:=by unfold numI;rw [h];rfl
theorem ix57k {G h:Hp} {kb n:Nat} {i:Int} {K:VK} (h1:0<=i) (h2:i<(n:Int)):wpH P_ G (Instr.indexAt 168 (.slice (some ⟨kb,0,none⟩) n n) (.int .i64 i)) h K=K (.pointer (some ⟨kb,i.toNat,none⟩)) h:=by
 rw [R1 h1 h2];simp only [mz,Nat.zero_add,Nat.mul_one]
theorem Aa {G h:Hp} {g:Value} {w k:Nat} {f:Nat->Nat->Int} {c:Cell} (s:GS G h g w k f):al P_ G 62 #[g,vf c] h (fun u h'=>u = .bool (ny w k f c)/\h'=h):=by
 refine al.assume fun d=>quietly (enter62 (by simp) ?_)
 unfold S62
 simp only [bRpF]
 intro x hx gx
 generalize e1:Hp.set h x _=h1
 obtain ⟨l1,d1,b1⟩:=boxed e1 hx d gx
 have cx:∀j,af G h1 ⟨x,j,none⟩=_:=fun j=>aj (ai b1)
 try simp (disch:=first|decide|omega) only [bRpF,Nat.reduceAdd,Nat.reduceMul,cx]
 refine (og (c:=c) (s.up l1 d1)).mono ?_
 rintro _ _ ⟨rfl,rfl⟩
 unfold ny
 cases hc:inW w k c with
 |false=>
  try simp only [bRpF,Hd hc,show decide ((-1:Int)>=0)=false from rfl]
  first|exact l1|exact ⟨by simp,l1⟩
 |true=>
  obtain ⟨gp,kb,rfl,z2,zk,n0,n1⟩:=(s.up l1 d1).kind hc
  try simp only [bRpF,show decide (numI w k c>=0)=true from decide_eq_true n0,z2,ix57k n0 n1,zk]
  first|exact l1|exact ⟨by simp [bne],l1⟩
theorem Ny {G h:Hp} {g:Value} {w k:Nat} {f:Nat->Nat->Int} {c:Cell} (s:GS G h g w k f):al P_ G 158 #[g,vf c] h (fun u h'=>u = .bool (inW w k c&&(fAt f c==0))/\h'=h):=by
 refine al.assume fun d=>quietly (ar4 (by simp) ?_)
 unfold S158
 simp only [bRpF]
 intro x hx gx
 generalize e1:Hp.set h x _=h1
 obtain ⟨l1,d1,b1⟩:=boxed e1 hx d gx
 have cx:∀j,af G h1 ⟨x,j,none⟩=_:=fun j=>aj (ai b1)
 try simp (disch:=first|decide|omega) only [bRpF,Nat.reduceAdd,Nat.reduceMul,cx]
 refine (og (c:=c) (s.up l1 d1)).mono ?_
 rintro _ _ ⟨rfl,rfl⟩
 cases hc:inW w k c with
 |false=>
  try simp only [bRpF,Hd hc,show decide ((-1:Int)>=0)=false from rfl]
  first|exact l1|exact ⟨by simp,l1⟩
 |true=>
  obtain ⟨gp,kb,rfl,z2,zk,n0,n1⟩:=(s.up l1 d1).kind hc
  try simp only [bRpF,show decide (numI w k c>=0)=true from decide_eq_true n0,z2,ix57k n0 n1,zk]
  first|exact l1|exact ⟨by simp,l1⟩
def Bd (x:Int):Prop := -9223372036854775808<=x/\x<=9223372036854775807
def PB (p:Pose):Prop:=Bd p.x/\Bd p.y
theorem pi {G h:Hp} {g:Value} {p:Pose} (st:jb G) (hp:PB p):al P_ G 89 #[g,kz p] h (fun u h'=>∃b,u = .slice (some ⟨b,0,none⟩) 2 2/\h b=none/\G b=none/\h'=h.set b (.cells #[p.x,p.y,(east p).1,(east p).2] 28 (0,0))):=by
 obtain ⟨⟨p1,p2⟩,p3,p4⟩:=hp
 refine al.assume fun d=>al.less (enter89 (by simp) (R:=fun u h'=>∃b,u = .slice (some ⟨b,0,none⟩) 2 2/\h b=none/\G b=none/\(h.set b (.cells #[p.x,p.y,(east p).1,(east p).2] 28 (0,0))).le h') ?_) ?_
 rotate_left
 . rintro v h' ⟨b,e,h1,h2,h3⟩
   exact ⟨_,h3,b,e,h1,h2,rfl⟩
 unfold S89
 simp only [bRpF]
 intro x hx gx
 generalize e1:Hp.set h x _=h1
 obtain ⟨l1,d1,b1⟩:=boxed e1 hx d gx
 have c0:=fun j=>st.cell d1 j
 try simp (disch:=first|decide|exact ao|exact am|omega|rfl) only [bRpF,Nat.reduceAdd,ix81 (by decide:(0:Int)<=1) (by decide:(1:Int)<(4:Nat)),Int.toNat_one,Nat.one_mul,c0,Ew]
 intro y hy gy
 generalize e2:Hp.set h1 y _=h2
 obtain ⟨l2,d2,b2⟩:=boxed e2 hy d1 gy
 have cx:∀j,af G h2 ⟨x,j,none⟩=_:=fun j=>aj (ai (l2 _ _ b1))
 have cy:∀j,af G h2 ⟨y,j,none⟩=_:=fun j=>aj (ai b2)
 have L:=l1.trans l2
 try simp only [bRpF,cx]
 unfold east wr
 cases hd:p.d with
 |false=>
  try simp only [bRpF]
  unfold Pi
  try simp (disch:=first|decide|omega) only [bRpF,cx,cy]
  rw [show (p.y+0:Int)=p.y by omega]
  intro b hb gb
  exact ⟨b,rfl,L.none hb,gb,L.both⟩
 |true=>
  have c2:=fun j=>st.cell d2 j
  try simp only [bRpF,Nat.reduceAdd,Nat.reduceMul,ix81 (by decide:(0:Int)<=2) (by decide:(2:Int)<(4:Nat)),show Int.toNat 2=2 from rfl,c2,Ew]
  rw [rt sz28 b2 (by simp [me]) (by simp) (by simp [me,jv])]
  have nxy:x≠y:=fu b1 hy
  generalize e3:Hp.set h2 y _=h3
  have cx3:∀j,af G h3 ⟨x,j,none⟩=[Value.int .i64 p.x,.int .i64 p.y,.bool p.d][j]?:=fun j=>by rw [<- e3,aq nxy];exact cx j
  have cy3:∀j,af G h3 ⟨y,j,none⟩=[Value.int .i64 0,.int .i64 1][j]?:=fun j=>by rw [<- e3,aj (ai ag)];first|rfl|simp [putL,me]
  have L3:h.le h3:=by
   rw [<- e3]
   exact L.set (l1.none hy)
  unfold Pi
  try simp (disch:=first|decide|omega) only [bRpF,cx3,cy3]
  rw [show (p.x+0:Int)=p.x by omega]
  intro b hb gb
  exact ⟨b,rfl,L3.none hb,gb,L3.both⟩
def bRpG:=jq bC (jq (jq @Bool.true_and (jq @cf62 @cf89)) (jq @ld28 (jq @ld30 @true_and)))
def cj (w k:Nat) (f:Nat->Nat->Int) (p:Pose):Bool:=ny w k f (p.x,p.y)&&ny w k f (east p)
theorem nt {G h:Hp} {g:Value} {w k:Nat} {f:Nat->Nat->Int} {p:Pose} (s:GS G h g w k f) (st:jb G) (hp:PB p):al P_ G 61 #[g,kz p] h (fun u h'=>u = .bool (cj w k f p)/\h'=h):=by
 refine al.assume fun d=>quietly (enter61 (by simp) ?_)
 unfold S61
 simp only [bRpG]
 intro x hx gx
 generalize e1:Hp.set h x _=h1
 obtain ⟨l1,d1,b1⟩:=boxed e1 hx d gx
 have cx:∀j,af G h1 ⟨x,j,none⟩=_:=fun j=>aj (ai b1)
 try simp (disch:=first|decide|omega) only [bRpG,Nat.reduceAdd,Nat.reduceMul,cx]
 refine (pi (g:=g) (p:=p) st hp).mono ?_
 rintro _ _ ⟨b,rfl,hb,gb,rfl⟩
 generalize e3:Hp.set h1 b _=h3
 obtain ⟨l3,d3,b3⟩:=boxed e3 hb d1 gb
 have L:=l1.trans l3
 have cb3:∀k,af G h3 ⟨b,k,none⟩=_:=fun k=>aj (ai b3)
 try simp only [bRpG,cb3,ix22 (by decide:(0:Int)<=0) (by decide:(0:Int)<(2:Nat)),Int.toNat_zero,Nat.zero_mul]
 refine (Aa (c:=(p.x,p.y)) (s.up L d3)).mono ?_
 rintro _ _ ⟨rfl,rfl⟩
 unfold cj
 cases hc:ny w k f (p.x,p.y)with
 |false=>simp only [bRpG,hc];exact ⟨rfl,L⟩
 |true=>
 try simp only [bRpG,Nat.reduceAdd,cb3,ix22 (by decide:(0:Int)<=1) (by decide:(1:Int)<(2:Nat)),Int.toNat_one,Nat.one_mul]
 refine (Aa (c:=east p) (s.up L d3)).mono ?_
 rintro _ _ ⟨rfl,rfl⟩
 try simp only [bRpG]
 first|exact L|exact ⟨by simp,L⟩
theorem Qv {α:Type} (c:Cod α) (hn:c.n=1) {L:List α} {i:Nat} {x:α} {v:Value} (hv:c.enc x=[v]) (hi:i<L.length):(c.rows L).set i v=c.rows (L.set i x):=by
 have h:=c.rows_put (t:=[]) (x:=x) hi
 rw [List.append_nil,List.append_nil,hn,Nat.mul_one,hv]at h
 rw [<- h,rk _ _ _ (by rw [c.rows_length,hn];simp;omega)]
 rw [List.set_eq_take_append_cons_drop,if_pos (by rw [c.rows_length,hn];omega)]
 simp
theorem rj {α:Type} (c:Cod α) (hn:c.n=1) {L:List α} {i:Nat} {x:α} {v:Value} (hv:c.enc x=[v]) (hx:L[i]?=some x):(c.rows L)[i]?=some v:=by
 have h:=c.rows_get (t:=[]) (j:=0) hx (by omega)
 rw [List.append_nil,hn,Nat.mul_one,Nat.add_zero,hv]at h
 exact h
structure GO (a:Hp) (gp kb:Nat) (w k:Nat) (f:Nat->Nat->Int):Prop where
 hd:a gp=some (.cells #[w,k,.slice (some ⟨kb,0,none⟩) (w*k) (w*k)] 215 (0,0))
 row:a kb=some (.cells (icC.rows (jz w k f)).toArray 3 (0,0))
 w1:1<=w
 w2:w<=16
 k1:1<=k
 k2:k<=16
theorem GO.ne {a:Hp} {gp kb w k:Nat} {f:Nat->Nat->Int} (g:GO a gp kb w k f):gp≠kb:=fun e=>by
 have h1:=g.hd
 have h2:=g.row
 rw [e,h2]at h1
 simp at h1
theorem GO.le {a h:Hp} {gp kb w k:Nat} {f:Nat->Nat->Int} (g:GO a gp kb w k f) (l:a.le h):GO h gp kb w k f:=⟨l _ _ g.hd,l _ _ g.row,g.w1,g.w2,g.k1,g.k2⟩
theorem GO.gs {G a:Hp} {gp kb w k:Nat} {f:Nat->Nat->Int} (g:GO a gp kb w k f):GS G a (.pointer (some ⟨gp,0,none⟩)) w k f:=
 ⟨⟨gp,kb,rfl,fun j hj=>aj (ai g.hd),fun n x hx=>by rw [aj (ai g.row)];exact rj icC rfl rfl hx⟩,g.w1,g.w2,g.k1,g.k2⟩
theorem GO.put {a:Hp} {gp kb w k:Nat} {f:Nat->Nat->Int} (g:GO a gp kb w k f) {x y:Nat} {v:Int} (hx:x<w) (hy:y<k):
 GO (a.set kb (.cells ((icC.rows (jz w k f)).set (y*w+x) (.int .i64 v)).toArray 3 (0,0))) gp kb w k (fun p q=>if p=x/\q=y then v else f p q):=by
 refine ⟨by rw [av g.ne];exact g.hd,?_,g.w1,g.w2,g.k1,g.k2⟩
 rw [ag,Qv icC rfl (x:=v) rfl,Lr hx]
 rw [du]
 have:(y+1)*w<=k*w:=Nat.mul_le_mul_right _ hy
 rw [Nat.succ_mul]at this
 rw [Nat.mul_comm w k];omega
def MK (a:Hp) (mb w k:Nat) (f:Nat->Nat->Bool):Prop:=a mb=some (.cells (bcC.rows (jz w k f)).toArray 4 (0,0))
theorem MK.put {a:Hp} {mb w k:Nat} {f:Nat->Nat->Bool} (g:MK a mb w k f) {x y:Nat} {v:Bool} (hx:x<w) (hy:y<k):
 MK (a.set mb (.cells ((bcC.rows (jz w k f)).set (y*w+x) (.bool v)).toArray 4 (0,0))) mb w k (fun p q=>if p=x/\q=y then v else f p q):=by
 unfold MK
 rw [ag,Qv bcC rfl (x:=v) rfl,Lr hx]
 rw [du]
 have:(y+1)*w<=k*w:=Nat.mul_le_mul_right _ hy
 rw [Nat.succ_mul]at this
 rw [Nat.mul_comm w k];omega
theorem yw {w k:Nat} {c:Cell} (hc:inW w k c=true):numI w k c=((c.2.toNat*w+c.1.toNat:Nat):Int)/\c.1.toNat<w/\c.2.toNat<k/\c.2.toNat*w+c.1.toNat<w*k:=by
 obtain ⟨a1,a2,a3,a4⟩:=i7.1 hc
 refine ⟨?_,by omega,by omega,?_⟩
 . unfold numI
   rw [if_pos hc]
   rw [Int.natCast_add,Int.natCast_mul,Int.toNat_of_nonneg a1,Int.toNat_of_nonneg a3]
 . have:(c.2.toNat+1)*w<=k*w:=Nat.mul_le_mul_right _ (by omega)
   rw [Nat.succ_mul]at this
   rw [Nat.mul_comm w k];omega
def kd (T:List Cell) (nb:Nat) (x y:Nat):Int:=if ((x:Int),(y:Int))∈T then (if T.idxOf ((x:Int),(y:Int))<nb then -1 else (T.idxOf ((x:Int),(y:Int)):Int)-nb+1)else 0
def iz (T:List Cell) (x y:Nat):Bool:=decide (((x:Int),(y:Int))∈T)
theorem kd_snoc {T:List Cell} {nb:Nat} {c:Cell} (hc:c∉T) (h1:0<=c.1) (h2:0<=c.2):kd (T++[c]) nb=fun p q=>if p=c.1.toNat/\q=c.2.toNat then (if T.length<nb then -1 else (T.length:Int)-nb+1)else kd T nb p q:=by
 funext p q
 unfold kd
 by_cases hpq:p=c.1.toNat/\q=c.2.toNat
 . have e:((p:Int),(q:Int))=c:=by rw [hpq.1,hpq.2,Int.toNat_of_nonneg h1,Int.toNat_of_nonneg h2]
   rw [if_pos hpq,e,if_pos (by simp),List.idxOf_append,if_neg hc,List.idxOf_cons_self,Nat.zero_add]
 . have e:((p:Int),(q:Int))≠c:=fun e=>hpq (by rw [<- e];simp)
   rw [if_neg hpq]
   by_cases hm:((p:Int),(q:Int))∈T
   . rw [if_pos (by simp [hm]),if_pos hm,List.idxOf_append,if_pos hm]
   . rw [if_neg (by simp [hm,e]),if_neg hm]
theorem D4 {T:List Cell} {c:Cell} (h1:0<=c.1) (h2:0<=c.2):iz (T++[c])=fun p q=>if p=c.1.toNat/\q=c.2.toNat then true else iz T p q:=by
 funext p q
 unfold iz
 by_cases hpq:p=c.1.toNat/\q=c.2.toNat
 . have e:((p:Int),(q:Int))=c:=by rw [hpq.1,hpq.2,Int.toNat_of_nonneg h1,Int.toNat_of_nonneg h2]
   rw [if_pos hpq,e];simp
 . have e:((p:Int),(q:Int))≠c:=fun e=>hpq (by rw [<- e];simp)
   rw [if_neg hpq]
   simp [e]
def bRpH:=jq bC (jq (jq (jq (jq @List.length_nil.{0} @al28) (jq @wh @cf88)) (jq (jq @C9 @ao0) (jq @H7 (jq @O5 @Hk)))) (jq (jq (jq @Ok @ld22) (jq @W0 (jq @ld28 @ld4))) (jq (jq @ln22 @ln22p) (jq @ju (jq @ik @Qm)))))
theorem Lj {G h:Hp} {v:Value} {L:List Cell} (sv:Sees dl G h v L) (hL:L.length<=1000):al P_ G 157 #[v] h (fun u h'=>∃b,Slc dl 28 b u L/\Sep [b,h] h'/\Dis G h'):=by
 obtain ⟨sa,cap,rfl⟩:=sv.len
 refine al.assume fun d=>ar5 (by simp) ?_
 unfold S157
 simp only [bRpH]
 by_cases hL0:L=[]
 . subst hL0
   try simp only [bRpH,List.length_nil,show (((0:Nat):Int)==0)=true from rfl]
   exact ⟨noHp,Slc.nil,Sep.one.none,d⟩
 . have hpos:=List.length_pos_iff.2 hL0
   have e:((L.length:Int)==0)=false:=by
    have:(L.length:Int)≠0:=by omega
    simpa using this
   try simp only [bRpH,e]
   unfold Yd
   try simp (disch:=decide) only [bRpH]
   rw [tt dl (0,0) (by decide) un22 eocell (by kernel_rfl) (by omega) (by omega)]
   intro x hx gx
   have d1:=d.set (o := .cells (dl.rows (List.replicate L.length (0,0))).toArray 28 (0,0)) gx
   rw [Te dl (by decide) un22 eocell (L:=L) ag (by simp) (sv.up (di hx) d1) hL0 rfl,set_set]
   try simp (disch:=first|decide|omega) only [bRpH,Nat.reduceAdd,Nat.reduceMul]
   exact ⟨noHp.set x _,⟨some x,_,[],rfl,by rw [ag,List.append_nil],by rw [List.append_nil,dl.rows_length]⟩,Sep.one.new hx,d.set gx⟩
structure Qe (C:Conf):Prop where
 w:ax C.w 1 16=true
 h:ax C.h 1 16=true
 po8:C.po.length<=8
 few:(C.bl.length:Int)<=C.w*C.h
 all:∀c∈C.bl++C.po,inW C.w.toNat C.h.toNat c=true
 once:(C.bl++C.po).Nodup
theorem D9 {G h:Hp} {mb n:Nat} {i:Nat} {K:VK} (h2:i<n):wpH P_ G (Instr.indexAt 90 (.slice (some ⟨mb,0,none⟩) n n) (.int .i64 (i:Int))) h K=K (.pointer (some ⟨mb,i,none⟩)) h:=by
 rw [ix90 (by omega) (by omega)];simp only [mz,Nat.zero_add,Nat.mul_one,Int.toNat_natCast]
theorem Lp {G h:Hp} {kb n:Nat} {i:Nat} {K:VK} (h2:i<n):wpH P_ G (Instr.indexAt 168 (.slice (some ⟨kb,0,none⟩) n n) (.int .i64 (i:Int))) h K=K (.pointer (some ⟨kb,i,none⟩)) h:=by
 rw [R1 (by omega) (by omega)];simp only [mz,Nat.zero_add,Nat.mul_one,Int.toNat_natCast]
theorem ix57np {G h:Hp} {kb n:Nat} {i:Nat} {K:Value->Prop} (h2:i<n):pw P_ G h (Instr.indexAt 168 (.slice (some ⟨kb,0,none⟩) n n) (.int .i64 (i:Int))) K=K (.pointer (some ⟨kb,i,none⟩)):=by
 rw [Uu (by omega) (by omega)];simp only [mz,Nat.zero_add,Nat.mul_one,Int.toNat_natCast]
theorem Un {G a h:Hp} {mb w k:Nat} {f:Nat->Nat->Bool} (m:MK a mb w k f) (l:a.le h) {x y:Nat} (hx:x<w) (hy:y<k):af G h ⟨mb,y*w+x,none⟩=some (.bool (f x y)):=by
 rw [aj (ai (l _ _ m))]
 exact rj bcC rfl rfl (uz hx hy)
theorem ab5 {G h1:Hp} {C:Conf} {ab:Option Addr} {cb:Nat} {x gp kb mb w k:Nat} {ip:Hp} {iv:Value} {T:List Cell} {KK:EK}
 (cx0:∀h3,h1.le h3->Dis G h3->af G h3 ⟨x,3,none⟩=some (.slice ab C.bl.length cb)) (hT:T.length<=1000) (hB:C.bl.length<=1000) (o:Slc dl 28 ip iv T) (hk:1<=w/\w<=16/\1<=k/\k<=16)
 (r:Rg) (h:Hp) (ga ma:Hp) (g1:r 1 = .pointer (some ⟨x,0,none⟩)) (g4:r 4 = .pointer (some ⟨gp,0,none⟩)) (g5:r 5 = .slice (some ⟨mb,0,none⟩) (w*k) (w*k)) (g59:r 59=iv) (g60:r 60 = .int .i64 T.length) (g61:r 61 = .int .i64 0)
 (go:GO ga gp kb w k (kd [] C.bl.length)) (mk:MK ma mb w k (iz [])) (s:Sep [ga,ma,ip,h1] h) (d:Dis G h)
 (H1:(∀c∈T,inW w k c=true)->T.Nodup->∀(r':Rg) h' ga',r' 4=r 4->GO ga' gp kb w k (kd T C.bl.length)->Sep [ga',h1] h'->Dis G h'->KK (.exit 0) r' h')
 (H2:¬((∀c∈T,inW w k c=true)/\T.Nodup)->∀(r':Rg) h',r' 2 = .pointer none->r' 3 = .bool false->h1.le h'->Dis G h'->KK .ret r' h'):ci (P4 G) r h KK:=by
 obtain ⟨sa,cap,rfl,hcap⟩:=o.len (by decide)
 refine b8 (fun m r2 h3=>∃(i:Nat) (ga ma:Hp),m=T.length-i/\i<=T.length/\r2 1=r 1/\r2 4=r 4/\r2 5=r 5/\r2 59=r 59/\r2 60=r 60/\r2 61 = .int .i64 i/\(∀c∈T.take i,inW w k c=true)/\(T.take i).Nodup/\
  GO ga gp kb w k (kd (T.take i) C.bl.length)/\MK ma mb w k (iz (T.take i))/\Sep [ga,ma,ip,h1] h3/\Dis G h3) ?_
  (m:=T.length) ⟨0,ga,ma,rfl,Nat.zero_le _,rfl,rfl,rfl,rfl,rfl,by rw [g61];rfl,by simp,by simp,by simpa using go,by simpa using mk,s,d⟩
 rintro m r2 h3 ⟨i,ga,ma,rfl,hi,q1,q4,q5,q59,q60,q61,hin,hnd,go,mk,s3,d3⟩ X HX
 rw [g1]at q1
 rw [g4]at q4
 rw [g5]at q5
 rw [g59]at q59
 rw [g60]at q60
 unfold P4
 simp only [bRpH,q60,q61]
 refine bm (fun hlt=>?_) (fun hge=>?_)
 rotate_left
 . obtain rfl:i=T.length:=by omega
   rw [List.take_of_length_le (Nat.le_refl _)]at hin hnd go
   exact H1 hin hnd _ _ ga (by simp (disch:=decide) only [bRpH,q4,g4]) go ((s3.pick 3 rfl rfl).swap.take 2 rfl) d3
 have hlt':i<T.length:=by omega
 obtain ⟨y,hy⟩:∃x,T[i]?=some x:=⟨_,List.getElem?_eq_getElem hlt'⟩
 obtain ⟨b,ofs,rfl,z0,z1⟩:=Sees.cell (G:=G) (o.sees (by decide) (s3.in 2 rfl)) hy
 unfold Js
 simp (disch:=first|decide|exact ao|exact am|omega|rfl) only [bRpH,q59,q61,ix22 (Int.natCast_nonneg i) hlt,z0,z1]
 intro t ht gt
 have s4:=s3.past (o := .cells #[y.1,y.2] 28 (0,0)) ht
 have d4:=d3.set (o := .cells #[y.1,y.2] 28 (0,0)) gt
 try simp only [bRpH,q4]
 generalize Hp.set h3 t _=h4 at s4 d4 ⊢
 refine (og (c:=y) ((go.gs (G:=G)).up s4.hd d4)).mono ?_
 rintro _ h4 ⟨rfl,rfl⟩
 have hyT:y∈T:=List.mem_of_getElem? hy
 cases hc:inW w k y with
 |false=>
  try simp only [bRpH,Hd hc,show decide ((-1:Int)<0)=true from rfl]
  refine H2 (fun q=>?_) _ _ (by simp (disch:=decide) only [bRpH]) (by simp only [bRpH]) (s4.in 3 rfl) d4
  have:=q.1 y hyT
  rw [hc]at this;cases this
 |true=>
 obtain ⟨hn,hx,hyk,hlt2⟩:=yw hc
 have hxy:((y.1.toNat:Int),(y.2.toNat:Int))=y:=by
  obtain ⟨a1,a2,a3,a4⟩:=i7.1 hc
  rw [Int.toNat_of_nonneg a1,Int.toNat_of_nonneg a3]
 obtain ⟨a1,a2,a3,a4⟩:=i7.1 hc
 have mg:=Un (G:=G) mk (s4.in 1 rfl) hx hyk
 rw [show iz (T.take i) y.1.toNat y.2.toNat=decide (y∈T.take i)by unfold iz;rw [hxy]]at mg
 rw [hn]
 generalize hnn:y.2.toNat*w+y.1.toNat=n at hn hlt2 mg
 try simp only [bRpH,show decide ((n:Int)<0)=false from decide_eq_false (by omega),q5,D9 hlt2,mg]
 by_cases hmem:y∈T.take i
 . try simp only [bRpH,decide_eq_true hmem]
   exact H2 (fun q=>ut hy hmem q.2) _ _ (by simp (disch:=decide) only [bRpH]) (by simp only [bRpH]) (s4.in 3 rfl) d4
 try simp only [bRpH,decide_eq_false hmem]
 unfold Jr
 have mb4:=s4.at 1 rfl mk
 try simp (disch:=decide) only [bRpH,q5,D9 hlt2]
 rw [bz sz4 rfl mb4 (by rw [bcC.rows_length,du];simp [bcC];exact hlt2)]
 have s5:=(s4.pick 1 rfl rfl).put (o := .cells ((bcC.rows (jz w k (iz (T.take i)))).set n (.bool true)).toArray 4 (0,0)) mk
 have d5:Dis G (h4.set mb (.cells ((bcC.rows (jz w k (iz (T.take i)))).set n (.bool true)).toArray 4 (0,0))):=d4.set (d4 _ _ mb4)
 generalize Hp.set h4 mb _=h5 at s5 d5 ⊢
 have g5h:=s5.at 1 rfl go.hd
 have cg5:∀j,af G h5 ⟨gp,j,none⟩=_:=fun j=>aj (ai g5h)
 try simp only [bRpH,q4,cg5,Lp hlt2]
 have kb5:=s5.at 1 rfl go.row
 rw [bz sz3 rfl kb5 (by rw [icC.rows_length,du];simp [icC];exact hlt2)]
 have go6:=go.put (v := -1) hx hyk
 rw [hnn]at go6
 have s6:=(s5.pick 1 rfl rfl).put (o := .cells ((icC.rows (jz w k (kd (T.take i) C.bl.length))).set n (.int .i64 (-1))).toArray 3 (0,0)) go.row
 have d6:Dis G (h5.set kb (.cells ((icC.rows (jz w k (kd (T.take i) C.bl.length))).set n (.int .i64 (-1))).toArray 3 (0,0))):=d5.set (d5 _ _ kb5)
 generalize Hp.set h5 kb _=h6 at s6 d6 ⊢
 have c3:=cx0 h6 (s6.in 3 rfl) d6
 have mk6:=mk.put (v:=true) hx hyk
 rw [hnn]at mk6
 have htl:(T.take i).length=i:=by rw [List.length_take];omega
 have next:∀(r3:Rg) h7 ga7,r3 1=r2 1->r3 4=r2 4->r3 5=r2 5->r3 59=r2 59->r3 60=r2 60->r3 61=r2 61->GO ga7 gp kb w k (kd (T.take (i+1)) C.bl.length)->Sep [ga7,ma.set mb (.cells ((bcC.rows (jz w k (iz (T.take i)))).set n (.bool true)).toArray 4 (0,0)),ip,h1] h7->Dis G h7->wq G (bv X KK) r3 h7:=by
  intro r3 h7 ga7 w1 w4 w5 w59 w60 w61 go7 s7 d7
  unfold wq
  have w61':=w61.trans q61
  simp (disch:=first|decide|omega) only [bRpH,w61']
  refine HX (T.length-(i+1)) _ _ (by omega) ⟨i+1,ga7,_,rfl,hlt',by simp (disch:=decide) only [bRpH,w1,q1,g1],by simp (disch:=decide) only [bRpH,w4,q4,g4],by simp (disch:=decide) only [bRpH,w5,q5,g5],by simp (disch:=decide) only [bRpH,w59,q59,g59],by simp (disch:=decide) only [bRpH,w60,q60,g60],by simp only [bRpH]<;>rfl,?_,xd hy hnd hmem,go7,?_,s7,d7⟩
  . rw [fj hy]
    intro c hc'
    rcases List.mem_append.1 hc' with q|q
    . exact hin c q
    . simp at q;rw [q];exact hc
  . rw [fj hy,D4 a1 a3]
    exact mk6
 have kds:=kd_snoc (nb:=C.bl.length) hmem a1 a3
 rw [<- fj hy,htl]at kds
 try simp (disch:=first|decide|omega) only [bRpH,q1,c3,q61]
 by_cases hib:i<C.bl.length
 . have e:decide ((i:Int)>=(C.bl.length:Int))=false:=decide_eq_false (by omega)
   try simp only [bRpH,e]
   refine next _ _ _ (by simp (disch:=decide) only [bRpH,q1]) (by simp (disch:=decide) only [bRpH,q4]) (by simp (disch:=decide) only [bRpH,q5]) (by simp (disch:=decide) only [bRpH,q59]) (by simp (disch:=decide) only [bRpH,q60]) (by simp (disch:=decide) only [bRpH,q61]) ?_ (s6.swap.swap) d6
   rw [kds,if_pos hib]
   exact go6
 . have e:decide ((i:Int)>=(C.bl.length:Int))=true:=decide_eq_true (by omega)
   have g6h:=s6.at 0 rfl go6.hd
   have cg6:∀j,af G h6 ⟨gp,j,none⟩=_:=fun j=>aj (ai g6h)
   try simp only [bRpH,e,q4,cg6,q1,c3,ix57np hlt2]
   have kb6:=s6.at 0 rfl go6.row
   rw [bz sz3 rfl kb6 (by rw [icC.rows_length,du];simp [icC];exact hlt2)]
   have go7:=go6.put (v:=(i:Int)-C.bl.length+1) hx hyk
   rw [hnn]at go7
   have s7:=s6.put (o := .cells ((icC.rows (jz w k fun p q=>if p=y.1.toNat/\q=y.2.toNat then -1 else kd (T.take i) C.bl.length p q)).set n (.int .i64 ((i:Int)-C.bl.length+1))).toArray 3 (0,0)) go6.row
   refine next _ _ _ (by simp (disch:=decide) only [bRpH,q1]) (by simp (disch:=decide) only [bRpH,q4]) (by simp (disch:=decide) only [bRpH,q5]) (by simp (disch:=decide) only [bRpH,q59]) (by simp (disch:=decide) only [bRpH,q60]) (by simp (disch:=decide) only [bRpH,q61]) ?_ s7 (d6.set (d6 _ _ kb6))
   rw [kds,if_neg hib]
   have e2:(fun p q=>if p=y.1.toNat/\q=y.2.toNat then (i:Int)-C.bl.length+1 else if p=y.1.toNat/\q=y.2.toNat then -1 else kd (T.take i) C.bl.length p q)=fun p q=>if p=y.1.toNat/\q=y.2.toNat then (i:Int)-C.bl.length+1 else kd (T.take i) C.bl.length p q:=by
    funext p q
    by_cases h:p=y.1.toNat/\q=y.2.toNat<;>simp [h]
   rw [<- e2]
   exact go7
def bRpJ:=jq bC (jq (jq (jq (jq @Pd @kv) (jq @vg (jq @Th @cf157))) (jq (jq @Bu @Xe) (jq @Ei (jq @Xb @H7)))) (jq (jq (jq @O5 @O4) (jq @O3 (jq @ld22 @W0))) (jq (jq @ld3 @ld3p) (jq @ln22 (jq @ln22p @jt)))))
theorem ua {α:Type} {w k:Nat} {d:α}:jz w k (fun _ _=>d)=List.replicate (w*k) d:=by
 apply List.ext_getElem?
 intro n
 by_cases hn:n<w*k
 . rw [vc hn,List.getElem?_replicate,if_pos hn]
 . rw [List.getElem?_eq_none (by rw [du];omega),List.getElem?_eq_none (by simp;omega)]
theorem kd_nil {nb:Nat}:kd [] nb=fun _ _=>0:=by funext x y;simp [kd]
theorem Gu:iz []=fun _ _=>false:=by funext x y;simp [iz]
theorem eobool:fg P_ 4 bcC.n 1:=⟨by kernel_rfl,by kernel_rfl,by kernel_rfl⟩
def LaidR (G h:Hp) (C:Conf) (u:Value) (h':Hp):Prop:=h.le h'/\Dis G h'/\
 ((Qe C/\∃ga gp kb,u = .tuple #[.pointer (some ⟨gp,0,none⟩),.bool true]/\GO ga gp kb C.w.toNat C.h.toNat (kd (C.bl++C.po) C.bl.length)/\Sep [ga,h] h')\/(¬Qe C/\u = .tuple #[.pointer none,.bool false]))
theorem ab4 {G h:Hp} {v:Value} {C:Conf} (hv:CV G h v C):al P_ G 130 #[v] h (LaidR G h C):=by
 obtain ⟨ab,cb,ap,cp,ar,cr,az,cs,rfl,ca⟩:=hv
 refine al.assume fun d=>at7 (by simp) ?_
 unfold S130
 simp (disch:=decide) only [bRpJ]
 intro x hx gx
 have s1:=Sep.one.past (h:=h) (o := .cells #[C.w,C.h,C.ht,.slice ab C.bl.length cb,.slice ap C.po.length cp,.slice ar C.ro.length cr,.slice az C.st.length cs,C.un,C.ac,C.sp,C.tu,C.ho,C.qu,C.re,C.bu,.bool C.back] 26 (0,0)) hx
 generalize e1:Hp.set h x _=h1 at s1
 obtain ⟨l1,d1,b1⟩:=boxed e1 hx d gx
 have cx:∀j,af G h1 ⟨x,j,none⟩=_:=fun j=>aj (ai b1)
 try simp (disch:=first|decide|omega) only [bRpJ,Nat.reduceAdd,Nat.reduceMul,cx]
 refine (ji (n:=C.w) (a:=1) (b:=16)).mono ?_
 rintro _ _ ⟨rfl,rfl⟩
 cases hw:ax C.w 1 16 with
 |false=>
  try simp only [bRpJ]
  exact ⟨l1,d1,.inr ⟨fun q=>absurd (q.w.symm.trans hw) (by decide),rfl⟩⟩
 |true=>
 try simp only [bRpJ,cx]
 refine (ji (n:=C.h) (a:=1) (b:=16)).mono ?_
 rintro _ h1 ⟨rfl,rfl⟩
 cases hk:ax C.h 1 16 with
 |false=>
  try simp only [bRpJ]
  exact ⟨l1,d1,.inr ⟨fun q=>absurd (q.h.symm.trans hk) (by decide),rfl⟩⟩
 |true=>
 have hw':=hw
 have hk':=hk
 unfold ax at hw' hk'
 simp only [Bool.and_eq_true,decide_eq_true_eq]at hw' hk'
 obtain ⟨w,hwn⟩:∃w:Nat,C.w=w:=⟨C.w.toNat,by omega⟩
 obtain ⟨k,hkn⟩:∃k:Nat,C.h=k:=⟨C.h.toNat,by omega⟩
 try simp only [bRpJ,cx]
 by_cases hP:C.po.length<=8
 rotate_left
 . try simp only [bRpJ,show decide ((C.po.length:Int)>8)=true from decide_eq_true (by omega)]
   exact ⟨l1,d1,.inr ⟨fun q=>hP q.po8,rfl⟩⟩
 have hm:C.w*C.h=((w*k:Nat):Int):=by rw [hwn,hkn,Int.natCast_mul]
 have hm2:w*k<=16*16:=Nat.mul_le_mul (by omega) (by omega)
 have hwr:IntKind.i64.wrap (C.w*C.h)=((w*k:Nat):Int):=by rw [hm,ky (by omega) (by omega)]
 try simp only [bRpJ,show decide ((C.po.length:Int)>8)=false from decide_eq_false (by omega),cx,hwr]
 by_cases hB:C.bl.length<=w*k
 rotate_left
 . try simp only [bRpJ,show decide ((C.bl.length:Int)>((w*k:Nat):Int))=true from decide_eq_true (by omega)]
   exact ⟨l1,d1,.inr ⟨fun q=>hB (by have:=q.few;rw [hm]at this;omega),rfl⟩⟩
 try simp only [bRpJ,show decide ((C.bl.length:Int)>((w*k:Nat):Int))=false from decide_eq_false (by omega)]
 unfold Y3
 refine ⟨h1,Hp.le.refl _,?_⟩
 try simp (disch:=decide) only [bRpJ,cx,hwr]
 rw [tt icC 0 (by decide) Gg eoint (by kernel_rfl) (by omega) (by omega)]
 intro kb hkb gkb
 refine ⟨di hkb,?_⟩
 try simp only [bRpJ]
 intro gp hgp ggp
 have s2:=(Sep.one.new (o := .cells (icC.rows (List.replicate (w*k) 0)).toArray 3 (0,0)) hkb).grow (o := .cells #[C.w,C.h,.slice (some ⟨kb,0,none⟩) (w*k) (w*k)] 215 (0,0)) hgp
 have d2:=(d1.set (o := .cells (icC.rows (List.replicate (w*k) 0)).toArray 3 (0,0)) gkb).set (o := .cells #[C.w,C.h,.slice (some ⟨kb,0,none⟩) (w*k) (w*k)] 215 (0,0)) ggp
 have ngk:kb≠gp:=jd hgp
 have go0:GO ((noHp.set kb (.cells (icC.rows (List.replicate (w*k) 0)).toArray 3 (0,0))).set gp (.cells #[C.w,C.h,.slice (some ⟨kb,0,none⟩) (w*k) (w*k)] 215 (0,0))) gp kb w k (kd [] C.bl.length):=
  ⟨by rw [ag,hwn,hkn],by rw [av ngk,ag,kd_nil,ua],by omega,by omega,by omega,by omega⟩
 generalize (noHp.set kb (.cells (icC.rows (List.replicate (w*k) 0)).toArray 3 (0,0))).set gp (.cells #[C.w,C.h,.slice (some ⟨kb,0,none⟩) (w*k) (w*k)] 215 (0,0))=ga at s2 go0
 generalize Hp.set (Hp.set h1 kb _) gp _=h2 at s2 d2 ⊢
 have cx2:∀j,af G h2 ⟨x,j,none⟩=_:=fun j=>aj (ai (s2.in 1 rfl _ _ b1))
 try simp only [bRpJ,cx2,hwr]
 rw [tt bcC false (by decide) un90 eobool (by kernel_rfl) (by omega) (by omega)]
 intro mb hmb gmb
 have s3:=s2.new (o := .cells (bcC.rows (List.replicate (w*k) false)).toArray 4 (0,0)) hmb
 have d3:=d2.set (o := .cells (bcC.rows (List.replicate (w*k) false)).toArray 4 (0,0)) gmb
 have mk0:MK (noHp.set mb (.cells (bcC.rows (List.replicate (w*k) false)).toArray 4 (0,0))) mb w k (iz []):=by
  unfold MK;rw [ag,Gu,ua]
 generalize noHp.set mb (.cells (bcC.rows (List.replicate (w*k) false)).toArray 4 (0,0))=ma at s3 mk0
 generalize Hp.set h2 mb _=h3 at s3 d3 ⊢
 have l3:h1.le h3:=s3.in 2 rfl
 have cx3:∀j,af G h3 ⟨x,j,none⟩=_:=fun j=>aj (ai (l3 _ _ b1))
 have ca3:=ca.up (l1.trans l3) d3
 refine ⟨h3,Hp.le.refl _,?_⟩
 try simp only [bRpJ,cx3]
 refine (Lj ca3.bl (by omega)).mono ?_
 rintro v4 h4 ⟨ip,o4,s4,d4⟩
 refine ⟨s4.in 1 rfl,?_⟩
 try simp (disch:=first|decide|omega) only [bRpJ,Nat.reduceAdd,Nat.reduceMul,cx3]
 refine dm dl (by decide) un22 eocell (by decide) (by decide) s4 d4 o4 (ca3.po.up (s4.in 1 rfl) d4) (by omega) fun v5 ip5 h5 o5 s5 d5=>?_
 have s6:=(s5.split s3).pick 2 rfl rfl
 have s7:Sep [ga,ma,ip5,h1] h5:=s6.pick 2 rfl rfl |>.swap
 obtain ⟨sa5,cp5,rfl,_⟩:=o5.len (by decide)
 try simp only [bRpJ]
 refine ab5 (C:=C) (ab:=ab) (cb:=cb) (x:=x) (T:=C.bl++C.po) (fun h6 l6 d6=>by rw [aj (ai (l6 _ _ b1))];rfl) (by rw [List.length_append];omega) (by omega) o5 ⟨by omega,by omega,by omega,by omega⟩ _ _ ga ma
  (by simp (disch:=decide) only [bRpJ]) (by simp (disch:=decide) only [bRpJ]) (by simp (disch:=decide) only [bRpJ]) (by simp (disch:=decide) only [bRpJ]) (by simp (disch:=decide) only [bRpJ]) (by simp only [bRpJ]) go0 mk0 s7 d5 (fun hin hnd r' h' ga' j4 go' s' d'=>?_) (fun hbad r' h' j2 j3 l' d'=>?_)
 . simp only [jo,if_true,iy]
   have j4':r' 4 = .pointer (some ⟨gp,0,none⟩):=j4.trans (by simp (disch:=decide) only [bRpJ])
   unfold Y2
   simp (disch:=decide) only [bRpJ,j4']
   refine ⟨l1.trans (s'.in 1 rfl),d',.inl ⟨⟨hw,hk,hP,by rw [hm];omega,by rw [hwn,hkn];exact hin,hnd⟩,ga',gp,kb,rfl,by rw [hwn,hkn];exact go',?_⟩⟩
   exact (s'.swap.cut l1).swap
 . simp only [bRpJ,j2,j3]
   exact ⟨l1.trans l',d',.inr ⟨fun q=>hbad ⟨by have:=q.all;rw [hwn,hkn]at this;exact this,q.once⟩,rfl⟩⟩
def bRpK:=jq bC (jq (jq (jq (jq @al30 @af2) (jq @Io @bd30_0p)) (jq (jq @kv @ax3) (jq @Tr (jq @cf61 @Sq)))) (jq (jq (jq @C9 @wd) (jq @Hk (jq @ld28 @ld3))) (jq (jq @ld30 @ld3p) (jq @ju (jq @ik @yd)))))
theorem R8 {α:Type} {w k:Nat} {f f':Nat->Nat->α} (h:∀x y,x<w->y<k->f x y=f' x y):jz w k f=jz w k f':=by
 apply List.ext_getElem?
 intro n
 by_cases hn:n<w*k
 . rw [vc hn,vc hn,h]
   . exact Nat.mod_lt _ (by
      rcases Nat.eq_zero_or_pos w with e|e
      . rw [e]at hn;simp at hn
      . exact e)
   . exact Nat.div_lt_of_lt_mul hn
 . rw [List.getElem?_eq_none (by rw [du];omega),List.getElem?_eq_none (by rw [du];omega)]
theorem GO.congr {a:Hp} {gp kb w k:Nat} {f f':Nat->Nat->Int} (g:GO a gp kb w k f) (h:∀x y,x<w->y<k->f x y=f' x y):GO a gp kb w k f':=
 ⟨g.hd,by rw [<- R8 h];exact g.row,g.w1,g.w2,g.k1,g.k2⟩
theorem yq {w k:Nat} {f f':Nat->Nat->Int} (h:∀x y,x<w->y<k->(f x y = -1↔f' x y = -1)) (c:Cell):ny w k f c=ny w k f' c:=by
 unfold ny
 cases hc:inW w k c with
 |false=>rfl
 |true=>
  obtain ⟨a1,a2,a3,a4⟩:=i7.1 hc
  have:=h c.1.toNat c.2.toNat (by omega) (by omega)
  simp only [Bool.true_and,fAt]
  congr 1
  rw [Bool.eq_iff_iff]
  simpa using this
theorem zd {w k:Nat} {f f':Nat->Nat->Int} (h:∀x y,x<w->y<k->(f x y = -1↔f' x y = -1)) (p:Pose):cj w k f p=cj w k f' p:=by
 unfold cj;rw [yq h,yq h]
def uy (w k:Nat) (f:Nat->Nat->Int) (x y:Nat):Bool:=(f x y == -1)||(cj w k f ⟨x,y,false⟩||cj w k f ⟨x,y,true⟩)
def f1 (w k:Nat) (f:Nat->Nat->Int) (x y:Nat):Int:=if uy w k f x y=true then f x y else -2
def fN (w k:Nat) (f:Nat->Nat->Int) (n x y:Nat):Int:=if y*w+x<n then f1 w k f x y else f x y
theorem Xn {w k:Nat} {f:Nat->Nat->Int} (x y:Nat):f1 w k f x y = -1↔f x y = -1:=by
 unfold f1
 by_cases h:uy w k f x y=true
 . rw [if_pos h]
 . rw [if_neg h]
   constructor
   . intro e;omega
   . intro e
     exfalso
     apply h
     unfold uy
     simp [e]
theorem fN_open {w k:Nat} {f:Nat->Nat->Int} {n:Nat} (x y:Nat):fN w k f n x y = -1↔f x y = -1:=by
 unfold fN
 split
 . exact Xn x y
 . exact Iff.rfl
theorem cellN {w n x y:Nat} (hw:0<w) (hx:x<w):y*w+x=n↔x=n % w/\y=n / w:=by
 constructor
 . intro e
   subst e
   rw [Nat.mul_comm y w,Nat.mul_add_mod,Nat.mod_eq_of_lt hx,Nat.mul_add_div hw,Nat.div_eq_of_lt hx]
   simp
 . rintro ⟨rfl,rfl⟩
   rw [Nat.mul_comm]
   exact Nat.div_add_mod n w
theorem robots1 {G:Hp} {gp kb w k:Nat} {f:Nat->Nat->Int} {KK:EK} (st:jb G) (r:Rg) (h:Hp) (g0:r 0 = .pointer (some ⟨gp,0,none⟩)) (g20:r 20 = .int .i64 ((w*k:Nat):Int)) (g21:r 21 = .int .i64 0)
 (go:GO h gp kb w k f) (d:Dis G h)
 (H1:(∀x y,x<w->y<k->uy w k f x y=false->f x y<=0)->∀(r':Rg) h',r' 0=r 0->r' 1=r 1->GO h' gp kb w k (f1 w k f)->Dis G h'->KK (.exit 0) r' h')
 (H2:(∃x y,x<w/\y<k/\uy w k f x y=false/\0<f x y)->∀(r':Rg) h',r' 4 = .bool false->Dis G h'->KK .ret r' h'):ci (Jq G) r h KK:=by
 refine b8 (fun m r2 h3=>∃n:Nat,m=w*k-n/\n<=w*k/\r2 0=r 0/\r2 1=r 1/\r2 20=r 20/\r2 21 = .int .i64 n/\(∀x y,x<w->y<k->y*w+x<n->uy w k f x y=false->f x y<=0)/\GO h3 gp kb w k (fN w k f n)/\Dis G h3) ?_
  (m:=w*k) ⟨0,rfl,Nat.zero_le _,rfl,rfl,rfl,by rw [g21];rfl,fun x y _ _ h=>absurd h (by omega),go.congr fun x y _ _=>by simp [fN],d⟩
 rintro m r2 h3 ⟨n,rfl,hn,q0,q1,q20,q21,hok,go,d3⟩ X HX
 rw [g0]at q0
 rw [g20]at q20
 have hw0:0<w:=go.w1
 have hw2:=go.w2
 have hk2:=go.k2
 have hm2:w*k<=16*16:=Nat.mul_le_mul go.w2 go.k2
 unfold Jq
 simp only [bRpK,q20,q21]
 refine bm (fun hlt=>?_) (fun hge=>?_)
 rotate_left
 . obtain rfl:n=w*k:=by omega
   refine H1 (fun x y hx hy=>hok x y hx hy ?_) _ _ (by simp (disch:=decide) only [bRpK,q0,g0]) (by simp (disch:=decide) only [bRpK,q1]) (go.congr fun x y hx hy=>?_) d3
   . have:=(uz (f:=f) hx hy);have:=(List.getElem?_eq_some_iff.1 this).1;rwa [du]at this
   . unfold fN
     rw [if_pos]
     have:=(uz (f:=f) hx hy);have:=(List.getElem?_eq_some_iff.1 this).1;rwa [du]at this
 have hlt':n<w*k:=by omega
 have hx:n % w<w:=Nat.mod_lt _ hw0
 have hy:n / w<k:=Nat.div_lt_of_lt_mul hlt'
 have hnn:n / w*w+n % w=n:=by rw [Nat.mul_comm];exact Nat.div_add_mod n w
 have cg:∀j,af G h3 ⟨gp,j,none⟩=_:=fun j=>aj (ai go.hd)
 have kn:af G h3 ⟨kb,n,none⟩=some (.int .i64 (f (n % w) (n / w))):=by
  rw [aj (ai go.row)]
  refine rj icC rfl rfl ?_
  rw [vc hlt']
  unfold fN
  rw [hnn,if_neg (by omega)]
 have tm:(n:Int).tmod (w:Int)=((n % w:Nat):Int):=rfl
 have td:(n:Int).tdiv (w:Int)=((n / w:Nat):Int):=rfl
 have hcell:∀x y,x<w->(y*w+x=n↔x=n % w/\y=n / w):=fun x y h=>cellN hw0 h
 generalize n % w=cx at*
 generalize n / w=cy at*
 unfold Ds
 simp (disch:=first|decide|exact ao|exact am|omega|rfl) only [bRpK,q0,q21,cg,tm,td]
 intro t ht gt
 try rw [yd]
 have go4:GO (h3.set t (.cells #[cx,cy,.bool false] 30 (0,0))) gp kb w k (fN w k f n):=go.le (di ht)
 have d4:=d3.set (o := .cells #[cx,cy,.bool false] 30 (0,0)) gt
 have bt:(h3.set t (.cells #[cx,cy,.bool false] 30 (0,0))) t=some (.cells #[cx,cy,.bool false] 30 (0,0)):=ag
 have kn4:=jh (di (o := .cells #[cx,cy,.bool false] 30 (0,0)) ht) d4 kn
 generalize h3.set t (.cells #[cx,cy,.bool false] 30 (0,0))=h4 at*
 have cg4:∀j,af G h4 ⟨gp,j,none⟩=_:=fun j=>aj (ai go4.hd)
 have ct:∀j,af G h4 ⟨t,j,none⟩=_:=fun j=>aj (ai bt)
 try simp only [bRpK,q0,q21,cg4,Lp hlt',kn4]
 have next:∀(r3:Rg) h5,r3 0=r2 0->r3 1=r2 1->r3 20=r2 20->r3 21=r2 21->(uy w k f cx cy=false->f cx cy<=0)->GO h5 gp kb w k (fN w k f (n+1))->Dis G h5->rl G (bv X KK) r3 h5:=by
  intro r3 h5 w0 w1 w20 w21 hk go5 d5
  unfold rl
  have w21':=w21.trans q21
  simp (disch:=first|decide|omega) only [bRpK,w21']
  refine HX (w*k-(n+1)) _ _ (by omega) ⟨n+1,rfl,hlt',by simp (disch:=decide) only [bRpK,w0,q0,g0],by simp (disch:=decide) only [bRpK,w1,q1],by simp (disch:=decide) only [bRpK,w20,q20,g20],by simp only [bRpK]<;>rfl,fun x y hx' hy' hlt2 hkp=>?_,go5,d5⟩
  by_cases e:y*w+x=n
  . obtain ⟨rfl,rfl⟩:=(hcell x y hx').1 e
    exact hk hkp
  . exact hok x y hx' hy' (by omega) hkp
 have keeps:uy w k f cx cy=true->GO h4 gp kb w k (fN w k f (n+1)):=fun hkp=>go4.congr fun x y hx' hy'=>by
  unfold fN
  by_cases e:y*w+x=n
  . obtain ⟨rfl,rfl⟩:=(hcell x y hx').1 e
    rw [e,if_neg (by omega),if_pos (by omega)]
    unfold f1
    rw [if_pos hkp]
  . by_cases e2:y*w+x<n
    . rw [if_pos e2,if_pos (by omega)]
    . rw [if_neg e2,if_neg (by omega)]
 have fcong:∀p,cj w k (fN w k f n) p=cj w k f p:=zd fun x y _ _=>fN_open x y
 have hfp:∀b,PB ⟨(cx:Int),(cy:Int),b⟩:=fun b=>⟨⟨by show -9223372036854775808<=(cx:Int);omega,by show (cx:Int)<=9223372036854775807;omega⟩,⟨by show -9223372036854775808<=(cy:Int);omega,by show (cy:Int)<=9223372036854775807;omega⟩⟩
 have kcase:uy w k f cx cy=((f cx cy == -1)||(cj w k f ⟨cx,cy,false⟩||cj w k f ⟨cx,cy,true⟩)):=rfl
 cases hb:(f cx cy == -1)with
 |true=>
  try simp only [bRpK]
  exact next _ _ (by simp (disch:=decide) only [bRpK,q0]) (by simp (disch:=decide) only [bRpK,q1]) (by simp (disch:=decide) only [bRpK,q20]) (by simp (disch:=decide) only [bRpK,q21]) (fun h=>by rw [kcase,hb]at h;simp at h) (keeps (by rw [kcase,hb];rfl)) d4
 |false=>
 try simp only [bRpK,ct]
 refine (nt (p:=⟨(cx:Int),(cy:Int),false⟩) (go4.gs (G:=G)) st (hfp _)).mono ?_
 rintro _ h4 ⟨rfl,rfl⟩
 rw [fcong]
 cases hf1:cj w k f ⟨(cx:Int),(cy:Int),false⟩with
 |true=>
  try simp only [bRpK]
  exact next _ _ (by simp (disch:=decide) only [bRpK,q0]) (by simp (disch:=decide) only [bRpK,q1]) (by simp (disch:=decide) only [bRpK,q20]) (by simp (disch:=decide) only [bRpK,q21]) (fun h=>by rw [kcase,hb,hf1]at h;simp at h) (keeps (by rw [kcase,hb,hf1];rfl)) d4
 |false=>
 try simp only [bRpK,ct,q0]
 refine (nt (p:=⟨(cx:Int),(cy:Int),true⟩) (go4.gs (G:=G)) st (hfp _)).mono ?_
 rintro _ h4 ⟨rfl,rfl⟩
 rw [fcong]
 cases hf2:cj w k f ⟨(cx:Int),(cy:Int),true⟩with
 |true=>
  try simp only [bRpK]
  exact next _ _ (by simp (disch:=decide) only [bRpK,q0]) (by simp (disch:=decide) only [bRpK,q1]) (by simp (disch:=decide) only [bRpK,q20]) (by simp (disch:=decide) only [bRpK,q21]) (fun h=>by rw [kcase,hb,hf1,hf2]at h;simp at h) (keeps (by rw [kcase,hb,hf1,hf2];rfl)) d4
 |false=>
 have hkf:uy w k f cx cy=false:=by rw [kcase,hb,hf1,hf2];rfl
 try simp only [bRpK]
 unfold Dr
 try simp (disch:=decide) only [bRpK,q0,cg4,Lp hlt',kn4]
 by_cases hpos:f cx cy>0
 . try simp only [bRpK,decide_eq_true hpos]
   exact H2 ⟨cx,cy,hx,hy,hkf,hpos⟩ _ _ (by simp only [bRpK]) d4
 try simp only [bRpK,decide_eq_false hpos]
 unfold Dq
 try simp (disch:=decide) only [bRpK,q0,cg4,Lp hlt']
 have kb4:=go4.row
 rw [bz sz3 rfl kb4 (by rw [icC.rows_length,du];simp [icC];exact hlt')]
 have go5:=go4.put (v := -2) hx hy
 rw [hnn]at go5
 refine next _ _ (by simp (disch:=decide) only [bRpK,q0]) (by simp (disch:=decide) only [bRpK,q1]) (by simp (disch:=decide) only [bRpK,q20]) (by simp (disch:=decide) only [bRpK,q21]) (fun _=>by omega) (go5.congr fun x y hx' hy'=>?_) (d4.set (d4 _ _ kb4))
 unfold fN
 by_cases e:y*w+x=n
 . obtain ⟨rfl,rfl⟩:=(hcell x y hx').1 e
   rw [if_pos ⟨rfl,rfl⟩,if_pos (by omega)]
   unfold f1
   rw [hkf]
   rfl
 . rw [if_neg (fun q=>e ((hcell x y hx').2 q))]
   by_cases e2:y*w+x<n
   . rw [if_pos e2,if_pos (by omega)]
   . rw [if_neg e2,if_neg (by omega)]
def bRpL:=jq bC (jq (jq (jq (jq @al28 @al30) (jq @kv @cf61)) (jq (jq @cf88 @cf89) (jq @C9 (jq @Hk @ld28)))) (jq (jq (jq @ld3 @ld30) (jq @ld4 @Rq)) (jq (jq @ln22 @ln23) (jq @ju (jq @Qm @yd)))))
def f2 (w k:Nat) (f:Nat->Nat->Int) (T:List Cell) (x y:Nat):Int:=if ((x:Int),(y:Int))∈T then -2 else f1 w k f x y
theorem Xm {w k:Nat} {f:Nat->Nat->Int} {T:List Cell} (hT:∀c∈T,fAt f c ≠ -1) (x y:Nat):f2 w k f T x y = -1↔f x y = -1:=by
 unfold f2
 split
 . rename_i h
   have:=hT _ h
   simp only [fAt,Int.toNat_natCast]at this
   constructor
   . intro e;omega
   . intro e;exact absurd e this
 . exact Xn x y
theorem f2_snoc {w k:Nat} {f:Nat->Nat->Int} {T:List Cell} {c:Cell} (h1:0<=c.1) (h2:0<=c.2):f2 w k f (T++[c])=fun p q=>if p=c.1.toNat/\q=c.2.toNat then -2 else f2 w k f T p q:=by
 funext p q
 unfold f2
 by_cases hpq:p=c.1.toNat/\q=c.2.toNat
 . have e:((p:Int),(q:Int))=c:=by rw [hpq.1,hpq.2,Int.toNat_of_nonneg h1,Int.toNat_of_nonneg h2]
   rw [if_pos hpq,e,if_pos (by simp)]
 . have e:((p:Int),(q:Int))≠c:=fun e=>hpq (by rw [<- e];simp)
   rw [if_neg hpq]
   by_cases hm:((p:Int),(q:Int))∈T
   . rw [if_pos (by simp [hm]),if_pos hm]
   . rw [if_neg (by simp [hm,e]),if_neg hm]
theorem GO.other {h:Hp} {gp kb w k:Nat} {f:Nat->Nat->Int} (g:GO h gp kb w k f) {b:Nat} {cs:Array Value} {e:TypeId} {o:Obj} (hb:h b=some (.cells cs e (0,0))) (h1:e≠215) (h2:e≠3):GO (h.set b o) gp kb w k f:=by
 have n1:gp≠b:=fun q=>by have:=g.hd;rw [q,hb]at this;simp at this;exact h1 this.2
 have n2:kb≠b:=fun q=>by have:=g.row;rw [q,hb]at this;simp at this;exact h2 this.2
 exact ⟨by rw [av n1];exact g.hd,by rw [av n2];exact g.row,g.w1,g.w2,g.k1,g.k2⟩
theorem MK.other {h:Hp} {mb w k:Nat} {f:Nat->Nat->Bool} (g:MK h mb w k f) {b:Nat} {cs:Array Value} {e:TypeId} {o:Obj} (hb:h b=some (.cells cs e (0,0))) (h1:e≠4):MK (h.set b o) mb w k f:=by
 unfold MK at*
 have n1:mb≠b:=fun q=>by rw [q,hb]at g;simp at g;exact h1 g.2
 rw [av n1];exact g
theorem MK.le {a h:Hp} {mb w k:Nat} {f:Nat->Nat->Bool} (g:MK a mb w k f) (l:a.le h):MK h mb w k f:=l _ _ g
theorem Z2 {G:Hp} {gp kb mb w k:Nat} {f:Nat->Nat->Int} {KK:EK} {cs T0:List Cell} {cb:Nat} {p:Pose} (r:Rg) (h:Hp) (hcs:cs=bw p) (hin:∀c∈cs,inW w k c=true)
 (hc:h cb=some (.cells #[p.x,p.y,(east p).1,(east p).2] 28 (0,0))) (g0:r 0 = .pointer (some ⟨gp,0,none⟩)) (g7:r 7 = .slice (some ⟨mb,0,none⟩) (w*k) (w*k)) (g91:r 91 = .slice (some ⟨cb,0,none⟩) 2 2) (g92:r 92 = .int .i64 2) (g93:r 93 = .int .i64 0)
 (go:GO h gp kb w k (f2 w k f T0)) (mk:MK h mb w k (iz T0)) (d:Dis G h) (hnd0:T0.Nodup)
 (H1:(∀c∈cs,fAt (f1 w k f) c<=0)->(T0++cs).Nodup->∀(r':Rg) h',r' 0=r 0->r' 7=r 7->r' 79=r 79->r' 80=r 80->r' 81=r 81->GO h' gp kb w k (f2 w k f (T0++cs))->MK h' mb w k (iz (T0++cs))->Dis G h'->KK (.exit 4) r' h')
 (H2:¬((∀c∈cs,fAt (f1 w k f) c<=0)/\(T0++cs).Nodup)->∀(r':Rg) h',r' 4 = .bool false->Dis G h'->KK .ret r' h'):ci (Cb G) r h KK:=by
 have hlen:cs.length=2:=by rw [hcs];rfl
 refine b8 (fun m r2 h3=>∃j:Nat,m=2-j/\j<=2/\r2 0=r 0/\r2 7=r 7/\r2 79=r 79/\r2 80=r 80/\r2 81=r 81/\r2 91=r 91/\r2 92=r 92/\r2 93 = .int .i64 j/\(∀c∈cs.take j,fAt (f1 w k f) c<=0)/\(T0++cs.take j).Nodup/\
  GO h3 gp kb w k (f2 w k f (T0++cs.take j))/\MK h3 mb w k (iz (T0++cs.take j))/\h3 cb=some (.cells #[p.x,p.y,(east p).1,(east p).2] 28 (0,0))/\Dis G h3) ?_
  (m:=2) ⟨0,rfl,Nat.zero_le _,rfl,rfl,rfl,rfl,rfl,rfl,rfl,by rw [g93];rfl,by simp,by simpa using hnd0,by simpa using go,by simpa using mk,hc,d⟩
 rintro m r2 h3 ⟨j,rfl,hj,q0,q7,q79,q80,q81,q91,q92,q93,hok,hnd,go,mk,hc3,d3⟩ X HX
 rw [g0]at q0
 rw [g7]at q7
 rw [g91]at q91
 rw [g92]at q92
 unfold Cb
 simp only [bRpL,q92,q93]
 refine bm (fun hlt=>?_) (fun hge=>?_)
 rotate_left
 . obtain rfl:j=2:=by omega
   rw [List.take_of_length_le (by omega)]at hok hnd go mk
   exact H1 hok hnd _ _ (by simp (disch:=decide) only [bRpL,q0,g0]) (by simp (disch:=decide) only [bRpL,q7,g7]) (by simp (disch:=decide) only [bRpL,q79]) (by simp (disch:=decide) only [bRpL,q80]) (by simp (disch:=decide) only [bRpL,q81]) go mk d3
 have hlt':j<2:=by omega
 obtain ⟨y,hy⟩:∃x,cs[j]?=some x:=⟨_,List.getElem?_eq_getElem (by omega)⟩
 have hym:y∈cs:=List.mem_of_getElem? hy
 have sv:Sees dl G h3 (.slice (some ⟨cb,0,none⟩) cs.length 2) cs:=by rw [hcs];exact Sees.row hc3 rfl (Nat.le_refl _)
 obtain ⟨b,ofs,eb,z0,z1⟩:=Sees.cell sv hy
 cases eb
 rw [Nat.zero_add]at z0 z1
 unfold Bl
 simp (disch:=first|decide|exact ao|exact am|omega|rfl) only [bRpL,q91,q93,ix22 (Int.natCast_nonneg j) (show (j:Int)<(2:Nat)by omega),z0,z1]
 intro t ht gt
 have go4:GO (h3.set t (.cells #[y.1,y.2] 28 (0,0))) gp kb w k (f2 w k f (T0++cs.take j)):=go.le (di ht)
 have mk4:MK (h3.set t (.cells #[y.1,y.2] 28 (0,0))) mb w k (iz (T0++cs.take j)):=mk.le (di ht)
 have hc4:=di (o := .cells #[y.1,y.2] 28 (0,0)) ht _ _ hc3
 have d4:=d3.set (o := .cells #[y.1,y.2] 28 (0,0)) gt
 try simp only [bRpL,q0]
 generalize h3.set t (.cells #[y.1,y.2] 28 (0,0))=h4 at*
 refine (og (c:=y) (go4.gs (G:=G))).mono ?_
 rintro _ h4 ⟨rfl,rfl⟩
 have hc':=hin y hym
 obtain ⟨hn,hx,hyk,hlt2⟩:=yw hc'
 obtain ⟨a1,a2,a3,a4⟩:=i7.1 hc'
 have hxy:((y.1.toNat:Int),(y.2.toNat:Int))=y:=by rw [Int.toNat_of_nonneg a1,Int.toNat_of_nonneg a3]
 have mg:=Un (G:=G) mk4 (Hp.le.refl _) hx hyk
 rw [show iz (T0++cs.take j) y.1.toNat y.2.toNat=decide (y∈T0++cs.take j)by unfold iz;rw [hxy]]at mg
 have kn:af G h4 ⟨kb,y.2.toNat*w+y.1.toNat,none⟩=some (.int .i64 (f2 w k f (T0++cs.take j) y.1.toNat y.2.toNat)):=by
  rw [aj (ai go4.row)]
  exact rj icC rfl rfl (uz hx hyk)
 have cg4:∀j,af G h4 ⟨gp,j,none⟩=_:=fun j=>aj (ai go4.hd)
 have g5:=go4.put (v := -2) hx hyk
 have m5:=mk4.put (v:=true) hx hyk
 rw [hn]
 generalize hnn:y.2.toNat*w+y.1.toNat=n at hn hlt2 mg kn g5 m5
 have htk:T0++cs.take (j+1)=(T0++cs.take j)++[y]:=by rw [fj hy,List.append_assoc]
 have bad:y∈T0++cs.take j\/fAt (f1 w k f) y>0->¬((∀c∈cs,fAt (f1 w k f) c<=0)/\(T0++cs).Nodup):=by
  rintro (hm|hp) ⟨h1,h2⟩
  . refine ut (L:=T0++cs) (i:=T0.length+j) (x:=y) (by rw [List.getElem?_append_right (by omega),Nat.add_sub_cancel_left];exact hy) ?_ h2
    rw [List.take_append,List.take_of_length_le (by omega),Nat.add_sub_cancel_left]
    exact hm
  . have:=h1 y hym;omega
 try simp only [bRpL,q7,D9 hlt2,mg]
 by_cases hmem:y∈T0++cs.take j
 . try simp only [bRpL,decide_eq_true hmem]
   exact H2 (bad (.inl hmem)) _ _ (by simp only [bRpL]) d4
 have hf2:f2 w k f (T0++cs.take j) y.1.toNat y.2.toNat=fAt (f1 w k f) y:=by
  unfold f2
  rw [hxy,if_neg hmem]
  rfl
 rw [hf2]at kn
 try simp only [bRpL,decide_eq_false hmem,q0,cg4,Lp hlt2,kn]
 by_cases hpos:fAt (f1 w k f) y>0
 . try simp only [bRpL,decide_eq_true hpos]
   exact H2 (bad (.inr hpos)) _ _ (by simp only [bRpL]) d4
 try simp only [bRpL,decide_eq_false hpos]
 unfold zq
 try simp (disch:=decide) only [bRpL,q7,D9 hlt2]
 rw [bz sz4 rfl mk4 (by rw [bcC.rows_length,du];simp [bcC];exact hlt2)]
 have go6:=go4.other (o := .cells ((bcC.rows (jz w k (iz (T0++cs.take j)))).set n (.bool true)).toArray 4 (0,0)) mk4 (by decide) (by decide)
 have hc6:(h4.set mb (.cells ((bcC.rows (jz w k (iz (T0++cs.take j)))).set n (.bool true)).toArray 4 (0,0))) cb=_:=(av (fun q=>by unfold MK at mk4;rw [<- q,hc4]at mk4;simp at mk4)).trans hc4
 have d6:Dis G (h4.set mb (.cells ((bcC.rows (jz w k (iz (T0++cs.take j)))).set n (.bool true)).toArray 4 (0,0))):=d4.set (d4 _ _ mk4)
 generalize h4.set mb (.cells ((bcC.rows (jz w k (iz (T0++cs.take j)))).set n (.bool true)).toArray 4 (0,0))=h6 at*
 have cg6:∀j,af G h6 ⟨gp,j,none⟩=_:=fun j=>aj (ai go6.hd)
 try simp only [bRpL,q0,cg6,Lp hlt2]
 rw [bz sz3 rfl go6.row (by rw [icC.rows_length,du];simp [icC];exact hlt2)]
 have go7:=go6.put (v := -2) hx hyk
 rw [hnn,<- f2_snoc a1 a3,<- htk]at go7
 have mk7:=m5.other (o := .cells ((icC.rows (jz w k (f2 w k f (T0++cs.take j)))).set n (.int .i64 (-2))).toArray 3 (0,0)) go6.row (by decide)
 rw [<- D4 a1 a3,<- htk]at mk7
 have nkc:cb≠kb:=fun q=>by have:=go6.row;rw [<- q,hc6]at this;simp at this
 unfold zr
 simp (disch:=first|decide|omega) only [bRpL,q93]
 refine HX (2-(j+1)) _ _ (by omega) ⟨j+1,rfl,hlt',by simp (disch:=decide) only [bRpL,q0,g0],by simp (disch:=decide) only [bRpL,q7,g7],by simp (disch:=decide) only [bRpL,q79],by simp (disch:=decide) only [bRpL,q80],by simp (disch:=decide) only [bRpL,q81],by simp (disch:=decide) only [bRpL,q91,g91],by simp (disch:=decide) only [bRpL,q92,g92],by simp only [bRpL]<;>rfl,?_,?_,go7,mk7,(av nkc).trans hc6,d6.set (d6 _ _ go6.row)⟩
 . rw [fj hy]
   intro c hc
   rcases List.mem_append.1 hc with q|q
   . exact hok c q
   . simp at q;rw [q];omega
 . rw [htk]
   exact List.nodup_append.2 ⟨hnd,by simp,fun a ha b hb=>by simp at hb;subst hb;exact fun e=>hmem (e▸ha)⟩
structure Dv (w k:Nat) (f:Nat->Nat->Int) (ro:List Pose):Prop where
 r8:ro.length<=8
 plain:∀x y,x<w->y<k->uy w k f x y=false->f x y<=0
 fit:∀p∈ro,cj w k f p=true
 low:∀c∈ro.flatMap bw,fAt (f1 w k f) c<=0
 once:(ro.flatMap bw).Nodup
theorem pd {w k:Nat} {f:Nat->Nat->Int} {p:Pose} (h:cj w k f p=true):∀c∈bw p,inW w k c=true/\fAt f c ≠ -1:=by
 unfold cj ny at h
 simp only [Bool.and_eq_true]at h
 intro c hc
 unfold bw at hc
 simp only [List.mem_cons,List.not_mem_nil,or_false]at hc
 rcases hc with rfl|rfl
 . exact ⟨h.1.1,by have:=h.1.2;simpa using this⟩
 . exact ⟨h.2.1,by have:=h.2.2;simpa using this⟩
def RobR (w k gp kb:Nat) (f:Nat->Nat->Int) (ro:List Pose) (u:Value) (h':Hp):Prop:=
 (Dv w k f ro/\u = .bool true/\GO h' gp kb w k (f2 w k f (ro.flatMap bw)))\/(¬Dv w k f ro/\u = .bool false)
theorem Q1 {G h:Hp} {gp kb w k:Nat} {f:Nat->Nat->Int} {ro:List Pose} {rv:Value} (go:GO h gp kb w k f) (st:jb G) (sv:vm yo G rv ro) (hp:∀p∈ro,PB p):
 al P_ G 131 #[.pointer (some ⟨gp,0,none⟩),rv] h (RobR w k gp kb f ro):=by
 refine al.assume fun d=>at6 (by simp) ?_
 obtain ⟨sa,cap,hrv⟩:=(sv h d).len
 have hm2:w*k<=16*16:=Nat.mul_le_mul go.w2 go.k2
 unfold S131
 simp only [bRpL,hrv]
 by_cases h8:ro.length<=8
 rotate_left
 . try simp only [bRpL,show decide ((ro.length:Int)>8)=true from decide_eq_true (by omega)]
   exact .inr ⟨fun q=>h8 q.r8,rfl⟩
 try simp only [bRpL,show decide ((ro.length:Int)>8)=false from decide_eq_false (by omega)]
 unfold Y1
 have cg:∀j,af G h ⟨gp,j,none⟩=_:=fun j=>aj (ai go.hd)
 try simp (disch:=decide) only [bRpL,cg]
 refine robots1 st _ h (by simp (disch:=decide) only [bRpL]) (by simp (disch:=decide) only [bRpL]) (by simp only [bRpL]) go d (fun hpl r2 h2 q0 q1 go2 d2=>?_) (fun ⟨x,y,hx,hy,hk,hpos⟩ r2 h2 q4 d2=>?_)
 rotate_left
 . simp only [bRpL,q4]
   exact .inr ⟨fun q=>by have:=q.plain x y hx hy hk;omega,rfl⟩
 simp only [jo,if_true,iy]
 have q0':r2 0 = .pointer (some ⟨gp,0,none⟩):=q0.trans (by simp (disch:=decide) only [bRpL])
 have q1':r2 1=rv:=q1.trans (by simp (disch:=decide) only [bRpL,hrv])
 have cg2:∀j,af G h2 ⟨gp,j,none⟩=_:=fun j=>aj (ai go2.hd)
 unfold Y0
 try simp only [bRpL,q0',cg2]
 rw [tt bcC false (by decide) un90 eobool (by kernel_rfl) (by omega) (by omega)]
 intro mb hmb gmb
 have go3:GO (h2.set mb (.cells (bcC.rows (List.replicate (w*k) false)).toArray 4 (0,0))) gp kb w k (f2 w k f []):=(go2.le (di hmb)).congr fun x y _ _=>by simp [f2]
 have mk3:MK (h2.set mb (.cells (bcC.rows (List.replicate (w*k) false)).toArray 4 (0,0))) mb w k (iz []):=by unfold MK;rw [ag,Gu,ua]
 have d3:=d2.set (o := .cells (bcC.rows (List.replicate (w*k) false)).toArray 4 (0,0)) gmb
 generalize h2.set mb (.cells (bcC.rows (List.replicate (w*k) false)).toArray 4 (0,0))=h3 at*
 try simp only [bRpL,q1',hrv]
 have no:¬Dv w k f ro->∀hh,RobR w k gp kb f ro (.bool false) hh:=fun q hh => .inr ⟨q,rfl⟩
 refine b8 (fun m r4 h4=>∃i:Nat,m=ro.length-i/\i<=ro.length/\r4 0 = .pointer (some ⟨gp,0,none⟩)/\r4 7 = .slice (some ⟨mb,0,none⟩) (w*k) (w*k)/\r4 79=rv/\r4 80 = .int .i64 ro.length/\r4 81 = .int .i64 i/\
  (∀p∈ro.take i,cj w k f p=true)/\(∀c∈(ro.take i).flatMap bw,fAt (f1 w k f) c<=0)/\((ro.take i).flatMap bw).Nodup/\
  GO h4 gp kb w k (f2 w k f ((ro.take i).flatMap bw))/\MK h4 mb w k (iz ((ro.take i).flatMap bw))/\Dis G h4) ?_
  (m:=ro.length) ⟨0,rfl,Nat.zero_le _,by simp (disch:=decide) only [bRpL,q0'],by simp (disch:=decide) only [bRpL],by simp (disch:=decide) only [bRpL,q1',hrv],by simp (disch:=decide) only [bRpL],by simp only [bRpL]<;>rfl,by simp,by simp,by simp,by simpa using go3,by simpa using mk3,d3⟩
 rintro m r4 h4 ⟨i,rfl,hi,k0,k7,k79,k80,k81,hfit,hlow,hnd,go4,mk4,d4⟩ X HX
 unfold Yy
 simp only [bRpL,k80,k81]
 refine bm (fun hlt=>?_) (fun hge=>?_)
 rotate_left
 . obtain rfl:i=ro.length:=by omega
   rw [List.take_of_length_le (Nat.le_refl _)]at hfit hlow hnd go4
   try simp (disch:=first|decide|omega) only [bRpL,Nat.reduceAdd,Nat.reduceMul]
   unfold Yz
   simp only [bRpL]
   exact .inl ⟨⟨h8,hpl,hfit,hlow,hnd⟩,rfl,go4⟩
 have hlt':i<ro.length:=by omega
 obtain ⟨y,hy⟩:∃x,ro[i]?=some x:=⟨_,List.getElem?_eq_getElem hlt'⟩
 have hym:y∈ro:=List.mem_of_getElem? hy
 have sv4:=sv h4 d4
 rw [hrv]at sv4
 obtain ⟨b,ofs,eb,z0,z1,z2⟩:=Sees.pose sv4 hy
 subst eb
 unfold Jp
 simp (disch:=first|decide|exact ao|exact am|omega|rfl) only [bRpL,k79,hrv,k81,ix23 (Int.natCast_nonneg i) hlt,z0,z1,z2]
 intro t ht gt
 try rw [yd]
 have go5:GO (h4.set t (.cells #[y.x,y.y,.bool y.d] 30 (0,0))) gp kb w k (f2 w k f ((ro.take i).flatMap bw)):=go4.le (di ht)
 have mk5:MK (h4.set t (.cells #[y.x,y.y,.bool y.d] 30 (0,0))) mb w k (iz ((ro.take i).flatMap bw)):=mk4.le (di ht)
 have bt:(h4.set t (.cells #[y.x,y.y,.bool y.d] 30 (0,0))) t=some (.cells #[y.x,y.y,.bool y.d] 30 (0,0)):=ag
 have d5:=d4.set (o := .cells #[y.x,y.y,.bool y.d] 30 (0,0)) gt
 generalize h4.set t (.cells #[y.x,y.y,.bool y.d] 30 (0,0))=h5 at*
 have ct:∀j,af G h5 ⟨t,j,none⟩=_:=fun j=>aj (ai bt)
 try simp only [bRpL,ct,k0]
 refine (nt (p:=y) (go5.gs (G:=G)) st (hp y hym)).mono ?_
 rintro _ h5 ⟨rfl,rfl⟩
 have hop:∀c∈(ro.take i).flatMap bw,fAt f c ≠ -1:=by
  intro c hc
  obtain ⟨p,hp1,hp2⟩:=List.mem_flatMap.1 hc
  exact (pd (hfit p hp1) c hp2).2
 rw [zd (f':=f) (fun x y _ _=>Xm hop x y)]
 cases hf:cj w k f y with
 |false=>
  try simp only [bRpL]
  exact no (fun q=>by have:=q.fit y hym;rw [hf]at this;cases this) _
 |true=>
 try simp only [bRpL]
 unfold Jn
 try simp (disch:=decide) only [bRpL,ct,k0]
 refine (pi (p:=y) st (hp y hym)).mono ?_
 rintro _ _ ⟨cb,rfl,hcb,gcb,rfl⟩
 have go6:GO (h5.set cb (.cells #[y.x,y.y,(east y).1,(east y).2] 28 (0,0))) gp kb w k (f2 w k f ((ro.take i).flatMap bw)):=go5.le (di hcb)
 have mk6:MK (h5.set cb (.cells #[y.x,y.y,(east y).1,(east y).2] 28 (0,0))) mb w k (iz ((ro.take i).flatMap bw)):=mk5.le (di hcb)
 have hcs:(h5.set cb (.cells #[y.x,y.y,(east y).1,(east y).2] 28 (0,0))) cb=_:=ag
 have d6:=d5.set (o := .cells #[y.x,y.y,(east y).1,(east y).2] 28 (0,0)) gcb
 generalize h5.set cb (.cells #[y.x,y.y,(east y).1,(east y).2] 28 (0,0))=h6 at*
 try simp only [bRpL]
 have htk:(ro.take (i+1)).flatMap bw=(ro.take i).flatMap bw++bw y:=by rw [fj hy,List.flatMap_append];simp
 refine Z2 (cs:=bw y) (p:=y) _ h6 rfl (fun c hc=>(pd hf c hc).1) hcs (by simp (disch:=decide) only [bRpL,k0]) (by simp (disch:=decide) only [bRpL,k7]) (by simp (disch:=decide) only [bRpL]) (by simp (disch:=decide) only [bRpL]<;>rfl) (by simp only [bRpL]) go6 mk6 d6 hnd (fun hlw hnd2 r7 h7 j0 j7 j79 j80 j81 go7 mk7 d7=>?_) (fun hbad r7 h7 j4 d7=>?_)
 . simp only [jo,if_true,gc,iy]
   unfold Jo
   have j81':r7 81 = .int .i64 i:=j81.trans (by simp (disch:=decide) only [bRpL,k81])
   simp (disch:=first|decide|omega) only [bRpL,j81']
   refine HX (ro.length-(i+1)) _ _ (by omega) ⟨i+1,rfl,hlt',by simp (disch:=decide) only [bRpL,j0,k0],by simp (disch:=decide) only [bRpL,j7,k7],by simp (disch:=decide) only [bRpL,j79,k79],by simp (disch:=decide) only [bRpL,j80,k80],by simp only [bRpL]<;>rfl,?_,?_,?_,?_,?_,d7⟩
   . rw [fj hy]
     intro c hc
     rcases List.mem_append.1 hc with q|q
     . exact hfit c q
     . simp at q;rw [q];exact hf
   . rw [htk]
     intro c hc
     rcases List.mem_append.1 hc with q|q
     . exact hlow c q
     . exact hlw c q
   . rw [htk];exact hnd2
   . rw [htk];exact go7
   . rw [htk];exact mk7
 . simp only [bRpL,j4]
   refine no (fun q=>hbad ⟨fun c hc=>q.low c (List.mem_flatMap.2 ⟨y,hym,hc⟩),?_⟩) _
   have hsub:((ro.take (i+1)).flatMap bw).Nodup:=by
    have e:ro.flatMap bw=(ro.take (i+1)).flatMap bw++(ro.drop (i+1)).flatMap bw:=by rw [<- List.flatMap_append,List.take_append_drop]
    have:=q.once
    rw [e]at this
    exact (List.nodup_append.1 this).1
   rwa [htk]at hsub
def bRpM:=jq bC (jq (jq (jq (jq @al234 @kv) (jq @Th @cf158)) (jq (jq @cf88 @C9) (jq @fa234_0 @Xf))) (jq (jq (jq @Hk @ld234) (jq @ld28 @ld3)) (jq (jq @ld4 @Rq) (jq @ln24 (jq @ju @ag5)))))
theorem un102:P_.underlying 269=some (.map 3 3):=by kernel_rfl
theorem un3:P_.underlying 3=some (.int .i64):=by kernel_rfl
theorem zero3:pa P_ 3=some (.int .i64 0):=by kernel_rfl
theorem mm102 {G h:Hp} {K:VK}:wpH P_ G (Instr.makeMap 269 none) h K=∀r,h r=none->G r=none->K (.map (some r)) (h.set r (.map #[] 0)):=by kernel_rfl
def GStk (G:Hp) (v:Value) (st:List (Cell × List Int)):Prop:=∃raw:List Raw,vm rawC G v raw/\raw.length=st.length/\
 ∀(i:Nat) (r:Raw) (s:Cell × List Int),raw[i]?=some r->st[i]?=some s->(r.x,r.y)=s.1/\r.n=s.2.length/\vm icC G (.slice r.a s.2.length r.c) s.2
theorem GStk.len {G:Hp} {v:Value} {st:List (Cell × List Int)} (g:GStk G v st) {h:Hp} (d:Dis G h):∃sa cap,v = .slice sa st.length cap:=by
 obtain ⟨raw,h1,h2,_⟩:=g
 obtain ⟨sa,cap,e⟩:=(h1 h d).len
 exact ⟨sa,cap,by rw [e,h2]⟩
theorem GStk.get {G:Hp} {sa:Option Addr} {n cap:Nat} {st:List (Cell × List Int)} (g:GStk G (.slice sa n cap) st) {h:Hp} (d:Dis G h) {i:Nat} {s:Cell × List Int} (hs:st[i]?=some s):
 ∃b o a c,sa=some ⟨b,o,none⟩/\af G h ⟨b,o+i*3,none⟩=some (.int .i64 s.1.1)/\af G h ⟨b,o+i*3+1,none⟩=some (.int .i64 s.1.2)/\af G h ⟨b,o+i*3+2,none⟩=some (.slice a s.2.length c)/\vm icC G (.slice a s.2.length c) s.2:=by
 obtain ⟨raw,h1,hl,h2⟩:=g
 have hi:i<raw.length:=by rw [hl];exact (List.getElem?_eq_some_iff.1 hs).1
 have hr:raw[i]?=some raw[i]:=List.getElem?_eq_getElem hi
 obtain ⟨k1,k2,k3⟩:=h2 i _ s hr hs
 obtain ⟨b,o,c,e1,e2⟩:=(h1 h d).get hr
 simp only [Value.slice.injEq]at e1
 have z0:=e2 0 (by decide)
 have z1:=e2 1 (by decide)
 have z2:=e2 2 (by decide)
 simp only [rawC,Nat.add_zero,List.getElem?_cons_zero,List.getElem?_cons_succ]at z0 z1 z2
 refine ⟨b,o,_,_,e1.1,?_,?_,?_,k3⟩
 . rw [z0,<- k1]
 . rw [z1,<- k1]
 . rw [z2,k2]
theorem GO.past {h:Hp} {gp kb w k:Nat} {f:Nat->Nat->Int} (g:GO h gp kb w k f) {b:Nat} {p o:Obj} (hb:h b=some p) (hp:gm p=false):GO (h.set b o) gp kb w k f:=by
 have n1:gp≠b:=fun q=>by have:=g.hd;rw [q,hb]at this;cases this;cases hp
 have n2:kb≠b:=fun q=>by have:=g.row;rw [q,hb]at this;cases this;cases hp
 exact ⟨by rw [av n1];exact g.hd,by rw [av n2];exact g.row,g.w1,g.w2,g.k1,g.k2⟩
theorem MK.past {h:Hp} {mb w k:Nat} {f:Nat->Nat->Bool} (g:MK h mb w k f) {b:Nat} {p o:Obj} (hb:h b=some p) (hp:gm p=false):MK (h.set b o) mb w k f:=by
 unfold MK at*
 have n1:mb≠b:=fun q=>by rw [q,hb]at g;cases g;cases hp
 rw [av n1];exact g
structure NM (h:Hp) (mp:Nat) (B:List Int):Prop where
 ex:∃o L,h mp=some o/\MapO o L/\L.map (·.1)=B/\∀p∈L,p.2 = .int .i64 1
theorem mget_in {L:List (Int × Value)} (h:∀p∈L,p.2 = .int .i64 1) {b:Int}:(mget L b).getD (.int .i64 0) = .int .i64 (if b∈L.map (·.1)then 1 else 0):=by
 induction L with
 |nil=>rfl
 |cons p L ih=>
  rw [rr]
  by_cases e:p.1=b
  . rw [if_pos e,if_pos (by rw [List.map_cons,e];exact .head _)]
    exact h p (.head _)
  . rw [if_neg e,ih fun q hq=>h q (.tail _ hq)]
    congr 1
    simp only [List.map_cons,List.mem_cons]
    by_cases hm:b∈L.map (·.1)
    . simp [hm]
    . have e2:¬b=p.1:=fun q=>e q.symm
      simp [hm,e2]
theorem NM.put {G h:Hp} {mp:Nat} {B:List Int} (n:NM h mp B) {b:Int} (hb:b∉B) {K:Unit->Hp->Prop} (H:∀o',NM (h.set mp o') mp (B++[b])->K () (h.set mp o')):
 wpH P_ G (Instr.mapUpdate 269 (.map (some mp)) (.int .i64 b) (.int .i64 1)) h K:=by
 obtain ⟨o,L,h1,h2,h3,h4⟩:=n
 refine vw un102 un3 h1 h2 fun o' m'=>H o' ⟨o',_,ag,m',?_,?_⟩
 . rw [Ld,h3,if_neg hb]
 . have:midx L b=none:=by
    unfold midx
    rw [List.findIdx?_eq_none_iff]
    intro p hp
    have:p.1≠b:=fun e=>hb (by rw [<- h3,<- e];exact List.mem_map_of_mem (f:=(·.1)) hp)
    simpa using this
   unfold mput
   rw [this]
   intro p hp
   rcases List.mem_append.1 hp with q|q
   . exact h4 p q
   . simp at q;rw [q]
theorem Zs {G:Hp} {gp kb mb mp w k:Nat} {f:Nat->Nat->Int} {mf:Nat->Nat->Bool} {KK:EK} {L B0:List Int} {v:Value} (r:Rg) (h:Hp) (sv:vm icC G v L) (hL:L.length<=100000) (hB0:B0.length<=512)
 (g8:r 8 = .map (some mp)) (g54:r 54=v) (g55:r 55 = .int .i64 L.length) (g56:r 56 = .int .i64 0)
 (go:GO h gp kb w k f) (mk:MK h mb w k mf) (nm:NM h mp B0) (d:Dis G h) (hnd0:B0.Nodup)
 (H1:(∀b∈L,ax b 1 1000000000=true)->(B0++L).Nodup->(B0++L).length<=512->∀(r':Rg) h',r' 0=r 0->r' 2=r 2->r' 7=r 7->r' 8=r 8->r' 20=r 20->r' 21=r 21->r' 22=r 22->GO h' gp kb w k f->MK h' mb w k mf->NM h' mp (B0++L)->Dis G h'->KK (.exit 2) r' h')
 (H2:¬((∀b∈L,ax b 1 1000000000=true)/\(B0++L).Nodup/\(B0++L).length<=512)->∀(r':Rg) h',r' 6 = .bool false->Dis G h'->KK .ret r' h'):ci (Ca G) r h KK:=by
 obtain ⟨sa,cap,hve⟩:=(sv h d).len
 refine b8 (fun m r2 h3=>∃j:Nat,m=L.length-j/\j<=L.length/\r2 0=r 0/\r2 2=r 2/\r2 7=r 7/\r2 8=r 8/\r2 20=r 20/\r2 21=r 21/\r2 22=r 22/\r2 54=r 54/\r2 55=r 55/\r2 56 = .int .i64 j/\(∀b∈L.take j,ax b 1 1000000000=true)/\(B0++L.take j).Nodup/\(B0++L.take j).length<=512/\
  GO h3 gp kb w k f/\MK h3 mb w k mf/\NM h3 mp (B0++L.take j)/\Dis G h3) ?_
  (m:=L.length) ⟨0,rfl,Nat.zero_le _,rfl,rfl,rfl,rfl,rfl,rfl,rfl,rfl,rfl,by rw [g56];rfl,by simp,by simpa using hnd0,by simpa using hB0,go,mk,by simpa using nm,d⟩
 rintro m r2 h3 ⟨j,rfl,hj,q0,q2,q7,q8,q20,q21,q22,q54,q55,q56,hok,hnd,hle,go,mk,nm,d3⟩ X HX
 rw [g8]at q8
 rw [g54,hve]at q54
 rw [g55]at q55
 unfold Ca
 simp only [bRpM,q55,q56]
 refine bm (fun hlt=>?_) (fun hge=>?_)
 rotate_left
 . obtain rfl:j=L.length:=by omega
   rw [List.take_of_length_le (Nat.le_refl _)]at hok hnd hle nm
   exact H1 hok hnd hle _ _ (by simp (disch:=decide) only [bRpM,q0]) (by simp (disch:=decide) only [bRpM,q2]) (by simp (disch:=decide) only [bRpM,q7]) (by simp (disch:=decide) only [bRpM,q8,g8]) (by simp (disch:=decide) only [bRpM,q20]) (by simp (disch:=decide) only [bRpM,q21]) (by simp (disch:=decide) only [bRpM,q22]) go mk nm d3
 have hlt':j<L.length:=by omega
 obtain ⟨y,hy⟩:∃x,L[j]?=some x:=⟨_,List.getElem?_eq_getElem hlt'⟩
 have hym:y∈L:=List.mem_of_getElem? hy
 have sv3:=sv h3 d3
 rw [hve]at sv3
 obtain ⟨b,ofs,eb,z0⟩:=Sees.int sv3 hy
 subst eb
 have htk:B0++L.take (j+1)=(B0++L.take j)++[y]:=by rw [fj hy,List.append_assoc]
 have hpre:∀{P:Prop},(((B0++L.take (j+1)).Nodup/\(B0++L.take (j+1)).length<=512->P)->((B0++L).Nodup/\(B0++L).length<=512->P)):=by
  intro P h q
  have e:B0++L=(B0++L.take (j+1))++L.drop (j+1):=by rw [List.append_assoc,List.take_append_drop]
  rw [e]at q
  refine h ⟨(List.nodup_append.1 q.1).1,?_⟩
  have:=q.2
  rw [List.length_append]at this;omega
 obtain ⟨o,ML,n1,n2,n3,n4⟩:=id nm.ex
 have nlk:HL.look G h3 mp=some o:=ai n1
 unfold Bk
 simp (disch:=decide) only [bRpM,q54,q56,R1 (Int.natCast_nonneg j) hlt,Nat.mul_one,z0]
 refine (ji (n:=y) (a:=1) (b:=1000000000)).mono ?_
 rintro _ h3 ⟨rfl,rfl⟩
 cases hw:ax y 1 1000000000 with
 |false=>
  try simp only [bRpM]
  exact H2 (fun q=>by have:=q.1 y hym;rw [hw]at this;cases this) _ _ (by simp only [bRpM]) d3
 |true=>
 try simp only [bRpM,q8,Uq un102 un3 zero3 nlk n2,mget_in n4,n3]
 by_cases hm:y∈B0++L.take j
 . try simp only [bRpM,if_pos hm,show decide ((1:Int)>0)=true from rfl]
   refine H2 (fun q=>hpre (P:=False) (fun ⟨q1,_⟩=>?_) q.2) _ _ (by simp only [bRpM]) d3
   rw [htk]at q1
   exact (List.nodup_append.1 q1).2.2 y hm y (by simp) rfl
 try simp only [bRpM,if_neg hm,show decide ((0:Int)>0)=false from rfl,q8,ab0 un102 nlk n2]
 have hll:ML.length=(B0++L.take j).length:=by rw [<- n3,List.length_map]
 by_cases h512:(B0++L.take j).length=512
 . try simp only [bRpM,hll,h512,show (((512:Nat):Int)==512)=true from rfl]
   refine H2 (fun q=>hpre (P:=False) (fun ⟨_,q1⟩=>?_) q.2) _ _ (by simp only [bRpM]) d3
   rw [htk,List.length_append,h512]at q1
   simp at q1
 have e512:(((B0++L.take j).length:Int)==512)=false:=by
  have:((B0++L.take j).length:Int)≠512:=by omega
  simpa using this
 try simp only [bRpM,hll,e512]
 unfold Bi
 try simp (disch:=decide) only [bRpM,q8]
 refine NM.put nm hm fun o' nm'=>?_
 unfold Bj
 try simp (disch:=first|decide|omega) only [bRpM,q56]
 refine HX (L.length-(j+1)) _ _ (by omega) ⟨j+1,rfl,hlt',by simp (disch:=decide) only [bRpM,q0],by simp (disch:=decide) only [bRpM,q2],by simp (disch:=decide) only [bRpM,q7],by simp (disch:=decide) only [bRpM,q8,g8],by simp (disch:=decide) only [bRpM,q20],by simp (disch:=decide) only [bRpM,q21],by simp (disch:=decide) only [bRpM,q22],by simp (disch:=decide) only [bRpM,q54,g54,hve],by simp (disch:=decide) only [bRpM,q55,g55],by simp only [bRpM]<;>rfl,?_,?_,?_,go.past n1 n2.cells,mk.past n1 n2.cells,by rw [htk];exact nm',d3.set (d3 _ _ n1)⟩
 . rw [fj hy]
   intro c hc
   rcases List.mem_append.1 hc with q|q
   . exact hok c q
   . simp at q;rw [q];exact hw
 . rw [htk]
   exact List.nodup_append.2 ⟨hnd,by simp,fun a ha b hb=>by simp at hb;subst hb;exact fun e=>hm (e▸ha)⟩
 . rw [htk,List.length_append]
   simp only [List.length_cons,List.length_nil]
   omega
structure Dk (w k:Nat) (f:Nat->Nat->Int) (ht:Int) (st:List (Cell × List Int)):Prop where
 each:∀s∈st,inW w k s.1=true/\fAt f s.1=0/\(s.2.length:Int)<=ht
 apart:(st.map Prod.fst).Nodup
 nums:∀b∈st.flatMap Prod.snd,ax b 1 1000000000=true
 once:(st.flatMap Prod.snd).Nodup
 most:(st.flatMap Prod.snd).length<=512
def StR (w k gp kb:Nat) (f:Nat->Nat->Int) (ht:Int) (st:List (Cell × List Int)) (u:Value) (h':Hp):Prop:=
 (Dk w k f ht st/\u = .bool true/\GO h' gp kb w k f)\/(¬Dk w k f ht st/\u = .bool false)
theorem Ql {G h:Hp} {gp kb w k:Nat} {f:Nat->Nat->Int} {ht:Int} {st:List (Cell × List Int)} {sv:Value} (go:GO h gp kb w k f) (gs:GStk G sv st) (hht:ht<=8) (hsl:st.length<=100000000000000):
 al P_ G 132 #[.pointer (some ⟨gp,0,none⟩),sv,ht] h (StR w k gp kb f ht st):=by
 refine al.assume fun d=>at5 (by simp) ?_
 obtain ⟨sa,cap,hsv⟩:=gs.len d
 have hm2:w*k<=16*16:=Nat.mul_le_mul go.w2 go.k2
 have cg:∀j,af G h ⟨gp,j,none⟩=_:=fun j=>aj (ai go.hd)
 unfold S132
 simp only [bRpM,hsv,cg]
 rw [tt bcC false (by decide) un90 eobool (by kernel_rfl) (by omega) (by omega)]
 intro mb hmb gmb
 have go1:GO (h.set mb (.cells (bcC.rows (List.replicate (w*k) false)).toArray 4 (0,0))) gp kb w k f:=go.le (di hmb)
 have mk1:MK (h.set mb (.cells (bcC.rows (List.replicate (w*k) false)).toArray 4 (0,0))) mb w k (iz []):=by unfold MK;rw [ag,Gu,ua]
 have d1:=d.set (o := .cells (bcC.rows (List.replicate (w*k) false)).toArray 4 (0,0)) gmb
 generalize h.set mb (.cells (bcC.rows (List.replicate (w*k) false)).toArray 4 (0,0))=h1 at*
 try simp only [bRpM,mm102]
 intro mp hmp gmp
 have go2:GO (h1.set mp (.map #[] 0)) gp kb w k f:=go1.le (di hmp)
 have mk2:MK (h1.set mp (.map #[] 0)) mb w k (iz []):=mk1.le (di hmp)
 have nm2:NM (h1.set mp (.map #[] 0)) mp []:=⟨_,[],ag,⟨#[],0,rfl,rfl⟩,rfl,fun p hp=>by cases hp⟩
 have d2:=d1.set (o := .map #[] 0) gmp
 generalize h1.set mp (.map #[] 0)=h2 at*
 try simp (disch:=first|decide|omega) only [bRpM,Nat.reduceAdd,Nat.reduceMul]
 have no:¬Dk w k f ht st->∀hh,StR w k gp kb f ht st (.bool false) hh:=fun q hh => .inr ⟨q,rfl⟩
 refine b8 (fun m r4 h4=>∃i:Nat,m=st.length-i/\i<=st.length/\r4 0 = .pointer (some ⟨gp,0,none⟩)/\r4 2 = .int .i64 ht/\r4 7 = .slice (some ⟨mb,0,none⟩) (w*k) (w*k)/\r4 8 = .map (some mp)/\r4 20=sv/\r4 21 = .int .i64 st.length/\r4 22 = .int .i64 i/\
  (∀s∈st.take i,inW w k s.1=true/\fAt f s.1=0/\(s.2.length:Int)<=ht)/\((st.take i).map Prod.fst).Nodup/\(∀b∈(st.take i).flatMap Prod.snd,ax b 1 1000000000=true)/\((st.take i).flatMap Prod.snd).Nodup/\((st.take i).flatMap Prod.snd).length<=512/\
  GO h4 gp kb w k f/\MK h4 mb w k (iz ((st.take i).map Prod.fst))/\NM h4 mp ((st.take i).flatMap Prod.snd)/\Dis G h4) ?_
  (m:=st.length) ⟨0,rfl,Nat.zero_le _,by simp (disch:=decide) only [bRpM],by simp (disch:=decide) only [bRpM],by simp (disch:=decide) only [bRpM],by simp (disch:=decide) only [bRpM],by simp (disch:=decide) only [bRpM,hsv],by simp (disch:=decide) only [bRpM],by simp only [bRpM]<;>rfl,by simp,by simp,by simp,by simp,by simp,go2,by simpa using mk2,by simpa using nm2,d2⟩
 rintro m r4 h4 ⟨i,rfl,hi,k0,k2,k7,k8,k20,k21,k22,hea,hap,hnu,hon,hmo,go4,mk4,nm4,d4⟩ X HX
 unfold Yw
 simp only [bRpM,k21,k22]
 refine bm (fun hlt=>?_) (fun hge=>?_)
 rotate_left
 . obtain rfl:i=st.length:=by omega
   rw [List.take_of_length_le (Nat.le_refl _)]at hea hap hnu hon hmo
   try simp (disch:=first|decide|omega) only [bRpM,Nat.reduceAdd,Nat.reduceMul]
   unfold Yx
   simp only [bRpM]
   exact .inl ⟨⟨hea,hap,hnu,hon,hmo⟩,rfl,go4⟩
 have hlt':i<st.length:=by omega
 obtain ⟨y,hy⟩:∃x,st[i]?=some x:=⟨_,List.getElem?_eq_getElem hlt'⟩
 have hym:y∈st:=List.mem_of_getElem? hy
 have gs4:=gs
 rw [hsv]at gs4
 obtain ⟨b,ofs,a,c,eb,z0,z1,z2,z3⟩:=gs4.get d4 hy
 subst eb
 unfold Jm
 simp (disch:=first|decide|exact ao|exact am|omega|rfl) only [bRpM,k20,hsv,k22,ix24 (Int.natCast_nonneg i) hlt,z0,z1,z2]
 intro t ht' gt
 try rw [ag5]
 have go5:GO (h4.set t (.cells #[y.1.1,y.1.2,.slice a y.2.length c] 234 (0,0))) gp kb w k f:=go4.le (di ht')
 have mk5:MK (h4.set t (.cells #[y.1.1,y.1.2,.slice a y.2.length c] 234 (0,0))) mb w k (iz ((st.take i).map Prod.fst)):=mk4.le (di ht')
 have nm5:NM (h4.set t (.cells #[y.1.1,y.1.2,.slice a y.2.length c] 234 (0,0))) mp ((st.take i).flatMap Prod.snd):=by
  obtain ⟨o,L,n1,n2⟩:=nm4
  exact ⟨o,L,di ht' _ _ n1,n2⟩
 have bt:(h4.set t (.cells #[y.1.1,y.1.2,.slice a y.2.length c] 234 (0,0))) t=some (.cells #[y.1.1,y.1.2,.slice a y.2.length c] 234 (0,0)):=ag
 have d5:=d4.set (o := .cells #[y.1.1,y.1.2,.slice a y.2.length c] 234 (0,0)) gt
 generalize h4.set t (.cells #[y.1.1,y.1.2,.slice a y.2.length c] 234 (0,0))=h5 at*
 have ct:∀j,af G h5 ⟨t,j,none⟩=_:=fun j=>aj (ai bt)
 try simp only [bRpM,ct,k0]
 refine (Ny (c:=y.1) (go5.gs (G:=G))).mono ?_
 rintro _ h5 ⟨rfl,rfl⟩
 cases hst:(inW w k y.1&&(fAt f y.1==0))with
 |false=>
  try simp only [bRpM]
  refine no (fun q=>?_) _
  obtain ⟨q1,q2,_⟩:=q.each y hym
  rw [q1,q2]at hst
  cases hst
 |true=>
 have hst':=hst
 simp only [Bool.and_eq_true,beq_iff_eq]at hst'
 obtain ⟨hc',hf0⟩:=hst'
 try simp only [bRpM,ct,k0,k7]
 refine (og (c:=y.1) (go5.gs (G:=G))).mono ?_
 rintro _ h5 ⟨rfl,rfl⟩
 obtain ⟨hn,hx,hyk,hlt2⟩:=yw hc'
 obtain ⟨a1,a2,a3,a4⟩:=i7.1 hc'
 have hxy:((y.1.1.toNat:Int),(y.1.2.toNat:Int))=y.1:=by rw [Int.toNat_of_nonneg a1,Int.toNat_of_nonneg a3]
 have mg:=Un (G:=G) mk5 (Hp.le.refl _) hx hyk
 rw [show iz ((st.take i).map Prod.fst) y.1.1.toNat y.1.2.toNat=decide (y.1∈(st.take i).map Prod.fst)by unfold iz;rw [hxy]]at mg
 have m6:=mk5.put (v:=true) hx hyk
 have hn0:=hn
 rw [hn]
 generalize hnn:y.1.2.toNat*w+y.1.1.toNat=n at hn hlt2 mg m6
 try simp only [bRpM,D9 hlt2,mg]
 by_cases hmem:y.1∈(st.take i).map Prod.fst
 . try simp only [bRpM,decide_eq_true hmem]
   refine no (fun q=>ut (L:=st.map Prod.fst) (i:=i) (x:=y.1) (by rw [List.getElem?_map,hy];rfl) ?_ q.apart) _
   rw [<- List.map_take];exact hmem
 try simp only [bRpM,decide_eq_false hmem,ct,k2]
 by_cases hlen:(y.2.length:Int)<=ht
 rotate_left
 . try simp only [bRpM,show decide ((y.2.length:Int)>ht)=true from decide_eq_true (by omega)]
   exact no (fun q=>hlen (q.each y hym).2.2) _
 try simp only [bRpM,show decide ((y.2.length:Int)>ht)=false from decide_eq_false (by omega)]
 unfold Jk
 try simp (disch:=decide) only [bRpM,ct,k0]
 refine (og (c:=y.1) (go5.gs (G:=G))).mono ?_
 rintro _ h5 ⟨rfl,rfl⟩
 rw [hn]
 try simp only [bRpM,k7,D9 hlt2]
 rw [bz sz4 rfl mk5 (by rw [bcC.rows_length,du];simp [bcC];exact hlt2)]
 have go6:=go5.other (o := .cells ((bcC.rows (jz w k (iz ((st.take i).map Prod.fst)))).set n (.bool true)).toArray 4 (0,0)) mk5 (by decide) (by decide)
 have nm6:NM (h5.set mb (.cells ((bcC.rows (jz w k (iz ((st.take i).map Prod.fst)))).set n (.bool true)).toArray 4 (0,0))) mp ((st.take i).flatMap Prod.snd):=by
  obtain ⟨o,L,n1,n2,n3⟩:=nm5
  exact ⟨o,L,by rw [av (fun q=>by unfold MK at mk5;rw [<- q,n1]at mk5;cases mk5;exact absurd n2.cells (by simp [gm]))];exact n1,n2,n3⟩
 have bt6:(h5.set mb (.cells ((bcC.rows (jz w k (iz ((st.take i).map Prod.fst)))).set n (.bool true)).toArray 4 (0,0))) t=_:=(av (fun q=>by unfold MK at mk5;rw [<- q,bt]at mk5;simp at mk5)).trans bt
 have d6:Dis G (h5.set mb (.cells ((bcC.rows (jz w k (iz ((st.take i).map Prod.fst)))).set n (.bool true)).toArray 4 (0,0))):=d5.set (d5 _ _ mk5)
 generalize h5.set mb (.cells ((bcC.rows (jz w k (iz ((st.take i).map Prod.fst)))).set n (.bool true)).toArray 4 (0,0))=h6 at*
 have ct6:∀j,af G h6 ⟨t,j,none⟩=_:=fun j=>aj (ai bt6)
 try simp only [bRpM,ct6]
 have mk7:MK h6 mb w k (iz ((st.take (i+1)).map Prod.fst)):=by
  rw [fj hy,List.map_append,List.map_singleton,D4 a1 a3]
  exact m6
 have hft:(st.take (i+1)).flatMap Prod.snd=(st.take i).flatMap Prod.snd++y.2:=by rw [fj hy,List.flatMap_append];simp
 refine Zs (L:=y.2) (B0:=(st.take i).flatMap Prod.snd) _ h6 z3 (by omega) hmo (by simp (disch:=decide) only [bRpM,k8]) (by simp (disch:=decide) only [bRpM]) (by simp (disch:=decide) only [bRpM]) (by simp only [bRpM]) go6 mk7 nm6 d6 hon (fun hw2 hnd2 hl2 r7 h7 j0 j2 j7 j8 j20 j21 j22 go7 mk8 nm8 d7=>?_) (fun hbad r7 h7 j6 d7=>?_)
 . simp only [jo,if_true,gc,iy]
   unfold Jl
   have j22':r7 22 = .int .i64 i:=j22.trans (by simp (disch:=decide) only [bRpM,k22])
   simp (disch:=first|decide|omega) only [bRpM,j22']
   refine HX (st.length-(i+1)) _ _ (by omega) ⟨i+1,rfl,hlt',by simp (disch:=decide) only [bRpM,j0,k0],by simp (disch:=decide) only [bRpM,j2,k2],by simp (disch:=decide) only [bRpM,j7,k7],by simp (disch:=decide) only [bRpM,j8,k8],by simp (disch:=decide) only [bRpM,j20,k20],by simp (disch:=decide) only [bRpM,j21,k21],by simp only [bRpM]<;>rfl,?_,?_,?_,?_,?_,go7,mk8,by rw [hft];exact nm8,d7⟩
   . rw [fj hy]
     intro s hs
     rcases List.mem_append.1 hs with q|q
     . exact hea s q
     . simp at q;rw [q];exact ⟨hc',hf0,hlen⟩
   . rw [fj hy,List.map_append]
     exact List.nodup_append.2 ⟨hap,by simp,fun p hp q hq=>by simp at hq;subst hq;exact fun e=>hmem (e▸hp)⟩
   . rw [hft]
     intro c hc
     rcases List.mem_append.1 hc with q|q
     . exact hnu c q
     . exact hw2 c q
   . rw [hft];exact hnd2
   . rw [hft];exact hl2
 . simp only [bRpM,j6]
   have e:st.flatMap Prod.snd=((st.take i).flatMap Prod.snd++y.2)++(st.drop (i+1)).flatMap Prod.snd:=by rw [<- hft,<- List.flatMap_append,List.take_append_drop]
   refine no (fun q=>hbad ⟨fun c hc=>q.nums c (List.mem_flatMap.2 ⟨y,hym,hc⟩),?_,?_⟩) _
   . have:=q.once
     rw [e]at this
     exact (List.nodup_append.1 this).1
   . have:=q.most
     rw [e,List.length_append]at this
     omega
def bRpN:=jq bC (jq (jq (jq (jq @Au @Th) (jq @cf130 (jq @cf131 @cf132))) (jq (jq @F7 @F6) (jq @Xd (jq @Xc @F5)))) (jq (jq (jq @an5 @H6) (jq @U6 (jq @H5 @O2))) (jq (jq @O1 (jq @ld23 @ld24)) (jq @ld26 (jq @ld3 @Rq)))))
def wC (C:Conf):Nat:=C.w.toNat
def kC (C:Conf):Nat:=C.h.toNat
def f0C (C:Conf):Nat->Nat->Int:=kd (C.bl++C.po) C.bl.length
def f3C (C:Conf):Nat->Nat->Int:=f2 (wC C) (kC C) (f0C C) (C.ro.flatMap bw)
structure dh (C:Conf):Prop where
 six:∀n∈[C.un,C.ac,C.sp,C.tu,C.ho,C.re],ax n 1 1000=true
 ht:ax C.ht 1 8=true
 qu:ax C.qu 1 16=true
 bu:ax C.bu 1 1048576=true
 laid:Qe C
 rob:Dv (wC C) (kC C) (f0C C) C.ro
 sta:Dk (wC C) (kC C) (f3C C) C.ht C.st
def MadeR (G h:Hp) (C:Conf) (u:Value) (h':Hp):Prop:=h.le h'/\Dis G h'/\
 ((dh C/\∃ga gp kb,u = .pointer (some ⟨gp,0,none⟩)/\GO ga gp kb (wC C) (kC C) (f3C C)/\Sep [ga,h] h')\/(¬dh C/\u = .pointer none))
theorem CA.gstk {G h h0 a:Hp} {C:Conf} {ab:Option Addr} {cb:Nat} {ap:Option Addr} {cp:Nat} {ar:Option Addr} {cr:Nat} {az:Option Addr} {cs:Nat} (ca:CA G h0 C ab cb ap cp ar cr az cs) (s:Sep [a,h0] h) (d:Dis G h):GStk (under G h a) (.slice az C.st.length cs) C.st:=by
 obtain ⟨raw,h1,h2⟩:=ca.st
 refine ⟨raw,h1.gnd s d,?_,fun i r t hr ht=>?_⟩
 . obtain ⟨sa,c,e⟩:=h1.len
   simp only [Value.slice.injEq]at e
   exact e.2.1.symm
 . obtain ⟨k1,k2,k3⟩:=h2 i r t hr ht
   exact ⟨k1,k2,k3.gnd s d⟩
theorem Li {G h:Hp} {v:Value} {C:Conf} (hv:CV G h v C) (st:jb G) (hp:∀p∈C.ro,PB p) (hsl:C.st.length<=100000000000000):al P_ G 80 #[v] h (MadeR G h C):=by
 obtain ⟨ab,cb,ap,cp,ar,cr,az,cs,rfl,ca⟩:=hv
 refine al.assume fun d=>enter80 (by simp) ?_
 unfold S80
 simp only [bRpN]
 intro x hx gx
 generalize e1:Hp.set h x _=h1
 obtain ⟨l1,d1,b1⟩:=boxed e1 hx d gx
 have cx:∀j,af G h1 ⟨x,j,none⟩=_:=fun j=>aj (ai b1)
 try simp (disch:=first|decide|omega) only [bRpN,Nat.reduceAdd,Nat.reduceMul,cx]
 intro nb hnb gnb
 generalize e2:Hp.set h1 nb _=h2
 obtain ⟨l2,d2,b2⟩:=boxed e2 hnb d1 gnb
 have L2:=l1.trans l2
 have cx2:∀j,af G h2 ⟨x,j,none⟩=_:=fun j=>aj (ai (l2 _ _ b1))
 have sv:Sees icC G h2 (.slice (some ⟨nb,0,none⟩) 6 6) [C.un,C.ac,C.sp,C.tu,C.ho,C.re]:=Sees.row (c:=icC) (L:=[C.un,C.ac,C.sp,C.tu,C.ho,C.re]) b2 rfl (Nat.le_refl _)
 have no:∀{hh:Hp},¬dh C->h.le hh->Dis G hh->MadeR G h C (.pointer none) hh:=fun q l d=>⟨l,d,.inr ⟨q,rfl⟩⟩
 try simp (disch:=first|decide|omega) only [bRpN,Nat.reduceAdd,Nat.reduceMul]
 refine b8 (fun m r h3=>∃j:Nat,m=6-j/\j<=6/\r 1 = .pointer (some ⟨x,0,none⟩)/\r 19 = .slice (some ⟨nb,0,none⟩) 6 6/\r 20 = .int .i64 6/\r 21 = .int .i64 j/\h3=h2/\∀n∈[C.un,C.ac,C.sp,C.tu,C.ho,C.re].take j,ax n 1 1000=true) ?_
  (m:=6) ⟨0,rfl,by decide,by simp (disch:=decide) only [bRpN],by simp (disch:=decide) only [bRpN],by simp (disch:=decide) only [bRpN]<;>rfl,by simp only [bRpN]<;>rfl,rfl,by simp⟩
 rintro m r h3 ⟨j,rfl,hj,g1,g19,g20,g21,rfl,hw⟩ X HX
 unfold az4
 simp only [bRpN,g20,g21]
 refine bm (fun hlt=>?_) (fun hge=>?_)
 . have hlt':j<6:=by omega
   obtain ⟨y,hy⟩:∃n,[C.un,C.ac,C.sp,C.tu,C.ho,C.re][j]?=some n:=⟨_,List.getElem?_eq_getElem (by simpa using hlt')⟩
   obtain ⟨b,o,eb,z0⟩:=Sees.int sv hy
   cases eb
   rw [Nat.zero_add]at z0
   unfold Mt
   simp (disch:=decide) only [bRpN,g19,g21,R1 (Int.natCast_nonneg j) (show (j:Int)<(6:Nat)by omega),Nat.mul_one,z0]
   refine (ji (n:=y) (a:=1) (b:=1000)).mono ?_
   rintro _ h3 ⟨rfl,rfl⟩
   cases hb:ax y 1 1000 with
   |false=>
    try simp only [bRpN]
    exact no (fun q=>by have:=q.six y (List.mem_of_getElem? hy);rw [hb]at this;cases this) L2 d2
   |true=>
    try simp only [bRpN]
    unfold Ms
    simp (disch:=first|decide|omega) only [bRpN,g21]
    refine HX (6-(j+1)) _ _ (by omega) ⟨j+1,rfl,hlt',by simp (disch:=decide) only [bRpN,g1],by simp (disch:=decide) only [bRpN,g19],by simp (disch:=decide) only [bRpN,g20],by simp only [bRpN]<;>rfl,rfl,?_⟩
    rw [fj hy]
    intro c hc
    rcases List.mem_append.1 hc with q|q
    . exact hw c q
    . simp at q;rw [q];exact hb
 obtain rfl:j=6:=by omega
 rw [List.take_of_length_le (by simp)]at hw
 try simp (disch:=first|decide|omega) only [bRpN,Nat.reduceAdd,Nat.reduceMul]
 unfold az7
 try simp (disch:=decide) only [bRpN,g1,cx2]
 refine (ji (n:=C.ht) (a:=1) (b:=8)).mono ?_
 rintro _ h3 ⟨rfl,rfl⟩
 cases hht:ax C.ht 1 8 with
 |false=>try simp only [bRpN];exact no (fun q=>absurd (q.ht.symm.trans hht) (by decide)) L2 d2
 |true=>
 try simp only [bRpN,g1,cx2]
 refine (ji (n:=C.qu) (a:=1) (b:=16)).mono ?_
 rintro _ h3 ⟨rfl,rfl⟩
 cases hqu:ax C.qu 1 16 with
 |false=>try simp only [bRpN];exact no (fun q=>absurd (q.qu.symm.trans hqu) (by decide)) L2 d2
 |true=>
 try simp only [bRpN,g1,cx2]
 refine (ji (n:=C.bu) (a:=1) (b:=1048576)).mono ?_
 rintro _ h3 ⟨rfl,rfl⟩
 cases hbu:ax C.bu 1 1048576 with
 |false=>try simp only [bRpN];exact no (fun q=>absurd (q.bu.symm.trans hbu) (by decide)) L2 d2
 |true=>
 try simp only [bRpN]
 unfold az6
 try simp (disch:=decide) only [bRpN,g1,cx2]
 have ca2:=ca.up L2 d2
 refine (ab4 ca2.cv).mono ?_
 rintro _ h4 ⟨l4,d4,⟨hl,ga,gp,kb,rfl,go,s4⟩|⟨hl,rfl⟩⟩
 rotate_left
 . try simp only [bRpN]
   exact no (fun q=>hl q.laid) (L2.trans l4) d4
 have cx4:∀j,af G h4 ⟨x,j,none⟩=_:=fun j=>aj (ai (l4 _ _ (l2 _ _ b1)))
 try simp only [bRpN,g1,cx4]
 refine (s4.on (Q1 (w:=wC C) (k:=kC C) (f:=f0C C) go (st.under d4 s4.hd) (ca2.ro.gnd s4 d4) hp)).mono ?_
 rintro _ h5 ⟨ga5,⟨hr,rfl,go5⟩|⟨hr,rfl⟩,s5,d5⟩
 rotate_left
 . try simp only [bRpN]
   exact no (fun q=>hr q.rob) (L2.trans (s5.in 1 rfl)) d5
 have cx5:∀j,af G h5 ⟨x,j,none⟩=_:=fun j=>aj (ai (s5.in 1 rfl _ _ (l2 _ _ b1)))
 try simp only [bRpN,g1,cx5]
 have hht8:C.ht<=8:=by unfold ax at hht;simp only [Bool.and_eq_true,decide_eq_true_eq]at hht;exact hht.2
 refine (s5.on (Ql (st:=C.st) go5 (ca2.gstk s5 d5) hht8 hsl)).mono ?_
 rintro _ h6 ⟨ga6,⟨hs,rfl,go6⟩|⟨hs,rfl⟩,s6,d6⟩
 rotate_left
 . try simp only [bRpN]
   exact no (fun q=>hs q.sta) (L2.trans (s6.in 1 rfl)) d6
 try simp only [bRpN]
 unfold az5
 try simp (disch:=decide) only [bRpN]
 exact ⟨L2.trans (s6.in 1 rfl),d6,.inl ⟨⟨hw,hht,hqu,hbu,hl,hr,hs⟩,ga6,gp,kb,rfl,go6,(s6.swap.cut L2).swap⟩⟩
def bRpO:=jq bC (jq (jq @cf80 (jq @eq68n @eq68s)) (jq (jq @ld26 @ne68n) (jq @ne68s @jt)))
def NewR (G h:Hp) (C:Conf) (u:Value) (h':Hp):Prop:=h.le h'/\Dis G h'/\
 ((dh C/\∃ga gp kb,u = .tuple #[.pointer (some ⟨gp,0,none⟩),(0:Int)]/\GO ga gp kb (wC C) (kC C) (f3C C)/\Sep [ga,h] h')\/(¬dh C/\u = .tuple #[.pointer none,(5:Int)]))
theorem si {G h:Hp} {v:Value} {C:Conf} (hv:CV G h v C) (st:jb G) (hp:∀p∈C.ro,PB p) (hsl:C.st.length<=100000000000000):al P_ G 37 #[v] h (NewR G h C):=by
 have hv0:=hv
 obtain ⟨ab,cb,ap,cp,ar,cr,az,cs,rfl,ca⟩:=hv
 refine al.assume fun d=>enter37 (by simp) ?_
 unfold S37
 simp (disch:=decide) only [bRpO]
 intro x hx gx
 generalize e1:Hp.set h x _=h1
 obtain ⟨l1,d1,b1⟩:=boxed e1 hx d gx
 have cx:∀j,af G h1 ⟨x,j,none⟩=_:=fun j=>aj (ai b1)
 try simp (disch:=first|decide|omega) only [bRpO,Nat.reduceAdd,Nat.reduceMul,cx]
 refine (Li (ca.up l1 d1).cv st hp hsl).mono ?_
 rintro _ h2 ⟨l2,d2,⟨hm,ga,gp,kb,rfl,go,s2⟩|⟨hm,rfl⟩⟩
 . try simp only [bRpO]
   unfold aC3
   try simp (disch:=decide) only [bRpO]
   exact ⟨l1.trans l2,d2,.inl ⟨hm,ga,gp,kb,rfl,go,(s2.swap.cut l1).swap⟩⟩
 . try simp only [bRpO]
   exact ⟨l1.trans l2,d2,.inr ⟨hm,rfl⟩⟩
theorem ac0 {G h:Hp} {v:Value} {C:Conf} (hv:CV G h v C) (st:jb G) (hp:∀p∈C.ro,PB p) (hsl:C.st.length<=100000000000000):al P_ G 74 #[v] h (fun u h'=>(∃b,u = .bool b/\(b=true↔dh C))/\h'=h):=by
 obtain ⟨ab,cb,ap,cp,ar,cr,az,cs,rfl,ca⟩:=hv
 refine al.assume fun d=>quietly (enter74 (by simp) ?_)
 unfold S74
 simp only [bRpO]
 intro x hx gx
 generalize e1:Hp.set h x _=h1
 obtain ⟨l1,d1,b1⟩:=boxed e1 hx d gx
 have cx:∀j,af G h1 ⟨x,j,none⟩=_:=fun j=>aj (ai b1)
 try simp (disch:=first|decide|omega) only [bRpO,Nat.reduceAdd,Nat.reduceMul,cx]
 refine (Li (ca.up l1 d1).cv st hp hsl).mono ?_
 rintro _ h2 ⟨l2,d2,⟨hm,ga,gp,kb,rfl,go,s2⟩|⟨hm,rfl⟩⟩
 . try simp only [bRpO]
   exact ⟨⟨_,rfl,⟨fun _=>hm,fun _=>rfl⟩⟩,l1.trans l2⟩
 . try simp only [bRpO]
   exact ⟨⟨_,rfl,⟨fun e=>absurd e (by decide),fun q=>(hm q).elim⟩⟩,l1.trans l2⟩
section
variable (G:Hp) (K:EK) (r:Rg) (h:Hp)
end
section
variable (G:Hp) (K:EK) (r:Rg) (h:Hp)
def md28:Nat->Hint
 |_=>mh false [] [] [] false
def S28:Prop:=
 o_ G (Instr.box 26 (r 0)) h fun v0 h0=>o_ G (Instr.alloc 26 true (.tuple #[])) h0 fun v1 h1=>o_ G (Instr.fieldAt 26 v0 3) h1 fun v2 h2=>o_ G (Instr.loadAt 22 v2) h2 fun v3 h3=>o_ G (Builtin.append_ #[22,22] 22 #[(.slice none 0 0),v3]) h3 fun v4 h4=>o_ G (Instr.fieldAt 26 v0 3) h4 fun v5 h5=>
 opH P_ G (su (Instr.storeAt 22 v5 v4)) h5 fun v6 h6=>o_ G (Instr.fieldAt 26 v0 4) h6 fun v7 h7=>o_ G (Instr.loadAt 22 v7) h7 fun v8 h8=>o_ G (Builtin.append_ #[22,22] 22 #[(.slice none 0 0),v8]) h8 fun v9 h9=>o_ G (Instr.fieldAt 26 v0 4) h9 fun v10 h10=>
 opH P_ G (su (Instr.storeAt 22 v10 v9)) h10 fun v11 h11=>o_ G (Instr.fieldAt 26 v0 5) h11 fun v12 h12=>o_ G (Instr.loadAt 23 v12) h12 fun v13 h13=>o_ G (Builtin.append_ #[23,23] 23 #[(.slice none 0 0),v13]) h13 fun v14 h14=>o_ G (Instr.fieldAt 26 v0 5) h14 fun v15 h15=>
 opH P_ G (su (Instr.storeAt 23 v15 v14)) h15 fun v16 h16=>o_ G (Instr.fieldAt 26 v0 6) h16 fun v17 h17=>o_ G (Instr.loadAt 24 v17) h17 fun v18 h18=>
 c_ G 71 #[v18] h18 fun v19 h19=>o_ G (Instr.fieldAt 26 v0 6) h19 fun v20 h20=>
 opH P_ G (su (Instr.storeAt 24 v20 v19)) h20 fun v21 h21=>o_ G (Instr.loadAt 26 v0) h21 fun v22 h22=>
 opH P_ G (su (Instr.storeAt 26 v1 v22)) h22 fun v23 h23=>
 K .ret (u9 (u10 r 1 v0 2 v1 3 v2 4 v3 5 v4 6 v5 7 v7 8 v8 9 v9 10 v10) 11 v12 12 v13 13 v14 14 v15 15 v17 16 v18 17 v19 18 v20 19 v22) h23
theorem enter28:Ent 20 28 [.cell 2 26] S28:=ent_ (m:=md28) (c:=(Tryz.f28.body.getD .skip)) (fun _ _ _ _=>by kernel_rfl) Tryz.func28 rfl rfl rfl
def md71:Nat->Hint
 |5=>mh false [0,0,0,6,14,30,0,0,192,448,960,1984,4094,8190,16383,32767] [n_,n_,n_,n_,n_,m_,n_,n_,n_,n_,m_,e_,n_,.alloc,e_,n_] [false,false,false,false,false,false,false,false,false,false,false,true,false,false,false,false] true
 |_=>mh false [] [] [] false
def aA1 (G:Hp) (K:EK) (r:Rg) (h:Hp):Prop:=
 K .ret (u2 r 26 (r 3) 2 (r 3)) h
def Mu:Prop:=
 o_ G (binOp .add 3 (r 4) (.int .i64 1)) h fun v2 h2=>
 K .normal (u3 r 9 (r 4) 10 v2 4 v2) h2
def Mw:Prop:=
 ∃q3:Hp,q3.le h/\
 p_ (Instr.indexAt 24 (r 0) (r 4)) h fun v4 h4=>
 p_ (Instr.fieldAt 234 v4 0) h4 fun v5 h5=>
 w_ G q3 (Instr.loadAt 28 v5) h5 fun v6 h6=>
 p_ (Instr.indexAt 24 (r 0) (r 4)) h6 fun v7 h7=>
 p_ (Instr.fieldAt 234 v7 1) h7 fun v8 h8=>
 w_ G q3 (Instr.loadAt 168 v8) h8 fun v9 h9=>
 c_ G 122 #[v9] h9 fun v10 h10=>q3.le h10/\
 p_ (Instr.build 234 #[(0,v6),(1,v10)]) h10 fun v11 h11=>o_ G (Instr.buildSlice 24 1 #[(0,v11)]) h11 fun v12 h12=>o_ G (Builtin.append_ #[24,24] 24 #[(r 3),v12]) h12 fun v13 h13=>
 Mu G K (u6 (u10 r 11 (r 3) 12 (r 0) 13 (r 4) 14 v4 15 v5 16 v6 17 (r 0) 18 (r 4) 19 v7 20 v8) 21 v9 22 v10 23 v11 24 v12 25 v13 3 v13) h13
def aA0 (r:Rg) (h:Hp) (K:EK):Prop:=
 o_ G (Builtin.len_ #[24] 3 #[(r 0)]) h fun v0 h0=>o_ G (binOp .lss 3 (r 4) v0) h0 fun v1 h1=>
 cond v1
 (Mw G K (u4 r 5 (r 4) 6 (r 0) 7 v0 8 v1) h1)
 (K (.exit 0) (u4 r 5 (r 4) 6 (r 0) 7 v0 8 v1) h1)
def S71:Prop:=
 ci (aA0 G) (u3 r 2 (.slice none 0 0) 3 (.slice none 0 0) 4 (.int .i64 0)) h (bn 0 (bv (aA1 G K) K))
theorem enter71:Ent 27 71 [.tmp 2] S71:=ent_ (m:=md71) (c:=(Tryz.f71.body.getD .skip)) (fun _ _ _ _=>by kernel_rfl) Tryz.func71 rfl rfl rfl
def md122:Nat->Hint
 |_=>mh false [] [] [] false
def S122:Prop:=
 o_ G (Builtin.append_ #[168,168] 168 #[(.slice none 0 0),(r 0)]) h fun v0 h0=>
 K .ret (u4 r 2 (.slice none 0 0) 3 (r 0) 4 v0 2 v0) h0
theorem au2:Ent 5 122 [.tmp 2] S122:=ent_ (m:=md122) (c:=(Tryz.f122.body.getD .skip)) (fun _ _ _ _=>by kernel_rfl) Tryz.func122 rfl rfl rfl
end
def bRpQ:=jq bC (jq (jq (jq (jq @Bool.true_and @al30) (jq @bd30_ (jq @beq_self_eq_true.{0} @vg))) (jq (jq @Th @Eh) (jq @W8 (jq @Eg @W7)))) (jq (jq (jq @wd @F4) (jq @ld3 (jq @ld30 @ld3p))) (jq (jq @Cr @zy) (jq @jt (jq @yd @st3s)))))
def dxI (d:Int):Int:=if d=1 then 1 else if d=3 then -1 else 0
def dyI (d:Int):Int:=if d=0 then -1 else if d=2 then 1 else 0
def okS (d n:Int):Bool:=ax n 0 16&&ax d 0 3
def gh (p:Pose) (d n:Int):Pose:=⟨wr (p.x+n*dxI d),wr (p.y+n*dyI d),p.d⟩
def lj (p:Pose) (d n:Int):Pose:=if okS d n=true then gh p d n else ⟨0,0,false⟩
theorem wr_bd (x:Int):Bd (wr x):=by
 unfold Bd wr IntKind.wrap
 simp [IntKind.signed,IntKind.bits]
 omega
theorem Ko {x:Int} (h:Bd x):wr x=x:=by
 unfold Bd at h
 exact ky (by omega) (by omega)
theorem Dz {p:Pose} {d n:Int}:PB (gh p d n):=⟨wr_bd _,wr_bd _⟩
theorem dp {n a b:Int}:ax n a b=true↔a<=n/\n<=b:=by
 unfold ax
 simp only [Bool.and_eq_true,decide_eq_true_eq]
 try exact Iff.rfl
theorem jb.ne {G:Hp} (s:jb G) {x:Nat} (gx:G x=none):0≠x:=fun e=>by
 obtain ⟨a,b,s⟩:=s
 subst e
 rw [gx]at s
 cases s
theorem Gs {G h:Hp} {g:Value} {p:Pose} {dir n:Int} (st:jb G):al P_ G 155 #[g,kz p,dir,n] h (fun u h'=>u = .tuple #[kz (lj p dir n),.bool (okS dir n)]/\h'=h):=by
 refine al.assume fun d=>quietly (ar7 (by simp) ?_)
 unfold S155
 simp (disch:=decide) only [bRpQ]
 intro x hx gx y hy gy
 have l:=(di (o := .cells #[p.x,p.y,.bool p.d] 30 (0,0)) hx).trans (di (o := .cells #[(0:Int),(0:Int),.bool false] 30 (0,0)) hy)
 have exy:=jd hy
 unfold lj okS
 try simp (disch:=first|decide|omega) only [bRpQ,Nat.reduceAdd,Nat.reduceMul]
 refine (ji (n:=n) (a:=0) (b:=16)).mono ?_
 rintro _ _ ⟨rfl,rfl⟩
 cases h1:ax n 0 16 with
 |false=>
  try simp (disch:=first|decide|exact ao|exact am|omega|rfl) only [bRpQ]
  first|exact l|exact ⟨rfl,l⟩
 |true=>
 try simp only [bRpQ]
 refine (ji (n:=dir) (a:=0) (b:=3)).mono ?_
 rintro _ _ ⟨rfl,rfl⟩
 cases h2:ax dir 0 3 with
 |false=>
  try simp (disch:=first|decide|exact ao|exact am|omega|rfl) only [bRpQ]
  first|exact l|exact ⟨rfl,l⟩
 |true=>
 have n0:=st.ne gx
 have n1:=st.ne gy
 have c0:=fun j=>st.cell d j
 obtain ⟨a1,a2⟩:=dp.1 h2
 obtain ⟨b1,b2⟩:=dp.1 h1
 try simp (disch:=first|decide|exact ao|exact am|omega|rfl) only [bRpQ]
 unfold Ye
 have hd:dir=0\/dir=1\/dir=2\/dir=3:=by omega
 have hy2:∀o,(h.set x o) y=none:=fun o=>by rw [av (Ne.symm exy)];exact jm hy
 rcases hd with rfl|rfl|rfl|rfl
 . try simp -implicitDefEqProofs (maxSteps:=2000000) (disch:=first|decide|with_reducible exact Nat.ne_of_beq_eq_false rfl|exact ao|exact am|omega|rfl|(simp;done)|fail) only [bRpQ,W2 (by decide:(0:Int)<=0) (by decide:(0:Int)<(4:Nat)),show Int.toNat 0=0 from rfl,Nat.zero_mul,aq exy,aq n0,aq n1,c0,Ew,gg exy]
   exact ⟨rfl,(di hx).trans (di (hy2 _))⟩
 . try simp -implicitDefEqProofs (maxSteps:=2000000) (disch:=first|decide|with_reducible exact Nat.ne_of_beq_eq_false rfl|exact ao|exact am|omega|rfl|(simp;done)|fail) only [bRpQ,Nat.reduceAdd,W2 (by decide:(0:Int)<=1) (by decide:(1:Int)<(4:Nat)),show Int.toNat 1=1 from rfl,Nat.one_mul,aq exy,aq n0,aq n1,c0,Ew,gg exy]
   exact ⟨rfl,(di hx).trans (di (hy2 _))⟩
 . try simp -implicitDefEqProofs (maxSteps:=2000000) (disch:=first|decide|with_reducible exact Nat.ne_of_beq_eq_false rfl|exact ao|exact am|omega|rfl|(simp;done)|fail) only [bRpQ,Nat.reduceAdd,Nat.reduceMul,W2 (by decide:(0:Int)<=2) (by decide:(2:Int)<(4:Nat)),show Int.toNat 2=2 from rfl,aq exy,aq n0,aq n1,c0,Ew,gg exy]
   exact ⟨rfl,(di hx).trans (di (hy2 _))⟩
 . try simp -implicitDefEqProofs (maxSteps:=2000000) (disch:=first|decide|with_reducible exact Nat.ne_of_beq_eq_false rfl|exact ao|exact am|omega|rfl|(simp;done)|fail) only [bRpQ,Nat.reduceAdd,Nat.reduceMul,W2 (by decide:(0:Int)<=3) (by decide:(3:Int)<(4:Nat)),show Int.toNat 3=3 from rfl,aq exy,aq n0,aq n1,c0,Ew,gg exy]
   exact ⟨rfl,(di hx).trans (di (hy2 _))⟩
def dy (p:Pose) (d n:Int):Pose:=⟨if d=1 then wr (p.x+n)else if d=3 then wr (p.x-n)else p.x,if d=0 then wr (p.y-n)else if d=2 then wr (p.y+n)else p.y,p.d⟩
theorem uk {p:Pose} {d n:Int} (hp:PB p) (hd:0<=d/\d<=3):gh p d n=dy p d n:=by
 obtain ⟨h1,h2⟩:=hp
 have hd:d=0\/d=1\/d=2\/d=3:=by omega
 have e:n * -1 = -n:=by omega
 rcases hd with rfl|rfl|rfl|rfl<;>simp [gh,dy,dxI,dyI,Ko h1,Ko h2,Int.mul_one,e,Int.sub_eq_add_neg]
def bRpR:=jq bC (jq (jq (jq @Xz @cf82) (jq @Bu @Eh)) (jq (jq @Eg @ld26) (jq @ld28 (jq @ld3 @true_and))))
theorem Hb {G h:Hp} {a n:Int} (ha:Bd a) (hn:0<n) (hn2:n<=4611686018427387904):al P_ G 25 #[a,n] h (fun v h'=>v = .int .i64 (a % n)/\h'=h):=by
 refine quietly (Xt (by simp) ?_)
 obtain ⟨ha1,ha2⟩:=ha
 unfold S25
 have e1:a.tmod n=if 0<=a\/a % n=0 then a % n else a % n-n:=by
  rw [Int.tmod_eq_emod]
  have:(n.natAbs:Int)=n:=by omega
  by_cases h0:0<=a
  . simp [h0]
  . simp [h0,this,Int.dvd_iff_emod_eq_zero]
    split<;>omega
 have hb:=Int.emod_nonneg a (show n≠0 by omega)
 have hb2:=Int.emod_lt_of_pos a hn
 simp (disch:=first|decide|omega) only [bRpR]
 by_cases hc:0<=a\/a % n=0
 . rw [if_pos hc]at e1
   rw [e1,i8 (show ¬a % n<0 by omega)]
   simp only [bRpR]
   unfold Es
   simp (disch:=decide) only [bRpR]
   exact Hp.le.refl h
 . rw [if_neg hc]at e1
   have:a % n≠0:=fun e=>hc (.inr e)
   rw [e1,je (show a % n-n<0 by omega)]
   simp only [bRpR]
   unfold Es
   simp only [bRpR]
   exact ⟨by congr 1;omega,Hp.le.refl h⟩
structure Move where
 k:Int
 d:Int
 n:Int
 f:Pose
 t:Pose
 a:Int
 e:Int
 deriving DecidableEq
abbrev Lg (m:Move):Value := .agg #[m.k,m.d,m.n,m.f.x,m.f.y,.bool m.f.d,m.t.x,m.t.y,.bool m.t.d,m.a,m.e]
def Yl {α:Type} (enc:α->Value) (G:Hp) (y:Value) (Y Z:List α->Hp->Prop) (c:List α->Bool):Prop:=
 ∀(L:List α) (m:α) (a q h:Hp),Y L a->Sep [a,q] h->Dis G h->
  opH P_ G (ig y #[enc m]) h (fun v h'=>∃a',v = .bool (c (L++[m]))/\Sep [a',q] h'/\Dis G h'/\(if c (L++[m])=true then Y (L++[m]) a' else Z (L++[m]) a'))
def feed {α:Type} (c:List α->Bool):List α->List α->List α × Bool
 |L,[]=>(L,true)
 |L,m::M=>if c (L++[m])=true then feed c (L++[m]) M else (L++[m],false)
theorem H3 {α:Type} {c:List α->Bool} {L M:List α} {m:α} (h:c (L++[m])=true):feed c L (m::M)=feed c (L++[m]) M:=by rw [feed,if_pos h]
theorem Ow {α:Type} {c:List α->Bool} {L M:List α} {m:α} (h:c (L++[m])=false):feed c L (m::M)=(L++[m],false):=by rw [feed,if_neg (by simp [h])]
def A0 {α:Type} (k:Int) (L:List α):Bool:=decide ((L.length:Int)<k)
theorem Aj {α:Type} {k:Int}:∀{M L:List α},(L.length:Int)<k->feed (A0 k) L M=(L++M.take (k.toNat-L.length),decide (((L++M).length:Int)<k))
 |[],L,h=>by simp [feed,h]
 |m::M,L,h=>by
  have e1:k.toNat-L.length=(k.toNat-(L++[m]).length)+1:=by rw [List.length_append,List.length_singleton];omega
  by_cases h2:((L++[m]).length:Int)<k
  . rw [H3 (by unfold A0;exact decide_eq_true h2),Aj h2,e1,List.take_succ_cons]
    simp
  . rw [Ow (by unfold A0;exact decide_eq_false h2)]
    rw [List.length_append,List.length_singleton]at h2
    have e2:k.toNat-(L++[m]).length=0:=by rw [List.length_append,List.length_singleton];omega
    rw [e1,e2]
    simp only [List.take_succ_cons,List.take_zero,List.length_append,List.length_cons,Prod.mk.injEq,true_and]
    symm
    apply decide_eq_false
    omega
def Fin {α:Type} (T:List α × Bool) (Y Z:List α->Hp->Prop) (a:Hp):Prop:=if T.2=true then Y T.1 a else Z T.1 a
def kq {α:Type} (ok:Nat->Bool) (mk:Nat->α):Nat->Nat->List α
 |_,0=>[]
 |n,k+1=>if ok n=true then mk n::kq ok mk (n+1) k else []
def na {α:Type} (D:Nat->List α):Nat->Nat->List α
 |_,0=>[]
 |i,k+1=>D i++na D (i+1) k
def Cx (w k:Nat) (f:Nat->Nat->Int) (p:Pose) (d n:Nat):Bool:=cj w k f (gh p d n)
def uv (p:Pose) (d n:Nat):Move:=⟨1,d,n,p,gh p d n,0,0⟩
def runD (w k:Nat) (f:Nat->Nat->Int) (p:Pose) (d:Nat):List Move:=kq (Cx w k f p d) (uv p d) 1 16
def Ey (w k:Nat) (f:Nat->Nat->Int) (p:Pose):List Move:=na (runD w k f p) 0 4
def RunsR (G q:Hp) (Y Z:List Move->Hp->Prop) (T:List Move × Bool) (h':Hp):Prop:=∃a',Sep [a',q] h'/\Dis G h'/\Fin T Y Z a'
theorem RunsR.go {G q a h':Hp} {Y Z:List Move->Hp->Prop} {T:List Move × Bool} {L:List Move} {c:List Move->Bool} (s:Sep [a,q] h') (d:Dis G h') (y:Y L a) (e:feed c L []=T):RunsR G q Y Z T h':=by
 subst e
 exact ⟨a,s,d,y⟩
def bRpU:=jq bC (jq (jq (jq (jq (jq @Bool.and_true @al28) (jq @al30 (jq @Ip @af1))) (jq (jq @vh @ud) (jq @Ij (jq @cf127 @cf155)))) (jq (jq (jq @cf156 @cf61) (jq @cf62 (jq @cf89 @eq30p))) (jq (jq @Eh @Eg) (jq @wd (jq @F4 @fa30_1p))))) (jq (jq (jq (jq @Ef @fa48_1) (jq @an2 (jq @fa48_2p @fa48_3))) (jq (jq @O0 @Oz) (jq @ld28 (jq @xj @ld3)))) (jq (jq (jq @ld30 @tw) (jq @ld3p (jq @ld48 @ld4p))) (jq (jq @ln22 @jt) (jq @Qm (jq @yd @true_and))))))
def gj (c:Cell):List Cell:=[(c.1,c.2),(wr (c.1+1),c.2),(c.1,wr (c.2+1)),(wr (c.1+1),wr (c.2+1))]
theorem Qn {G h:Hp} {c:Cell}:al P_ G 156 #[vf c] h (fun u h'=>∃ip s,u = .slice s 4 4/\Slc dl 28 ip u (gj c)/\Sep [ip,h] h'/\Dis G h'):=by
 refine al.assume fun d=>ar6 (by simp) ?_
 unfold S156
 simp only [bRpU]
 intro x hx gx
 generalize e1:Hp.set h x _=h1
 obtain ⟨l1,d1,b1⟩:=boxed e1 hx d gx
 have cx:∀j,af G h1 ⟨x,j,none⟩=_:=fun j=>aj (ai b1)
 try simp (disch:=first|decide|omega) only [bRpU,Nat.reduceAdd,Nat.reduceMul,cx]
 intro b hb gb
 refine ⟨noHp.set b _,some ⟨b,0,none⟩,rfl,⟨some b,4,[],rfl,ag,rfl⟩,(Sep.one.new (hb)).swap.cut l1 |>.swap,d1.set gb⟩
def qj (w k:Nat) (f:Nat->Nat->Int) (m:Move) (i:Nat):Bool:=okS m.d i&&cj w k f (gh m.f m.d i)
def Av (p:Pose):Pose:=⟨p.x,p.y,!p.d⟩
def wayB (w k:Nat) (f:Nat->Nat->Int) (m:Move):Bool:=cj w k f m.f&&
 (if m.k=1 then decide (1<=m.n)&&((List.range (m.n.toNat+1)).all (qj w k f m)&&decide (m.t=gh m.f m.d m.n))
  else decide (m.d=0/\m.n=0)&&(if m.k=2 then (gj (m.f.x,m.f.y)).all (ny w k f)&&decide (m.t=Av m.f)else decide (m.k=3\/m.k=4)&&decide (m.t=m.f)))
def wayL (m:Move):List Cell:=if m.k=1 then (List.range (m.n.toNat+1)).flatMap (fun (i:Nat)=>bw (gh m.f m.d i))else if m.k=2 then gj (m.f.x,m.f.y)else bw m.f
def WayR (G h:Hp) (w k:Nat) (f:Nat->Nat->Int) (m:Move) (u:Value) (h':Hp):Prop:=
 ∃ip v L,u = .tuple #[v,.bool (wayB w k f m)]/\Slc dl 28 ip v L/\Sep [ip,h] h'/\Dis G h'/\(wayB w k f m=true->L=wayL m)
theorem WayR.no {G h h':Hp} {w k:Nat} {f:Nat->Nat->Int} {m:Move} (l:h.le h') (d:Dis G h') (e:wayB w k f m=false):WayR G h w k f m (.tuple #[.slice none 0 0,.bool false]) h':=
 ⟨noHp,_,[],by rw [e],Slc.nil,(Sep.one.le l).none,d,fun q=>by rw [e]at q;cases q⟩
theorem WayR.less {G h0 h h':Hp} {w k:Nat} {f:Nat->Nat->Int} {m:Move} {u:Value} (l:h0.le h) (x:WayR G h w k f m u h'):WayR G h0 w k f m u h':=by
 obtain ⟨ip,v,L,e1,e2,s,d,e3⟩:=x
 exact ⟨ip,v,L,e1,e2,(s.swap.cut l).swap,d,e3⟩
structure MB (m:Move):Prop where
 n:Bd m.n
 f:PB m.f
theorem uo {p q:Pose}:((p.x==q.x&&p.y==q.y)&&(p.d==q.d))=decide (p=q):=by
 obtain ⟨a,b,c⟩:=p
 obtain ⟨a',b',c'⟩:=q
 rw [Bool.eq_iff_iff]
 simp [and_assoc]
theorem store30 {G h:Hp} {lb:Nat} {z0 z1 z2:Value} {p:Pose} {K:Unit->Hp->Prop} (hb:h lb=some (.cells #[z0,z1,z2] 30 (0,0))):
 wpH P_ G (Instr.storeAt 30 (.pointer (some ⟨lb,0,none⟩)) (kz p)) h K=K () (h.set lb (.cells #[p.x,p.y,.bool p.d] 30 (0,0))):=by
 conv=>lhs;rw [<- yf hb]
 exact yd
theorem dw {w:Bool} {X:(Value->Hp->Prop)->Prop} {h:Hp} {K:VK}:gd (Gf undef w) X h K=K undef h:=by cases w<;>rfl
abbrev qd (m:Move):Obj := .cells #[m.k,m.d,m.n,m.f.x,m.f.y,.bool m.f.d,m.t.x,m.t.y,.bool m.t.d,m.a,m.e] 48 (0,0)
def E5 (m:Move) (i:Nat):Pose:=if i=0 then m.f else gh m.f m.d ((i:Int)-1)
theorem G6 {s:Nat->Bool} {i:Nat} (h:∀j,j<i->s j=true) (hs:s i=true):∀j,j<i+1->s j=true:=fun j hj=>by
 rcases Nat.lt_succ_iff_lt_or_eq.1 hj with h1|rfl
 . exact h j h1
 . exact hs
theorem ac6 {α:Type} {F:Nat->List α} {i:Nat}:(List.range (i+1)).flatMap F=(List.range i).flatMap F++F i:=by
 rw [List.range_succ,List.flatMap_append]
 simp
theorem Ge {w k:Nat} {f:Nat->Nat->Int} {m:Move} (hk:m.k=1):wayB w k f m=(cj w k f m.f&&(decide (1<=m.n)&&((List.range (m.n.toNat+1)).all (qj w k f m)&&decide (m.t=gh m.f m.d m.n)))):=by
 unfold wayB
 rw [if_pos hk]
theorem way_run {G h h1 h0:Hp} {x lb w k:Nat} {g:Value} {f:Nat->Nat->Int} {m:Move} {r:Rg} (gs:GS G h1 g w k f) (st:jb G) (nb:Bd m.n) (hf:cj w k f m.f=true) (hk:m.k=1)
 (bx:h1 x=some (qd m)) (g0:r 0=g) (g3:r 3 = .pointer (some ⟨x,0,none⟩)) (g6:r 6 = .slice none 0 0) (g7:r 7 = .pointer (some ⟨lb,0,none⟩)) (g8:r 8 = .int .i64 0)
 (s:Sep [noHp.set lb (.cells #[m.f.x,m.f.y,.bool m.f.d] 30 (0,0)),h1] h) (d:Dis G h) (l0:h0.le h1):
 ci (P5 G) r h (bn 1 (bv (P7 G (retK P_ G [.tmp 4,.tmp 5] (WayR G h0 w k f m))) (bn 0 (bv (As G (retK P_ G [.tmp 4,.tmp 5] (WayR G h0 w k f m))) (retK P_ G [.tmp 4,.tmp 5] (WayR G h0 w k f m)))))):=by
 refine b8 (fun mm r2 h3=>∃(i:Nat) (ip:Hp) (sv:Value),mm=18-i/\i<=17/\(m.n<0->i=0)/\(0<=m.n->(i:Int)<=m.n+1)/\r2 0=g/\r2 3 = .pointer (some ⟨x,0,none⟩)/\r2 7 = .pointer (some ⟨lb,0,none⟩)/\r2 8 = .int .i64 i/\r2 6=sv/\
  Slc dl 28 ip sv ((List.range i).flatMap fun (j:Nat)=>bw (gh m.f m.d j))/\Sep [ip,noHp.set lb (.cells #[(E5 m i).x,(E5 m i).y,.bool (E5 m i).d] 30 (0,0)),h1] h3/\Dis G h3/\(∀j,j<i->qj w k f m j=true)) ?_
  (m:=18) ⟨0,noHp,_,rfl,by decide,fun _=>rfl,fun h=>by simp;omega,g0,g3,g7,g8,g6,Slc.nil,by simpa [E5]using s.none,d,by simp⟩
 rintro mm r2 h3 ⟨i,ip,sv,rfl,hi,hneg,hpos,q0,q3,q7,q8,q6,o,s3,d3,hs⟩ X HX
 have bx3:=s3.at 2 rfl bx
 have cx:∀j,af G h3 ⟨x,j,none⟩=_:=fun j=>aj (ai bx3)
 unfold P5
 simp only [bRpU,q3,q8,cx]
 refine bm (fun hle=>?_) (fun hgt=>?_)
 rotate_left
 . -- the end
   try simp (disch:=first|decide|omega) only [bRpU,Nat.reduceAdd,Nat.reduceMul]
   unfold P7
   have cl:∀j,af G h3 ⟨lb,j,none⟩=_:=fun j=>aj (ai (s3.at 1 rfl ag))
   try simp (disch:=decide) only [bRpU,q3,q7,cx]
   by_cases h1n:1<=m.n
   . have e1:decide (m.n>=1)=true:=decide_eq_true h1n
     have hin:(i:Int)=m.n+1:=by have:=hpos (by omega);omega
     have elast:E5 m i=gh m.f m.d m.n:=by
      unfold E5
      rw [if_neg (by omega),show (i:Int)-1=m.n by omega]
     have eall:(List.range (m.n.toNat+1)).all (qj w k f m)=true:=by
      rw [List.all_eq_true]
      intro j hj
      exact hs j (by have:=List.mem_range.1 hj;omega)
     try simp only [bRpU,Nat.reduceAdd,e1,q3,q7,cx,cl,uo,q6]
     rw [elast]
     have ew:wayB w k f m=decide (m.t=gh m.f m.d m.n):=by
      rw [Ge hk,hf,eall,decide_eq_true h1n]
      simp
     refine WayR.less l0 ⟨ip,sv,_,?_,o,(s3.pick 1 rfl rfl).drop,d3,fun _=>?_⟩
     . rw [ew]
     . unfold wayL
       rw [if_pos hk,show m.n.toNat+1=i by omega]
   . have e1:decide (m.n>=1)=false:=decide_eq_false (by omega)
     try simp only [bRpU,e1,q6]
     have ew:wayB w k f m=false:=by
      rw [Ge hk,decide_eq_false (show ¬1<=m.n from h1n)]
      simp
     refine WayR.less l0 ⟨ip,sv,_,by rw [ew],o,(s3.pick 1 rfl rfl).drop,d3,fun q=>by rw [ew]at q;cases q⟩
 unfold Jv
 try simp (disch:=decide) only [bRpU,Nat.reduceAdd,q0,q3,q8,cx]
 refine (Gs (p:=m.f) (dir:=m.d) (n:=(i:Int)) st).mono ?_
 rintro _ h3 ⟨rfl,rfl⟩
 try simp (disch:=first|decide|exact ao|exact am|omega|rfl) only [bRpU]
 intro y hy gy
 have s4:=s3.past (o := .cells #[(lj m.f m.d i).x,(lj m.f m.d i).y,.bool (lj m.f m.d i).d] 30 (0,0)) hy
 have hy4:(h3.set y (.cells #[(lj m.f m.d i).x,(lj m.f m.d i).y,.bool (lj m.f m.d i).d] 30 (0,0))) y=some (.cells #[(lj m.f m.d i).x,(lj m.f m.d i).y,.bool (lj m.f m.d i).d] 30 (0,0)):=ag
 have sg:=(s3.pick 2 rfl rfl).grow (o := .cells #[(lj m.f m.d i).x,(lj m.f m.d i).y,.bool (lj m.f m.d i).d] 30 (0,0)) hy
 have d4:=d3.set (o := .cells #[(lj m.f m.d i).x,(lj m.f m.d i).y,.bool (lj m.f m.d i).d] 30 (0,0)) gy
 generalize Hp.set h3 y _=h4 at s4 hy4 d4 sg ⊢
 have hin:qj w k f m i=false->0<=m.n->wayB w k f m=false:=fun e h0=>by
  rw [Ge hk]
  have:(List.range (m.n.toNat+1)).all (qj w k f m)=false:=by
   rw [List.all_eq_false]
   exact ⟨i,List.mem_range.2 (by omega),by simp [e]⟩
  rw [this]
  simp
 have h0n:0<=m.n:=by omega
 have cy:∀j,af G h4 ⟨y,j,none⟩=_:=fun j=>aj (ai hy4)
 cases hok:okS m.d i with
 |false=>
  try simp only [bRpU]
  exact WayR.less l0 <| WayR.no (s4.in 2 rfl) d4 (hin (by unfold qj;rw [hok];rfl) h0n)
 |true=>
 have hi16:i<=16:=by
  unfold okS at hok
  rw [Bool.and_eq_true]at hok
  have:=(dp.1 hok.1).2
  omega
 have esh:lj m.f m.d i=gh m.f m.d i:=by unfold lj;rw [if_pos hok]
 rw [esh]at cy hy4 sg
 try simp only [bRpU,cy]
 refine (nt (p:=gh m.f m.d i) (gs.up (s4.in 2 rfl) d4) st Dz).mono ?_
 rintro _ h4 ⟨rfl,rfl⟩
 cases hfi:cj w k f (gh m.f m.d i)with
 |false=>
  try simp only [bRpU]
  exact WayR.less l0 <| WayR.no (s4.in 2 rfl) d4 (hin (by unfold qj;rw [hok,hfi];rfl) h0n)
 |true=>
 try simp only [bRpU]
 unfold Jt
 try simp (disch:=decide) only [bRpU,q0,q6,cy]
 refine (pi (g:=g) (p:=gh m.f m.d i) st Dz).mono ?_
 rintro _ _ ⟨b,rfl,hb,gb,rfl⟩
 generalize e5:Hp.set h4 b _=h5
 obtain ⟨l5,d5,b5⟩:=boxed e5 hb d4 gb
 have s5:=(sg.le l5).pick 1 rfl rfl
 have hlen:((List.range i).flatMap fun (j:Nat)=>bw (gh m.f m.d j)).length=2*i:=by
  rw [List.length_flatMap,show (fun (j:Nat)=>(bw (gh m.f m.d j)).length)=fun _=>2 from rfl,List.map_const',List.sum_replicate_nat,List.length_range,Nat.mul_comm]
 try simp (disch:=first|decide|omega) only [bRpU,Nat.reduceAdd,Nat.reduceMul]
 refine dm dl (by decide) un22 eocell (by decide) (by decide) (M:=bw (gh m.f m.d i)) s5 d5 o (Sees.row b5 rfl (Nat.le_refl _)) (by rw [hlen,show (bw (gh m.f m.d i)).length=2 from rfl];omega) fun v' a' h6 o' s6 d6=>?_
 have cy6:∀j,af G h6 ⟨y,j,none⟩=_:=fun j=>aj (ai (s6.at 1 rfl ag))
 have hlb6:=s6.at 2 rfl ag
 try simp only [bRpU,cy6,q7]
 rw [store30 (p:=gh m.f m.d i) hlb6]
 have hy1:h1 y=none:=(s3.in 2 rfl).none hy
 have s7:=((s6.pick 2 rfl rfl).put (o := .cells #[(gh m.f m.d i).x,(gh m.f m.d i).y,.bool (gh m.f m.d i).d] 30 (0,0)) ag)
 rw [set_set]at s7
 have s8:=((s7.pick 2 rfl rfl).cut (di hy1))
 have s9:=(s8.pick 1 rfl rfl).pick 2 rfl rfl
 have d9:Dis G (h6.set lb (.cells #[(gh m.f m.d i).x,(gh m.f m.d i).y,.bool (gh m.f m.d i).d] 30 (0,0))):=d6.set (d6 _ _ hlb6)
 unfold Ju
 try simp (disch:=first|decide|omega) only [bRpU,q8]
 have el:E5 m (i+1)=gh m.f m.d i:=by
  unfold E5
  rw [if_neg (by omega),show ((i+1:Nat):Int)-1=i by omega]
 refine HX (18-(i+1)) _ _ (by omega) ⟨i+1,a',v',rfl,by omega,fun h=>absurd h (by omega),fun h=>by omega,by simp (disch:=decide) only [bRpU,q0],by simp (disch:=decide) only [bRpU,q3],by simp (disch:=decide) only [bRpU,q7],by simp only [bRpU]<;>rfl,by simp (disch:=decide) only [bRpU],?_,?_,d9,G6 hs (by unfold qj;rw [hok,hfi];rfl)⟩
 . rw [ac6]
   exact o'
 . rw [el]
   exact s9
theorem Kr {w k:Nat} {f:Nat->Nat->Int} {m:Move} (hf:cj w k f m.f=true) (hk:m.k=2) (hz:m.d=0/\m.n=0):wayB w k f m=((gj (m.f.x,m.f.y)).all (ny w k f)&&decide (m.t=Av m.f)):=by
 unfold wayB
 rw [if_neg (by omega),if_pos hk,hf,decide_eq_true hz]
 simp
theorem Ks {w k:Nat} {f:Nat->Nat->Int} {m:Move} (hf:cj w k f m.f=true) (hk1:m.k≠1) (hk:m.k≠2) (hz:m.d=0/\m.n=0):wayB w k f m=(decide (m.k=3\/m.k=4)&&decide (m.t=m.f)):=by
 unfold wayB
 rw [if_neg hk1,if_neg hk,hf,decide_eq_true hz]
 simp
theorem af8 {G h h1 h0 ip:Hp} {x w k:Nat} {g sv:Value} {f:Nat->Nat->Int} {m:Move} {r:Rg} (gs:GS G h1 g w k f) (hf:cj w k f m.f=true) (hk:m.k=2) (hz:m.d=0/\m.n=0)
 (bx:h1 x=some (qd m)) (g0:r 0=g) (g3:r 3 = .pointer (some ⟨x,0,none⟩)) (g11:r 11=sv) (g84:r 84=sv) (g85:r 85 = .int .i64 4) (g86:r 86 = .int .i64 0)
 (o:Slc dl 28 ip sv (gj (m.f.x,m.f.y))) (s:Sep [ip,h1] h) (d:Dis G h) (l0:h0.le h1):
 ci (Jw G) r h (bn 3 (bv (P6 G (retK P_ G [.tmp 4,.tmp 5] (WayR G h0 w k f m))) (bn 0 (bv (As G (retK P_ G [.tmp 4,.tmp 5] (WayR G h0 w k f m))) (retK P_ G [.tmp 4,.tmp 5] (WayR G h0 w k f m)))))):=by
 obtain ⟨sa,cap,rfl,hcap⟩:=o.len (by decide)
 refine b8 (fun mm r2 h3=>∃(i:Nat),mm=4-i/\i<=4/\r2 0=g/\r2 3 = .pointer (some ⟨x,0,none⟩)/\r2 11=r 11/\r2 84=r 84/\r2 85 = .int .i64 4/\r2 86 = .int .i64 i/\Sep [ip,h1] h3/\Dis G h3/\((gj (m.f.x,m.f.y)).take i).all (ny w k f)=true) ?_
  (m:=4) ⟨0,rfl,by decide,g0,g3,rfl,rfl,g85,g86,s,d,by simp⟩
 rintro mm r2 h3 ⟨i,rfl,hi,q0,q3,q11,q84,q85,q86,s3,d3,hs⟩ X HX
 rw [g11]at q11
 rw [g84]at q84
 have bx3:=s3.at 1 rfl bx
 have cx:∀j,af G h3 ⟨x,j,none⟩=_:=fun j=>aj (ai bx3)
 unfold Jw
 simp only [bRpU,q85,q86]
 refine bm (fun hlt=>?_) (fun hge=>?_)
 rotate_left
 . obtain rfl:i=4:=by omega
   try simp (disch:=first|decide|omega) only [bRpU,Nat.reduceAdd,Nat.reduceMul]
   unfold P6
   try simp (disch:=decide) only [bRpU,Nat.reduceAdd,q3,q11,cx,uo]
   rw [List.take_of_length_le (show (gj (m.f.x,m.f.y)).length<=4 from Nat.le_refl 4)]at hs
   refine WayR.less l0 ⟨ip,_,_,?_,o,s3,d3,fun _=>?_⟩
   . rw [Kr hf hk hz,hs,Bool.true_and,<- uo]
     rfl
   . unfold wayL
     rw [if_neg (by omega),if_pos hk]
 have hlt':i<4:=by omega
 obtain ⟨y,hy⟩:∃y,(gj (m.f.x,m.f.y))[i]?=some y:=⟨_,List.getElem?_eq_getElem (by simpa [gj]using hlt')⟩
 obtain ⟨b,ofs,rfl,z0,z1⟩:=Sees.cell (G:=G) (o.sees (by decide) (s3.in 0 rfl)) hy
 unfold Du
 try simp (disch:=first|decide|exact ao|exact am|omega|rfl) only [bRpU,q0,q84,q86,ix22 (Int.natCast_nonneg i) (show (i:Int)<(gj (m.f.x,m.f.y)).length from hlt),z0,z1]
 intro t ht gt
 have s4:=s3.past (o := .cells #[y.1,y.2] 28 (0,0)) ht
 have d4:=d3.set (o := .cells #[y.1,y.2] 28 (0,0)) gt
 try simp (disch:=first|decide|omega) only [bRpU,Nat.reduceAdd,Nat.reduceMul]
 generalize Hp.set h3 t _=h4 at s4 d4 ⊢
 refine (Aa (c:=y) (gs.up (s4.in 1 rfl) d4)).mono ?_
 rintro _ _ ⟨rfl,rfl⟩
 have hym:y∈gj (m.f.x,m.f.y):=List.mem_of_getElem? hy
 cases hc:ny w k f y with
 |false=>
  try simp only [bRpU]
  refine WayR.less l0 <| WayR.no (s4.in 1 rfl) d4 ?_
  rw [Kr hf hk hz]
  have:(gj (m.f.x,m.f.y)).all (ny w k f)=false:=by
   rw [List.all_eq_false]
   exact ⟨y,hym,by simp [hc]⟩
  rw [this]
  rfl
 |true=>
  try simp only [bRpU]
  unfold Dt
  try simp (disch:=first|decide|omega) only [bRpU,q86]
  refine HX (4-(i+1)) _ _ (by omega) ⟨i+1,rfl,hlt',by simp (disch:=decide) only [bRpU,q0],by simp (disch:=decide) only [bRpU,q3],by simp (disch:=decide) only [bRpU,q11,g11],by simp (disch:=decide) only [bRpU,q84,g84],by simp (disch:=decide) only [bRpU,q85],by simp only [bRpU]<;>rfl,s4,d4,?_⟩
  rw [List.take_add_one,hy]
  simp [hs,hc]
theorem Qg {G h:Hp} {g:Value} {w k:Nat} {f:Nat->Nat->Int} {m:Move} (gs:GS G h g w k f) (st:jb G) (mb:MB m):al P_ G 127 #[g,Lg m] h (WayR G h w k f m):=by
 obtain ⟨nb,fb⟩:=mb
 refine al.assume fun d=>at9 (by simp) ?_
 unfold S127
 simp (disch:=decide) only [bRpU,Nat.reduceAdd]
 intro x hx gx
 generalize e1:Hp.set h x _=h1
 obtain ⟨l1,d1,b1⟩:=boxed e1 hx d gx
 have gs1:=gs.up l1 d1
 have cx:∀j,af G h1 ⟨x,j,none⟩=_:=fun j=>aj (ai b1)
 try simp (disch:=first|decide|omega) only [bRpU,Nat.reduceAdd,Nat.reduceMul,cx]
 refine (nt (p:=m.f) gs1 st fb).mono ?_
 rintro _ h1 ⟨rfl,rfl⟩
 cases hf:cj w k f m.f with
 |false=>
  try simp only [bRpU]
  exact WayR.no l1 d1 (by unfold wayB;rw [hf];rfl)
 |true=>
 try simp only [bRpU]
 unfold Y4
 try simp (disch:=decide) only [bRpU,cx]
 by_cases hk1:m.k=1
 . try simp only [bRpU,dw,show (m.k != 1)=false by simp [hk1]]
   unfold P8
   try simp (disch:=first|decide|exact ao|exact am|omega|rfl) only [bRpU,Nat.reduceAdd,cx,show (m.k==1)=true by simp [hk1]]
   intro lb hlb glb
   try simp (disch:=first|decide|omega) only [bRpU,Nat.reduceAdd,Nat.reduceMul]
   exact way_run gs1 st nb hf hk1 b1 (by simp (disch:=decide) only [bRpU]) (by simp (disch:=decide) only [bRpU]) (by simp (disch:=decide) only [bRpU]) (by simp (disch:=decide) only [bRpU]) (by simp only [bRpU]) (Sep.one.new hlb) (d1.set glb) l1
 have ek1:(m.k != 1)=true:=by simp [hk1]
 have ek1':(m.k==1)=false:=by simp [hk1]
 by_cases hz:m.d=0/\m.n=0
 rotate_left
 . have ew:wayB w k f m=false:=by
    unfold wayB
    rw [if_neg hk1,decide_eq_false hz]
    simp
   by_cases hd:m.d=0
   . have hn:(m.n != 0)=true:=by
      have:m.n≠0:=fun e=>hz ⟨hd,e⟩
      simp [this]
     try simp only [bRpU,cx,ek1,hn,show (m.d != 0)=false by simp [hd]]
     exact WayR.no l1 d1 ew
   . try simp only [bRpU,cx,dw,ek1,show (m.d != 0)=true by simp [hd]]
     exact WayR.no l1 d1 ew
 try simp only [bRpU,cx,ek1,show (m.d != 0)=false by simp [hz.1],show (m.n != 0)=false by simp [hz.2]]
 unfold P8
 by_cases hk2:m.k=2
 . try simp (disch:=first|decide|exact ao|exact am|omega|rfl) only [bRpU,Nat.reduceAdd,cx,ek1',show (m.k==2)=true by simp [hk2]]
   refine (Qn (c:=(m.f.x,m.f.y))).mono ?_
   rintro _ h2 ⟨ip,sa,rfl,o,s2,d2⟩
   try simp only [bRpU]
   exact af8 gs1 hf hk2 hz b1 (by simp (disch:=decide) only [bRpU]) (by simp (disch:=decide) only [bRpU]) (by simp (disch:=decide) only [bRpU]) (by simp (disch:=decide) only [bRpU]) (by simp (disch:=decide) only [bRpU]<;>rfl) (by simp only [bRpU]) o s2 d2 l1
 have ek2:(m.k==2)=false:=by simp [hk2]
 by_cases hk34:m.k=3\/m.k=4
 rotate_left
 . have ew:wayB w k f m=false:=by
    rw [Ks hf hk1 hk2 hz,decide_eq_false hk34]
    rfl
   try simp (disch:=first|decide|exact ao|exact am|omega|rfl) only [bRpU,Nat.reduceAdd,cx,ek1',ek2,show (m.k==3)=false by simp;omega,show (m.k==4)=false by simp;omega]
   unfold zt
   try simp (disch:=decide) only [bRpU,Nat.reduceAdd]
   unfold As
   try simp (disch:=decide) only [bRpU]
   exact WayR.no l1 d1 ew
 have k13:∀r:Rg,r 0=g->r 3 = .pointer (some ⟨x,0,none⟩)->r 107 = .bool true->zt G (retK P_ G [.tmp 4,.tmp 5] (WayR G h w k f m)) r h1:=by
  intro r g0 g3 g107
  unfold zt
  simp (disch:=decide) only [bRpU,g107]
  refine ⟨h1,Hp.le.refl _,?_⟩
  try simp only [bRpU,Nat.reduceAdd,g0,g3,cx]
  refine (pi (g:=g) (p:=m.f) st fb).mono ?_
  rintro _ _ ⟨b,rfl,hb,gb,rfl⟩
  refine ⟨di hb,?_⟩
  try simp only [bRpU,g3,cx,uo]
  refine WayR.less l1 ⟨noHp.set b _,_,bw m.f,?_,⟨some b,2,[],rfl,ag,rfl⟩,Sep.one.new hb,d1.set gb,fun _=>?_⟩
  . rw [Ks hf hk1 hk2 hz,decide_eq_true hk34]
    rfl
  . unfold wayL
    rw [if_neg hk1,if_neg hk2]
 rcases hk34 with h3|h4
 . try simp (disch:=first|decide|exact ao|exact am|omega|rfl) only [bRpU,Nat.reduceAdd,cx,ek1',ek2,show (m.k==3)=true by simp [h3]]
   exact k13 _ (by simp (disch:=decide) only [bRpU]) (by simp (disch:=decide) only [bRpU]) (by simp only [bRpU])
 . try simp (disch:=first|decide|exact ao|exact am|omega|rfl) only [bRpU,Nat.reduceAdd,cx,ek1',ek2,show (m.k==3)=false by simp [h4],show (m.k==4)=true by simp [h4]]
   exact k13 _ (by simp (disch:=decide) only [bRpU]) (by simp (disch:=decide) only [bRpU]) (by simp only [bRpU])
theorem Hg {G h:Hp} {g:Value} {w k:Nat} {f:Nat->Nat->Int} {m:Move} (gs:GS G h g w k f) (st:jb G) (mb:MB m):al P_ G 78 #[g,Lg m] h (fun u h'=>u = .bool (wayB w k f m)/\h'=h):=by
 refine al.assume fun d=>quietly (enter78 (by simp) ?_)
 unfold S78
 simp only [bRpU]
 intro x hx gx
 generalize e1:Hp.set h x _=h1
 obtain ⟨l1,d1,b1⟩:=boxed e1 hx d gx
 have cx:∀j,af G h1 ⟨x,j,none⟩=_:=fun j=>aj (ai b1)
 try simp (disch:=first|decide|omega) only [bRpU,Nat.reduceAdd,Nat.reduceMul,cx]
 refine (Qg (gs.up l1 d1) st mb).mono ?_
 rintro _ h2 ⟨ip,v,L,rfl,o,s2,d2,_⟩
 try simp only [bRpU]
 exact l1.trans (s2.in 1 rfl)
def bRpV:=jq bC (jq (jq (jq (jq @al48 @Io) (jq @Il (jq @gc @Ih))) (jq (jq @px @cf166) (jq @cf61 (jq @cf78 @wd)))) (jq (jq (jq @H4 @ld178) (jq @ld28 (jq @ld30 @ld4))) (jq (jq @ld48 (jq @ld68 @l8)) (jq @jj (jq @Kv @true_and)))))
theorem _root_.Go.HL.Sep.pack2 {x y h:Hp} {R:List Hp} (s:Sep (x::y::R) h):∃b,Sep (b::R) h/\Sep [x,y] b:=by
 obtain ⟨s1,ap⟩:=s.join
 exact ⟨_,s1,⟨fun a ha=>by
  simp only [List.mem_cons,List.not_mem_nil,or_false]at ha
  rcases ha with rfl|rfl
  . exact Hp.le_join
  . exact Hp.le_join2 ap,by simp [ap]⟩⟩
theorem _root_.Go.HL.Sep.pack3 {x y z h:Hp} {R:List Hp} (s:Sep (x::y::z::R) h):∃b,Sep (b::R) h/\Sep [x,y,z] b:=by
 have s1:Sep (y::z::x::R) h:=s.rot.rot
 obtain ⟨s2,a2⟩:=s1.join
 obtain ⟨s3,a3⟩:=s2.swap.join
 refine ⟨_,s3,fun a ha=>?_,(List.pairwise_append (l₁:=[x,y,z]) (l₂:=R)).1 s.2 |>.1⟩
 simp only [List.mem_cons,List.not_mem_nil,or_false]at ha
 rcases ha with rfl|rfl|rfl
 . exact Hp.le_join
 . exact Hp.le_join.trans (Hp.le_join2 a3)
 . exact (Hp.le_join2 a2).trans (Hp.le_join2 a3)
theorem opE76 {G:Hp} {a b y:Value} {h:Hp} {K:VK}:opE P_ G (ig (.func (.func 182) #[] #[a,b]) #[y]) h K=al P_ G 182 #[y,a,b] h K:=by kernel_rfl
theorem Wg {n d:Nat} {v:Value} {r:Rg} (hd:d<n):setR n #[d] #[v] r=upd r d v:=by
 unfold setR
 simp [putR,hd]
theorem Zy {G h:Hp} {gp:Nat} {p:Pose}:al P_ G 166 #[.pointer (some ⟨gp,0,none⟩),kz p] h (fun u h'=>∃b1 b2,u = .func (.func 182) #[] #[.pointer (some ⟨b1,0,none⟩),.pointer (some ⟨b2,0,none⟩)]/\h b1=none/\G b1=none/\(h.set b1 (.cells #[.pointer (some ⟨gp,0,none⟩)] 68 (0,0))) b2=none/\G b2=none/\h'=(h.set b1 (.cells #[.pointer (some ⟨gp,0,none⟩)] 68 (0,0))).set b2 (.cells #[p.x,p.y,.bool p.d] 30 (0,0))):=by
 refine aq9 (by simp) ?_
 unfold S166
 simp only [bRpV]
 intro x hx gx y hy gy
 exact ⟨x,y,rfl,hx,gx,hy,gy,rfl⟩
def m8 (p:Pose):Move:=⟨2,0,0,p,Av p,0,0⟩
def lk (w k:Nat) (f:Nat->Nat->Int) (p:Pose):List Move:=if cj w k f p=true then Ey w k f p++(if wayB w k f (m8 p)=true then [m8 p]else [])else []
def InY (Y:List Move->Hp->Prop) (eb:Hp) (l:Nat) (o:Obj) (L:List Move) (b:Hp):Prop:=∃a,Y L a/\Sep [a,eb,noHp.set l o] b
theorem Nt {p:Pose} (hp:PB p):MB (m8 p):=⟨⟨show (-9223372036854775808:Int)<=0 by decide,show (0:Int)<=9223372036854775807 by decide⟩,hp⟩
def jw:Cod Move:=⟨11,fun m=>[.int .i64 m.k,.int .i64 m.d,.int .i64 m.n,.int .i64 m.f.x,.int .i64 m.f.y,.bool m.f.d,.int .i64 m.t.x,.int .i64 m.t.y,.bool m.t.d,.int .i64 m.a,.int .i64 m.e],fun _=>rfl,fun _ v hv=>by simp at hv;rcases hv with rfl|rfl|rfl|rfl|rfl|rfl|rfl|rfl|rfl|rfl|rfl<;>rfl⟩
theorem eomove:fg P_ 48 jw.n 88:=eo48
def GY {α:Type} (c:Cod α) (e T:TypeId) (most:Int) (lb mb:Nat) (L:List α) (a:Hp):Prop:=∃ip v,Slc c e ip v L/\Sep [ip,noHp.set lb (.cells #[v] T (0,0)),noHp.set mb (.cells #[most] 3 (0,0))] a
def GYb {α:Type} (c:Cod α) (e T:TypeId) (most:Int) (lb mb:Nat) (L:List α) (a:Hp):Prop:=GY c e T most lb mb L a/\(L.length:Int)<most
section
variable (G:Hp) (K:EK) (r:Rg) (h:Hp)
def md108:Nat->Hint
 |_=>mh false [] [] [] false
def Zf (G:Hp) (K:EK) (r:Rg) (h:Hp):Prop:=
 K .ret (u2 r 45 (r 9) 8 (r 9)) h
def Cc:Prop:=
 o_ G (binOp .add 3 (r 20) (.int .i64 1)) h fun v4 h4=>
 K .normal (u2 r 44 v4 20 v4) h4
def J4:Prop:=
 o_ G (Instr.loadAt 142 (r 13)) h fun v14 h14=>
 c_ G 146 #[(r 9),v14] h14 fun v15 h15=>
 Cc G K (u4 r 41 (r 9) 42 v14 43 v15 9 v15) h15
def Ce (G:Hp) (r:Rg) (h:Hp) (K:EK):Prop:=
 K .normal (u2 r 14 (r 33) 15 (r 34)) h
def Cd (r:Rg) (h:Hp) (K:EK):Prop:=
 o_ G (Instr.loadAt 142 (r 13)) h fun v16 h16=>o_ G (Instr.build 151 #[(0,(r 14)),(1,(r 15))]) h16 fun v17 h17=>o_ G (Instr.buildSlice 142 1 #[(0,v17)]) h17 fun v18 h18=>o_ G (Builtin.append_ #[142,142] 142 #[v16,v18]) h18 fun v19 h19=>
 opH P_ G (su (Instr.storeAt 142 (r 13) v19)) h19 fun v20 h20=>
 K .normal (u6 r 35 v16 36 (r 14) 37 (r 15) 38 v17 39 v18 40 v19) h20
def J5:Prop:=
 o_ G (Instr.alloc 142 true (.tuple #[])) h fun v12 h12=>
 c_ G 145 #[(r 1),(r 12),(r 2)] h12 fun v13 h13=>
 J9 P_ G 2 (Ce G) (Cd G) (setR 46 #[33,34]) v13 (u5 r 13 v12 29 (r 1) 30 (r 12) 31 (r 2) 32 v13) h13 (bn 2 (bv (J4 G K) (bn 1 (bv (Cc G K) K))))
def J6:Prop:=
 o_ G (Instr.indexAt 22 (r 18) (r 20)) h fun v5 h5=>o_ G (Instr.loadAt 28 v5) h5 fun v6 h6=>o_ G (Instr.alloc 28 true (.tuple #[])) h6 fun v7 h7=>
 opH P_ G (su (Instr.storeAt 28 v7 v6)) h7 fun v8 h8=>o_ G (Instr.loadAt 28 v7) h8 fun v9 h9=>
 c_ G 88 #[(r 0),v9] h9 fun v10 h10=>o_ G (binOp .lss 3 v10 (.int .i64 0)) h10 fun v11 h11=>
 (fun q=>cond v11
 (K .ret (upd q 8 (.slice none 0 0)) h11)
 (J5 G K q h11))
 (u9 r 22 v5 23 v6 11 v7 24 (r 0) 25 v9 26 v10 12 v10 27 v10 28 v11)
def Ze (r:Rg) (h:Hp) (K:EK):Prop:=
 o_ G (binOp .lss 3 (r 20) (r 19)) h fun v3 h3=>
 cond v3
 (J6 G K (upd r 21 v3) h3)
 (K (.exit 0) (upd r 21 v3) h3)
def S108:Prop:=
 o_ G (Instr.build 151 #[(0,(.int .i64 0)),(1,(.int .i64 4611686018427387904))]) h fun v0 h0=>o_ G (Instr.buildSlice 142 1 #[(0,v0)]) h0 fun v1 h1=>o_ G (Builtin.len_ #[22] 3 #[(r 3)]) h1 fun v2 h2=>
 ci (Ze G) (u7 r 8 (.slice none 0 0) 16 v0 17 v1 9 v1 18 (r 3) 19 v2 20 (.int .i64 0)) h2 (bn 0 (bv (Zf G K) K))
theorem av2:Ent 46 108 [.tmp 8] S108:=ent_ (m:=md108) (c:=(Tryz.f108.body.getD .skip)) (fun _ _ _ _=>by kernel_rfl) Tryz.func108 rfl rfl rfl
def md146:Nat->Hint
 |4=>mh false [0,0,3,7,15,0,0,96,224,480,1023,0,0,6144,14336,30720,0,0,196608,458752,983040,2095104,4194303,0,16777215] [n_,n_,n_,n_,m_,n_,n_,n_,n_,m_,n_,n_,n_,n_,n_,m_,n_,n_,n_,n_,m_,n_,n_,.alloc,.store] (fs 25) false
 |7=>mh false [0,0,3,7,15,0,0,96,224,480,1023] [n_,n_,n_,n_,m_,n_,n_,n_,n_,m_,n_] (fs 11) false
 |_=>mh false [] [] [] false
def F9 (G:Hp) (K:EK) (r:Rg) (h:Hp):Prop:=
 K .ret (u2 r 66 (r 5) 4 (r 5)) h
def wo:Prop:=
 p_ (Instr.indexAt 142 (r 0) (r 6)) h fun v29 h29=>
 p_ (Instr.fieldAt 151 v29 1) h29 fun v30 h30=>
 w_ G h (Instr.loadAt 3 v30) h30 fun v31 h31=>
 p_ (Instr.indexAt 142 (r 1) (r 7)) h31 fun v32 h32=>
 p_ (Instr.fieldAt 151 v32 1) h32 fun v33 h33=>
 w_ G h (Instr.loadAt 3 v33) h33 fun v34 h34=>
 p_ (binOp .lss 3 v31 v34) h34 fun v35 h35=>
 cond v35
 (o_ G (binOp .add 3 (r 6) (.int .i64 1)) h35 fun v36 h36=>
 K .normal (u4 (u10 r 51 (r 0) 52 (r 6) 53 v29 54 v30 55 v31 56 (r 1) 57 (r 7) 58 v32 59 v33 60 v34) 61 v35 62 (r 6) 63 v36 6 v36) h36)
 (o_ G (binOp .add 3 (r 7) (.int .i64 1)) h35 fun v37 h37=>
 K .normal (u4 (u10 r 51 (r 0) 52 (r 6) 53 v29 54 v30 55 v31 56 (r 1) 57 (r 7) 58 v32 59 v33 60 v34) 61 v35 64 (r 7) 65 v37 7 v37) h37)
def Jc:Prop:=
 p_ (Instr.indexAt 142 (r 0) (r 6)) h fun v7 h7=>
 p_ (Instr.fieldAt 151 v7 0) h7 fun v8 h8=>
 w_ G h (Instr.loadAt 3 v8) h8 fun v9 h9=>
 p_ (Instr.indexAt 142 (r 1) (r 7)) h9 fun v10 h10=>
 p_ (Instr.fieldAt 151 v10 0) h10 fun v11 h11=>
 w_ G h (Instr.loadAt 3 v11) h11 fun v12 h12=>
 p_ (Builtin.max_ #[3,3] 3 #[v9,v12]) h12 fun v13 h13=>
 p_ (Instr.indexAt 142 (r 0) (r 6)) h13 fun v14 h14=>
 p_ (Instr.fieldAt 151 v14 1) h14 fun v15 h15=>
 w_ G h (Instr.loadAt 3 v15) h15 fun v16 h16=>
 p_ (Instr.indexAt 142 (r 1) (r 7)) h16 fun v17 h17=>
 p_ (Instr.fieldAt 151 v17 1) h17 fun v18 h18=>
 w_ G h (Instr.loadAt 3 v18) h18 fun v19 h19=>
 p_ (Builtin.min_ #[3,3] 3 #[v16,v19]) h19 fun v20 h20=>
 p_ (Instr.build 151 #[(0,v13),(1,v20)]) h20 fun v21 h21=>o_ G (Instr.alloc 151 true (.tuple #[])) h21 fun v22 h22=>
 opH P_ G (su (Instr.storeAt 151 v22 v21)) h22 fun v23 h23=>o_ G (Instr.fieldAt 151 v22 0) h23 fun v24 h24=>o_ G (Instr.loadAt 3 v24) h24 fun v25 h25=>o_ G (Instr.fieldAt 151 v22 1) h25 fun v26 h26=>o_ G (Instr.loadAt 3 v26) h26 fun v27 h27=>o_ G (binOp .lss 3 v25 v27) h27 fun v28 h28=>
 cond v28
 (o_ G (Instr.loadAt 151 v22) h28 fun v38 h38=>o_ G (Instr.buildSlice 142 1 #[(0,v38)]) h38 fun v39 h39=>o_ G (Builtin.append_ #[142,142] 142 #[(r 5),v39]) h39 fun v40 h40=>
 wo G K (u4 (u10 (u10 (u10 r 19 (r 0) 20 (r 6) 21 v7 22 v8 23 v9 24 (r 1) 25 (r 7) 26 v10 27 v11 28 v12) 29 v13 30 (r 0) 31 (r 6) 32 v14 33 v15 34 v16 35 (r 1) 36 (r 7) 37 v17 38 v18) 39 v19 40 v20 41 v21 8 v22 42 v24 43 v25 44 v26 45 v27 46 v28 47 (r 5)) 48 v38 49 v39 50 v40 5 v40) h40)
 (wo G K (u9 (u10 (u10 r 19 (r 0) 20 (r 6) 21 v7 22 v8 23 v9 24 (r 1) 25 (r 7) 26 v10 27 v11 28 v12) 29 v13 30 (r 0) 31 (r 6) 32 v14 33 v15 34 v16 35 (r 1) 36 (r 7) 37 v17 38 v18) 39 v19 40 v20 41 v21 8 v22 42 v24 43 v25 44 v26 45 v27 46 v28) h28)
def Yi (r:Rg) (h:Hp) (K:EK):Prop:=
 o_ G (Builtin.len_ #[142] 3 #[(r 0)]) h fun v0 h0=>o_ G (binOp .lss 3 (r 6) v0) h0 fun v1 h1=>g_ v1 true (fun K1=>K1 (r 7) h1) h1 fun v2 h2=>g_ v1 true (fun K1=>K1 (r 1) h2) h2 fun v3 h3=>g_ v1 true (o_ G (Builtin.len_ #[142] 3 #[v3]) h3) h3 fun v4 h4=>g_ v1 true (o_ G (binOp .lss 3 v2 v4) h4) h4 fun v5 h5=>
 opH P_ G (bj v1 v5 (.bool false)) h5 fun v6 h6=>
 (fun q=>cond v6
 (Jc G K q h6)
 (K (.exit 0) q h6))
 (u10 r 9 (r 6) 10 (r 0) 11 v0 12 v1 13 v1 14 v2 15 v3 16 v4 17 v5 18 v6)
def S146:Prop:=
 ci (Yi G) (u4 r 4 (.slice none 0 0) 5 (.slice none 0 0) 6 (.int .i64 0) 7 (.int .i64 0)) h (bn 0 (bv (F9 G K) K))
theorem as4:Ent 67 146 [.tmp 4] S146:=ent_ (m:=md146) (c:=(Tryz.f146.body.getD .skip)) (fun _ _ _ _=>by kernel_rfl) Tryz.func146 rfl rfl rfl
def md65:Nat->Hint
 |_=>mh false [] [] [] false
def S65:Prop:=
 o_ G (Instr.box 3 (r 1)) h fun v0 h0=>
 opH P_ G (callFunc 113 #[(r 0),(.func (.func 114) #[] #[v0])]) h0 fun v1 h1=>
 K .ret (u6 r 3 v0 4 (.int .i64 0) 5 (r 0) 6 (.func (.func 114) #[] #[v0]) 7 v1 4 v1) h1
theorem enter65:Ent 8 65 [.tmp 4] S65:=ent_ (m:=md65) (c:=(Tryz.f65.body.getD .skip)) (fun _ _ _ _=>by kernel_rfl) Tryz.func65 rfl rfl rfl
def md114:Nat->Hint
 |_=>mh false [] [] [] false
def S114:Prop:=
 o_ G (Instr.box 151 (r 0)) h fun v0 h0=>o_ G (Instr.fieldAt 151 v0 0) h0 fun v1 h1=>o_ G (Instr.loadAt 3 v1) h1 fun v2 h2=>o_ G (Instr.loadAt 3 (r 1)) h2 fun v3 h3=>o_ G (binOp .leq 3 v2 v3) h3 fun v4 h4=>g_ v4 true (o_ G (Instr.loadAt 3 (r 1)) h4) h4 fun v5 h5=>g_ v4 true (o_ G (Instr.fieldAt 151 v0 1) h5) h5 fun v6 h6=>g_ v4 true (o_ G (Instr.loadAt 3 v6) h6) h6 fun v7 h7=>g_ v4 true (o_ G (binOp .lss 3 v5 v7) h7) h7 fun v8 h8=>
 opH P_ G (bj v4 v8 (.bool false)) h8 fun v9 h9=>
 K .ret (u3 (u10 r 2 v0 3 (.bool false) 4 v1 5 v2 6 v3 7 v4 8 v4 9 v5 10 v6 11 v7) 12 v8 13 v9 3 v9) h9
theorem av0:Ent 14 114 [.tmp 3] S114:=ent_ (m:=md114) (c:=(Tryz.f114.body.getD .skip)) (fun _ _ _ _=>by kernel_rfl) Tryz.func114 rfl rfl rfl
def md113:Nat->Hint
 |_=>mh false [] [] [] false
def Zd (G:Hp) (K:EK) (r:Rg) (h:Hp):Prop:=
 K .ret (upd r 4 (.int .i64 (-1))) h
def J2:Prop:=
 o_ G (binOp .add 3 (r 8) (.int .i64 1)) h fun v2 h2=>
 K .normal (u2 r 18 v2 8 v2) h2
def J3:Prop:=
 o_ G (Instr.indexAt 142 (r 0) (r 8)) h fun v3 h3=>o_ G (Instr.loadAt 151 v3) h3 fun v4 h4=>
 opH P_ G (ig (r 1) #[v4]) h4 fun v5 h5=>
 (fun q=>cond v5
 (K .ret (u2 q 17 (r 8) 4 (r 8)) h5)
 (J2 G K q h5))
 (u8 r 10 (r 8) 5 (r 8) 11 (r 1) 12 (r 0) 13 (r 8) 14 v3 15 v4 16 v5)
def Zc (r:Rg) (h:Hp) (K:EK):Prop:=
 o_ G (binOp .lss 3 (r 8) (r 7)) h fun v1 h1=>
 cond v1
 (J3 G K (upd r 9 v1) h1)
 (K (.exit 0) (upd r 9 v1) h1)
def S113:Prop:=
 o_ G (Builtin.len_ #[142] 3 #[(r 0)]) h fun v0 h0=>
 ci (Zc G) (u4 r 4 (.int .i64 0) 6 (r 0) 7 v0 8 (.int .i64 0)) h0 (bn 0 (bv (Zd G K) K))
theorem av1:Ent 19 113 [.tmp 4] S113:=ent_ (m:=md113) (c:=(Tryz.f113.body.getD .skip)) (fun _ _ _ _=>by kernel_rfl) Tryz.func113 rfl rfl rfl
def md115:Nat->Hint
 |1=>mh false [0,1,3,7,0,16,63,127,255] [n_,n_,n_,m_,n_,m_,e_,n_,n_] (fs 9) false
 |4=>mh false [0,1,3,7,0,0,63] [n_,n_,n_,m_,n_,m_,e_] (fs 7) false
 |_=>mh false [] [] [] false
def Ga:Prop:=
 bk P_ noHp noHp (xNil (r 0)) h fun v10 h10=>
 p_ (Instr.fieldAt 134 v10 7) h10 fun v11 h11=>
 w_ G h (Instr.loadAt 130 v11) h11 fun v12 h12=>
 w_ G h (Instr.loadAt 30 (r 3)) h12 fun v13 h13=>
 opH P_ G (su (Instr.mapUpdate 130 v12 (r 5) v13)) h13 fun v14 h14=>
 K .ret (u8 r 18 (r 0) 19 v10 20 v11 21 v12 22 (r 5) 23 v13 24 (r 5) 4 (r 5)) h14
def S115:Prop:=
 o_ G (Instr.box 30 (r 1)) h fun v0 h0=>
 bk P_ noHp noHp (xNil (r 0)) h0 fun v1 h1=>
 p_ (Instr.fieldAt 134 v1 1) h1 fun v2 h2=>
 w_ G h0 (Instr.loadAt 68 v2) h2 fun v3 h3=>
 p_ (Instr.fieldAt 30 v0 0) h3 fun v4 h4=>
 w_ G h0 (Instr.loadAt 28 v4) h4 fun v5 h5=>
 c_ G 88 #[v3,v5] h5 fun v6 h6=>
 p_ (binOp .mul 3 (.int .i64 2) v6) h6 fun v7 h7=>o_ G (Instr.fieldAt 30 v0 1) h7 fun v8 h8=>o_ G (Instr.loadAt 4 v8) h8 fun v9 h9=>
 cond v9
 (o_ G (binOp .add 3 v7 (.int .i64 1)) h9 fun v15 h15=>
 Ga G K (u6 (u10 r 3 v0 4 (.int .i64 0) 6 (r 0) 7 v1 8 v2 9 v3 10 v4 11 v5 12 v6 13 v7) 5 v7 14 v8 15 v9 16 v7 17 v15 5 v15) h15)
 (Ga G K (u3 (u10 r 3 v0 4 (.int .i64 0) 6 (r 0) 7 v1 8 v2 9 v3 10 v4 11 v5 12 v6 13 v7) 5 v7 14 v8 15 v9) h9)
theorem au9:Ent 25 115 [.tmp 4] S115:=ent_ (m:=md115) (c:=(Tryz.f115.body.getD .skip)) (fun _ _ _ _=>by kernel_rfl) Tryz.func115 rfl rfl rfl
def md66:Nat->Hint
 |4=>mh false [0,1,3,7,0,16,48,112,0,256,768,1792,0,4096,12288,28672,0,126976,262143,524287] [n_,n_,n_,m_,n_,n_,n_,m_,n_,n_,n_,m_,n_,n_,n_,m_,m_,e_,e_,n_] [false,false,false,false,false,false,false,false,false,false,false,false,false,false,false,false,false,true,false,false] false
 |_=>mh false [] [] [] false
def Pk (G:Hp) (K:EK) (r:Rg) (h:Hp):Prop:=
 K .ret (u2 r 47 (r 6) 4 (r 6)) h
def S66:Prop:=
 o_ G (Instr.box 30 (r 1)) h fun v0 h0=>o_ G (Instr.loadAt 30 v0) h0 fun v1 h1=>
 c_ G 115 #[(r 0),v1] h1 fun v2 h2=>
 opH P_ G (xNil (r 0)) h2 fun v3 h3=>o_ G (Instr.fieldAt 134 v3 5) h3 fun v4 h4=>o_ G (Instr.loadAt 128 v4) h4 fun v5 h5=>o_ G (Instr.lookup 128 v5 v2 true) h5 fun v6 h6=>o_ G (Instr.extract v6 0) h6 fun v7 h7=>o_ G (Instr.extract v6 1) h7 fun v8 h8=>o_ G (Op.unary .not v8) h8 fun v9 h9=>
 cond v9
 (bk P_ noHp noHp (xNil (r 0)) h9 fun v10 h10=>
 p_ (Instr.fieldAt 134 v10 1) h10 fun v11 h11=>
 w_ G h9 (Instr.loadAt 68 v11) h11 fun v12 h12=>
 bk P_ noHp noHp (xNil (r 0)) h12 fun v13 h13=>
 p_ (Instr.fieldAt 134 v13 3) h13 fun v14 h14=>
 w_ G h9 (Instr.loadAt 34 v14) h14 fun v15 h15=>
 bk P_ noHp noHp (xNil (r 0)) h15 fun v16 h16=>
 p_ (Instr.fieldAt 134 v16 4) h16 fun v17 h17=>
 w_ G h9 (Instr.loadAt 3 v17) h17 fun v18 h18=>
 bk P_ noHp noHp (xNil (r 0)) h18 fun v19 h19=>
 p_ (Instr.fieldAt 134 v19 1) h19 fun v20 h20=>
 w_ G h9 (Instr.loadAt 68 v20) h20 fun v21 h21=>
 w_ G h9 (Instr.loadAt 30 v0) h21 fun v22 h22=>
 c_ G 89 #[v21,v22] h22 fun v23 h23=>h9.le h23/\
 c_ G 108 #[v12,v15,v18,v23] h23 fun v24 h24=>
 opH P_ G (xNil (r 0)) h24 fun v25 h25=>o_ G (Instr.fieldAt 134 v25 5) h25 fun v26 h26=>o_ G (Instr.loadAt 128 v26) h26 fun v27 h27=>
 opH P_ G (su (Instr.mapUpdate 128 v27 v2 v24)) h27 fun v28 h28=>
 Pk G K (u5 (u10 (u10 (u10 (u10 r 3 v0 4 (.slice none 0 0) 8 (r 0) 9 v1 10 v2 5 v2 12 (r 0) 13 v3 14 v4 15 v5) 16 v2 17 v6 11 v6 18 v7 19 v8 6 v7 7 v8 20 v8 21 v9 22 (r 0)) 23 v10 24 v11 25 v12 26 (r 0) 27 v13 28 v14 29 v15 30 (r 0) 31 v16 32 v17) 33 v18 34 (r 0) 35 v19 36 v20 37 v21 38 v22 39 v23 40 v24 6 v24 41 (r 0)) 42 v25 43 v26 44 v27 45 v2 46 v24) h28)
 (Pk G K (u9 (u10 r 3 v0 4 (.slice none 0 0) 8 (r 0) 9 v1 10 v2 5 v2 12 (r 0) 13 v3 14 v4 15 v5) 16 v2 17 v6 11 v6 18 v7 19 v8 6 v7 7 v8 20 v8 21 v9) h9)
theorem enter66:Ent 48 66 [.tmp 4] S66:=ent_ (m:=md66) (c:=(Tryz.f66.body.getD .skip)) (fun _ _ _ _=>by kernel_rfl) Tryz.func66 rfl rfl rfl
def md121:Nat->Hint
 |5=>mh false [0,1,3,7,0,31] [m_,n_,n_,m_,m_,e_] (fs 6) false
 |7=>mh false [0,0,0,4,12,28,0,64,192,448,0,2044,0,4096,12288,28672,0,65536,196608,458752,0,1048576,3145728,7340032,0,16777216,50331648,117440512,0,520097788,1073741820,2147483646,4294967294,8589934591,17179869183] [m_,m_,m_,n_,n_,m_,m_,n_,n_,m_,m_,e_,m_,n_,n_,m_,m_,n_,n_,m_,m_,n_,n_,m_,m_,n_,n_,m_,m_,e_,e_,n_,.alloc,e_,.store] [false,false,false,false,false,false,false,false,false,false,false,true,false,false,false,false,false,false,false,false,false,false,false,false,false,false,false,false,false,true,true,false,false,false,false] true
 |8=>mh false [0,1,3,7,0,0,63] [m_,n_,n_,m_,n_,m_,e_] (fs 7) false
 |_=>mh false [] [] [] false
def Y6:Prop:=
 w_ G h (Instr.loadAt 127 (r 2)) h fun v20 h20=>
 bk P_ noHp noHp (xNil v20) h20 fun v21 h21=>
 p_ (Instr.fieldAt 134 v21 6) h21 fun v22 h22=>
 w_ G h (Instr.loadAt 129 v22) h22 fun v23 h23=>
 w_ G h (Instr.loadAt 229 (r 6)) h23 fun v24 h24=>
 opH P_ G (su (Instr.mapUpdate 129 v23 (r 5) v24)) h24 fun v25 h25=>o_ G (Instr.loadAt 229 (r 6)) h25 fun v26 h26=>
 K .ret (u8 r 64 v20 65 v21 66 v22 67 v23 68 (r 5) 69 v24 70 v26 4 v26) h26
def Qb (r:Rg) (h:Hp) (K:EK):Prop:=
 o_ G (Instr.alloc 48 true (.tuple #[])) h fun v27 h27=>
 opH P_ G (su (Instr.storeAt 48 v27 (r 29))) h27 fun v28 h28=>
 K .normal (upd r 8 v27) h28
def Qa (r:Rg) (h:Hp) (K:EK):Prop:=
 ∃q29:Hp,q29.le h/\
 w_ G q29 (Instr.loadAt 229 (r 6)) h fun v30 h30=>
 w_ G q29 (Instr.loadAt 48 (r 8)) h30 fun v31 h31=>
 w_ G q29 (Instr.loadAt 127 (r 2)) h31 fun v32 h32=>
 bk P_ noHp noHp (xNil v32) h32 fun v33 h33=>
 p_ (Instr.fieldAt 134 v33 0) h33 fun v34 h34=>
 w_ G q29 (Instr.loadAt 26 v34) h34 fun v35 h35=>
 w_ G q29 (Instr.loadAt 127 (r 2)) h35 fun v36 h36=>
 bk P_ noHp noHp (xNil v36) h36 fun v37 h37=>
 p_ (Instr.fieldAt 134 v37 2) h37 fun v38 h38=>
 w_ G q29 (Instr.loadAt 50 v38) h38 fun v39 h39=>
 w_ G q29 (Instr.loadAt 48 (r 8)) h39 fun v40 h40=>
 c_ G 30 #[v35,v39,v40] h40 fun v41 h41=>q29.le h41/\
 w_ G q29 (Instr.loadAt 127 (r 2)) h41 fun v42 h42=>
 bk P_ noHp noHp (xNil v42) h42 fun v43 h43=>
 p_ (Instr.fieldAt 134 v43 1) h43 fun v44 h44=>
 w_ G q29 (Instr.loadAt 68 v44) h44 fun v45 h45=>
 w_ G q29 (Instr.loadAt 127 (r 2)) h45 fun v46 h46=>
 bk P_ noHp noHp (xNil v46) h46 fun v47 h47=>
 p_ (Instr.fieldAt 134 v47 3) h47 fun v48 h48=>
 w_ G q29 (Instr.loadAt 34 v48) h48 fun v49 h49=>
 w_ G q29 (Instr.loadAt 127 (r 2)) h49 fun v50 h50=>
 bk P_ noHp noHp (xNil v50) h50 fun v51 h51=>
 p_ (Instr.fieldAt 134 v51 4) h51 fun v52 h52=>
 w_ G q29 (Instr.loadAt 3 v52) h52 fun v53 h53=>
 w_ G q29 (Instr.loadAt 127 (r 2)) h53 fun v54 h54=>
 bk P_ noHp noHp (xNil v54) h54 fun v55 h55=>
 p_ (Instr.fieldAt 134 v55 1) h55 fun v56 h56=>
 w_ G q29 (Instr.loadAt 68 v56) h56 fun v57 h57=>
 w_ G q29 (Instr.loadAt 48 (r 8)) h57 fun v58 h58=>
 c_ G 90 #[v57,v58] h58 fun v59 h59=>q29.le h59/\
 c_ G 108 #[v45,v49,v53,v59] h59 fun v60 h60=>q29.le h60/\
 p_ (Instr.build 232 #[(0,v31),(1,v41),(2,v60)]) h60 fun v61 h61=>o_ G (Instr.buildSlice 229 1 #[(0,v61)]) h61 fun v62 h62=>o_ G (Builtin.append_ #[229,229] 229 #[v30,v62]) h62 fun v63 h63=>
 opH P_ G (su (Instr.storeAt 229 (r 6) v63)) h63 fun v64 h64=>
 K .normal (u4 (u10 (u10 (u10 r 30 v30 31 v31 32 v32 33 v33 34 v34 35 v35 36 v36 37 v37 38 v38 39 v39) 40 v40 41 v41 42 v42 43 v43 44 v44 45 v45 46 v46 47 v47 48 v48 49 v49) 50 v50 51 v51 52 v52 53 v53 54 v54 55 v55 56 v56 57 v57 58 v58 59 v59) 60 v60 61 v61 62 v62 63 v63) h64
def Y7:Prop:=
 w_ G h (Instr.loadAt 127 (r 2)) h fun v14 h14=>
 bk P_ noHp noHp (xNil v14) h14 fun v15 h15=>
 p_ (Instr.fieldAt 134 v15 1) h15 fun v16 h16=>
 w_ G h (Instr.loadAt 68 v16) h16 fun v17 h17=>
 w_ G h (Instr.loadAt 30 (r 3)) h17 fun v18 h18=>
 c_ G 149 #[v17,v18] h18 fun v19 h19=>
 J9 P_ G 1 (Qb G) (Qa G) (setR 71 #[29]) v19 (u6 r 23 v14 24 v15 25 v16 26 v17 27 v18 28 v19) h19 (bn 0 (bv (Y6 G K) K))
def S121:Prop:=
 o_ G (Instr.box 127 (r 0)) h fun v0 h0=>o_ G (Instr.box 30 (r 1)) h0 fun v1 h1=>o_ G (Instr.loadAt 127 v0) h1 fun v2 h2=>o_ G (Instr.loadAt 30 v1) h2 fun v3 h3=>
 c_ G 115 #[v2,v3] h3 fun v4 h4=>o_ G (Instr.loadAt 127 v0) h4 fun v5 h5=>
 opH P_ G (xNil v5) h5 fun v6 h6=>o_ G (Instr.fieldAt 134 v6 6) h6 fun v7 h7=>o_ G (Instr.loadAt 129 v7) h7 fun v8 h8=>o_ G (Instr.lookup 129 v8 v4 true) h8 fun v9 h9=>o_ G (Instr.extract v9 0) h9 fun v10 h10=>o_ G (Instr.extract v9 1) h10 fun v11 h11=>o_ G (Instr.alloc 229 true (.tuple #[])) h11 fun v12 h12=>
 opH P_ G (su (Instr.storeAt 229 v12 v10)) h12 fun v13 h13=>
 cond v11
 (o_ G (Instr.loadAt 229 v12) h13 fun v65 h65=>
 K .ret (upd (u10 (u10 r 2 v0 3 v1 4 (.slice none 0 0) 9 v2 10 v3 11 v4 5 v4 13 v5 14 v6 15 v7) 16 v8 17 v4 18 v9 12 v9 19 v10 20 v11 6 v12 7 v11 21 v11 22 v65) 4 v65) h65)
 (Y7 G K (u9 (u10 r 2 v0 3 v1 4 (.slice none 0 0) 9 v2 10 v3 11 v4 5 v4 13 v5 14 v6 15 v7) 16 v8 17 v4 18 v9 12 v9 19 v10 20 v11 6 v12 7 v11 21 v11) h13)
theorem au3:Ent 71 121 [.tmp 4] S121:=ent_ (m:=md121) (c:=(Tryz.f121.body.getD .skip)) (fun _ _ _ _=>by kernel_rfl) Tryz.func121 rfl rfl rfl
def md67:Nat->Hint
 |4=>mh false [0,1,3,7,0,31,63,127,127,255,1023] [n_,n_,n_,m_,m_,m_,n_,n_,n_,n_,n_] (fs 11) false
 |7=>mh false [0,1,3,7,0,31] [n_,n_,n_,m_,m_,e_] (fs 6) false
 |8=>mh false [0,1,3,7,0,0,48,127] [n_,n_,n_,m_,n_,m_,n_,e_] (fs 8) false
 |_=>mh false [] [] [] false
def Vv:Prop:=
 o_ G (Instr.fieldAt 146 (r 7) 2) h fun v31 h31=>
 opH P_ G (su (Instr.storeAt 3 v31 (r 2))) h31 fun v32 h32=>
 bk P_ noHp noHp (xNil (r 0)) h32 fun v33 h33=>
 p_ (Instr.fieldAt 134 v33 8) h33 fun v34 h34=>
 w_ G h32 (Instr.loadAt 131 v34) h34 fun v35 h35=>
 w_ G h32 (Instr.loadAt 137 (r 9)) h35 fun v36 h36=>
 opH P_ G (su (Instr.mapUpdate 131 v35 v36 (r 7))) h36 fun v37 h37=>
 bk P_ noHp noHp (xNil (r 0)) h37 fun v38 h38=>
 p_ (Instr.fieldAt 134 v38 9) h38 fun v39 h39=>
 w_ G h37 (Instr.loadAt 132 v39) h39 fun v40 h40=>
 w_ G h37 (Instr.loadAt 137 (r 9)) h40 fun v41 h41=>
 p_ (Instr.build 139 #[(0,(r 2)),(1,v41)]) h41 fun v42 h42=>
 c_ G 116 #[v40,v42] h42 fun v43 h43=>
 K .normal (u5 (u10 r 48 (r 2) 49 v31 50 (r 0) 51 v33 52 v34 53 v35 54 v36 55 (r 0) 56 v38 57 v39) 58 v40 59 (r 2) 60 v41 61 v42 62 v43) h43
def aA4:Prop:=
 o_ G (Instr.loadAt 30 (r 5)) h fun v6 h6=>
 c_ G 115 #[(r 0),v6] h6 fun v7 h7=>o_ G (Instr.build 137 #[(0,v7),(1,(r 8))]) h7 fun v8 h8=>o_ G (Instr.alloc 137 true (.tuple #[])) h8 fun v9 h9=>
 opH P_ G (su (Instr.storeAt 137 v9 v8)) h9 fun v10 h10=>
 bk P_ noHp noHp (xNil (r 0)) h10 fun v11 h11=>
 p_ (Instr.fieldAt 134 v11 8) h11 fun v12 h12=>
 w_ G h10 (Instr.loadAt 131 v12) h12 fun v13 h13=>
 w_ G h10 (Instr.loadAt 137 v9) h13 fun v14 h14=>
 w_ G h10 (Instr.lookup 131 v13 v14 true) h14 fun v15 h15=>
 p_ (Instr.extract v15 0) h15 fun v16 h16=>
 p_ (Instr.extract v15 1) h16 fun v17 h17=>g_ v17 true (fun K1=>K1 v16 h17) h17 fun v18 h18=>g_ v17 true (opH P_ G (xNil v18) h18) h18 fun v19 h19=>g_ v17 true (o_ G (Instr.fieldAt 146 v19 3) h19) h19 fun v20 h20=>g_ v17 true (o_ G (Instr.loadAt 4 v20) h20) h20 fun v21 h21=>g_ v17 true (fun K1=>K1 v21 h21) h21 fun v22 h22=>g_ v22 false (fun K1=>K1 v16 h22) h22 fun v23 h23=>g_ v22 false (opH P_ G (xNil v23) h23) h23 fun v24 h24=>g_ v22 false (o_ G (Instr.fieldAt 146 v24 2) h24) h24 fun v25 h25=>g_ v22 false (o_ G (Instr.loadAt 3 v25) h25) h25 fun v26 h26=>g_ v22 false (fun K1=>K1 (r 2) h26) h26 fun v27 h27=>g_ v22 false (o_ G (binOp .leq 3 v26 v27) h27) h27 fun v28 h28=>g_ v17 true (opH P_ G (bj v22 (.bool true) v28) h28) h28 fun v29 h29=>
 opH P_ G (bj v17 v29 (.bool false)) h29 fun v30 h30=>
 (fun q=>cond v30
 (K .ret q h30)
 (Vv G K q h30))
 (u2 (u10 (u10 (u10 r 19 (r 0) 20 v6 21 v7 22 (r 8) 23 v8 9 v9 25 (r 0) 26 v11 27 v12 28 v13) 29 v14 30 v15 24 v15 31 v16 32 v17 10 v16 11 v17 33 v17 34 v17 35 v18) 36 v19 37 v20 38 v21 39 v22 40 v23 41 v24 42 v25 43 v26 44 v27 45 v28) 46 v29 47 v30)
def S67:Prop:=
 o_ G (Instr.box 30 (r 1)) h fun v0 h0=>o_ G (Instr.box 146 (r 3)) h0 fun v1 h1=>o_ G (Instr.loadAt 30 v0) h1 fun v2 h2=>
 c_ G 66 #[(r 0),v2] h2 fun v3 h3=>
 c_ G 65 #[v3,(r 2)] h3 fun v4 h4=>o_ G (binOp .lss 3 v4 (.int .i64 0)) h4 fun v5 h5=>
 (fun q=>cond v5
 (K .ret q h5)
 (aA4 G K q h5))
 (u10 r 5 v0 7 v1 12 (r 0) 13 v2 14 v3 15 (r 2) 16 v4 8 v4 17 v4 18 v5)
theorem enter67:Ent 63 67 [] S67:=ent_ (m:=md67) (c:=(Tryz.f67.body.getD .skip)) (fun _ _ _ _=>by kernel_rfl) Tryz.func67 rfl rfl rfl
def md70:Nat->Hint
 |1=>mh false [0,1,3,7,0,16,63,0,255] [n_,n_,n_,m_,n_,m_,m_,.alloc,.store] (fs 9) false
 |2=>mh false [0,0,3,0,8,31,63,0,255] [n_,m_,e_,n_,m_,n_,m_,.alloc,.store] [false,false,true,false,false,false,false,false,false] true
 |_=>mh false [] [] [] false
def En:Prop:=
 o_ G (binOp .add 3 (r 33) (.int .i64 1)) h fun v22 h22=>
 K .normal (u2 r 93 v22 33 v22) h22
def nw:Prop:=
 o_ G (binOp .add 3 (r 40) (.int .i64 1)) h fun v31 h31=>
 K .normal (u2 r 92 v31 40 v31) h31
def Dm:Prop:=
 o_ G (Instr.fieldAt 232 (r 9) 0) h fun v64 h64=>o_ G (Instr.loadAt 48 v64) h64 fun v65 h65=>o_ G (Instr.alloc 48 true (.tuple #[])) h65 fun v66 h66=>
 opH P_ G (su (Instr.storeAt 48 v66 v65)) h66 fun v67 h67=>o_ G (Instr.fieldAt 48 v66 5) h67 fun v68 h68=>
 opH P_ G (su (Instr.storeAt 3 v68 (r 12))) h68 fun v69 h69=>o_ G (Instr.fieldAt 48 v66 6) h69 fun v70 h70=>
 opH P_ G (su (Instr.storeAt 3 v70 (r 13))) h70 fun v71 h71=>o_ G (Instr.fieldAt 48 v66 4) h71 fun v72 h72=>o_ G (Instr.loadAt 30 v72) h72 fun v73 h73=>o_ G (Instr.loadAt 137 (r 4)) h73 fun v74 h74=>o_ G (Instr.loadAt 48 v66) h74 fun v75 h75=>o_ G (Instr.build 146 #[(0,v74),(1,v75)]) h75 fun v76 h76=>
 c_ G 67 #[(r 0),v73,(r 13),v76] h76 fun v77 h77=>
 nw G K (u5 (u10 r 78 v64 79 v65 14 v66 80 (r 12) 81 (r 13) 82 v68 83 v70 84 (r 0) 85 v72 86 v73) 87 (r 13) 88 v74 89 v75 90 v76 91 v77) h77
def Dn:Prop:=
 o_ G (Instr.fieldAt 151 (r 11) 0) h fun v47 h47=>o_ G (Instr.loadAt 3 v47) h47 fun v48 h48=>o_ G (Builtin.max_ #[3,3] 3 #[(r 2),v48]) h48 fun v49 h49=>o_ G (Instr.fieldAt 232 (r 9) 1) h49 fun v50 h50=>o_ G (Instr.loadAt 3 v50) h50 fun v51 h51=>
 c_ G 77 #[v49,v51] h51 fun v52 h52=>o_ G (Instr.fieldAt 151 (r 11) 1) h52 fun v53 h53=>o_ G (Instr.loadAt 3 v53) h53 fun v54 h54=>o_ G (binOp .geq 3 v49 v54) h54 fun v55 h55=>g_ v55 false (fun K1=>K1 v52 h55) h55 fun v56 h56=>g_ v55 false (o_ G (Instr.fieldAt 151 (r 11) 1) h56) h56 fun v57 h57=>g_ v55 false (o_ G (Instr.loadAt 3 v57) h57) h57 fun v58 h58=>g_ v55 false (o_ G (binOp .gtr 3 v56 v58) h58) h58 fun v59 h59=>
 opH P_ G (bj v55 (.bool true) v59) h59 fun v60 h60=>g_ v60 false (fun K1=>K1 v52 h60) h60 fun v61 h61=>g_ v60 false (o_ G (binOp .geq 3 v61 (.int .i64 4611686018427387904)) h61) h61 fun v62 h62=>
 opH P_ G (bj v60 (.bool true) v62) h62 fun v63 h63=>
 (fun q=>cond v63
 (nw G K q h63)
 (Dm G K q h63))
 (u4 (u10 (u10 r 56 (r 2) 57 v47 58 v48 59 v49 12 v49 60 v49 61 v50 62 v51 63 v52 13 v52) 64 v49 65 v53 66 v54 67 v55 68 v55 69 v56 70 v57 71 v58 72 v59 73 v60) 74 v60 75 v61 76 v62 77 v63)
def Dp:Prop:=
 o_ G (Instr.indexAt 142 (r 38) (r 40)) h fun v32 h32=>o_ G (Instr.loadAt 151 v32) h32 fun v33 h33=>o_ G (Instr.alloc 151 true (.tuple #[])) h33 fun v34 h34=>
 opH P_ G (su (Instr.storeAt 151 v34 v33)) h34 fun v35 h35=>o_ G (Instr.fieldAt 151 v34 0) h35 fun v36 h36=>o_ G (Instr.loadAt 3 v36) h36 fun v37 h37=>o_ G (Instr.fieldAt 151 (r 7) 0) h37 fun v38 h38=>o_ G (Instr.loadAt 3 v38) h38 fun v39 h39=>o_ G (binOp .lss 3 v37 v39) h39 fun v40 h40=>g_ v40 false (o_ G (Instr.fieldAt 151 v34 1) h40) h40 fun v41 h41=>g_ v40 false (o_ G (Instr.loadAt 3 v41) h41) h41 fun v42 h42=>g_ v40 false (o_ G (Instr.fieldAt 151 (r 7) 1) h42) h42 fun v43 h43=>g_ v40 false (o_ G (Instr.loadAt 3 v43) h43) h43 fun v44 h44=>g_ v40 false (o_ G (binOp .gtr 3 v42 v44) h44) h44 fun v45 h45=>
 opH P_ G (bj v40 (.bool true) v45) h45 fun v46 h46=>
 (fun q=>cond v46
 (nw G K q h46)
 (Dn G K q h46))
 (u5 (u10 r 42 v32 43 v33 11 v34 44 v36 45 v37 46 v38 47 v39 48 v40 49 v40 50 v41) 51 v42 52 v43 53 v44 54 v45 55 v46)
def Em (r:Rg) (h:Hp) (K:EK):Prop:=
 o_ G (binOp .lss 3 (r 40) (r 39)) h fun v30 h30=>
 cond v30
 (Dp G K (upd r 41 v30) h30)
 (K (.exit 2) (upd r 41 v30) h30)
def Mx:Prop:=
 o_ G (Instr.indexAt 229 (r 31) (r 33)) h fun v23 h23=>o_ G (Instr.loadAt 232 v23) h23 fun v24 h24=>o_ G (Instr.alloc 232 true (.tuple #[])) h24 fun v25 h25=>
 opH P_ G (su (Instr.storeAt 232 v25 v24)) h25 fun v26 h26=>o_ G (Instr.fieldAt 232 v25 2) h26 fun v27 h27=>o_ G (Instr.loadAt 142 v27) h27 fun v28 h28=>o_ G (Builtin.len_ #[142] 3 #[v28]) h28 fun v29 h29=>
 ci (Em G) (u7 r 35 v23 36 v24 9 v25 37 v27 38 v28 39 v29 40 (.int .i64 0)) h29 (bn 2 (bn 1 (bv (En G K) K)))
def Vt (r:Rg) (h:Hp) (K:EK):Prop:=
 o_ G (binOp .lss 3 (r 33) (r 32)) h fun v21 h21=>
 cond v21
 (Mx G K (upd r 34 v21) h21)
 (K (.exit 0) (upd r 34 v21) h21)
def S70:Prop:=
 o_ G (Instr.box 137 (r 1)) h fun v0 h0=>
 bk P_ noHp noHp (xNil (r 0)) h0 fun v1 h1=>
 p_ (Instr.fieldAt 134 v1 7) h1 fun v2 h2=>
 w_ G h0 (Instr.loadAt 130 v2) h2 fun v3 h3=>
 p_ (Instr.fieldAt 137 v0 0) h3 fun v4 h4=>
 w_ G h0 (Instr.loadAt 3 v4) h4 fun v5 h5=>
 w_ G h0 (Instr.lookup 130 v3 v5 false) h5 fun v6 h6=>o_ G (Instr.alloc 30 true (.tuple #[])) h6 fun v7 h7=>
 opH P_ G (su (Instr.storeAt 30 v7 v6)) h7 fun v8 h8=>
 ∃q9:Hp,q9.le h8/\
 w_ G q9 (Instr.loadAt 30 v7) h8 fun v10 h10=>
 c_ G 66 #[(r 0),v10] h10 fun v11 h11=>q9.le h11/\
 p_ (Instr.fieldAt 137 v0 1) h11 fun v12 h12=>
 w_ G q9 (Instr.loadAt 3 v12) h12 fun v13 h13=>
 p_ (Instr.indexAt 142 v11 v13) h13 fun v14 h14=>
 w_ G q9 (Instr.loadAt 151 v14) h14 fun v15 h15=>o_ G (Instr.alloc 151 true (.tuple #[])) h15 fun v16 h16=>
 opH P_ G (su (Instr.storeAt 151 v16 v15)) h16 fun v17 h17=>o_ G (Instr.loadAt 30 v7) h17 fun v18 h18=>
 c_ G 121 #[(r 0),v18] h18 fun v19 h19=>o_ G (Builtin.len_ #[229] 3 #[v19]) h19 fun v20 h20=>
 ci (Vt G) (u2 (u10 (u10 r 4 v0 15 (r 0) 16 v1 17 v2 18 v3 19 v4 20 v5 21 v6 6 v7 22 (r 0)) 23 v10 24 v11 25 v12 26 v13 27 v14 28 v15 7 v16 29 (r 0) 30 v18 31 v19) 32 v20 33 (.int .i64 0)) h20 (bn 0 K)
theorem enter70:Ent 94 70 [] S70:=ent_ (m:=md70) (c:=(Tryz.f70.body.getD .skip)) (fun _ _ _ _=>by kernel_rfl) Tryz.func70 rfl rfl rfl
def md69:Nat->Hint
 |2=>mh false [0,1,3,7,0,31,63] [n_,n_,n_,m_,m_,m_,n_] (fs 7) false
 |4=>mh false [0,1,3,7,0,16,48,112,255,511] [n_,n_,n_,m_,n_,n_,n_,m_,m_,n_] (fs 10) false
 |_=>mh false [] [] [] false
def Vu:Prop:=
 c_ G 120 #[(r 5)] h fun v6 h6=>
 K .ret (u4 r 35 (r 5) 36 v6 37 (r 5) 4 (r 5)) h6
def My:Prop:=
 bk P_ noHp noHp (xNil (r 0)) h fun v12 h12=>
 p_ (Instr.fieldAt 134 v12 8) h12 fun v13 h13=>
 w_ G h (Instr.loadAt 131 v13) h13 fun v14 h14=>
 bk P_ noHp noHp (xNil (r 6)) h14 fun v15 h15=>
 p_ (Instr.fieldAt 146 v15 0) h15 fun v16 h16=>
 w_ G h (Instr.loadAt 137 v16) h16 fun v17 h17=>
 w_ G h (Instr.lookup 131 v14 v17 false) h17 fun v18 h18=>
 K .normal (u10 r 19 (r 0) 20 v12 21 v13 22 v14 23 (r 6) 24 v15 25 v16 26 v17 27 v18 6 v18) h18
def Mz:Prop:=
 opH P_ G (xNil (r 6)) h fun v19 h19=>o_ G (Instr.fieldAt 146 v19 1) h19 fun v20 h20=>o_ G (Instr.loadAt 48 v20) h20 fun v21 h21=>o_ G (Instr.buildSlice 40 1 #[(0,v21)]) h21 fun v22 h22=>o_ G (Builtin.append_ #[40,40] 40 #[(r 5),v22]) h22 fun v23 h23=>
 My G K (u8 r 28 (r 5) 29 (r 6) 30 v19 31 v20 32 v21 33 v22 34 v23 5 v23) h23
def aA2 (r:Rg) (h:Hp) (K:EK):Prop:=
 opH P_ G (xNil (r 6)) h fun v7 h7=>o_ G (Instr.fieldAt 146 v7 1) h7 fun v8 h8=>o_ G (Instr.fieldAt 48 v8 0) h8 fun v9 h9=>o_ G (Instr.loadAt 3 v9) h9 fun v10 h10=>
 opH P_ G (xEq .neq 3 (.tmp 0) (.const .nilFunc) v10 (.int .i64 0)) h10 fun v11 h11=>
 (fun q=>cond v11
 (Mz G K q h11)
 (K (.exit 0) q h11))
 (u6 r 13 (r 6) 14 v7 15 v8 16 v9 17 v10 18 v11)
def S69:Prop:=
 o_ G (Instr.box 137 (r 1)) h fun v0 h0=>
 bk P_ noHp noHp (xNil (r 0)) h0 fun v1 h1=>
 p_ (Instr.fieldAt 134 v1 8) h1 fun v2 h2=>
 w_ G h0 (Instr.loadAt 131 v2) h2 fun v3 h3=>
 w_ G h0 (Instr.loadAt 137 v0) h3 fun v4 h4=>
 w_ G h0 (Instr.lookup 131 v3 v4 false) h4 fun v5 h5=>
 ci (aA2 G) (u10 r 3 v0 4 (.slice none 0 0) 5 (.slice none 0 0) 7 (r 0) 8 v1 9 v2 10 v3 11 v4 12 v5 6 v5) h5 (bn 0 (bv (Vu G K) K))
theorem enter69:Ent 38 69 [.tmp 4] S69:=ent_ (m:=md69) (c:=(Tryz.f69.body.getD .skip)) (fun _ _ _ _=>by kernel_rfl) Tryz.func69 rfl rfl rfl
def md27:Nat->Hint
 |7=>mh false [0,1,3,7,15,7,39,7,135,487,1023,2047,4095,8191,16383,32767,65535,131071,262143,524287,1048575,2097151,4194303,8388607,16777215,33554431,33554431,134217727,268435455,536870911,1073741823,2147483647,4294967295,8589934591] [n_,m_,n_,n_,e_,n_,m_,n_,m_,n_,m_,n_,n_,n_,n_,n_,n_,n_,n_,n_,n_,n_,n_,n_,n_,n_,m_,e_,n_,n_,n_,n_,n_,n_] [false,false,false,false,true,false,false,false,false,false,false,false,false,false,false,false,false,false,false,false,false,false,false,false,false,false,false,false,false,false,false,false,false,false] true
 |19=>mh false [0,1,3,7,0,16,63,127] [n_,n_,n_,m_,n_,m_,m_,n_] (fs 8) false
 |20=>mh false [0,1,3,7,15,31,63,127,255,31,543,2047,4095] [n_,n_,n_,m_,n_,n_,n_,n_,m_,n_,m_,m_,n_] (fs 13) false
 |23=>mh false [0,1,3,7,0,16,48,127,0,511] [n_,n_,n_,m_,n_,n_,m_,m_,.alloc,.store] (fs 10) false
 |25=>mh false [0,1,3,3,15,3,35,99,255,511,1023,2047,4095] [n_,n_,n_,m_,e_,n_,n_,m_,n_,n_,m_,m_,n_] [false,false,false,false,true,false,false,false,false,false,false,false,false] true
 |_=>mh false [] [] [] false
def Er (G:Hp) (K:EK) (r:Rg) (h:Hp):Prop:=
 K .ret (u3 r 201 (r 15) 12 (.slice none 0 0) 13 (r 15)) h
def I2:Prop:=
 o_ G (Instr.fieldAt 139 (r 21) 1) h fun v137 h137=>o_ G (Instr.loadAt 137 v137) h137 fun v138 h138=>o_ G (Instr.fieldAt 139 (r 21) 0) h138 fun v139 h139=>o_ G (Instr.loadAt 3 v139) h139 fun v140 h140=>
 c_ G 70 #[(r 19),v138,v140] h140 fun v141 h141=>
 K .normal (u6 r 195 (r 19) 196 v137 197 v138 198 v139 199 v140 200 v141) h141
def Eo:Prop:=
 o_ G (Instr.fieldAt 26 (r 6) 14) h fun v134 h134=>o_ G (Instr.loadAt 3 v134) h134 fun v135 h135=>
 opH P_ G (xEq .eql 3 (.tmp 0) (.tmp 0) (r 20) v135) h135 fun v136 h136=>
 (fun q=>cond v136
 (K (.exit 0) (upd q 15 (.int .i64 7)) h136)
 (I2 G K q h136))
 (u4 r 191 (r 20) 192 v134 193 v135 194 v136)
def Ep:Prop:=
 opH P_ G (xNil (r 23)) h fun v94 h94=>o_ G (Instr.fieldAt 146 v94 3) h94 fun v95 h95=>
 opH P_ G (su (Instr.storeAt 4 v95 (.bool true))) h95 fun v96 h96=>o_ G (binOp .add 3 (r 20) (.int .i64 1)) h96 fun v97 h97=>
 bk P_ noHp noHp (xNil (r 19)) h97 fun v98 h98=>
 p_ (Instr.fieldAt 134 v98 7) h98 fun v99 h99=>
 w_ G h97 (Instr.loadAt 130 v99) h99 fun v100 h100=>
 p_ (Instr.fieldAt 139 (r 21) 1) h100 fun v101 h101=>
 p_ (Instr.fieldAt 137 v101 0) h101 fun v102 h102=>
 w_ G h97 (Instr.loadAt 3 v102) h102 fun v103 h103=>
 w_ G h97 (Instr.lookup 130 v100 v103 false) h103 fun v104 h104=>o_ G (Instr.alloc 30 true (.tuple #[])) h104 fun v105 h105=>
 opH P_ G (su (Instr.storeAt 30 v105 v104)) h105 fun v106 h106=>o_ G (Instr.loadAt 30 v105) h106 fun v107 h107=>o_ G (Instr.fieldAt 45 (r 11) 0) h107 fun v108 h108=>o_ G (Instr.loadAt 30 v108) h108 fun v109 h109=>
 opH P_ G (xEq .eql 30 (.tmp 0) (.tmp 0) v107 v109) h109 fun v110 h110=>g_ v110 false (o_ G (Instr.fieldAt 45 (r 11) 1) h110) h110 fun v111 h111=>g_ v110 false (o_ G (Instr.loadAt 4 v111) h111) h111 fun v112 h112=>g_ v110 false (fun K1=>K1 v112 h112) h112 fun v113 h113=>g_ v113 true (o_ G (Instr.fieldAt 30 v105 0) h113) h113 fun v114 h114=>g_ v113 true (o_ G (Instr.loadAt 28 v114) h114) h114 fun v115 h115=>g_ v113 true (o_ G (Instr.fieldAt 45 (r 11) 0) h115) h115 fun v116 h116=>g_ v113 true (o_ G (Instr.fieldAt 30 v116 0) h116) h116 fun v117 h117=>g_ v113 true (o_ G (Instr.loadAt 28 v117) h117) h117 fun v118 h118=>g_ v113 true (opH P_ G (xEq .eql 28 (.tmp 0) (.tmp 0) v115 v118) h118) h118 fun v119 h119=>g_ v110 false (opH P_ G (bj v113 v119 (.bool false)) h119) h119 fun v120 h120=>
 opH P_ G (bj v110 (.bool true) v120) h120 fun v121 h121=>
 ∃q122:Hp,q122.le h121/\
 g_ v121 true (fun K1=>K1 (r 19) h121) h121 fun v123 h123=>g_ v121 true (w_ G q122 (Instr.loadAt 30 v105) h123) h123 fun v124 h124=>g_ v121 true (fun K1=>c_ G 66 #[v123,v124] h124 fun v h'=>q122.le h'/\K1 v h') h124 fun v125 h125=>g_ v121 true (p_ (Instr.fieldAt 139 (r 21) 1) h125) h125 fun v126 h126=>g_ v121 true (p_ (Instr.fieldAt 137 v126 1) h126) h126 fun v127 h127=>g_ v121 true (w_ G q122 (Instr.loadAt 3 v127) h127) h127 fun v128 h128=>g_ v121 true (p_ (Instr.indexAt 142 v125 v128) h128) h128 fun v129 h129=>g_ v121 true (p_ (Instr.fieldAt 151 v129 1) h129) h129 fun v130 h130=>g_ v121 true (w_ G q122 (Instr.loadAt 3 v130) h130) h130 fun v131 h131=>g_ v121 true (bk P_ G q122 (xEq .eql 3 (.tmp 0) (.const .nilFunc) v131 (.int .i64 4611686018427387904)) h131) h131 fun v132 h132=>
 bk P_ noHp noHp (bj v121 v132 (.bool false)) h132 fun v133 h133=>
 cond v133
 (o_ G (Instr.fieldAt 139 (r 21) 1) h133 fun v142 h142=>o_ G (Instr.loadAt 137 v142) h142 fun v143 h143=>
 c_ G 69 #[(r 19),v143] h143 fun v144 h144=>
 K .ret (upd (u10 (u10 (u10 (u10 (u10 r 145 (r 23) 146 v94 147 v95 148 (r 20) 149 v97 20 v97 150 (r 19) 151 v98 152 v99 153 v100) 154 v101 155 v102 156 v103 157 v104 24 v105 158 v107 159 v108 160 v109 161 v110 162 v110) 163 v111 164 v112 165 v113 166 v114 167 v115 168 v116 169 v117 170 v118 171 v119 172 v120) 173 v121 25 v121 174 v121 175 v121 176 v123 177 v124 178 v125 179 v126 180 v127 181 v128) 182 v129 183 v130 184 v131 185 v132 186 v133 187 (r 19) 188 v142 189 v143 190 v144 12 v144) 13 (.int .i64 0)) h144)
 (Eo G K (u5 (u10 (u10 (u10 (u10 r 145 (r 23) 146 v94 147 v95 148 (r 20) 149 v97 20 v97 150 (r 19) 151 v98 152 v99 153 v100) 154 v101 155 v102 156 v103 157 v104 24 v105 158 v107 159 v108 160 v109 161 v110 162 v110) 163 v111 164 v112 165 v113 166 v114 167 v115 168 v116 169 v117 170 v118 171 v119 172 v120) 173 v121 25 v121 174 v121 175 v121 176 v123 177 v124 178 v125 179 v126 180 v127 181 v128) 182 v129 183 v130 184 v131 185 v132 186 v133) h133)
def Nk:Prop:=
 bk P_ noHp noHp (xNil (r 19)) h fun v77 h77=>
 p_ (Instr.fieldAt 134 v77 8) h77 fun v78 h78=>
 w_ G h (Instr.loadAt 131 v78) h78 fun v79 h79=>
 p_ (Instr.fieldAt 139 (r 21) 1) h79 fun v80 h80=>
 w_ G h (Instr.loadAt 137 v80) h80 fun v81 h81=>
 w_ G h (Instr.lookup 131 v79 v81 false) h81 fun v82 h82=>
 bk P_ noHp noHp (xNil v82) h82 fun v83 h83=>
 p_ (Instr.fieldAt 146 v83 3) h83 fun v84 h84=>
 w_ G h82 (Instr.loadAt 4 v84) h84 fun v85 h85=>g_ v85 false (fun K1=>K1 v82 h85) h85 fun v86 h86=>g_ v85 false (bk P_ noHp noHp (xNil v86) h86) h86 fun v87 h87=>g_ v85 false (p_ (Instr.fieldAt 146 v87 2) h87) h87 fun v88 h88=>g_ v85 false (w_ G h82 (Instr.loadAt 3 v88) h88) h88 fun v89 h89=>g_ v85 false (p_ (Instr.fieldAt 139 (r 21) 0) h89) h89 fun v90 h90=>g_ v85 false (w_ G h82 (Instr.loadAt 3 v90) h90) h90 fun v91 h91=>g_ v85 false (bk P_ G h82 (xEq .neq 3 (.tmp 0) (.tmp 0) v89 v91) h91) h91 fun v92 h92=>
 bk P_ noHp noHp (bj v85 (.bool true) v92) h92 fun v93 h93=>
 (fun q=>cond v93
 (K .normal q h93)
 (Ep G K q h93))
 (upd (u10 (u10 r 125 (r 19) 126 v77 127 v78 128 v79 129 v80 130 v81 131 v82 23 v82 132 v82 133 v83) 134 v84 135 v85 136 v85 137 v86 138 v87 139 v88 140 v89 141 v90 142 v91 143 v92) 144 v93)
def V3 (r:Rg) (h:Hp) (K:EK):Prop:=
 opH P_ G (xNil (r 19)) h fun v68 h68=>o_ G (Instr.fieldAt 134 v68 9) h68 fun v69 h69=>o_ G (Instr.loadAt 132 v69) h69 fun v70 h70=>
 c_ G 68 #[v70] h70 fun v71 h71=>o_ G (Instr.extract v71 0) h71 fun v72 h72=>o_ G (Instr.extract v71 1) h72 fun v73 h73=>o_ G (Instr.alloc 139 true (.tuple #[])) h73 fun v74 h74=>
 opH P_ G (su (Instr.storeAt 139 v74 v72)) h74 fun v75 h75=>o_ G (Op.unary .not v73) h75 fun v76 h76=>
 (fun q=>cond v76
 (K (.exit 0) q h76)
 (Nk G K q h76))
 (u2 (u10 r 116 (r 19) 117 v68 118 v69 119 v70 120 v71 115 v71 121 v72 122 v73 21 v74 22 v73) 123 v73 124 v76)
def aD4:Prop:=
 o_ G (Instr.loadAt 30 (r 9)) h fun v65 h65=>o_ G (Instr.build 146 #[]) h65 fun v66 h66=>
 c_ G 67 #[(r 19),v65,(r 4),v66] h66 fun v67 h67=>
 ci (V3 G) (u7 r 110 (r 19) 111 v65 112 (r 4) 113 v66 114 v67 20 (.int .i64 0) 15 (.int .i64 6)) h67 (bn 0 (bv (Er G K) (qa K)))
def V4:Prop:=
 o_ G (Instr.fieldAt 26 (r 6) 7) h fun v41 h41=>o_ G (Instr.loadAt 3 v41) h41 fun v42 h42=>o_ G (Instr.fieldAt 26 (r 6) 8) h42 fun v43 h43=>o_ G (Instr.loadAt 3 v43) h43 fun v44 h44=>o_ G (Instr.fieldAt 26 (r 6) 9) h44 fun v45 h45=>o_ G (Instr.loadAt 3 v45) h45 fun v46 h46=>
 c_ G 29 #[v42,v44,v46] h46 fun v47 h47=>o_ G (Instr.extract v47 0) h47 fun v48 h48=>o_ G (Instr.extract v47 1) h48 fun v49 h49=>o_ G (Instr.loadAt 26 (r 6)) h49 fun v50 h50=>o_ G (Instr.makeMap 128 none) h50 fun v51 h51=>o_ G (Instr.makeMap 129 none) h51 fun v52 h52=>o_ G (Instr.makeMap 130 none) h52 fun v53 h53=>o_ G (Instr.makeMap 131 none) h53 fun v54 h54=>o_ G (Instr.build 134 #[(0,v50),(1,(r 14)),(2,v48),(3,(r 1)),(4,(r 2)),(5,v51),(6,v52),(7,v53),(8,v54),(9,(.pointer none))]) h54 fun v55 h55=>o_ G (Instr.box 134 v55) h55 fun v56 h56=>
 opH P_ G (callFunc 63 #[(.func (.func 64) #[] #[])]) h56 fun v57 h57=>
 opH P_ G (xNil v56) h57 fun v58 h58=>o_ G (Instr.fieldAt 134 v58 9) h58 fun v59 h59=>
 opH P_ G (su (Instr.storeAt 132 v59 v57)) h59 fun v60 h60=>o_ G (Instr.loadAt 30 (r 9)) h60 fun v61 h61=>
 c_ G 66 #[v56,v61] h61 fun v62 h62=>
 c_ G 65 #[v62,(r 4)] h62 fun v63 h63=>o_ G (binOp .lss 3 v63 (.int .i64 0)) h63 fun v64 h64=>
 (fun q=>cond v64
 (K .ret (u2 q 12 (.slice none 0 0) 13 (.int .i64 18)) h64)
 (aD4 G K q h64))
 (u4 (u10 (u10 (u10 r 80 v41 81 v42 82 v43 83 v44 84 v45 85 v46 86 v47 79 v47 87 v48 88 v49) 17 v48 18 v49 89 v50 90 (r 14) 91 v48 92 (r 1) 93 (r 2) 94 v51 95 v52 96 v53) 97 v54 98 v55 99 v56 19 v56 100 v56 101 v57 102 v58 103 v59 104 v56 105 v61) 106 v62 107 (r 4) 108 v63 109 v64)
def Pp:Prop:=
 ∃q13:Hp,q13.le h/\
 bk P_ G q13 (xEq .eql 34 (.tmp 0) (.const .nilFunc) (r 1) (.pointer none)) h fun v14 h14=>g_ v14 false (fun K1=>K1 (r 1) h14) h14 fun v15 h15=>g_ v14 false (fun K1=>c_ G 26 #[v15] h15 fun v h'=>q13.le h'/\K1 v h') h15 fun v16 h16=>g_ v14 false (p_ (Instr.fieldAt 26 (r 6) 0) h16) h16 fun v17 h17=>g_ v14 false (w_ G q13 (Instr.loadAt 3 v17) h17) h17 fun v18 h18=>g_ v14 false (p_ (Instr.fieldAt 26 (r 6) 1) h18) h18 fun v19 h19=>g_ v14 false (w_ G q13 (Instr.loadAt 3 v19) h19) h19 fun v20 h20=>g_ v14 false (p_ (binOp .mul 3 v18 v20) h20) h20 fun v21 h21=>g_ v14 false (bk P_ G q13 (xEq .neq 3 (.tmp 0) (.tmp 0) v16 v21) h21) h21 fun v22 h22=>
 bk P_ noHp noHp (bj v14 (.bool true) v22) h22 fun v23 h23=>g_ v23 false (fun K1=>K1 (r 2) h23) h23 fun v24 h24=>g_ v23 false (p_ (binOp .lss 3 v24 (.int .i64 0)) h24) h24 fun v25 h25=>
 bk P_ noHp noHp (bj v23 (.bool true) v25) h25 fun v26 h26=>g_ v26 false (fun K1=>K1 (r 4) h26) h26 fun v27 h27=>g_ v26 false (p_ (binOp .lss 3 v27 (.int .i64 0)) h27) h27 fun v28 h28=>
 bk P_ noHp noHp (bj v26 (.bool true) v28) h28 fun v29 h29=>g_ v29 false (fun K1=>K1 (r 4) h29) h29 fun v30 h30=>g_ v29 false (p_ (binOp .geq 3 v30 (.int .i64 4611686018427387904)) h30) h30 fun v31 h31=>
 bk P_ noHp noHp (bj v29 (.bool true) v31) h31 fun v32 h32=>g_ v32 false (fun K1=>K1 (r 14) h32) h32 fun v33 h33=>g_ v32 false (w_ G q13 (Instr.loadAt 30 (r 9)) h33) h33 fun v34 h34=>g_ v32 false (c_ G 61 #[v33,v34] h34) h34 fun v35 h35=>g_ v32 false (p_ (Op.unary .not v35) h35) h35 fun v36 h36=>
 bk P_ noHp noHp (bj v32 (.bool true) v36) h36 fun v37 h37=>g_ v37 false (fun K1=>K1 (r 16) h37) h37 fun v38 h38=>g_ v37 false (p_ (Op.unary .not v38) h38) h38 fun v39 h39=>
 bk P_ noHp noHp (bj v37 (.bool true) v39) h39 fun v40 h40=>
 (fun q=>cond v40
 (K .ret (u2 q 12 (.slice none 0 0) 13 (.int .i64 1)) h40)
 (V4 G K q h40))
 (u4 (u10 (u10 (u10 r 45 (r 1) 46 v14 47 v14 48 v15 49 v16 50 v17 51 v18 52 v19 53 v20 54 v21) 55 v22 56 v23 57 v23 58 v24 59 v25 60 v26 61 v26 62 v27 63 v28 64 v29) 65 v29 66 v30 67 v31 68 v32 69 v32 70 v33 71 v34 72 v35 73 v36 74 v37) 75 v37 76 v38 77 v39 78 v40)
def aD5:Prop:=
 o_ G (Instr.fieldAt 45 (r 11) 0) h fun v8 h8=>o_ G (Instr.loadAt 30 v8) h8 fun v9 h9=>
 c_ G 61 #[(r 14),v9] h9 fun v10 h10=>o_ G (Instr.fieldAt 45 (r 11) 1) h10 fun v11 h11=>o_ G (Instr.loadAt 4 v11) h11 fun v12 h12=>
 cond v12
 (o_ G (Instr.fieldAt 45 (r 11) 0) h12 fun v145 h145=>o_ G (Instr.fieldAt 30 v145 0) h145 fun v146 h146=>o_ G (Instr.loadAt 28 v146) h146 fun v147 h147=>
 c_ G 62 #[(r 14),v147] h147 fun v148 h148=>
 Pp G K (u3 (u10 r 34 (r 14) 35 v8 36 v9 37 v10 16 v10 38 v11 39 v12 40 (r 14) 41 v145 42 v146) 43 v147 44 v148 16 v148) h148)
 (Pp G K (u7 r 34 (r 14) 35 v8 36 v9 37 v10 16 v10 38 v11 39 v12) h12)
def S27:Prop:=
 o_ G (Instr.box 26 (r 0)) h fun v0 h0=>o_ G (Instr.box 30 (r 3)) h0 fun v1 h1=>o_ G (Instr.box 45 (r 5)) h1 fun v2 h2=>o_ G (Instr.loadAt 26 v0) h2 fun v3 h3=>
 c_ G 37 #[v3] h3 fun v4 h4=>o_ G (Instr.extract v4 0) h4 fun v5 h5=>o_ G (Instr.extract v4 1) h5 fun v6 h6=>
 opH P_ G (xEq .neq 35 (.tmp 0) (.const .nilFunc) v6 (.int .i64 0)) h6 fun v7 h7=>
 (fun q=>cond v7
 (K .ret (u3 q 33 v6 12 (.slice none 0 0) 13 v6) h7)
 (aD5 G K q h7))
 (u4 (u10 r 6 v0 9 v1 11 v2 12 (.slice none 0 0) 13 (.int .i64 0) 27 v3 28 v4 26 v4 29 v5 30 v6) 14 v5 15 v6 31 v6 32 v7)
theorem enter27:Ent 202 27 [.tmp 12,.tmp 13] S27:=ent_ (m:=md27) (c:=(Tryz.f27.body.getD .skip)) (fun _ _ _ _=>by kernel_rfl) Tryz.func27 rfl rfl rfl
def md120:Nat->Hint
 |3=>mh false [0,0,0,0,0,0,48,112,0,0,768,1792,4083,8179,16383,32767] [n_,n_,n_,n_,n_,n_,n_,m_,n_,n_,n_,m_,n_,.store,n_,.store] (fs 16) false
 |_=>mh false [] [] [] false
def Jx:Prop:=
 o_ G (binOp .add 3 (r 2) (.int .i64 1)) h fun v3 h3=>o_ G (binOp .sub 3 (r 3) (.int .i64 1)) h3 fun v4 h4=>
 K .normal (u6 r 10 (r 2) 11 v3 12 (r 3) 13 v4 2 v3 3 v4) h4
def Jy:Prop:=
 p_ (Instr.indexAt 40 (r 0) (r 3)) h fun v5 h5=>
 w_ G h (Instr.loadAt 48 v5) h5 fun v6 h6=>
 p_ (Instr.indexAt 40 (r 0) (r 2)) h6 fun v7 h7=>
 w_ G h (Instr.loadAt 48 v7) h7 fun v8 h8=>
 p_ (Instr.indexAt 40 (r 0) (r 2)) h8 fun v9 h9=>
 opH P_ G (su (Instr.storeAt 48 v9 v6)) h9 fun v10 h10=>
 p_ (Instr.indexAt 40 (r 0) (r 3)) h10 fun v11 h11=>
 opH P_ G (su (Instr.storeAt 48 v11 v8)) h11 fun v12 h12=>
 Jx G K (u4 (u10 r 14 (r 0) 15 (r 2) 16 (r 0) 17 (r 3) 18 (r 0) 19 (r 3) 20 v5 21 v6 22 (r 0) 23 (r 2)) 24 v7 25 v8 26 v9 27 v11) h12
def Y8 (r:Rg) (h:Hp) (K:EK):Prop:=
 o_ G (binOp .lss 3 (r 2) (r 3)) h fun v2 h2=>
 cond v2
 (Jy G K (u3 r 7 (r 2) 8 (r 3) 9 v2) h2)
 (K (.exit 0) (u3 r 7 (r 2) 8 (r 3) 9 v2) h2)
def S120:Prop:=
 o_ G (Builtin.len_ #[40] 3 #[(r 0)]) h fun v0 h0=>o_ G (binOp .sub 3 v0 (.int .i64 1)) h0 fun v1 h1=>
 ci (Y8 G) (u5 r 4 (r 0) 5 v0 6 v1 2 (.int .i64 0) 3 v1) h1 (bn 0 K)
theorem au4:Ent 28 120 [] S120:=ent_ (m:=md120) (c:=(Tryz.f120.body.getD .skip)) (fun _ _ _ _=>by kernel_rfl) Tryz.func120 rfl rfl rfl
end
end Go.Proofs.YtfflipnhffknnaaGreatDoor
end
section
namespace Go.Proofs.YtfflipnhffknnaaGreatDoor
open Go Go.HL Go.Proofs.Resv Go.Proofs.Srch
def bRtL:=jq bC (jq (jq (jq (jq @al151 @Vl) (jq @Mf @cf72)) (jq (jq @O7 @ao8) (jq @O6 @Sx))) (jq (jq (jq @F7 @F6) (jq @Ef @an2)) (jq (jq @ld151 @ld3) (jq @ld3p (jq @ln142 @Ua)))))
def fk (C:Conf) (m:Move):Int:=if m.k=1 then Gh C.un C.ac C.sp m.n else if m.k=2 then C.tu else if m.k=3\/m.k=4 then C.ho else 0
theorem Hl {G h a:Hp} {R:List Hp} {v:Value} {C:Conf} {kp:Nat} {m:Move} (hv:CV G h v C) (k:KP a kp C.un C.ac C.sp) (s:Sep (a::R) h) (hn:Bd m.n):
 al P_ G 30 #[v,.pointer (some ⟨kp,0,none⟩),Lg m] h (fun u h'=>u = .int .i64 (fk C m)/\∃a',KP a' kp C.un C.ac C.sp/\Sep (a'::R) h'/\Dis G h'):=by
 obtain ⟨ab,cb,ap,cp,ar,cr,az,cs,rfl,ca⟩:=hv
 refine al.assume fun d=>enter30 (by simp) ?_
 unfold S30
 simp only [bRtL]
 intro x hx gx y hy gy
 have s1:=((s.new (o := .cells #[C.w,C.h,C.ht,.slice ab C.bl.length cb,.slice ap C.po.length cp,.slice ar C.ro.length cr,.slice az C.st.length cs,C.un,C.ac,C.sp,C.tu,C.ho,C.qu,C.re,C.bu,.bool C.back] 26 (0,0)) hx).new (o:=qd m) hy)
 have d1:=(d.set (o := .cells #[C.w,C.h,C.ht,.slice ab C.bl.length cb,.slice ap C.po.length cp,.slice ar C.ro.length cr,.slice az C.st.length cs,C.un,C.ac,C.sp,C.tu,C.ho,C.qu,C.re,C.bu,.bool C.back] 26 (0,0)) gx).set (o:=qd m) gy
 generalize Hp.set (Hp.set h x _) y _=h1 at s1 d1 ⊢
 have cx:∀k,af G h1 ⟨x,k,none⟩=_:=fun k=>aj (ai (s1.at 1 rfl ag))
 have cy:∀k,af G h1 ⟨y,k,none⟩=_:=fun k=>aj (ai (s1.at 0 rfl ag))
 have out:∀u:Int,u=fk C m->(Value.int .i64 u = .int .i64 (fk C m)/\∃a',KP a' kp C.un C.ac C.sp/\Sep (a'::R) h1/\Dis G h1):=fun u e=>⟨by rw [e],a,k,s1.drop.drop,d1⟩
 try simp (disch:=first|decide|omega) only [bRtL,Nat.reduceAdd,Nat.reduceMul,cy]
 by_cases h1:m.k=1
 . rw [show (m.k==1)=true by simpa using h1]
   try simp only [bRtL,cy]
   refine (Zo k (s1.drop.drop) hn).mono ?_
   rintro _ h2 ⟨rfl,a',k',s2,d2⟩
   try simp (disch:=first|decide|omega) only [bRtL,Nat.reduceAdd,Nat.reduceMul]
   exact ⟨by unfold fk;rw [if_pos h1],a',k',s2,d2⟩
 . rw [show (m.k==1)=false by simpa using h1]
   try simp only [bRtL,cy]
   by_cases h2:m.k=2
   . rw [show (m.k==2)=true by simpa using h2]
     try simp only [bRtL,cx]
     exact out _ (by unfold fk;rw [if_neg h1,if_pos h2])
   . rw [show (m.k==2)=false by simpa using h2]
     try simp only [bRtL,cy]
     by_cases h3:m.k=3
     . rw [show (m.k==3)=true by simpa using h3]
       try simp only [bRtL]
       unfold Po
       try simp (disch:=decide) only [bRtL,cx]
       exact out _ (by unfold fk;rw [if_neg h1,if_neg h2,if_pos (.inl h3)])
     . rw [show (m.k==3)=false by simpa using h3]
       try simp only [bRtL]
       unfold Po
       by_cases h4:m.k=4
       . rw [show (m.k==4)=true by simpa using h4]
         try simp (disch:=decide) only [bRtL,cx]
         exact out _ (by unfold fk;rw [if_neg h1,if_neg h2,if_pos (.inr h4)])
       . rw [show (m.k==4)=false by simpa using h4]
         try simp (disch:=decide) only [bRtL]
         unfold aD1
         try simp only [bRtL]
         exact out _ (by unfold fk;rw [if_neg h1,if_neg h2,if_neg (by omega)])
def mj:Cod Sp:=⟨2,fun x=>[.int .i64 x.1,.int .i64 x.2],fun _=>rfl,fun _ v hv=>by simp at hv;rcases hv with rfl|rfl<;>rfl⟩
theorem eospan:fg P_ 151 mj.n 16:=eo151
theorem Sees.span {G h:Hp} {sa:Option Addr} {cap n:Nat} {L:List Sp} (s:Sees mj G h (.slice sa n cap) L) {i:Nat} {x:Sp} (hx:L[i]?=some x):
 ∃b o,sa=some ⟨b,o,none⟩/\af G h ⟨b,o+i*2,none⟩=some (.int .i64 x.1)/\af G h ⟨b,o+i*2+1,none⟩=some (.int .i64 x.2):=by
 obtain ⟨s',cap',e,_,hc⟩:=s
 cases e
 rcases hc with rfl|⟨b,o,rfl,hc⟩
 . simp at hx
 . exact ⟨b,o,rfl,hc i x hx 0 (by decide),hc i x hx 1 (by decide)⟩
theorem both_at {A B:List Sp} {i j:Nat} {x y:Sp} (hx:A[i]?=some x) (hy:B[j]?=some y):py (A.drop i) (B.drop j)=capB x y++(if x.2<y.2 then py (A.drop (i+1)) (B.drop j)else py (A.drop i) (B.drop (j+1))):=by
 obtain ⟨hi,rfl⟩:=List.getElem?_eq_some_iff.1 hx
 obtain ⟨hj,rfl⟩:=List.getElem?_eq_some_iff.1 hy
 rw [List.drop_eq_getElem_cons hi,List.drop_eq_getElem_cons hj,py,<- List.drop_eq_getElem_cons hi,<- List.drop_eq_getElem_cons hj]
theorem Ej {G h:Hp} {va vb:Value} {A B:List Sp} (sA:Sees mj G h va A) (sB:Sees mj G h vb B) (hlen:A.length+B.length<=1000000000):
 al P_ G 146 #[va,vb] h (fun u h'=>∃ip,Slc mj 151 ip u (py A B)/\Sep [ip,h] h'/\Dis G h'):=by
 obtain ⟨a1,c1,rfl,_⟩:=id sA
 obtain ⟨a2,c2,rfl,_⟩:=id sB
 obtain ⟨W,hW⟩:∃W,W=py A B:=⟨_,rfl⟩
 rw [<- hW]
 have hWl:W.length<=1000000000:=by have:=Dd _ A B (Nat.le_refl _);rw [hW];omega
 refine al.assume fun d=>as4 (by simp) ?_
 unfold S146
 refine b8 (fun m r h'=>∃(i j:Nat) (ip:Hp) (O:List Sp) (v:Value),m=(A.length-i)+(B.length-j)/\i<=A.length/\j<=B.length/\r 0 = .slice a1 A.length c1/\r 1 = .slice a2 B.length c2/\r 5=v/\r 6 = .int .i64 i/\r 7 = .int .i64 j/\
  Slc mj 151 ip v O/\Sep [ip,h] h'/\Dis G h'/\O++py (A.drop i) (B.drop j)=W) ?_ (m:=A.length+B.length)
  ⟨0,0,noHp,[],.slice none 0 0,rfl,by omega,by omega,by simp (disch:=decide) only [bRtL],by simp (disch:=decide) only [bRtL],by simp (disch:=decide) only [bRtL],by simp (disch:=decide) only [bRtL];rfl,by simp only [bRtL];rfl,Slc.nil,Sep.one.none,d,by simp [hW]⟩
 rintro m r h' ⟨i,j,ip,O,v,rfl,hi,hj,g0,g1,g5,g6,g7,sl,s,d',hO⟩ X hX
 unfold Yi
 simp only [bRtL,g0,g1,g6,g7]
 have fin:py (A.drop i) (B.drop j)=[]->∀(r':Rg),r' 5=v->F9 G (retK P_ G [.tmp 4] fun u h'=>∃ip,Slc mj 151 ip u W/\Sep [ip,h] h'/\Dis G h') r' h':=fun e r' g=>by
  unfold F9
  try simp only [bRtL,g]
  rw [e,List.append_nil]at hO
  rw [<- hO]
  exact ⟨ip,sl,s,d'⟩
 by_cases hi2:i<A.length
 . rw [je (show (i:Int)<(A.length:Int)by omega)]
   simp only [bRtL,g1,g7]
   by_cases hj2:j<B.length
   . rw [je (show (j:Int)<(B.length:Int)by omega)]
     simp only [bRtL]
     obtain ⟨x,hx⟩:∃x,A[i]?=some x:=⟨_,List.getElem?_eq_getElem hi2⟩
     obtain ⟨y,hy⟩:∃y,B[j]?=some y:=⟨_,List.getElem?_eq_getElem hj2⟩
     rw [both_at hx hy]at hO
     obtain ⟨b1,o1,rfl,x1,x2⟩:=Sees.span (sA.up (s.in 1 rfl) d') hx
     obtain ⟨b2,o2,rfl,y1,y2⟩:=Sees.span (sB.up (s.in 1 rfl) d') hy
     unfold Jc
     simp -implicitDefEqProofs (maxSteps:=2000000) (disch:=first|decide|with_reducible exact Nat.ne_of_beq_eq_false rfl|exact ao|exact am|omega|rfl|(simp;done)|fail) only [bRtL,g0,g1,g6,g7,D8 (Int.natCast_nonneg i) (show (i:Int)<(A.length:Int)by omega),D8 (Int.natCast_nonneg j) (show (j:Int)<(B.length:Int)by omega),x1,x2,y1,y2,max2p,min2p]
     intro z hz gz
     have s1:=s.past (o := .cells #[.int .i64 (max x.1 y.1),.int .i64 (min x.2 y.2)] 151 (0,0)) hz
     have d1:=d'.set (o := .cells #[.int .i64 (max x.1 y.1),.int .i64 (min x.2 y.2)] 151 (0,0)) gz
     have hzs:(h'.set z (.cells #[.int .i64 (max x.1 y.1),.int .i64 (min x.2 y.2)] 151 (0,0))) z=some (.cells #[.int .i64 (max x.1 y.1),.int .i64 (min x.2 y.2)] 151 (0,0)):=ag
     have k4:∀(r':Rg) (h4 ip':Hp) (v':Value),r' 0=r 0->r' 1=r 1->r' 6=r 6->r' 7=r 7->r' 5=v'->Slc mj 151 ip' v' (O++capB x y)->Sep [ip',h] h4->Dis G h4->
      wo G (bv X (bn 0 (bv (F9 G (retK P_ G [.tmp 4] fun u h'=>∃ip,Slc mj 151 ip u W/\Sep [ip,h] h'/\Dis G h')) (retK P_ G [.tmp 4] fun u h'=>∃ip,Slc mj 151 ip u W/\Sep [ip,h] h'/\Dis G h')))) r' h4:=by
      intro r' h4 ip' v' e0 e1 e6 e7 e5 sl' s4 d4
      obtain ⟨q1,p1,f1,u1,u2⟩:=Sees.span (sA.up (s4.in 1 rfl) d4) hx
      obtain ⟨q2,p2,f2,w1,w2⟩:=Sees.span (sB.up (s4.in 1 rfl) d4) hy
      cases f1
      cases f2
      rw [g0]at e0;rw [g1]at e1;rw [g6]at e6;rw [g7]at e7
      unfold wo
      simp (disch:=first|decide|omega) only [bRtL,e0,e1,e6,e7,D8 (Int.natCast_nonneg i) (show (i:Int)<(A.length:Int)by omega),D8 (Int.natCast_nonneg j) (show (j:Int)<(B.length:Int)by omega),u2,w2]
      refine bm (fun hlt=>?_) (fun hge=>?_)
      . rw [if_pos hlt]at hO
        try simp (disch:=first|decide|omega) only [bRtL,Nat.reduceAdd,Nat.reduceMul,e6]
        refine hX ((A.length-(i+1))+(B.length-j)) _ _ (by omega) ⟨i+1,j,ip',O++capB x y,v',rfl,by omega,by omega,by simp (disch:=decide) only [bRtL,e0],by simp (disch:=decide) only [bRtL,e1],by simp (disch:=decide) only [bRtL,e5],by simp only [bRtL];rfl,by simp (disch:=decide) only [bRtL,e7],sl',s4,d4,by rw [List.append_assoc];exact hO⟩
      . rw [if_neg hge]at hO
        try simp (disch:=first|decide|omega) only [bRtL,Nat.reduceAdd,Nat.reduceMul,e7]
        refine hX ((A.length-i)+(B.length-(j+1))) _ _ (by omega) ⟨i,j+1,ip',O++capB x y,v',rfl,by omega,by omega,by simp (disch:=decide) only [bRtL,e0],by simp (disch:=decide) only [bRtL,e1],by simp (disch:=decide) only [bRtL,e5],by simp (disch:=decide) only [bRtL,e6],by simp only [bRtL];rfl,sl',s4,d4,by rw [List.append_assoc];exact hO⟩
     generalize Hp.set h' z _=h3 at s1 d1 hzs ⊢
     refine bm (fun hlt=>?_) (fun hge=>?_)
     . intro q hq gq
       have s2:=s1.past (o := .cells #[.int .i64 (max x.1 y.1),.int .i64 (min x.2 y.2)] 151 (0,0)) hq
       have d2:=d1.set (o := .cells #[.int .i64 (max x.1 y.1),.int .i64 (min x.2 y.2)] 151 (0,0)) gq
       have hqs:(h3.set q (.cells #[.int .i64 (max x.1 y.1),.int .i64 (min x.2 y.2)] 151 (0,0))) q=some (.cells #[.int .i64 (max x.1 y.1),.int .i64 (min x.2 y.2)] 151 (0,0)):=ag
       generalize Hp.set h3 q _=h4 at s2 d2 hqs ⊢
       rw [g5]
       have hcap:capB x y=[(max x.1 y.1,min x.2 y.2)]:=by unfold capB;rw [if_pos hlt]
       have hOl:O.length+1<=1000000000:=by
        have:=congrArg List.length hO
        rw [hcap]at this
        simp only [List.length_append,List.length_cons]at this
        omega
       refine qn mj (by decide) (M:=[(max x.1 y.1,min x.2 y.2)]) V9 eospan (by decide) s2 d2 sl (Sees.row hqs (by simp [mj,Cod.rows]) (by simp)) (by simp only [List.length_cons,List.length_nil];omega) ?_
       intro v' ip' h5 sl' s5 d5
       refine k4 _ h5 ip' v' (by simp (disch:=decide) only [bRtL]) (by simp (disch:=decide) only [bRtL]) (by simp (disch:=decide) only [bRtL]) (by simp (disch:=decide) only [bRtL]) (by simp only [bRtL]) (by rw [hcap];exact sl') s5 d5
     . have hcap:capB x y=[]:=by unfold capB;rw [if_neg hge]
       refine k4 _ h3 ip v (by simp (disch:=decide) only [bRtL]) (by simp (disch:=decide) only [bRtL]) (by simp (disch:=decide) only [bRtL]) (by simp (disch:=decide) only [bRtL]) (by simp (disch:=decide) only [bRtL,g5]) (by rw [hcap,List.append_nil];exact sl) s1 d1
   . have hj3:j=B.length:=by omega
     rw [i8 (show ¬(j:Int)<(B.length:Int)by omega)]
     simp only [bRtL]
     exact fin (by rw [hj3,List.drop_length];cases A.drop i<;>simp [py]) _ (by simp (disch:=decide) only [bRtL,g5])
 . have hi3:i=A.length:=by omega
   rw [i8 (show ¬(i:Int)<(A.length:Int)by omega)]
   simp only [bRtL]
   exact fin (by rw [hi3,List.drop_length];simp [py]) _ (by simp (disch:=decide) only [bRtL,g5])
end Go.Proofs.YtfflipnhffknnaaGreatDoor
end

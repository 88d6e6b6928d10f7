/- Texts of the proof, one behind the other. -/
import Derived.Test.YtfflipnhffknnaaGreatDoorOM3
import Derived.Test.YtfflipnhffknnaaGreatDoorOM1
import Derived.Test.YtfflipnhffknnaaGreatDoorOM2
import Derived.Test.YtfflipnhffknnaaGreatDoorOH4
import Derived.Test.YtfflipnhffknnaaGreatDoorOHZ
set_option linter.unusedSimpArgs false
set_option linter.unusedVariables false
set_option maxRecDepth 100000
set_option linter.unusedSectionVars false
set_option maxHeartbeats 8000000
set_option linter.defProp false
section
namespace Go.Proofs.YtfflipnhffknnaaGreatDoor.Rv
open Go Go.HL Go.Proofs.Resv
def dy:=jq bC (jq (jq (jq (jq @Vq @and_true) (jq @xu @cf143)) (jq (jq @Q4 @Br) (jq @Bq @Bp))) (jq (jq (jq @Ty @ld3) (jq @ld98 @ld99)) (jq (jq @ln99 @kz) (jq @ky (jq @Ii @true_and)))))
theorem Nu {L:List Slot} {i:Nat} {s:Slot} {r f t:Int} (hs:L[i]?=some s):nl (L.take (i+1)) r f t=(nl (L.take i) r f t&&(s.r==r || !(decide (s.f<t)&&decide (f<s.t)))):=by
 unfold nl
 rw [List.take_add_one,hs,List.all_append]
 simp
theorem Ug {L:List Slot} {i:Nat} {s:Slot} {r f t:Int} (hs:L[i]?=some s) (h:(s.r==r || !(decide (s.f<t)&&decide (f<s.t)))=false):nl L r f t=false:=by
 unfold nl
 rw [List.all_eq_false]
 exact ⟨s,List.mem_of_getElem? hs,by rw [h];simp⟩
theorem Bk {G h:Hp} {tp:Nat} {T:List (List Slot)} {L:List Slot} {c r f t:Int} (ts:TSee G h tp T) (h0:0<=c) (hL:T[c.toNat]?=some L) (hlen:L.length<=900000):
 bn P_ G 104 #[.pointer (some ⟨tp,0,none⟩),r,c,f,t] h (fun u h'=>u = .bool (nl L r f t)/\h'=h):=by
 have h1:c<T.length:=by have:=(List.getElem?_eq_some_iff.1 hL).1;omega
 obtain ⟨rb,e1,e2⟩:=ts
 obtain ⟨a,cap,e3,e4⟩:=e2 _ _ hL
 refine bn.assume fun d=>quietly (aD6 (by simp) ?_)
 unfold S104
 simp only [dy,e1,ix98 h0 h1,Nat.mul_one,e3]
 refine dp (fun m q h3=>∃i:Nat,m=L.length-i/\i<=L.length/\q 1 = .int .i64 r/\q 3 = .int .i64 f/\q 4 = .int .i64 t/\q 10 = .bool false/\q 19 = .slice a L.length cap/\q 20 = .int .i64 L.length/\q 21 = .int .i64 i/\h.le h3/\Dis G h3/\nl (L.take i) r f t=true) ?_
  (m:=L.length) ⟨0,rfl,Nat.zero_le _,by simp (disch:=decide) only [dy],by simp (disch:=decide) only [dy],by simp (disch:=decide) only [dy],by simp (disch:=decide) only [dy],by simp (disch:=decide) only [dy],by simp (disch:=decide) only [dy],by simp only [dy]<;>rfl,Hp.le.refl h,d,rfl⟩
 rintro m q h3 ⟨i,rfl,hi,q1,q3,q4,q10,q19,q20,q21,l3,d3,hf⟩ X HX
 unfold af5
 simp only [dy,q20,q21]
 refine ci (fun hlt=>?_) (fun hge=>?_)
 rotate_left
 . obtain rfl:i=L.length:=by omega
   rw [List.take_of_length_le (Nat.le_refl _)]at hf
   try simp (disch:=first|decide|omega) only [dy,Nat.reduceAdd,Nat.reduceMul]
   unfold Sf
   try simp only [dy]
   exact ⟨by rw [hf],l3⟩
 obtain ⟨s,hs⟩:∃s,L[i]?=some s:=⟨_,List.getElem?_eq_getElem (by omega)⟩
 obtain ⟨b,o,rfl,z0,z1,z2⟩:=Sees.slot (e4.up l3 d3) hs
 unfold Lz
 simp (disch:=first|decide|exact bv|exact bo|omega|rfl) only [dy,q19,q21,ix99 (Int.natCast_nonneg i) hlt,z0,z1,z2]
 intro x hx gx
 simp only [dy,q1]
 generalize eh:Hp.set h3 x _=h4
 obtain ⟨l4,d4,b4⟩:=boxed eh hx d3 gx
 have cx:∀j,bf G h4 ⟨x,j,none⟩=_:=fun j=>bm (bk b4)
 have k4:∀q':Rg,q' 1 = .int .i64 r->q' 3 = .int .i64 f->q' 4 = .int .i64 t->q' 10 = .bool false->q' 19=q 19->q' 20=q 20->q' 21=q 21->(s.r==r || !(decide (s.f<t)&&decide (f<s.t)))=true->Di G (dj X (df 0 (dj (Sf G (retK P_ G [.tmp 10] fun u h'=>u = .bool (nl L r f t)/\h.le h')) (retK P_ G [.tmp 10] fun u h'=>u = .bool (nl L r f t)/\h.le h')))) q' h4:=by
  intro q' p1 p3 p4 p10 p19 p20 p21 hc
  unfold Di
  simp (disch:=first|decide|omega) only [dy,p21,q21]
  exact HX (L.length-(i+1)) _ _ (by omega) ⟨i+1,rfl,by omega,by simp (disch:=decide) only [dy,p1],by simp (disch:=decide) only [dy,p3],by simp (disch:=decide) only [dy,p4],by simp (disch:=decide) only [dy,p10],by simp (disch:=decide) only [dy,p19,q19],by simp (disch:=decide) only [dy,p20,q20],by simp only [dy]<;>rfl,l3.trans l4,d4,by rw [Nu hs,hf,hc];rfl⟩
 cases hb:(s.r != r)with
 |false=>
  try simp only [dy,gk,hb]
  exact k4 _ (by simp (disch:=decide) only [dy,q1]) (by simp (disch:=decide) only [dy,q3]) (by simp (disch:=decide) only [dy,q4]) (by simp (disch:=decide) only [dy,q10]) (by simp (disch:=decide) only [dy]) (by simp (disch:=decide) only [dy]) (by simp (disch:=decide) only [dy]) (by simp at hb;simp [hb])
 |true=>
  try simp only [dy,cx,q4]
  by_cases hb2:s.f<t
  . try simp only [dy,decide_eq_true hb2,q3,cx]
    refine ci (fun hb3=>?_) (fun hb3=>?_)
    . try simp (disch:=first|decide|omega) only [dy,Nat.reduceAdd,Nat.reduceMul]
      have:(s.r==r || !(decide (s.f<t)&&decide (f<s.t)))=false:=by simp at hb;simp [hb,hb2,hb3]
      exact ⟨by rw [Ug hs this],l3.trans l4⟩
    . exact k4 _ (by simp (disch:=decide) only [dy,q1]) (by simp (disch:=decide) only [dy,q3]) (by simp (disch:=decide) only [dy,q4]) (by simp (disch:=decide) only [dy,q10]) (by simp (disch:=decide) only [dy]) (by simp (disch:=decide) only [dy]) (by simp (disch:=decide) only [dy]) (by simp [hb3])
  . try simp only [dy,decide_eq_false hb2,gk]
    exact k4 _ (by simp (disch:=decide) only [dy,q1]) (by simp (disch:=decide) only [dy,q3]) (by simp (disch:=decide) only [dy,q4]) (by simp (disch:=decide) only [dy,q10]) (by simp (disch:=decide) only [dy]) (by simp (disch:=decide) only [dy]) (by simp (disch:=decide) only [dy]) (by simp [hb2])
theorem cv_iu {G h:Hp} {x:Int} {K:VK}:wpH P_ G (convert 3 272 (.int .i64 x)) h K=K (.int .u64 (IntKind.u64.wrap x)) h:=by kernel_rfl
theorem cv_ui {G h:Hp} {x:Int} {K:VK}:wpH P_ G (convert 272 3 (.int .u64 x)) h K=K (IntKind.i64.wrap x) h:=by kernel_rfl
theorem shr1 {G h:Hp} {x:Int} {K:VK}:wpH P_ G (binOp .shr 272 (.int .u64 x) (.int .u64 1)) h K=K (.int .u64 (x.fdiv 2)) h:=by kernel_rfl
theorem wrap_u {x:Int} (h1:0<=x) (h2:x<18446744073709551616):IntKind.u64.wrap x=x:=by simp [IntKind.wrap,IntKind.bits,IntKind.signed];omega
theorem half {i j:Nat}:((i:Int)+(j:Int)).fdiv 2=(((i+j) / 2:Nat):Int):=by
 rw [Int.fdiv_eq_ediv_of_nonneg _ (by decide)]
 omega
theorem Eh {G h:Hp} {s:Slot} {n:Int} (h1:0<=s.f) (h2:s.f<=FV) (h3:0<=n) (h4:n<=FV):bn P_ G 143 #[slotV s,n] h (fun u h'=>u = .int .i64 (s.f-n)/\h'=h):=by
 refine bn.assume fun d=>quietly (aA6 (by simp) ?_)
 unfold S143
 simp only [dy]
 intro x hx gx
 have e:IntKind.i64.wrap (s.f-n)=s.f-n:=nu (by unfold FV at *;omega) (by unfold FV at *;omega)
 simp only [dy,e]
 exact dl hx
theorem Vf {G h:Hp} {a b:Value} {K:VK}:opH P_ G (iz (.func (.func 143) #[] #[]) #[a,b]) h K=bn P_ G 143 #[a,b] h K:=by kernel_rfl
def rank (L:List Slot) (n:Int):Nat:=(L.takeWhile fun s=>decide (s.f<n)).length
theorem rank_at:∀{L:List Slot} {n:Int},L.Pairwise (fun a b=>a.f<=b.f)->∀(i:Nat) (s:Slot),L[i]?=some s->(s.f<n↔i<rank L n):=by
 intro L n hp i s hs
 unfold rank
 have e:=List.takeWhile_append_dropWhile (p:=fun s=>decide (s.f<n)) (l:=L)
 constructor
 . intro h
   refine Nat.lt_of_not_le fun hle=>?_
   rw [<- e,List.getElem?_append_right hle]at hs
   have:=Zx hp s (List.mem_of_getElem? hs)
   omega
 . intro h
   rw [<- e,List.getElem?_append_left h]at hs
   exact Yc s (List.mem_of_getElem? hs)
theorem Yp {L:List Slot} {n:Int}:rank L n<=L.length:=by
 unfold rank
 have:=congrArg List.length (List.takeWhile_append_dropWhile (p:=fun s=>decide (s.f<n)) (l:=L))
 rw [List.length_append]at this
 omega
theorem Sz {G h:Hp} {v:Value} {L:List Slot} {n:Int} (sv:Sees dh G h v L) (hlen:L.length<=900000) (hp:L.Pairwise fun a b=>a.f<=b.f) (hf:∀s∈L,0<=s.f/\s.f<=FV) (h3:0<=n) (h4:n<=FV):
 bn P_ G 142 #[v,n,.func (.func 143) #[] #[]] h (fun u h'=>(∃b,u = .tuple #[(rank L n),.bool b])/\h'=h):=by
 obtain ⟨sa,cap,rfl⟩:=sv.len
 refine aA7 (by simp) ?_
 unfold S142
 simp only [dy]
 refine dp (fun m q h3=>∃i j:Nat,m=j-i/\i<=rank L n/\rank L n<=j/\j<=L.length/\q 0 = .slice sa L.length cap/\q 1 = .int .i64 n/\q 2 = .func (.func 143) #[] #[]/\q 8 = .int .i64 L.length/\q 9 = .int .i64 i/\q 10 = .int .i64 j/\h3=h) ?_
  (m:=L.length) ⟨0,L.length,by omega,Nat.zero_le _,Yp,Nat.le_refl _,by simp (disch:=decide) only [dy],by simp (disch:=decide) only [dy],by simp (disch:=decide) only [dy],by simp (disch:=decide) only [dy],by simp (disch:=decide) only [dy]<;>rfl,by simp only [dy],rfl⟩
 rintro m q h3' ⟨i,j,rfl,hi,hj,hjl,q0,q1,q2,q8,q9,q10,rfl⟩ X HX
 unfold ab3
 simp only [dy,q9,q10]
 refine ci (fun hlt=>?_) (fun hge=>?_)
 . have hlt':i<j:=by omega
   have hm:(i+j) / 2<L.length:=by omega
   obtain ⟨s,hs⟩:∃s,L[(i+j) / 2]?=some s:=⟨_,List.getElem?_eq_getElem hm⟩
   obtain ⟨b,o,rfl,z0,z1,z2⟩:=Sees.slot sv hs
   obtain ⟨f0,f1⟩:=hf s (List.mem_of_getElem? hs)
   have w1:IntKind.i64.wrap ((i:Int)+(j:Int))=(i:Int)+(j:Int):=nu (by omega) (by omega)
   have w2:IntKind.u64.wrap ((i:Int)+(j:Int))=(i:Int)+(j:Int):=wrap_u (by omega) (by omega)
   have w3:IntKind.i64.wrap (((i+j) / 2:Nat):Int)=(((i+j) / 2:Nat):Int):=nu (by omega) (by omega)
   have hm':(((i+j) / 2:Nat):Int)<(L.length:Int):=by omega
   unfold Kw
   simp (disch:=first|decide|omega) only [dy,q0,q1,q2,q9,q10,cv_iu,w1,w2,shr1,half,cv_ui,w3,ix99 (Int.natCast_nonneg ((i+j) / 2)) hm',z0,z1,z2,Vf]
   refine (Eh f0 f1 h3 h4).mono ?_
   rintro _ _ ⟨rfl,rfl⟩
   have hr:=rank_at hp _ _ hs (n:=n)
   simp only [dy]
   refine ci (fun hlt2=>?_) (fun hge2=>?_)
   . have:(i+j) / 2<rank L n:=hr.1 (by omega)
     try simp (disch:=first|decide|omega) only [dy,Nat.reduceAdd,Nat.reduceMul]
     refine HX (j-((i+j) / 2+1)) _ _ (by omega) ⟨(i+j) / 2+1,j,rfl,by omega,hj,hjl,by simp (disch:=decide) only [dy,q0],by simp (disch:=decide) only [dy,q1],by simp (disch:=decide) only [dy,q2],by simp (disch:=decide) only [dy,q8],by simp only [dy]<;>rfl,by simp (disch:=decide) only [dy,q10],rfl⟩
   . have:¬(i+j) / 2<rank L n:=fun h=>hge2 (by have:=hr.2 h;omega)
     try simp (disch:=first|decide|omega) only [dy,Nat.reduceAdd,Nat.reduceMul]
     refine HX ((i+j) / 2-i) _ _ (by omega) ⟨i,(i+j) / 2,rfl,hi,by omega,by omega,by simp (disch:=decide) only [dy,q0],by simp (disch:=decide) only [dy,q1],by simp (disch:=decide) only [dy,q2],by simp (disch:=decide) only [dy,q8],by simp (disch:=decide) only [dy,q9],by simp only [dy],rfl⟩
 obtain rfl:i=rank L n:=by omega
 try simp (disch:=first|decide|omega) only [dy,Nat.reduceAdd,Nat.reduceMul]
 unfold ab4
 simp (disch:=decide) only [dy,q8,q9]
 by_cases hlt:rank L n<L.length
 . obtain ⟨s,hs⟩:∃s,L[rank L n]?=some s:=⟨_,List.getElem?_eq_getElem hlt⟩
   obtain ⟨b,o,rfl,z0,z1,z2⟩:=Sees.slot sv hs
   obtain ⟨f0,f1⟩:=hf s (List.mem_of_getElem? hs)
   have hlt':((rank L n:Nat):Int)<(L.length:Int):=by omega
   simp only [dy,decide_eq_true hlt',q0,q1,q2,q9,ix99 (Int.natCast_nonneg (rank L n)) hlt',z0,z1,z2,Vf]
   refine (Eh f0 f1 h3 h4).mono ?_
   rintro _ _ ⟨rfl,rfl⟩
   simp only [dy]
   exact ⟨_,rfl⟩
 . have hlt':¬((rank L n:Nat):Int)<(L.length:Int):=by omega
   simp only [dy,decide_eq_false hlt',gk]
   exact ⟨_,rfl⟩
def tc:=jq bC (jq @lr @ln99)
theorem ay0:(Tryz.f162.name == "runtime.NumGoroutine")=false:=by kernel_rfl
theorem ay2:Tryz.f162.body.isNone=true:=by kernel_rfl
theorem ax9:(Extern.findNext Tryz.f162).isNone=true:=by kernel_rfl
theorem ay1:Extern.find Tryz.f162=some (Extern.SlicesOverlaps.overlaps Tryz.f162.params Tryz.f162.resultTypes):=by kernel_rfl
theorem W6:Tryz.f162.params=#[99,99]:=by kernel_rfl
theorem over_eq {G h:Hp} {a b:Value} {K:VK}:opH P_ G (callFunc 162 #[a,b]) h K=wpH P_ G (Extern.SlicesOverlaps.overlaps Tryz.f162.params Tryz.f162.resultTypes #[a,b]) h K:=by
 have hb':∀(α β:Type) (s:Sem α) (g:α->Sem β),(s >>= g)=s.bind g:=fun _ _ _ _=>rfl
 have hn:Extern.findNext Tryz.f162=none:=by simpa using ax9
 have hx:=Tryz.func162
 unfold opH callFunc
 simp only [hb',program,Sem.bind,wpH,hx,ay0,ay2,if_true,Bool.false_eq_true,if_false,mark,hn,ay1,pure]
 rw [di]
 rfl
theorem over_no {G h:Hp} {x b o la ca lb cb:Nat} {cs cs2:Array Value} {e e2:TypeId} (hx:h x=some (.cells cs e (0,0))) (hb:h b=some (.cells cs2 e2 (0,0))) (hne:x≠b) {K:VK}:
 opH P_ G (callFunc 162 #[.slice (some ⟨x,0,none⟩) la ca,.slice (some ⟨b,o,none⟩) lb cb]) h K=K (.bool false) h:=by
 rw [over_eq]
 have hb':∀(α β:Type) (s:Sem α) (g:α->Sem β),(s >>= g)=s.bind g:=fun _ _ _ _=>rfl
 have lx:HL.look G h x=some (.cells cs e (0,0)):=bk hx
 have lb':HL.look G h b=some (.cells cs2 e2 (0,0)):=bk hb
 obtain ⟨i,z,hi,hsz,_⟩:=eoslot.get
 rw [W6]
 conv=>lhs;arg 3;whnf
 simp only [hb',underlying,program,sizeOf,typeInfo,Sem.bind,pure,wpH,di,un99,hi,List.getElem?_toArray,List.getElem?_cons_zero]
 rw [show (#[99,99]:Array TypeId)[0]=99 from rfl,un99]
 simp only [wpH,di,hi]
 split
 . rfl
 . have hxb:(x != b)=true:=by simpa using hne
   have hxb2:(x==b)=false:=by simpa using hne
   simp [frozen,noView,viewAt,mayBeOne,stringish,shape,wpH,di,lx,lb',qt,D0,hxb,hxb2,bind,pure,getObj,Sem.bind]
theorem cap32 {G h:Hp} {a:Option Addr} {n c:Nat} {K:VK}:wpH P_ G (Builtin.cap_ #[99] 3 #[.slice a n c]) h K=K c h:=by kernel_rfl
theorem add0 {b n:Nat}:(⟨b,0,none⟩:Addr).add n=⟨b,n,none⟩:=by rw [od,Nat.zero_add]
theorem V2 {A D:List Slot} {x:Slot} {zs:List Value} {m:Nat}:∃rest,(((dh.rows A++zs).take (A.length*3)++dh.rows [x]++(dh.rows A++zs).drop (A.length*3+[x].length*dh.n)).take ((A.length+1)*3)++dh.rows D++
 ((dh.rows A++zs).take (A.length*3)++dh.rows [x]++(dh.rows A++zs).drop (A.length*3+[x].length*dh.n)).drop m)=dh.rows (A++x::D)++rest:=by
 have e1:(dh.rows A++zs).take (A.length*3)=dh.rows A:=List.take_left' (by rw [dh.rows_length];rfl)
 rw [e1,<- dh.rows_append]
 rw [List.take_left' (l₁:=dh.rows (A++[x])) (by rw [dh.rows_length];simp;rfl),<- dh.rows_append]
 rw [show A++[x]++D=A++x::D by simp]
 exact ⟨_,rfl⟩
theorem ag5 {L:List Slot} {i:Nat} {x:Slot} {t:List Value} (hi:i<L.length) {m:Nat}:∃rest,(((dh.rows L++t).take ((i+1)*3)++dh.rows (L.drop i)++(dh.rows L++t).drop m).take (i*3)++dh.rows [x]++
 ((dh.rows L++t).take ((i+1)*3)++dh.rows (L.drop i)++(dh.rows L++t).drop m).drop (i*3+[x].length*dh.n))=dh.rows (L.take i++x::L.drop i)++rest:=by
 refine ⟨(dh.rows L++t).drop m,?_⟩
 have e1:(dh.rows L++t).take ((i+1)*3)=dh.rows (L.take (i+1)):=dh.rows_take (by omega)
 rw [e1,<- dh.rows_append]
 have hlen:(L.take (i+1)++L.drop i).length=L.length+1:=by simp;omega
 have e2:=dh.rows_take (L:=L.take (i+1)++L.drop i) (t:=(dh.rows L++t).drop m) (k:=i) (by omega)
 have e3:=dh.rows_drop (L:=L.take (i+1)++L.drop i) (t:=(dh.rows L++t).drop m) (k:=i+1) (by omega)
 rw [show dh.n=3 from rfl]at e2 e3 ⊢
 rw [e2,show i*3+[x].length*3=(i+1)*3 by simp;omega,e3]
 have t1:(L.take (i+1)++L.drop i).take i=L.take i:=by
  rw [List.take_append_of_le_length (by simp;omega),List.take_take]
  congr 1;omega
 have t2:(L.take (i+1)++L.drop i).drop (i+1)=L.drop i:=List.drop_left' (by simp;omega)
 rw [t1,t2,<- dh.rows_append,<- List.append_assoc,<- dh.rows_append]
 simp
theorem T8 {G h a:Hp} {R:List Hp} {v:Value} {L:List Slot} {i xb:Nat} {x:Slot} (s:Sep (a::R) h) (d:Dis G h) (o:Slc dh 203 a v L) (hx:h xb=some (p9 x)) (hxa:a xb=none) (hi:i<=L.length) (hlen:L.length<=900000):
 bn P_ G 144 #[v,i,.slice (some ⟨xb,0,none⟩) 1 1] h (fun u h'=>∃a',Slc dh 203 a' u (L.take i++x::L.drop i)/\Sep (a'::R) h'/\Dis G h'):=by
 refine aA5 (by simp) ?_
 unfold S144
 have sx:Sees dh G h (.slice (some ⟨xb,0,none⟩) 1 1) [x]:=Sees.row (c:=dh) (L:=[x]) hx rfl (Nat.le_refl _)
 obtain ⟨ob,o⟩:=o
 cases ob with
 |none=>
  obtain ⟨rfl,rfl⟩:=o
  obtain rfl:i=0:=by simpa using hi
  simp only [tc,show ((0:Nat):Int)=0 from rfl,Ga un99 rn,show (((1:Nat):Int)==0)=false from rfl]
  unfold R6
  simp (disch:=decide) only [tc,show ((0:Nat):Int)=0 from rfl,show ((0:Int)==0)=true from rfl]
  refine dw dh (by decide) un99 eoslot (by decide) (by decide) (M:=[x]) s d Slc.nil sx (by simp) fun v' a' h' o' s' d'=>?_
  try simp (disch:=first|decide|omega) only [tc,Nat.reduceAdd,Nat.reduceMul]
  exact ⟨a',o',s',d'⟩
 |some b=>
  obtain ⟨cap,t,rfl,hb,hl⟩:=o
  have hc:L.length<=cap:=by
   have:=congrArg (fun n=>n) hl
   rw [List.length_append,dh.rows_length]at hl
   have:dh.n=3:=rfl
   rw [this]at hl
   omega
  have ow:Slc dh 203 a (.slice (some ⟨b,0,none⟩) L.length cap) L:=⟨some b,cap,t,rfl,hb,hl⟩
  have sv:=ow.sees (G:=G) (by decide) s.hd
  have hbh:=s.hd _ _ hb
  have hne:xb≠b:=fun e=>by rw [e,hb]at hxa;cases hxa
  simp only [tc,o0 un99 rn (Int.natCast_nonneg i) (show (i:Int)<=(L.length:Nat)by omega) hc,show (((1:Nat):Int)==0)=false from rfl]
  unfold R6
  simp (disch:=decide) only [tc]
  by_cases hin:i=L.length
  . subst hin
    simp only [tc,show ((L.length:Int)==(L.length:Int))=true by simp]
    refine dw dh (by decide) un99 eoslot (by decide) (by decide) (M:=[x]) s d ow sx (by simp;omega) fun v' a' h' o' s' d'=>?_
    try simp (disch:=first|decide|omega) only [tc,Nat.reduceAdd,Nat.reduceMul]
    refine ⟨a',?_,s',d'⟩
    rw [List.take_of_length_le (Nat.le_refl _),List.drop_of_length_le (Nat.le_refl _)]
    exact o'
  have hin':i<L.length:=by omega
  simp only [tc,show ((i:Int)==(L.length:Int))=false by simp;omega]
  unfold ab2
  have w1:IntKind.i64.wrap ((L.length:Int)+((1:Nat):Int))=((L.length+1:Nat):Int):=by rw [nu (by omega) (by omega)];omega
  simp (disch:=first|decide|omega) only [tc,w1,cap32]
  refine ci (fun hgt=>?_) (fun hle=>?_)
  . -- a new row
    have hcap:cap=L.length:=by omega
    have lt1:(L.take i).length=i:=by rw [List.length_take];omega
    have s0:Src G h dh.n (.slice (some ⟨b,0,none⟩) i cap) i (dh.rows (L.take i)):=by
     refine ⟨by rw [dh.rows_length,lt1],.inr ⟨b,0,cap,rfl,fun j hj=>?_⟩⟩
     rw [bm (bk hbh),Nat.zero_add,dh.rows_split L i,List.append_assoc,List.getElem?_append_left hj]
    have w2:((L.length+1:Nat):Int)-(i:Int)=((L.length+1-i:Nat):Int):=by omega
    simp only [tc,zm un99 rn (Int.natCast_nonneg i) (show (i:Int)<=(cap:Nat)by omega),w1,w2]
    refine Vo un99 (show P_.underlying 3=some (.int .i64)by kernel_rfl) eoslot (by decide) s0 (by omega) (by omega) (by omega) fun q cap' zs hq gq hcap' hzl=>?_
    have ei:i+(L.length+1-i)=L.length+1:=by omega
    rw [ei]at hcap' ⊢
    have hzl':zs.length=cap'*3-i*3:=by
     rw [List.length_append,dh.rows_length,lt1]at hzl
     have:dh.n=3:=rfl
     rw [this]at hzl
     omega
    generalize e2:Hp.set h q _=h2
    obtain ⟨l2,d2,b2⟩:=boxed e2 hq d gq
    have hw:(i:Int)+((1:Nat):Int)=((i+1:Nat):Int):=by omega
    simp only [tc,o0 un99 rn (Int.natCast_nonneg i) (show (i:Int)<=(L.length+1:Nat)by omega) hcap',if_neg (show ¬cap'=i by omega),add0]
    rw [Z0 dh (by decide) un99 eoslot (M:=[x]) b2 ((sx.up l2 d2).src (by decide) (by simp)) (by simp;omega) (by rw [hzl,show dh.n=3 from rfl,List.length_singleton];omega)]
    generalize e3:Hp.set h2 q _=h3
    have b3:=V4 e3
    have hqb:q≠b:=fun e=>by rw [e,hbh]at hq;cases hq
    have hb3:h3 b=some (.cells (dh.rows L++t).toArray 203 (0,0)):=by rw [Fa e3 (Ne.symm hqb)];exact l2 _ _ hbh
    simp only [tc,hw,uy un99 rn (Int.natCast_nonneg (i+1)) (show ((i+1:Nat):Int)<=(L.length+1:Nat)by omega) hcap',if_neg (show ¬cap'=i+1 by omega),add0,uy un99 rn (Int.natCast_nonneg i) (show (i:Int)<=(L.length:Nat)by omega) hc,if_neg (show ¬cap=i by omega)]
    have hdl:(L.drop i).length=L.length-i:=List.length_drop
    rw [N1 dh (by decide) un99 eoslot (M:=L.drop i) b3 (by rw [hdl];exact Nat.min_eq_left (by omega)) (fun j hj=>by
     rw [bm (bk hb3),dh.rows_split L i,List.append_assoc,List.getElem?_append_right (by rw [dh.rows_length,lt1];exact Nat.le_add_right _ _),dh.rows_length,lt1,show i*3+j-i*dh.n=j by rw [show dh.n=3 from rfl];omega,List.getElem?_append_left hj]) (by
     rw [hdl,show dh.n=3 from rfl]
     simp only [List.length_append,List.length_take,List.length_drop,dh.rows_length,lt1,show dh.n=3 from rfl,List.length_singleton,hzl']
     omega)]
    rw [show i*3=(L.take i).length*3 by rw [lt1],show (i+1)*3=((L.take i).length+1)*3 by rw [lt1]]
    obtain ⟨rest,er⟩:=V2 (A:=L.take i) (D:=L.drop i) (x:=x) (zs:=zs) (m:=((L.take i).length+1)*3+(L.drop i).length*dh.n)
    have hlr:=congrArg List.length er
    rw [er]
    have sq:HL.Sep (noHp.set q (.cells (dh.rows (L.take i++x::L.drop i)++rest).toArray 203 (0,0))::a::R) (h3.set q (.cells (dh.rows (L.take i++x::L.drop i)++rest).toArray 203 (0,0))):=by
     have s1:=s.new (o := .cells (dh.rows (L.take i)++zs).toArray 203 (0,0)) hq
     rw [e2]at s1
     have s2:=s1.put (o:=Obj.cells (dh.rows (L.take i++x::L.drop i)++rest).toArray 203 (0,0)) bj
     rw [set_set]at s2
     rw [<- e3,set_set]
     exact s2
    try simp (disch:=first|decide|omega) only [tc,Nat.reduceAdd,Nat.reduceMul]
    refine ⟨_,⟨some q,cap',rest,?_,bj,?_⟩,sq.swap.drop,?_⟩
    . rw [List.length_append,List.length_cons,lt1,hdl,show i+(L.length-i+1)=L.length+1 by omega]
    . rw [<- hlr]
      simp only [List.length_append,List.length_take,List.length_drop,dh.rows_length,lt1,show dh.n=3 from rfl,List.length_singleton,hzl',hdl]
      omega
    . have d3:Dis G h3:=by rw [<- e3];exact d2.set gq
      exact d3.set gq
  . -- room in the row
    have hcap:L.length+1<=cap:=by omega
    have hl3:(dh.rows L++t).length=cap*3:=hl
    unfold ab1
    have hw:(i:Int)+((1:Nat):Int)=((i+1:Nat):Int):=by omega
    simp (disch:=first|decide|omega) only [tc,w1,zm un99 rn (Int.natCast_nonneg (L.length+1)) (show ((L.length+1:Nat):Int)<=(cap:Nat)by omega),hw,o0 un99 rn (Int.natCast_nonneg (i+1)) (show ((i+1:Nat):Int)<=(L.length+1:Nat)by omega) hcap,if_neg (show ¬cap=i+1 by omega),add0]
    rw [over_no hx hbh hne]
    simp only [tc,hw,uy un99 rn (Int.natCast_nonneg (i+1)) (show ((i+1:Nat):Int)<=(L.length+1:Nat)by omega) hcap,if_neg (show ¬cap=i+1 by omega),add0,uy un99 rn (Int.natCast_nonneg i) (show ((i:Nat):Int)<=(L.length+1:Nat)by omega) hcap,if_neg (show ¬cap=i by omega)]
    have hdl:(L.drop i).length=L.length-i:=List.length_drop
    have lt1:(L.take i).length=i:=by rw [List.length_take];omega
    rw [N1 dh (by decide) un99 eoslot (M:=L.drop i) hbh (by rw [hdl];show min (L.length+1-i) (L.length+1-(i+1))=L.length-i;omega) (fun j hj=>by
     rw [bm (bk hbh),dh.rows_split L i,List.append_assoc,List.getElem?_append_right (by rw [dh.rows_length,lt1];exact Nat.le_add_right _ _),dh.rows_length,lt1,show i*3+j-i*dh.n=j by rw [show dh.n=3 from rfl];omega,List.getElem?_append_left hj]) (by
     rw [hdl,show dh.n=3 from rfl,hl3]
     omega)]
    generalize e3:Hp.set h b _=h3
    have b3:=V4 e3
    have d3:Dis G h3:=by rw [<- e3];exact d.set (d _ _ hbh)
    have hx3:h3 xb=some (p9 x):=by rw [Fa e3 hne];exact hx
    have sx3:Sees dh G h3 (.slice (some ⟨xb,0,none⟩) 1 1) [x]:=Sees.row (c:=dh) (L:=[x]) hx3 rfl (Nat.le_refl _)
    simp only [tc,o0 un99 rn (Int.natCast_nonneg i) (show ((i:Nat):Int)<=(L.length+1:Nat)by omega) hcap,if_neg (show ¬cap=i by omega),add0]
    rw [Z0 dh (by decide) un99 eoslot (M:=[x]) b3 (sx3.src (by decide) (by simp)) (by simp;omega) (by
     simp only [List.length_append,List.length_take,List.length_drop,dh.rows_length,lt1,show dh.n=3 from rfl,List.length_singleton,hdl]
     rw [List.length_append,dh.rows_length,show dh.n=3 from rfl]at hl3
     omega)]
    obtain ⟨rest,er⟩:=ag5 (L:=L) (i:=i) (x:=x) (t:=t) hin' (m:=(i+1)*3+(L.drop i).length*dh.n)
    have hlr:=congrArg List.length er
    rw [er]
    try simp (disch:=first|decide|omega) only [tc,Nat.reduceAdd,Nat.reduceMul]
    have sq:=s.put (o:=Obj.cells (dh.rows (L.take i++x::L.drop i)++rest).toArray 203 (0,0)) hb
    rw [<- e3,set_set]
    refine ⟨_,⟨some b,cap,rest,?_,bj,?_⟩,sq,d.set (d _ _ hbh)⟩
    . rw [List.length_append,List.length_cons,lt1,hdl,show i+(L.length-i+1)=L.length+1 by omega]
    . rw [<- hlr]
      simp only [List.length_append,List.length_take,List.length_drop,dh.rows_length,lt1,show dh.n=3 from rfl,List.length_singleton,hdl]
      rw [List.length_append,dh.rows_length,show dh.n=3 from rfl]at hl3
      omega
def gn:=jq bC (jq (jq (jq (jq @Vq (jq @Re @rz)) (jq (jq @Vg @cf142) (jq @cf144 @Q4))) (jq (jq @Jw (jq @Br @Ut)) (jq (jq @Bq @aw2) (jq @Bp @ix98p)))) (jq (jq (jq @Ty (jq @ld3 @ld3p)) (jq (jq @ld98 @ld98p) (jq @ld99 @ln99))) (jq (jq @kz (jq @jg @mo)) (jq (jq @jt @qs) (jq @Ii @true_and)))))
theorem sv_set {raws:List Sv} {c:Nat} {s:Sv} (hc:c<raws.length):(svC.rows raws).set c (.slice s.1 s.2.1 s.2.2)=svC.rows (raws.set c s):=by
 have:=svC.rows_put (t:=[]) (x:=s) hc
 rw [List.append_nil,List.append_nil,show svC.n=1 from rfl,Nat.mul_one]at this
 exact this
theorem Mp {ty:TypeId} {a io h:Hp} {R:List Hp} {G:Hp} {tp c:Nat} {T:List (List Slot)} {L:List Slot} {v:Value} (t:Tab ty a tp T) (s:HL.Sep (io::a::R) h) (d:Dis G h) (o:Slc dh 203 io v L) (hc:c<T.length):
 ∃(rb:Nat) (l:List Value),bf G a ⟨tp,0,none⟩=some (.slice (some ⟨rb,0,none⟩) T.length T.length)/\h rb=some (.cells l.toArray 99 (0,0))/\c<l.length/\
  ∃a',Tab ty a' tp (T.set c L)/\HL.Sep (a'::R) (h.set rb (.cells (l.set c v).toArray 99 (0,0)))/\Dis G (h.set rb (.cells (l.set c v).toArray 99 (0,0))):=by
 obtain ⟨rb,raws,pb,st,hl,hr⟩:=t
 have s1:=s.split st
 simp only [List.cons_append,List.nil_append]at s1
 have hrb:h rb=some (.cells (svC.rows raws).toArray 99 (0,0)):=s1.at 2 rfl bj
 obtain ⟨sa,cap,rfl,_⟩:=o.len (by decide)
 refine ⟨rb,svC.rows raws,?_,hrb,by rw [svC.rows_length,show svC.n=1 from rfl,hl];omega,?_⟩
 . rw [bm (bk (st.at 0 rfl bj))]
   rfl
 have e:=sv_set (raws:=raws) (c:=c) (s:=(sa,L.length,cap)) (by omega)
 simp only at e
 rw [e]
 have s2:=(s1.pick 2 rfl rfl).put (o:=Obj.cells (svC.rows (raws.set c (sa,L.length,cap))).toArray 99 (0,0)) bj
 rw [set_set]at s2
 have s3:=(s2.pick 3 rfl rfl).pick 2 rfl rfl
 obtain ⟨pb',s4,t4⟩:=Fb s3
 have s5:=((s4.pick 1 rfl rfl).pick 2 rfl rfl)
 obtain ⟨a',s6,t6⟩:=uc s5
 refine ⟨a',⟨rb,raws.set c (sa,L.length,cap),pb',?_,by simp [hl],fun i s L' h1 h2=>?_⟩,s6,d.set (d _ _ hrb)⟩
 . rw [List.length_set]
   exact t6
 . by_cases hi:i=c
   . subst hi
     rw [List.getElem?_set_self (by omega)]at h1 h2
     cases h1
     cases h2
     exact ⟨rfl,o.le (t4.in 0 rfl)⟩
   . rw [List.getElem?_set_ne (Ne.symm hi)]at h1 h2
     obtain ⟨e1,e2⟩:=hr i s L' h1 h2
     exact ⟨e1,e2.le (t4.in 1 rfl)⟩
theorem mn_eq {a b:Int}:(if b<a then b else a)=min a b:=by split<;>omega
theorem mx_eq {a b:Int}:(if b>a then b else a)=max a b:=by split<;>omega
theorem as1 {P:Program} {G h:Hp} {a b:Int} {K:Value->Prop}:pw P G h (Builtin.min_ #[3,3] 3 #[a,b]) K=K (.int .i64 (min a b)):=by rw [<- mn_eq];rfl
theorem as6 {P:Program} {G h:Hp} {a b:Int} {K:Value->Prop}:pw P G h (Builtin.max_ #[3,3] 3 #[a,b]) K=K (.int .i64 (max a b)):=by rw [<- mx_eq];rfl
theorem Yw {P:Program} {G h:Hp} {a b:Int} {K:VK}:wpH P G (Builtin.min_ #[3,3] 3 #[a,b]) h K=K (.int .i64 (min a b)) h:=by rw [<- mn_eq];rfl
theorem Yy {P:Program} {G h:Hp} {a b:Int} {K:VK}:wpH P G (Builtin.max_ #[3,3] 3 #[a,b]) h K=K (.int .i64 (max a b)) h:=by rw [<- mx_eq];rfl
theorem yf {r:Int}:∀{L:List Slot} {i:Nat} {s:Slot} {f t:Int} {out:List Slot},L[i]?=some s->mz r (L.drop i) f t out=if jz r f t s=true then mz r (L.drop (i+1)) (min f s.f) (max t s.t) out else mz r (L.drop (i+1)) f t (out++[s]):=by
 intro L i s f t out hs
 obtain ⟨hlt,rfl⟩:=List.getElem?_eq_some_iff.1 hs
 rw [List.drop_eq_getElem_cons hlt,mz]
theorem T9 {out:List Slot} {x:Slot}:Aj out x=out.take (rank out x.f)++x::out.drop (rank out x.f):=by
 unfold Aj rank
 have e:=List.takeWhile_append_dropWhile (p:=fun s=>decide (s.f<x.f)) (l:=out)
 have h1:=List.take_left' (l₁:=out.takeWhile fun s=>decide (s.f<x.f)) (l₂:=out.dropWhile fun s=>decide (s.f<x.f)) rfl
 have h2:=List.drop_left' (l₁:=out.takeWhile fun s=>decide (s.f<x.f)) (l₂:=out.dropWhile fun s=>decide (s.f<x.f)) rfl
 rw [e]at h1 h2
 rw [h1,h2]
theorem aq2 {G h a:Hp} {R:List Hp} {tp:Nat} {T:List (List Slot)} {L:List Slot} {c r f t:Int} (tb:Tab 124 a tp T) (sp:HL.Sep (a::R) h) (h0:0<=c) (hL:T[c.toNat]?=some L) (g:Resv.Good L) (hlen:L.length<=800000) (hf:0<=f) (hft:f<t) (ht:t<=FV):
 bn P_ G 105 #[.pointer (some ⟨tp,0,none⟩),r,c,f,t] h (fun u h'=>u = .tuple #[]/\∃a',Tab 124 a' tp (T.set c.toNat (Resv.putL L r f t))/\HL.Sep (a'::R) h'/\Dis G h'):=by
 have h1:c<T.length:=by have:=(List.getElem?_eq_some_iff.1 hL).1;omega
 refine bn.assume fun d=>aD5 (by simp) ?_
 have da:Dis G a:=fun b o e=>d _ _ (sp.hd _ _ e)
 obtain ⟨rb,e1,e2⟩:=tb.see (G:=G) (Hp.le.refl a)
 obtain ⟨sa,cap,e3,e4⟩:=e2 _ _ hL
 unfold S105
 simp only [gn,kg sp.hd d e1,ix98 h0 h1,Nat.mul_one,kg sp.hd d e3]
 refine dp (fun m q h3=>∃(i:Nat) (fi ti:Int) (io:Hp) (v:Value) (out:List Slot),m=L.length-i/\i<=L.length/\q 0 = .pointer (some ⟨tp,0,none⟩)/\q 1 = .int .i64 r/\q 2 = .int .i64 c/\q 3 = .int .i64 fi/\q 4 = .int .i64 ti/\q 10=v/\q 21 = .slice sa L.length cap/\q 22 = .int .i64 L.length/\q 23 = .int .i64 i/\
  Slc dh 203 io v out/\out.length<=i/\HL.Sep (io::a::R) h3/\Dis G h3/\mz r (L.drop i) fi ti out=mz r L f t []) ?_
  (m:=L.length) ⟨0,f,t,noHp,_,[],rfl,Nat.zero_le _,by simp (disch:=decide) only [gn],by simp (disch:=decide) only [gn],by simp (disch:=decide) only [gn],by simp (disch:=decide) only [gn],by simp (disch:=decide) only [gn],rfl,by simp (disch:=decide) only [gn],by simp (disch:=decide) only [gn],by simp only [gn]<;>rfl,by simp (disch:=decide) only [gn];exact Slc.nil,Nat.zero_le _,sp.none,d,rfl⟩
 rintro m q h3 ⟨i,fi,ti,io,v,out,rfl,hi,q0,q1,q2,q3,q4,q10,q21,q22,q23,o,ho,s3,d3,hm⟩ X HX
 have l3:=s3.in 1 rfl
 unfold af3
 simp only [gn,q22,q23]
 refine ci (fun hlt=>?_) (fun hge=>?_)
 . obtain ⟨s,hs⟩:∃s,L[i]?=some s:=⟨_,List.getElem?_eq_getElem (by omega)⟩
   obtain ⟨b,of,rfl,z0,z1,z2⟩:=Sees.slot (e4.up l3 d3) hs
   unfold Lx
   simp (disch:=first|decide|exact bv|exact bo|omega|rfl) only [gn,q21,q23,ix99 (Int.natCast_nonneg i) hlt,z0,z1,z2]
   intro x hx gx
   simp only [gn,q1]
   generalize eh:Hp.set h3 x _=h4
   obtain ⟨l4,d4,b4⟩:=boxed eh hx d3 gx
   have s4:HL.Sep (io::a::R) h4:=by rw [<- eh];exact s3.past hx
   have cx:∀j,bf G h4 ⟨x,j,none⟩=_:=fun j=>bm (bk b4)
   have k5:∀(K0:Exit->Rg->Hp->Prop) (q':Rg),(∀k,k<=11->q' k=q k)->q' 21=q 21->q' 22=q 22->q' 23=q 23->q' 12 = .pointer (some ⟨x,0,none⟩)->jz r fi ti s=false->Dh G (dj X K0) q' h4:=by
    intro K0 q' hq q'21 q'22 q'23 q'12 htb
    unfold Dh
    simp only [gn,q'12,cx]
    intro y hy gy
    generalize ey:Hp.set h4 y _=h5
    obtain ⟨l5,d5,b5⟩:=boxed ey hy d4 gy
    have s5:HL.Sep (io::a::R) h5:=by rw [<- ey];exact s4.past hy
    rw [hq 10 (by decide),q10]
    refine dw dh (by decide) un99 eoslot (by decide) (by decide) (M:=[s]) s5 d5 o (Sees.row (c:=dh) (L:=[s]) b5 rfl (Nat.le_refl _)) (by simp;omega) fun v' a' h' o' s' d'=>?_
    unfold yu
    simp (disch:=first|decide|omega) only [gn,q'23,q23]
    refine HX (L.length-(i+1)) _ _ (by omega) ⟨i+1,fi,ti,a',v',out++[s],rfl,by omega,by simp (disch:=decide) only [gn,hq 0 (by decide),q0],by simp (disch:=decide) only [gn,hq 1 (by decide),q1],by simp (disch:=decide) only [gn,hq 2 (by decide),q2],by simp (disch:=decide) only [gn,hq 3 (by decide),q3],by simp (disch:=decide) only [gn,hq 4 (by decide),q4],by simp (disch:=decide) only [gn],by simp (disch:=decide) only [gn,q'21,q21],by simp (disch:=decide) only [gn,q'22,q22],by simp only [gn]<;>rfl,o',by simp;omega,s',d',?_⟩
    rw [<- hm,yf hs,if_neg (by rw [htb];decide)]
   cases hb:(s.r==r)with
   |false=>
    simp only [gn,hb,gk]
    exact k5 _ _ (fun k hk=>by simp (disch:=omega) only [bw]) (by simp (disch:=decide) only [gn]) (by simp (disch:=decide) only [gn]) (by simp (disch:=decide) only [gn]) (by simp (disch:=decide) only [gn]) (by unfold jz;rw [hb];rfl)
   |true=>
   simp only [gn,cx,q4]
   by_cases hb2:s.f<=ti
   rotate_left
   . simp only [gn,decide_eq_false hb2,gk]
     exact k5 _ _ (fun k hk=>by simp (disch:=omega) only [bw]) (by simp (disch:=decide) only [gn]) (by simp (disch:=decide) only [gn]) (by simp (disch:=decide) only [gn]) (by simp (disch:=decide) only [gn]) (by unfold jz;rw [decide_eq_false hb2];simp)
   simp only [gn,decide_eq_true hb2,q3,cx]
   refine ci (fun hb3=>?_) (fun hb3=>?_)
   rotate_left
   . exact k5 _ _ (fun k hk=>by simp (disch:=omega) only [bw]) (by simp (disch:=decide) only [gn]) (by simp (disch:=decide) only [gn]) (by simp (disch:=decide) only [gn]) (by simp (disch:=decide) only [gn]) (by unfold jz;rw [decide_eq_false hb3];simp)
   simp only [gn,cx,q3,q4,as1,as6]
   unfold yu
   simp (disch:=first|decide|omega) only [gn,q23]
   refine HX (L.length-(i+1)) _ _ (by omega) ⟨i+1,min fi s.f,max ti s.t,io,v,out,rfl,by omega,by simp (disch:=decide) only [gn,q0],by simp (disch:=decide) only [gn,q1],by simp (disch:=decide) only [gn,q2],by simp (disch:=decide) only [gn],by simp (disch:=decide) only [gn],by simp (disch:=decide) only [gn,q10],by simp (disch:=decide) only [gn,q21],by simp (disch:=decide) only [gn,q22],by simp only [gn]<;>rfl,o,by omega,s4,d4,?_⟩
   rw [<- hm,yf hs,if_pos (by unfold jz;rw [hb,decide_eq_true hb2,decide_eq_true hb3];rfl)]
 obtain rfl:i=L.length:=by omega
 rw [List.drop_of_length_le (Nat.le_refl _),mz]at hm
 obtain ⟨f',t',em,m1,m2,m3,m4,m5⟩:=Cr (r:=r) (f:=f) (t:=t) (out:=[]) g.apart (fun s hs=>(g.ok s hs).2.1) hft
 rw [<- hm]at em
 simp only [Prod.mk.injEq,List.nil_append]at em
 obtain ⟨rfl,rfl,eo⟩:=em
 have ep:Resv.putL L r f t=Aj out ⟨fi,ti,r⟩:=by unfold Resv.putL;rw [<- hm]
 have hmem:∀s∈out,s∈L:=fun s hs=>by rw [eo]at hs;exact (List.mem_filter.1 hs).1
 have hsort:out.Pairwise fun a b=>a.f<=b.f:=by
  rw [eo]
  exact (Mt g.apart fun s hs=>(g.ok s hs).2.1).filter _
 have hfi:0<=fi:=by
  rcases m3 with rfl|⟨s,hs,_,rfl⟩
  . exact hf
  . exact (g.ok s hs).1
 try simp (disch:=first|decide|omega) only [gn,Nat.reduceAdd,Nat.reduceMul]
 unfold af4
 simp (disch:=decide) only [gn,q10,q3]
 refine (Sz (n:=fi) (o.sees (by decide) (s3.in 0 rfl)) (by omega) hsort (fun s hs=>have k:=g.ok s (hmem s hs);⟨k.1,Int.le_trans (Int.le_of_lt k.2.1) k.2.2.1⟩) hfi (by omega)).mono ?_
 rintro _ _ ⟨⟨bb,rfl⟩,rfl⟩
 simp only [gn]
 refine ⟨a,l3,?_⟩
 simp (disch:=first|decide|omega) only [gn,q0,q1,q2,q3,q4,q10,e1]
 intro x hx gx
 generalize ex:Hp.set _ x _=h5
 obtain ⟨l5,d5,b5⟩:=boxed ex hx d3 gx
 have s5:HL.Sep (io::a::R) h5:=by rw [<- ex];exact s3.past hx
 refine (T8 (x:=⟨fi,ti,r⟩) s5 d5 o b5 ((s3.in 0 rfl).none hx) Yp (by omega)).mono ?_
 rintro v6 h6 ⟨io6,o6,s6,d6⟩
 rw [show out.take (rank out fi)++⟨fi,ti,r⟩::out.drop (rank out fi)=Resv.putL L r f t by rw [ep,T9]]at o6
 refine ⟨s6.in 1 rfl,?_⟩
 obtain ⟨rb',l,e1',hrb,hcl,a',t',s7,d7⟩:=Mp (c:=c.toNat) tb s6 d6 o6 (by omega)
 rw [e1]at e1'
 obtain rfl:rb=rb':=by simpa using e1'
 obtain ⟨sa6,cap6,rfl,_⟩:=o6.len (by decide)
 rw [Nat.mul_one,dr sz99 rfl hrb hcl]
 exact ⟨a',t',s7,d7⟩
def fc:=jq bC (jq (jq (jq (jq @al75 @bd124_0) (jq @tr @lr)) (jq (jq @Z1 @cf104) (jq @cf105 @U0))) (jq (jq (jq @fa75_0 @av0) (jq @fa75_2 @ld3)) (jq (jq @ld75 @ln71) (jq @ky (jq @st75w @true_and)))))
def j5:Cod Want:=⟨3,fun s=>[.int .i64 s.c,.int .i64 s.f,.int .i64 s.t],fun _=>rfl,fun _ v hv=>by simp at hv;rcases hv with rfl|rfl|rfl<;>rfl⟩
theorem Sees.want {G h:Hp} {sa:Option Addr} {cap n:Nat} {L:List Want} (s:Sees j5 G h (.slice sa n cap) L) {i:Nat} {x:Want} (hx:L[i]?=some x):
 ∃b o,sa=some ⟨b,o,none⟩/\bf G h ⟨b,o+i*3,none⟩=some (.int .i64 x.c)/\bf G h ⟨b,o+i*3+1,none⟩=some (.int .i64 x.f)/\bf G h ⟨b,o+i*3+2,none⟩=some (.int .i64 x.t):=by
 obtain ⟨b,o,c,e1,e2⟩:=s.get hx
 simp only [Value.slice.injEq]at e1
 obtain ⟨rfl,-,-⟩:=e1
 have x0:=e2 0 (by decide)
 have x1:=e2 1 (by decide)
 have x2:=e2 2 (by decide)
 simp only [j5,Nat.add_zero,List.getElem?_cons_zero,List.getElem?_cons_succ]at x0 x1 x2
 exact ⟨b,o,rfl,x0,x1,x2⟩
theorem Qn {T:Tb} {c:Int}:hasB T c=inT T.length c:=rfl
theorem ul {G h:Hp} {n:Nat} (h1:1<=n) (h2:n<=256):bn P_ G 24 #[n] h (fun u h'=>∃a tp,u = .tuple #[.pointer (some ⟨tp,0,none⟩),(0:Int)]/\Tab 124 a tp (List.replicate n [])/\HL.Sep [a,h] h'/\Dis G h'):=by
 refine bn.assume fun d=>enter24 (by simp) ?_
 unfold S24
 simp (disch:=decide) only [fc,decide_eq_false (show ¬(n:Int)<1 by omega),show decide ((n:Int)>256)=false from decide_eq_false (by omega)]
 unfold aN2
 simp (disch:=decide) only [fc]
 rw [vf svC (none,0,0) (by decide) un98 eosv (by kernel_rfl) (by omega) (by omega)]
 intro rb hrb grb
 simp only [fc]
 intro tp htp gtp
 have s1:=(Sep.one (h:=h)).new (o := .cells (svC.rows (List.replicate n (none,0,0))).toArray 99 (0,0)) hrb
 have d1:=d.set (o := .cells (svC.rows (List.replicate n (none,0,0))).toArray 99 (0,0)) grb
 have s2:=s1.new (o := .cells #[.slice (some ⟨rb,0,none⟩) n n] 124 (0,0)) htp
 have s3:=(s2.none.pick 2 rfl rfl).pick 2 rfl rfl
 obtain ⟨a,s4,t4⟩:=uc s3
 refine ⟨a,tp,rfl,⟨rb,List.replicate n (none,0,0),noHp,?_,by simp,fun i s L h1 h2=>?_⟩,s4,d1.set gtp⟩
 . rw [List.length_replicate]
   exact t4
 . rw [List.getElem?_replicate]at h1 h2
   split at h1
   . rename_i hi
     rw [if_pos hi]at h2
     cases h1
     cases h2
     exact ⟨rfl,Slc.nil⟩
   . cases h1
theorem Ep {α:Type} {L:List α} {i:Nat} {x:α} {p:α->Bool} (hx:L[i]?=some x):(L.take (i+1)).all p=((L.take i).all p&&p x):=by
 rw [List.take_add_one,hx,List.all_append]
 simp
theorem Ht {α:Type} {L:List α} {i:Nat} {x:α} {p:α->Bool} (hx:L[i]?=some x) (h:p x=false):L.all p=false:=by
 rw [List.all_eq_false]
 exact ⟨x,List.mem_of_getElem? hx,by rw [h];simp⟩
theorem Mz {r:Int} {T:Tb} {L:List Want} {i:Nat} {x:Want} (hx:L[i]?=some x):ve r T (L.take (i+1))=putW r (ve r T (L.take i)) x:=by
 unfold ve
 rw [List.take_add_one,hx,List.foldl_append]
 rfl
theorem J0 {G h a w:Hp} {R:List Hp} {tp b:Nat} {T:Tb} {r:Int} {v:Value} {l:List Want} (tb:Tab 124 a tp T) (sp:HL.Sep (a::w::R) h) (sv:Sees j5 G w v l) (g:jf T) (fw:Few T b) (hb:b+l.length<=800000):
 bn P_ G 50 #[.pointer (some ⟨tp,0,none⟩),r,v] h (fun u h'=>u = .int .i64 (jw T r l).1/\∃a',Tab 124 a' tp (jw T r l).2/\HL.Sep (a'::w::R) h'/\Dis G h'):=by
 obtain ⟨sa,cap,rfl⟩:=sv.len
 refine bn.assume fun d=>enter50 (by simp) ?_
 unfold S50
 simp only [fc]
 refine ci (fun hr=>?_) (fun hr=>?_)
 . try simp (disch:=first|decide|omega) only [fc,Nat.reduceAdd,Nat.reduceMul]
   have e:jw T r l=(1,T):=by unfold jw;rw [if_pos hr]
   rw [e]
   exact ⟨rfl,a,tb,sp,d⟩
 unfold aK1
 simp (disch:=decide) only [fc]
 generalize hKK:retK P_ G _ _=KK
 refine dp (fun m q h3=>∃i:Nat,m=l.length-i/\i<=l.length/\q 0 = .pointer (some ⟨tp,0,none⟩)/\q 1 = .int .i64 r/\q 2 = .slice sa l.length cap/\q 19 = .slice sa l.length cap/\q 20 = .int .i64 l.length/\q 21 = .int .i64 i/\HL.Sep (a::w::R) h3/\Dis G h3/\(l.take i).all (ml T.length)=true) ?_
  (m:=l.length) ⟨0,rfl,Nat.zero_le _,by simp (disch:=decide) only [fc],by simp (disch:=decide) only [fc],by simp (disch:=decide) only [fc],by simp (disch:=decide) only [fc],by simp (disch:=decide) only [fc],by simp only [fc]<;>rfl,sp,d,rfl⟩
 rintro m q h3 ⟨i,rfl,hi,q0,q1,q2,q19,q20,q21,s3,d3,hv⟩ X HX
 unfold Z6
 simp only [fc,q20,q21]
 refine ci (fun hlt=>?_) (fun hge=>?_)
 . obtain ⟨x,hx⟩:∃x,l[i]?=some x:=⟨_,List.getElem?_eq_getElem (by omega)⟩
   obtain ⟨bb,of,rfl,z0,z1,z2⟩:=Sees.want (sv.up (s3.in 1 rfl) d3) hx
   unfold G6
   simp (disch:=first|decide|exact bv|exact bo|omega|rfl) only [fc,q19,q21,ix71 (Int.natCast_nonneg i) hlt,z0,z1,z2]
   intro y hy gy
   simp only [fc,q0]
   generalize eh:Hp.set h3 y _=h4
   obtain ⟨l4,d4,b4⟩:=boxed eh hy d3 gy
   have s4:HL.Sep (a::w::R) h4:=by rw [<- eh];exact s3.past hy
   have cy:∀j,bf G h4 ⟨y,j,none⟩=_:=fun j=>bm (bk b4)
   refine (Jf (c:=x.c) (tb.see (s4.in 0 rfl))).mono ?_
   rintro _ h4 ⟨rfl,rfl⟩
   rw [Qn]
   have bad:∀r1:Rg,r1 6 = .int .i64 1->ml T.length x=false->KK .ret r1 h4:=fun r1 h6 hf=>by
    rw [<- hKK]
    have e:jw T r l=(1,T):=by unfold jw;rw [if_neg hr,if_neg (by rw [Ht hx hf];decide)]
    simp only [fc,h6,e]
    exact ⟨a,tb,s4,d4⟩
   have go:∀(K0:Exit->Rg->Hp->Prop) (r1:Rg),(∀k,k<=2->r1 k=q k)->r1 19=q 19->r1 20=q 20->r1 21=q 21->ml T.length x=true->Ay G (dj X K0) r1 h4:=fun K0 r1 hk p19 p20 p21 ht=>by
    unfold Ay
    simp (disch:=first|decide|omega) only [fc,p21,q21]
    exact HX (l.length-(i+1)) _ _ (by omega) ⟨i+1,rfl,by omega,by simp (disch:=decide) only [fc,hk 0 (by decide),q0],by simp (disch:=decide) only [fc,hk 1 (by decide),q1],by simp (disch:=decide) only [fc,hk 2 (by decide),q2],by simp (disch:=decide) only [fc,p19,q19],by simp (disch:=decide) only [fc,p20,q20],by simp only [fc]<;>rfl,s4,d4,by rw [Ep hx,hv,ht];rfl⟩
   cases e1:inT T.length x.c with
   |false=>
    try simp only [fc,gk]
    exact bad _ (by simp only [fc]) (by unfold ml;rw [e1];rfl)
   |true=>
   try simp only [fc,cy]
   by_cases e2:x.f<0
   . try simp only [fc,decide_eq_true e2,gk]
     exact bad _ (by simp only [fc]) (by unfold ml;rw [decide_eq_false (show ¬0<=x.f by omega)];simp)
   try simp only [fc,decide_eq_false e2,cy]
   by_cases e3:x.f>=x.t
   . try simp only [fc,decide_eq_true e3,gk]
     exact bad _ (by simp only [fc]) (by unfold ml;rw [decide_eq_false (show ¬x.f<x.t by omega)];simp)
   try simp only [fc,decide_eq_false e3,cy]
   refine ci (fun e4=>?_) (fun e4=>?_)
   . exact bad _ (by simp only [fc]) (by unfold ml;rw [decide_eq_false (show ¬x.t<=FV by simp only [FV];omega)];simp)
   . exact go _ _ (fun k hk=>by simp (disch:=omega) only [bw]) (by simp (disch:=decide) only [fc]) (by simp (disch:=decide) only [fc]) (by simp (disch:=decide) only [fc]) (qq.2 ⟨ym.1 e1,by omega,by omega,by simp only [FV];omega⟩)
 obtain rfl:i=l.length:=by omega
 rw [List.take_of_length_le (Nat.le_refl _)]at hv
 clear HX
 try simp (disch:=first|decide|omega) only [fc,Nat.reduceAdd,Nat.reduceMul]
 unfold aK0
 simp (disch:=decide) only [fc,q2]
 refine dp (fun m q' h3=>∃i:Nat,m=l.length-i/\i<=l.length/\q' 0 = .pointer (some ⟨tp,0,none⟩)/\q' 1 = .int .i64 r/\q' 2 = .slice sa l.length cap/\q' 48 = .slice sa l.length cap/\q' 49 = .int .i64 l.length/\q' 50 = .int .i64 i/\HL.Sep (a::w::R) h3/\Dis G h3/\(l.take i).all (ri T r)=true) ?_
  (m:=l.length) ⟨0,rfl,Nat.zero_le _,by simp (disch:=decide) only [fc,q0],by simp (disch:=decide) only [fc,q1],by simp (disch:=decide) only [fc,q2],by simp (disch:=decide) only [fc],by simp (disch:=decide) only [fc],by simp only [fc]<;>rfl,s3,d3,rfl⟩
 clear q0 q1 q2 q19 q20 q21 s3 d3
 clear q h3
 rintro m q h3 ⟨i,rfl,hi,q0,q1,q2,q19,q20,q21,s3,d3,hf⟩ X HX
 unfold aJ6
 simp only [fc,q20,q21]
 refine ci (fun hlt=>?_) (fun hge=>?_)
 . obtain ⟨x,hx⟩:∃x,l[i]?=some x:=⟨_,List.getElem?_eq_getElem (by omega)⟩
   obtain ⟨bb,of,rfl,z0,z1,z2⟩:=Sees.want (sv.up (s3.in 1 rfl) d3) hx
   obtain ⟨⟨c0,c1⟩,f0,f1,f2⟩:=qq.1 (List.all_eq_true.1 hv x (List.mem_of_getElem? hx))
   unfold O2
   simp (disch:=first|decide|exact bv|exact bo|omega|rfl) only [fc,q19,q21,ix71 (Int.natCast_nonneg i) hlt,z0,z1,z2]
   intro y hy gy
   simp only [fc,q0,q1]
   generalize eh:Hp.set h3 y _=h4
   obtain ⟨l4,d4,b4⟩:=boxed eh hy d3 gy
   have s4:HL.Sep (a::w::R) h4:=by rw [<- eh];exact s3.past hy
   have cy:∀j,bf G h4 ⟨y,j,none⟩=_:=fun j=>bm (bk b4)
   refine (Bk (r:=r) (f:=x.f) (t:=x.t) (tb.see (s4.in 0 rfl)) c0 (qc c0 c1) (by have:=wg fw x.c;omega)).mono ?_
   rintro _ h4 ⟨rfl,rfl⟩
   cases e1:nl (rowT T x.c) r x.f x.t with
   |false=>
    try simp only [fc]
    rw [<- hKK]
    have e:jw T r l=(18,T):=by unfold jw;rw [if_neg hr,if_pos hv,if_neg (by rw [Ht hx (by unfold ri;exact e1)];decide)]
    simp only [fc,e]
    exact ⟨a,tb,s4,d4⟩
   |true=>
    try simp only [fc]
    unfold Kd
    simp (disch:=first|decide|omega) only [fc,q21]
    exact HX (l.length-(i+1)) _ _ (by omega) ⟨i+1,rfl,by omega,by simp (disch:=decide) only [fc,q0],by simp (disch:=decide) only [fc,q1],by simp (disch:=decide) only [fc,q2],by simp (disch:=decide) only [fc,q19],by simp (disch:=decide) only [fc,q20],by simp only [fc]<;>rfl,s4,d4,by rw [Ep hx,hf];unfold ri;rw [e1];rfl⟩
 obtain rfl:i=l.length:=by omega
 rw [List.take_of_length_le (Nat.le_refl _)]at hf
 clear HX
 try simp (disch:=first|decide|omega) only [fc,Nat.reduceAdd,Nat.reduceMul]
 unfold aJ9
 simp (disch:=decide) only [fc,q2]
 refine dp (fun m q' h3=>∃(i:Nat) (a':Hp),m=l.length-i/\i<=l.length/\q' 0 = .pointer (some ⟨tp,0,none⟩)/\q' 1 = .int .i64 r/\q' 65 = .slice sa l.length cap/\q' 66 = .int .i64 l.length/\q' 67 = .int .i64 i/\Tab 124 a' tp (ve r T (l.take i))/\HL.Sep (a'::w::R) h3/\Dis G h3) ?_
  (m:=l.length) ⟨0,a,rfl,Nat.zero_le _,by simp (disch:=decide) only [fc,q0],by simp (disch:=decide) only [fc,q1],by simp (disch:=decide) only [fc],by simp (disch:=decide) only [fc],by simp only [fc]<;>rfl,tb,s3,d3⟩
 clear q0 q1 q2 q19 q20 q21 s3 d3
 clear q h3
 rintro m q h3 ⟨i,a3,rfl,hi,q0,q1,q19,q20,q21,t3,s3,d3⟩ X HX
 unfold aJ7
 simp only [fc,q20,q21]
 refine ci (fun hlt=>?_) (fun hge=>?_)
 . obtain ⟨x,hx⟩:∃x,l[i]?=some x:=⟨_,List.getElem?_eq_getElem (by omega)⟩
   obtain ⟨bb,of,rfl,z0,z1,z2⟩:=Sees.want (sv.up (s3.in 1 rfl) d3) hx
   obtain ⟨⟨c0,c1⟩,f0,f1,f2⟩:=qq.1 (List.all_eq_true.1 hv x (List.mem_of_getElem? hx))
   have sub:∀u∈l.take i,u∈l:=fun u hu=>List.mem_of_mem_take hu
   obtain ⟨g3,fw3,l3,k3⟩:=Iy (by omega:0<=r) (l:=l.take i) g fw (List.all_eq_true.2 fun u hu=>List.all_eq_true.1 hv u (sub u hu)) (List.all_eq_true.2 fun u hu=>List.all_eq_true.1 hf u (sub u hu))
   unfold O4
   simp (disch:=first|decide|exact bv|exact bo|omega|rfl) only [fc,q19,q21,ix71 (Int.natCast_nonneg i) hlt,z0,z1,z2]
   intro y hy gy
   simp only [fc,q0,q1]
   generalize eh:Hp.set h3 y _=h4
   obtain ⟨l4,d4,b4⟩:=boxed eh hy d3 gy
   have s4:HL.Sep (a3::w::R) h4:=by rw [<- eh];exact s3.past hy
   have hlen:(rowT (ve r T (l.take i)) x.c).length<=800000:=by
    have h5:=wg fw3 x.c
    rw [List.length_take]at h5
    omega
   refine (aq2 (r:=r) t3 s4 c0 (qc c0 (by rw [l3];exact c1)) (ud g3 x.c) hlen f0 f1 f2).mono ?_
   rintro _ h5 ⟨rfl,a5,t5,s5,d5⟩
   unfold O3
   simp (disch:=first|decide|omega) only [fc,q21]
   refine HX (l.length-(i+1)) _ _ (by omega) ⟨i+1,a5,rfl,by omega,by simp (disch:=decide) only [fc,q0],by simp (disch:=decide) only [fc,q1],by simp (disch:=decide) only [fc,q19],by simp (disch:=decide) only [fc,q20],by simp only [fc]<;>rfl,?_,s5,d5⟩
   rw [Mz hx]
   exact t5
 obtain rfl:i=l.length:=by omega
 rw [List.take_of_length_le (Nat.le_refl _)]at t3
 try simp (disch:=first|decide|omega) only [fc,Nat.reduceAdd,Nat.reduceMul]
 unfold aJ8
 have e:jw T r l=(0,ve r T l):=by unfold jw;rw [if_neg hr,if_pos hv,if_pos hf]
 rw [<- hKK]
 simp only [fc,e]
 exact ⟨a3,t3,s3,d3⟩
def Gy:=jq bC (jq (jq (jq @al110 @and_true) (jq @Fv (jq @lr @cf126))) (jq (jq @cf154 (jq @ld3 @Dt)) (jq @Bb (jq @st110w @true_and))))
theorem un58:P_.underlying 110=some (.array 2 3):=by kernel_rfl
theorem sz3':(P_.info? 3).map (·.size)=some 1:=sz3
theorem ix58a {G h:Hp} {b o:Nat} {K:VK}:wpH P_ G (Instr.indexAt 110 (.pointer (some ⟨b,o,none⟩)) (.int .i64 0)) h K=K (.pointer (some ⟨b,o,none⟩)) h:=by
 rw [Fk un58 sz3' (by decide) (by decide),od]
 rfl
theorem ix58b {G h:Hp} {b o:Nat} {K:VK}:wpH P_ G (Instr.indexAt 110 (.pointer (some ⟨b,o,none⟩)) (.int .i64 1)) h K=K (.pointer (some ⟨b,o+1,none⟩)) h:=by
 rw [Fk un58 sz3' (by decide) (by decide),od]
 rfl
theorem N0 {G h:Hp} {a:Int}:bn P_ G 154 #[a] h (fun u h'=>u = .int .i64 (cutI a)/\h'=h):=by
 refine az7 (by simp) ?_
 unfold S154
 simp only [Gy,Yw,Yy]
 simp [cutI,FV]
theorem ldP2 {G h:Hp} {a:Addr} {K:VK}:wpH P_ G (Instr.loadAt 110 (.pointer (some a))) h K=(∃x0,bf G h (a.add 0)=some x0/\∃x1,bf G h (a.add 1)=some x1/\K (.agg #[x0,x1]) h):=by kernel_rfl
theorem Fu {G h:Hp} {a b:Int}:bn P_ G 126 #[a,b] h (fun u h'=>u = .agg #[(cutI a),(cutI b)]/\h'=h):=by
 refine bn.assume fun d=>quietly (aB9 (by simp) ?_)
 unfold S126
 simp (disch:=decide) only [Gy,al110]
 intro x hx gx
 refine (N0 (a:=a)).mono ?_
 rintro _ _ ⟨rfl,rfl⟩
 refine (N0 (a:=b)).mono ?_
 rintro _ _ ⟨rfl,rfl⟩
 simp (disch:=first|decide|exact bv|exact bo|omega|rfl) only [Gy,ldP2]
 exact dl hx
theorem Zz {a:Int}:0<=cutI a/\cutI a<=FV:=by unfold cutI;simp only [FV];omega
theorem Sn {G h:Hp} {a b:Int}:bn P_ G 77 #[a,b] h (fun u h'=>u = .int .i64 (sumI a b)/\h'=h):=by
 refine bn.assume fun d=>quietly (enter77 (by simp) ?_)
 unfold S77
 simp only [Gy]
 refine (Fu (a:=a) (b:=b)).mono ?_
 rintro _ _ ⟨rfl,rfl⟩
 obtain ⟨a0,a1⟩:=Zz (a:=a)
 obtain ⟨b0,b1⟩:=Zz (a:=b)
 simp only [FV]at a1 b1
 simp (disch:=first|decide|exact bv|exact bo|omega|rfl) only [Gy,al110]
 intro x hx gx
 simp (disch:=first|decide|omega) only [Gy,ix58a,ix58b]
 refine ci (fun h1=>?_) (fun h1=>?_)
 . try simp (disch:=first|decide|omega) only [Gy,Nat.reduceAdd,Nat.reduceMul]
   exact ⟨by unfold sumI;rw [if_pos h1],dl hx⟩
 . unfold aI0
   simp (disch:=first|decide|omega) only [Gy,ix58a,ix58b]
   exact ⟨by unfold sumI;rw [if_neg h1],dl hx⟩
end Go.Proofs.YtfflipnhffknnaaGreatDoor.Rv
end
section
namespace Go.Proofs.YtfflipnhffknnaaGreatDoor
open Go Go.HL
section
variable (G:Hp) (K:EK) (r:Rg) (h:Hp)
def md53:Nat->Hint
 |_=>mh false [] [] [] false
def aJ5:Prop:=
 opH P_ G (iz (r 0) #[(.func (.func 107) #[] #[(r 5),(r 3)])]) h fun g h=>o_ G (l_ 103 (r 5)) h fun j h=>
 K .ret (u5 r 12 (r 0) 13 (.func (.func 107) #[] #[(r 5),(r 3)]) 14 g 15 j 4 j) h
def S53:Prop:=
 o_ G (Instr.box 3 (r 1)) h fun g h=>o_ G (Instr.alloc 103 true (.tuple #[])) h fun j h=>
 opH P_ G (xEq .eql 106 (.tmp 0) (.const .nilFunc) (r 0) .nilFunc) h fun s h=>g_ s false (o_ G (l_ 3 g) h) h fun u h=>g_ s false (o_ G (z2_ u (1:Int)) h) h fun w h=>
 opH P_ G (dc s (.bool true) w) h fun z h=>
 (fun q=>cond z
 (K .ret (upd q 4 (.slice none 0 0)) h)
 (aJ5 G K q h))
 (u9 r 3 g 4 (.slice none 0 0) 5 j 6 (r 0) 7 s 8 s 9 u 10 w 11 z)
theorem enter53:Ent 16 53 [.tmp 4] S53:=ent_ (m:=md53) (c:=(Tryz.f53.body.getD .skip)) (fun _ _ _ _=>by kernel_rfl) Tryz.func53 rfl rfl rfl
def md107:Nat->Hint
 |_=>mh false [] [] [] false
def S107:Prop:=
 o_ G (l_ 103 (r 2)) h fun g h=>o_ G (Instr.build 110 #[(0,(r 0)),(1,(r 1))]) h fun j h=>o_ G (Instr.buildSlice 103 1 #[(0,j)]) h fun s h=>o_ G (Builtin.append_ #[103,103] 103 #[g,s]) h fun u h=>
 opH P_ G (su (Instr.storeAt 103 (r 2) u)) h fun w h=>o_ G (l_ 103 (r 2)) h fun w h=>o_ G (k_ 103 w) h fun z h=>o_ G (l_ 3 (r 3)) h fun C h=>o_ G (z2_ z C) h fun D h=>
 K .ret (u2 (u10 r 6 (.bool false) 7 g 8 (r 0) 9 (r 1) 10 j 11 s 12 u 13 w 14 z 15 C) 16 D 6 D) h
theorem aD3:Ent 17 107 [.tmp 6] S107:=ent_ (m:=md107) (c:=(Tryz.f107.body.getD .skip)) (fun _ _ _ _=>by kernel_rfl) Tryz.func107 rfl rfl rfl
end
end Go.Proofs.YtfflipnhffknnaaGreatDoor
end
section
namespace Go.Proofs.YtfflipnhffknnaaGreatDoor.Rv
open Go Go.HL Go.Proofs.Resv
def ic:=jq bC (jq (jq (jq (jq @Vq @lr) (jq @pu (jq @Z1 @Jw))) (jq (jq @Br (jq @Bq @Bp)) (jq @Ty (jq @ld3 @ld34)))) (jq (jq (jq @Y0 @ld3p) (jq @ld98p (jq @ld99p @ln99p))) (jq (jq @jg (jq @mo @jt)) (jq @qs (jq @ui @Ii)))))
abbrev gapA (g:Int × Int):Array Value:=#[g.1,g.2]
theorem au0 {r:Int} {L:List Slot} {i:Nat} {s:Slot} {at_:Int} (hs:L[i]?=some s):ik r (L.drop i) at_=if s.r=r then ik r (L.drop (i+1)) at_ else if s.f>at_ then (at_,s.f)::ik r (L.drop (i+1)) s.t else ik r (L.drop (i+1)) s.t:=by
 obtain ⟨hlt,rfl⟩:=List.getElem?_eq_some_iff.1 hs
 rw [List.drop_eq_getElem_cons hlt,ik]
theorem Ud {G h:Hp} {tp:Nat} {c r:Int}:bn P_ G 145 #[.pointer (some ⟨tp,0,none⟩),c,r] h (fun u h'=>∃b1 b2 b3,u = .func (.func 164) #[] #[.pointer (some ⟨b1,0,none⟩),.pointer (some ⟨b2,0,none⟩),.pointer (some ⟨b3,0,none⟩)]/\h.le h'/\Dis G h'/\h' b1=some (.cells #[.pointer (some ⟨tp,0,none⟩)] 34 (0,0))/\h' b2=some (.cells #[c] 3 (0,0))/\h' b3=some (.cells #[r] 3 (0,0))/\∀R,HL.Sep R h->HL.Sep R h'):=by
 refine bn.assume fun d=>aA4 (by simp) ?_
 unfold S145
 simp only [ic]
 intro x hx gx y hy gy z hz gz
 have nxy:=js hy
 have nxz:x≠z:=fun e=>by subst e;rw [bz nxy,bj]at hz;cases hz
 have nyz:=js hz
 refine ⟨x,y,z,rfl,((dl hx).trans (dl hy)).trans (dl hz),((d.set gx).set gy).set gz,by rw [bz nxz,bz nxy,bj],by rw [bz nyz,bj],bj,fun R s=>((s.past hx).past hy).past hz⟩
theorem Wu {G h a q:Hp} {y:Value} {Y Z:List (Int × Int)->Hp->Prop} {cc:List (Int × Int)->Bool} {Lt:List (Int × Int)} {b1 b2 b3 tp:Nat} {T:Tb} {c r:Int}
 (yl:HL.Yl P_ gapA G y Y Z cc) (ya:Y Lt a) (s:HL.Sep [a,q] h) (h1:q b1=some (.cells #[.pointer (some ⟨tp,0,none⟩)] 34 (0,0))) (h2:q b2=some (.cells #[c] 3 (0,0))) (h3:q b3=some (.cells #[r] 3 (0,0))) (ts:TSee G q tp T)
 (fw:∀L∈T,L.length<=50000):
 bn P_ G 164 #[y,.pointer (some ⟨b1,0,none⟩),.pointer (some ⟨b2,0,none⟩),.pointer (some ⟨b3,0,none⟩)] h (fun _ h'=>Cb G q Y Z (HL.feed cc Lt (if inT T.length c=true then Gq (rowT T c) r else [])) h'):=by
 refine bn.assume fun d=>U1 (by simp) ?_
 unfold S164
 generalize hTT:HL.feed cc Lt _=TT
 have c1:∀{h':Hp},q.le h'->∀j,bf G h' ⟨b1,j,none⟩=_:=fun l j=>bm (bk (l _ _ h1))
 have c2:∀{h':Hp},q.le h'->∀j,bf G h' ⟨b2,j,none⟩=_:=fun l j=>bm (bk (l _ _ h2))
 have c3:∀{h':Hp},q.le h'->∀j,bf G h' ⟨b3,j,none⟩=_:=fun l j=>bm (bk (l _ _ h3))
 have lq:=s.in 1 rfl
 simp only [ic,c1 lq,c2 lq]
 refine (Jf (c:=c) (ts.up lq d)).mono ?_
 rintro _ h ⟨rfl,rfl⟩
 rw [Qn]
 cases hc:inT T.length c with
 |false=>
  rw [hc,if_neg (by decide)]at hTT
  try simp only [ic]
  exact Cb.go s d ya hTT
 |true=>
 obtain ⟨k0,k1⟩:=ym.1 hc
 have hL:=qc k0 k1
 rw [hc,if_pos rfl]at hTT
 generalize hLL:rowT T c=L at*
 obtain ⟨rb,e1,e2⟩:=ts
 obtain ⟨sa,cap,e3,e4⟩:=e2 _ _ hL
 have fL:=fw L (List.mem_of_getElem? hL)
 try simp only [ic]
 unfold R2
 simp (disch:=decide) only [ic,c1 lq,c2 lq,c3 lq,kg lq d e1,ix98p k0 k1,Nat.mul_one,kg lq d e3]
 generalize hKK:retK P_ G _ _=KK
 refine dp (fun m p h3=>∃(i:Nat) (a:Hp) (Lt:List (Int × Int)) (at_:Int),m=L.length-i/\i<=L.length/\p 0=y/\p 1 = .pointer (some ⟨b1,0,none⟩)/\p 2 = .pointer (some ⟨b2,0,none⟩)/\p 3 = .pointer (some ⟨b3,0,none⟩)/\p 5 = .int .i64 at_/\p 18 = .slice sa L.length cap/\p 19 = .int .i64 L.length/\p 20 = .int .i64 i/\
  Y Lt a/\HL.Sep [a,q] h3/\Dis G h3/\HL.feed cc Lt (ik r (L.drop i) at_)=TT) ?_
  (m:=L.length) ⟨0,a,Lt,0,rfl,Nat.zero_le _,by simp (disch:=decide) only [ic],by simp (disch:=decide) only [ic],by simp (disch:=decide) only [ic],by simp (disch:=decide) only [ic],by simp (disch:=decide) only [ic],by simp (disch:=decide) only [ic],by simp (disch:=decide) only [ic],by simp only [ic]<;>rfl,ya,s,d,hTT⟩
 clear ya s d lq
 clear hTT
 clear Lt a h
 rintro m p h ⟨i,a,Lt,at_,rfl,hi,p0,p1,p2,p3,p5,p18,p19,p20,ya,s,d,hTT⟩ X HX
 have lq:=s.in 1 rfl
 unfold R0
 simp only [ic,p19,p20]
 refine ci (fun hlt=>?_) (fun hge=>?_)
 rotate_left
 . -- the last one
   obtain rfl:i=L.length:=by omega
   rw [List.drop_of_length_le (Nat.le_refl _),ik]at hTT
   try simp (disch:=first|decide|omega) only [ic,Nat.reduceAdd,Nat.reduceMul]
   unfold R1
   simp (disch:=decide) only [ic,p5]
   refine ci (fun hl=>?_) (fun hl=>?_)
   . rw [if_pos hl]at hTT
     simp only [ic,p0]
     refine ku ?_ (yl Lt (at_,FV) a q h ya s d)
     rintro v h' ⟨a',rfl,s',d',hy⟩
     rw [<- hKK]
     try simp only [ic]
     cases hc2:cc (Lt++[(at_,FV)])with
     |true=>
      rw [hc2,if_pos rfl]at hy
      rw [HL.Jn hc2]at hTT
      exact Cb.go s' d' hy hTT
     |false=>
      rw [hc2,if_neg (by decide)]at hy
      exact Cb.no s' d' hy hc2 hTT
   . rw [if_neg hl]at hTT
     rw [<- hKK]
     try simp only [ic]
     exact Cb.go s d ya hTT
 obtain ⟨sl,hs⟩:∃sl,L[i]?=some sl:=⟨_,List.getElem?_eq_getElem (by omega)⟩
 obtain ⟨b',of,rfl,z0,z1,z2⟩:=Sees.slot (e4.up lq d) hs
 rw [au0 hs]at hTT
 unfold C8
 simp (disch:=first|decide|exact bv|exact bo|omega|rfl) only [ic,p18,p20,ix99 (Int.natCast_nonneg i) hlt,z0,z1,z2]
 intro x hx gx
 generalize eh:Hp.set h x _=h4
 obtain ⟨l4,d4,b4⟩:=boxed eh hx d gx
 have s4:HL.Sep [a,q] h4:=by rw [<- eh];exact s.past hx
 have lq4:=s4.in 1 rfl
 have cx:∀j,bf G h4 ⟨x,j,none⟩=_:=fun j=>bm (bk b4)
 have next:∀(K0:Exit->Rg->Hp->Prop) (p':Rg) (h5 a':Hp) (Lt':List (Int × Int)) (at':Int),(∀k,k<=3->p' k=p k)->p' 18=p 18->p' 19=p 19->p' 20=p 20->p' 5 = .int .i64 at'->Y Lt' a'->HL.Sep [a',q] h5->Dis G h5->HL.feed cc Lt' (ik r (L.drop (i+1)) at')=TT->
  rx G (dj X K0) p' h5:=by
  intro K0 p' h5 a' Lt' at' hk w18 w19 w20 w5 ya' s' d' hT'
  unfold rx
  simp (disch:=first|decide|omega) only [ic,w20,p20]
  exact HX (L.length-(i+1)) _ _ (by omega) ⟨i+1,a',Lt',at',rfl,by omega,by simp (disch:=decide) only [ic,hk 0 (by decide),p0],by simp (disch:=decide) only [ic,hk 1 (by decide),p1],by simp (disch:=decide) only [ic,hk 2 (by decide),p2],by simp (disch:=decide) only [ic,hk 3 (by decide),p3],by simp (disch:=decide) only [ic,w5],by simp (disch:=decide) only [ic,w18,p18],by simp (disch:=decide) only [ic,w19,p19],by simp only [ic]<;>rfl,ya',s',d',hT'⟩
 simp only [ic,cx,p3,c3 lq4]
 refine qw (fun hb=>?_) (fun hb=>?_)
 . rw [if_pos (by simpa using hb)]at hTT
   exact next _ _ _ a Lt at_ (fun k hk=>by simp (disch:=omega) only [bw]) (by simp (disch:=decide) only [ic]) (by simp (disch:=decide) only [ic]) (by simp (disch:=decide) only [ic]) (by simp (disch:=decide) only [ic,p5]) ya s4 d4 hTT
 rw [if_neg (by simpa using hb)]at hTT
 unfold C7
 have k7:∀(K0:Exit->Rg->Hp->Prop) (p':Rg) (h5 a':Hp) (Lt':List (Int × Int)),(∀k,k<=3->p' k=p k)->p' 18=p 18->p' 19=p 19->p' 20=p 20->p' 7 = .pointer (some ⟨x,0,none⟩)->h5 x=some (p9 sl)->Y Lt' a'->HL.Sep [a',q] h5->Dis G h5->HL.feed cc Lt' (ik r (L.drop (i+1)) sl.t)=TT->
  uw G (dj X K0) p' h5:=by
  intro K0 p' h5 a' Lt' hk w18 w19 w20 w7 b5 ya' s' d' hT'
  have c5:∀j,bf G h5 ⟨x,j,none⟩=_:=fun j=>bm (bk b5)
  unfold uw
  simp only [ic,w7,c5]
  exact next _ _ _ a' Lt' sl.t (fun k hk'=>by simp (disch:=omega) only [bw];exact hk k hk') (by simp (disch:=decide) only [ic,w18]) (by simp (disch:=decide) only [ic,w19]) (by simp (disch:=decide) only [ic,w20]) (by simp only [ic]) ya' s' d' hT'
 simp (disch:=decide) only [ic,cx,p5]
 by_cases hg:sl.f>at_
 rotate_left
 . rw [if_neg hg]at hTT
   simp only [ic,show decide (sl.f>at_)=false from decide_eq_false hg,gk]
   exact k7 _ _ _ a Lt (fun k hk=>by simp (disch:=omega) only [bw]) (by simp (disch:=decide) only [ic]) (by simp (disch:=decide) only [ic]) (by simp (disch:=decide) only [ic]) (by simp (disch:=decide) only [ic]) b4 ya s4 d4 hTT
 rw [if_pos hg]at hTT
 simp only [ic,show decide (sl.f>at_)=true from decide_eq_true hg,p0,p5,cx]
 have s5:HL.Sep [a,q.set x (p9 sl)] h4:=by
  rw [<- eh]
  have:=(s.swap.grow (o:=p9 sl) hx).swap
  exact this
 refine ku ?_ (yl Lt (at_,sl.f) a (q.set x (p9 sl)) h4 ya s5 d4)
 rintro v h6 ⟨a',rfl,s',d',hy⟩
 have b6:h6 x=some (p9 sl):=s'.at 1 rfl bj
 have s6:HL.Sep [a',q] h6:=(s'.swap.cut (dl (s.drop.hd.none hx))).swap
 simp only [ic]
 cases hc2:cc (Lt++[(at_,sl.f)])with
 |true=>
  rw [hc2,if_pos rfl]at hy
  rw [HL.Jn hc2]at hTT
  simp only [ic]
  exact k7 _ _ _ a' _ (fun k hk=>by simp (disch:=omega) only [bw]) (by simp (disch:=decide) only [ic]) (by simp (disch:=decide) only [ic]) (by simp (disch:=decide) only [ic]) (by simp (disch:=decide) only [ic]) b6 hy s6 d' hTT
 |false=>
  rw [hc2,if_neg (by decide)]at hy
  simp only [ic]
  rw [<- hKK]
  try simp only [ic]
  exact Cb.no s6 d' hy hc2 hTT
def bRtM:=jq bC (jq (jq (jq (jq @Vq @lr) (jq @Z1 (jq @Jw @Br))) (jq (jq @Bq @Bp) (jq @Ty (jq @ld3 @ld34)))) (jq (jq (jq @Y0 @ld3p) (jq @ld98p (jq @ld99p @ln99p))) (jq (jq @jg (jq @mo @jt)) (jq @qs (jq @ui @Ii)))))
theorem Ws {G h a q:Hp} {y:Value} {Y:List (Int × Int)->Hp->Prop} {N:Nat} {b1 b2 b3 tp:Nat} {T:Tb} {c r:Int}
 (yl:YlN P_ gapA (fun _=>True) N G y Y) (ya:Y [] a) (s:HL.Sep [a,q] h) (h1:q b1=some (.cells #[.pointer (some ⟨tp,0,none⟩)] 34 (0,0))) (h2:q b2=some (.cells #[c] 3 (0,0))) (h3:q b3=some (.cells #[r] 3 (0,0))) (ts:TSee G q tp T)
 (fw:∀L∈T,L.length<=50000) (hN:(if inT T.length c=true then Gq (rowT T c) r else []).length<=N+1):
 bn P_ G 164 #[y,.pointer (some ⟨b1,0,none⟩),.pointer (some ⟨b2,0,none⟩),.pointer (some ⟨b3,0,none⟩)] h (fun _ h'=>zg G q Y (if inT T.length c=true then Gq (rowT T c) r else []) h'):=by
 refine bn.assume fun d=>U1 (by simp) ?_
 unfold S164
 generalize hTT:(if inT T.length c=true then Gq (rowT T c) r else [])=TT at hN ⊢
 have c1:∀{h':Hp},q.le h'->∀j,bf G h' ⟨b1,j,none⟩=_:=fun l j=>bm (bk (l _ _ h1))
 have c2:∀{h':Hp},q.le h'->∀j,bf G h' ⟨b2,j,none⟩=_:=fun l j=>bm (bk (l _ _ h2))
 have c3:∀{h':Hp},q.le h'->∀j,bf G h' ⟨b3,j,none⟩=_:=fun l j=>bm (bk (l _ _ h3))
 have lq:=s.in 1 rfl
 simp only [bRtM,c1 lq,c2 lq]
 refine (Jf (c:=c) (ts.up lq d)).mono ?_
 rintro _ h ⟨rfl,rfl⟩
 rw [Qn]
 cases hc:inT T.length c with
 |false=>
  rw [hc,if_neg (by decide)]at hTT
  try simp only [bRtM]
  exact zg.go s d ya hTT
 |true=>
 obtain ⟨k0,k1⟩:=ym.1 hc
 have hL:=qc k0 k1
 rw [hc,if_pos rfl]at hTT
 generalize hLL:rowT T c=L at*
 obtain ⟨rb,e1,e2⟩:=ts
 obtain ⟨sa,cap,e3,e4⟩:=e2 _ _ hL
 have fL:=fw L (List.mem_of_getElem? hL)
 try simp only [bRtM]
 unfold R2
 simp (disch:=decide) only [bRtM,c1 lq,c2 lq,c3 lq,kg lq d e1,ix98p k0 k1,Nat.mul_one,kg lq d e3]
 generalize hKK:retK P_ G _ _=KK
 refine dp (fun m p h3=>∃(i:Nat) (a:Hp) (Lt:List (Int × Int)) (at_:Int),m=L.length-i/\i<=L.length/\p 0=y/\p 1 = .pointer (some ⟨b1,0,none⟩)/\p 2 = .pointer (some ⟨b2,0,none⟩)/\p 3 = .pointer (some ⟨b3,0,none⟩)/\p 5 = .int .i64 at_/\p 18 = .slice sa L.length cap/\p 19 = .int .i64 L.length/\p 20 = .int .i64 i/\
  Y Lt a/\HL.Sep [a,q] h3/\Dis G h3/\Lt++ik r (L.drop i) at_=TT) ?_
  (m:=L.length) ⟨0,a,[],0,rfl,Nat.zero_le _,by simp (disch:=decide) only [bRtM],by simp (disch:=decide) only [bRtM],by simp (disch:=decide) only [bRtM],by simp (disch:=decide) only [bRtM],by simp (disch:=decide) only [bRtM],by simp (disch:=decide) only [bRtM],by simp (disch:=decide) only [bRtM],by simp only [bRtM]<;>rfl,ya,s,d,hTT⟩
 clear ya s d lq
 clear hTT
 clear a h
 rintro m p h ⟨i,a,Lt,at_,rfl,hi,p0,p1,p2,p3,p5,p18,p19,p20,ya,s,d,hTT⟩ X HX
 have lq:=s.in 1 rfl
 unfold R0
 simp only [bRtM,p19,p20]
 refine ci (fun hlt=>?_) (fun hge=>?_)
 rotate_left
 . -- the last one
   obtain rfl:i=L.length:=by omega
   rw [List.drop_of_length_le (Nat.le_refl _),ik]at hTT
   try simp (disch:=first|decide|omega) only [bRtM,Nat.reduceAdd,Nat.reduceMul]
   unfold R1
   simp (disch:=decide) only [bRtM,p5]
   refine ci (fun hl=>?_) (fun hl=>?_)
   . rw [if_pos hl]at hTT
     simp only [bRtM,p0]
     refine ku ?_ (yl Lt (at_,FV) a q h (by rw [<- hTT]at hN;simp only [List.length_append,List.length_cons,List.length_nil]at hN;omega) trivial ya s d)
     rintro v h' ⟨a',rfl,s',d',hy⟩
     rw [<- hKK]
     try simp only [bRtM]
     exact zg.go s' d' hy hTT
   . rw [if_neg hl,List.append_nil]at hTT
     rw [<- hKK]
     try simp only [bRtM]
     exact zg.go s d ya hTT
 obtain ⟨sl,hs⟩:∃sl,L[i]?=some sl:=⟨_,List.getElem?_eq_getElem (by omega)⟩
 obtain ⟨b',of,rfl,z0,z1,z2⟩:=Sees.slot (e4.up lq d) hs
 rw [au0 hs]at hTT
 unfold C8
 simp (disch:=first|decide|exact bv|exact bo|omega|rfl) only [bRtM,p18,p20,ix99 (Int.natCast_nonneg i) hlt,z0,z1,z2]
 intro x hx gx
 generalize eh:Hp.set h x _=h4
 obtain ⟨l4,d4,b4⟩:=boxed eh hx d gx
 have s4:HL.Sep [a,q] h4:=by rw [<- eh];exact s.past hx
 have lq4:=s4.in 1 rfl
 have cx:∀j,bf G h4 ⟨x,j,none⟩=_:=fun j=>bm (bk b4)
 have next:∀(K0:Exit->Rg->Hp->Prop) (p':Rg) (h5 a':Hp) (Lt':List (Int × Int)) (at':Int),(∀k,k<=3->p' k=p k)->p' 18=p 18->p' 19=p 19->p' 20=p 20->p' 5 = .int .i64 at'->Y Lt' a'->HL.Sep [a',q] h5->Dis G h5->Lt'++ik r (L.drop (i+1)) at'=TT->
  rx G (dj X K0) p' h5:=by
  intro K0 p' h5 a' Lt' at' hk w18 w19 w20 w5 ya' s' d' hT'
  unfold rx
  simp (disch:=first|decide|omega) only [bRtM,w20,p20]
  exact HX (L.length-(i+1)) _ _ (by omega) ⟨i+1,a',Lt',at',rfl,by omega,by simp (disch:=decide) only [bRtM,hk 0 (by decide),p0],by simp (disch:=decide) only [bRtM,hk 1 (by decide),p1],by simp (disch:=decide) only [bRtM,hk 2 (by decide),p2],by simp (disch:=decide) only [bRtM,hk 3 (by decide),p3],by simp (disch:=decide) only [bRtM,w5],by simp (disch:=decide) only [bRtM,w18,p18],by simp (disch:=decide) only [bRtM,w19,p19],by simp only [bRtM]<;>rfl,ya',s',d',hT'⟩
 simp only [bRtM,cx,p3,c3 lq4]
 refine qw (fun hb=>?_) (fun hb=>?_)
 . rw [if_pos (by simpa using hb)]at hTT
   exact next _ _ _ a Lt at_ (fun k hk=>by simp (disch:=omega) only [bw]) (by simp (disch:=decide) only [bRtM]) (by simp (disch:=decide) only [bRtM]) (by simp (disch:=decide) only [bRtM]) (by simp (disch:=decide) only [bRtM,p5]) ya s4 d4 hTT
 rw [if_neg (by simpa using hb)]at hTT
 unfold C7
 have k7:∀(K0:Exit->Rg->Hp->Prop) (p':Rg) (h5 a':Hp) (Lt':List (Int × Int)),(∀k,k<=3->p' k=p k)->p' 18=p 18->p' 19=p 19->p' 20=p 20->p' 7 = .pointer (some ⟨x,0,none⟩)->h5 x=some (p9 sl)->Y Lt' a'->HL.Sep [a',q] h5->Dis G h5->Lt'++ik r (L.drop (i+1)) sl.t=TT->
  uw G (dj X K0) p' h5:=by
  intro K0 p' h5 a' Lt' hk w18 w19 w20 w7 b5 ya' s' d' hT'
  have c5:∀j,bf G h5 ⟨x,j,none⟩=_:=fun j=>bm (bk b5)
  unfold uw
  simp only [bRtM,w7,c5]
  exact next _ _ _ a' Lt' sl.t (fun k hk'=>by simp (disch:=omega) only [bw];exact hk k hk') (by simp (disch:=decide) only [bRtM,w18]) (by simp (disch:=decide) only [bRtM,w19]) (by simp (disch:=decide) only [bRtM,w20]) (by simp only [bRtM]) ya' s' d' hT'
 simp (disch:=decide) only [bRtM,cx,p5]
 by_cases hg:sl.f>at_
 rotate_left
 . rw [if_neg hg]at hTT
   simp only [bRtM,show decide (sl.f>at_)=false from decide_eq_false hg,gk]
   exact k7 _ _ _ a Lt (fun k hk=>by simp (disch:=omega) only [bw]) (by simp (disch:=decide) only [bRtM]) (by simp (disch:=decide) only [bRtM]) (by simp (disch:=decide) only [bRtM]) (by simp (disch:=decide) only [bRtM]) b4 ya s4 d4 hTT
 rw [if_pos hg]at hTT
 simp only [bRtM,show decide (sl.f>at_)=true from decide_eq_true hg,p0,p5,cx]
 have s5:HL.Sep [a,q.set x (p9 sl)] h4:=by
  rw [<- eh]
  have:=(s.swap.grow (o:=p9 sl) hx).swap
  exact this
 refine ku ?_ (yl Lt (at_,sl.f) a (q.set x (p9 sl)) h4 (by rw [<- hTT]at hN;simp only [List.length_append,List.length_cons]at hN;omega) trivial ya s5 d4)
 rintro v h6 ⟨a',rfl,s',d',hy⟩
 have b6:h6 x=some (p9 sl):=s'.at 1 rfl bj
 have s6:HL.Sep [a',q] h6:=(s'.swap.cut (dl (s.drop.hd.none hx))).swap
 simp only [bRtM]
 exact k7 _ _ _ a' _ (fun k hk=>by simp (disch:=omega) only [bw]) (by simp (disch:=decide) only [bRtM]) (by simp (disch:=decide) only [bRtM]) (by simp (disch:=decide) only [bRtM]) (by simp (disch:=decide) only [bRtM]) b6 hy s6 d' (by rw [<- hTT];simp)
end Go.Proofs.YtfflipnhffknnaaGreatDoor.Rv
end
section
namespace Go.Proofs.YtfflipnhffknnaaGreatDoor
open Go Go.HL Go.Proofs.Resv Go.Proofs.Srch
def bRtN:=jq bC (jq (jq (jq @al142 (jq @al28 @an6)) (jq @gu (jq @N6 @cf145))) (jq (jq @cf146 (jq @cf88 @ld142)) (jq (jq @ld28 @ln22) (jq @Mr @true_and))))
theorem setR2 {n d e:Nat} {v u:Value} {r:Rg} (hd:d<n) (he:e<n):setR n #[d,e] #[v,u] r=upd (upd r d v) e u:=by
 show putR n (putR n r (some d) v) (some e) u=_
 simp only [putR,if_pos hd,if_pos he]
theorem ar5 {G:Hp} {a b c y:Value} {h:Hp} {K:VK}:opE P_ G (iz (.func (.func 164) #[] #[a,b,c]) #[y]) h K=bn P_ G 164 #[y,a,b,c] h K:=by kernel_rfl
def SpY (xb l:Nat) (ob:Obj) (L:List Sp) (b:Hp):Prop:=∃ip v,Slc nt 151 ip v L/\Sep [ip,noHp.set xb (.cells #[v] 142 (0,0)),noHp.set l ob] b
theorem Wv {G:Hp} {y:Value} {xb l:Nat} {oo:Option Exit->Obj} {r:Rg} (gl:G l=none) (ho:∀e,i6 (oo e)=false) (g13:r 13 = .pointer (some ⟨xb,0,none⟩))
 (hy:∀(args:Array Value) (h1:Hp) (K1:Value->Hp->Prop),args.size=2->h1 l=some (oo none)->
  Dg G (setR 46 #[33,34] args r) h1 (fun e r2 h2=>e = .normal/\h2 l=some (oo none)/\∀ob,i6 ob=false->Df G r2 (h2.set l ob) (fun e _ h3=>h3 l=some ob/\match e with
   | .normal=>K1 (.bool true) (h3.set l (oo none))
   | .panic _=>False
   | .outgrown=>False
   |e=>K1 (.bool false) (h3.set l (oo (some e)))))->
  opH P_ G (iz y args) h1 K1):YlN P_ Rv.gapA (fun _=>True) 60000 G y (SpY xb l (oo none)):=by
 rintro L p b q h hL _ ⟨ip,v,sl,sb⟩ s d
 have s1:Sep [ip,noHp.set xb (.cells #[v] 142 (0,0)),noHp.set l (oo none),q] h:=s.open sb
 refine hy (Rv.gapA p) h _ rfl (s1.at 2 rfl bj) ?_
 rw [setR2 (by decide) (by decide)]
 unfold Dg
 refine ⟨rfl,s1.at 2 rfl bj,fun ob hob=>?_⟩
 have s2:=(s1.pick 2 rfl rfl).put (o:=ob) bj
 rw [set_set]at s2
 have d2:Dis G (h.set l ob):=d.set gl
 generalize Hp.set h l ob=h2 at s2 d2 ⊢
 have cb:bf G h2 ⟨xb,0,none⟩=some v:=by rw [bm (bk (s2.at 2 rfl bj))];rfl
 unfold Df
 simp (disch:=decide) only [bRtN,g13,cb]
 intro x hx gx
 have s4:=s2.past (o := .cells #[p.1,p.2] 151 (0,0)) hx
 have d4:=d2.set (o := .cells #[p.1,p.2] 151 (0,0)) gx
 have hxs:(h2.set x (.cells #[p.1,p.2] 151 (0,0))) x=some (.cells #[p.1,p.2] 151 (0,0)):=bj
 generalize Hp.set h2 x _=h4 at s4 d4 hxs ⊢
 refine dw nt (by decide) (L:=L) (M:=[p]) Ya eospan (by decide) (by decide) (s4.pick 1 rfl rfl) d4 sl (Sees.row hxs (by simp [nt,Cod.rows]) (by simp)) (by simp;omega) ?_
 intro v' ip' h5 sl' s5 d5
 obtain ⟨sa,cap,rfl,hcap⟩:=sl.len (by decide)
 obtain ⟨sa',cap',rfl,hcap'⟩:=sl'.len (by decide)
 have hk5:h5 xb=some (.cells [Value.slice sa L.length cap].toArray 142 (0,0)):=s5.at 2 rfl bj
 try simp (disch:=first|decide|omega) only [bRtN,Nat.reduceAdd,Nat.reduceMul]
 rw [dr sz142 rfl hk5 (by simp)]
 try simp only [bRtN,List.set_cons_zero]
 have s7:=(s5.pick 2 rfl rfl).put (o := .cells #[.slice sa' (L++[p]).length cap'] 142 (0,0)) bj
 rw [set_set]at s7
 have d7:=d5.set (o := .cells #[.slice sa' (L++[p]).length cap'] 142 (0,0)) (d5 _ _ hk5)
 generalize Hp.set h5 xb _=h7 at s7 d7 ⊢
 try simp (disch:=first|decide|omega) only [bRtN,Nat.reduceAdd,Nat.reduceMul]
 refine ⟨s7.at 2 rfl bj,?_⟩
 have s8:=(s7.pick 2 rfl rfl).put (o:=oo none) bj
 rw [set_set]at s8
 obtain ⟨b',t1,t2⟩:=Sep.pack [_,_,_] (s8.sel (L':=[ip',noHp.set xb (.cells #[.slice sa' (L++[p]).length cap'] 142 (0,0)),noHp.set l (oo none),q]) [2,1,0,3] (by decide) rfl)
 exact ⟨b',t1,d7.set gl,ip',_,sl',t2⟩
theorem al3 {T:Tb} {r:Int} {N:List Int} {n:Int}:m8 T r (N++[n])=sj (m8 T r N) (p8 T r n):=by
 unfold m8
 rw [List.foldl_append]
 rfl
theorem Bk {G h:Hp} {g cv:Value} {w k tp bb:Nat} {f:Nat->Nat->Int} {T:Tb} {r:Int} {cells:List Cell} (gs:GS G h g w k f) (ts:Rv.TSee G h tp T) (gt:jf T) (fw:Few T bb) (hbb:bb<=50000) (sc:Sees du G h cv cells) (hc:cells.length<=300):
 bn P_ G 108 #[g,.pointer (some ⟨tp,0,none⟩),r,cv] h (fun u h'=>∃ip,Slc nt 151 ip u (m8 T r (cells.map (numI w k)))/\Sep [ip,h] h'/\Dis G h'):=by
 obtain ⟨ca,cc,rfl,_⟩:=id sc
 refine bn.assume fun d=>aD2 (by simp) ?_
 unfold S108
 simp only [bRtN]
 intro x0 hx0 gx0
 have s0:=(Sep.one (h:=h)).new (o := .cells #[(0:Int),(4611686018427387904:Int)] 151 (0,0)) hx0
 have d0:=d.set (o := .cells #[(0:Int),(4611686018427387904:Int)] 151 (0,0)) gx0
 generalize Hp.set h x0 _=h0 at s0 d0 ⊢
 generalize hKK:retK P_ G _ _=KK
 refine dp (fun m p h'=>∃(i:Nat) (ip:Hp) (v:Value),m=cells.length-i/\i<=cells.length/\p 0=g/\p 1 = .pointer (some ⟨tp,0,none⟩)/\p 2 = .int .i64 r/\p 9=v/\p 18 = .slice ca cells.length cc/\p 19 = .int .i64 cells.length/\p 20 = .int .i64 i/\
  Slc nt 151 ip v (m8 T r ((cells.take i).map (numI w k)))/\Sep [ip,h] h'/\Dis G h') ?_ (m:=cells.length)
  ⟨0,noHp.set x0 (.cells #[(0:Int),(4611686018427387904:Int)] 151 (0,0)),.slice (some ⟨x0,0,none⟩) 1 1,rfl,by omega,by simp (disch:=decide) only [bRtN],by simp (disch:=decide) only [bRtN],by simp (disch:=decide) only [bRtN],by simp (disch:=decide) only [bRtN],by simp (disch:=decide) only [bRtN],by simp (disch:=decide) only [bRtN],by simp only [bRtN];rfl,⟨some x0,1,[],rfl,by rw [bj];rfl,rfl⟩,s0,d0⟩
 rintro m p h1 ⟨i,ip,v,rfl,hi,g0,g1,g2,g9,g18,g19,g20,sl,s,d1⟩ X hX
 unfold af0
 simp only [bRtN,g19,g20]
 refine ci (fun hlt=>?_) (fun hge=>?_)
 rotate_left
 . obtain rfl:i=cells.length:=by omega
   try simp (disch:=first|decide|omega) only [bRtN,Nat.reduceAdd,Nat.reduceMul]
   unfold af1
   rw [<- hKK]
   try simp (disch:=decide) only [bRtN,g9]
   rw [List.take_length]at sl
   exact ⟨ip,sl,s,d1⟩
 obtain ⟨c,hcx⟩:∃c,cells[i]?=some c:=⟨_,List.getElem?_eq_getElem (by omega)⟩
 obtain ⟨b,o,rfl,e1,e2⟩:=Sees.cell (sc.up (s.in 1 rfl) d1) hcx
 have htk:cells.take (i+1)=cells.take i++[c]:=by rw [List.take_add_one,hcx];rfl
 unfold Lw
 simp (disch:=first|decide|exact bv|exact bo|omega|rfl) only [bRtN,g18,g20,g0,ix22 (Int.natCast_nonneg i) hlt,e1,e2]
 intro y hy gy
 have s2:=s.past (o := .cells #[c.1,c.2] 28 (0,0)) hy
 have d2:=d1.set (o := .cells #[c.1,c.2] 28 (0,0)) gy
 have hys:(h1.set y (.cells #[c.1,c.2] 28 (0,0))) y=some (.cells #[c.1,c.2] 28 (0,0)):=bj
 try simp (disch:=first|decide|omega) only [bRtN,Nat.reduceAdd,Nat.reduceMul]
 generalize Hp.set h1 y _=h2 at s2 d2 hys ⊢
 have cy:∀k,bf G h2 ⟨y,k,none⟩=_:=fun k=>bm (bk hys)
 try simp (disch:=first|decide|omega) only [bRtN,Nat.reduceAdd,Nat.reduceMul,cy]
 refine (pa (c:=c) (gs.up (s2.in 1 rfl) d2)).mono ?_
 rintro _ h2 ⟨rfl,rfl⟩
 try simp only [bRtN]
 refine ci (fun hneg=>?_) (fun hpos=>?_)
 . rw [<- hKK]
   try simp only [bRtN]
   have hin:inT T.length (numI w k c)=false:=by
    cases e:inT T.length (numI w k c)with
    |false=>rfl
    |true=>have:=(ym.1 e).1;omega
   rw [au4 (List.mem_map.2 ⟨c,List.mem_of_getElem? hcx,rfl⟩) hin]
   exact ⟨noHp,Slc.nil,s2.drop.none,d2⟩
 unfold Lv
 simp (disch:=decide) only [bRtN,g1,g2]
 intro xb hxb gxb
 have s3:=s2.new (o := .cells #[.slice none 0 0] 142 (0,0)) hxb
 have d3:=d2.set (o := .cells #[.slice none 0 0] 142 (0,0)) gxb
 try simp (disch:=first|decide|omega) only [bRtN,Nat.reduceAdd,Nat.reduceMul]
 generalize Hp.set h2 xb _=h3 at s3 d3 ⊢
 refine (Rv.Ud).mono ?_
 rintro _ h4 ⟨b1,b2,b3,rfl,l4,d4,q1,q2,q3,hR⟩
 have s4:=hR _ s3
 have hx4:h4 xb=some (.cells #[.slice none 0 0] 142 (0,0)):=s4.at 0 rfl bj
 have ne1:b1≠xb:=fun e=>by rw [e,hx4]at q1;simp at q1
 have ne2:b2≠xb:=fun e=>by rw [e,hx4]at q2;simp at q2
 have ne3:b3≠xb:=fun e=>by rw [e,hx4]at q3;simp at q3
 obtain ⟨s5,sQ⟩:=s4.but
 generalize hQ:but h4 xb=Q at s5 sQ
 have dQ:Dis G Q:=fun b o e=>d4 b o (s5.in 1 rfl _ _ e)
 intro y2 l oo hl gl hoo hy2
 rw [ar5]
 have yl:=Wv (xb:=xb) gl hoo (by simp (disch:=decide) only [bRtN]) hy2
 have s6:Sep [noHp,noHp.set xb (.cells #[.slice none 0 0] 142 (0,0)),noHp.set l (oo none),Q] (h4.set l (oo none)):=((s5.new (o:=oo none) hl).none).sel [0,2,1,3] (by decide) rfl
 obtain ⟨a,s7,sa⟩:=Sep.pack [_,_,_] s6
 refine (Rv.Ws (T:=T) yl ⟨noHp,.slice none 0 0,Slc.nil,sa⟩ s7 (by rw [<- hQ,Q7 ne1];exact q1) (by rw [<- hQ,Q7 ne2];exact q2) (by rw [<- hQ,Q7 ne3];exact q3) (ts.up (sQ.in 1 rfl) dQ) (fun L hL=>by have:=fw L hL;omega)
  (by have:=Fm fw r (numI w k c);unfold p8 at this;omega)).mono ?_
 rintro _ h8 ⟨a',s8,d8,ip2,v2,sl2,sa2⟩
 obtain ⟨h9,s9,t9⟩:=Sep.pack [_,_,_,_] ((((s8.open sa2).pick 3 rfl rfl).open sQ).sel (L':=[ip2,noHp.set xb (.cells #[v2] 142 (0,0)),ip,h,noHp.set l (oo none)]) [2,3,0,1,4] (by decide) rfl)
 have d9:Dis G h9:=fun b o e=>d8 b o (s9.in 0 rfl _ _ e)
 refine ⟨h9,s9.in 0 rfl,?_,.inl ⟨s9.at 1 rfl bj,?_⟩⟩
 . rcases s9.apart (b:=noHp.set l (oo none)) (by simp) l with e|e
   . exact e
   . rw [bj]at e;cases e
 try simp only [bRtN]
 unfold Lu
 have cb:bf G h9 ⟨xb,0,none⟩=some v2:=by rw [bm (bk (t9.at 1 rfl bj))];rfl
 simp (disch:=decide) only [bRtN,cb,g9]
 have hlA:=Eb gt fw r ((cells.take i).map (numI w k))
 have hlB:=Fm fw r (numI w k c)
 have hmul:((cells.take i).map (numI w k)).length*(bb+1)<=300*50001:=Nat.mul_le_mul (by rw [List.length_map,List.length_take];omega) (by omega)
 refine (Fu (A:=m8 T r ((cells.take i).map (numI w k))) (B:=p8 T r (numI w k c)) (sl.see (by decide) (t9.in 2 rfl)) (sl2.see (by decide) (t9.in 0 rfl)) (by omega)).mono ?_
 rintro v3 h10 ⟨ip3,sl3,s10,d10⟩
 have s11:Sep [ip3,h] h10:=(s10.swap.cut (t9.in 3 rfl)).swap
 unfold De
 simp (disch:=first|decide|omega) only [bRtN,g20]
 refine hX (cells.length-(i+1)) _ _ (by omega) ⟨i+1,ip3,v3,rfl,by omega,by simp (disch:=decide) only [bRtN,g0],by simp (disch:=decide) only [bRtN,g1],by simp (disch:=decide) only [bRtN,g2],by simp (disch:=decide) only [bRtN],by simp (disch:=decide) only [bRtN,g18],by simp (disch:=decide) only [bRtN,g19],by simp only [bRtN];rfl,?_,s11,d10⟩
 rw [htk,List.map_append,List.map_cons,List.map_nil,al3,<- Bt _ _ _ (Nat.le_refl _) (zq gt r _) (Ds gt r _)]
 exact sl3
end Go.Proofs.YtfflipnhffknnaaGreatDoor
end
section
namespace Go.Proofs.YtfflipnhffknnaaGreatDoor
open Go Go.HL
section
variable (G:Hp) (K:EK) (r:Rg) (h:Hp)
def md90:Nat->Hint
 |_=>mh false [] [] [] false
def aG7:Prop:=
 opH P_ G (callFunc 134 #[(r 5),(.func (.func 135) #[] #[(r 2)])]) h fun g h=>
 c_ G 136 #[(r 5)] h fun j h=>
 K .ret (u6 r 15 (r 5) 16 (.func (.func 135) #[] #[(r 2)]) 17 g 18 (r 5) 19 j 4 j) h
def S90:Prop:=
 o_ G (Instr.box 68 (r 0)) h fun g h=>o_ G (Instr.box 48 (r 1)) h fun j h=>o_ G (l_ 68 g) h fun s h=>o_ G (l_ 48 j) h fun u h=>
 c_ G 127 #[s,u] h fun w h=>o_ G (Instr.extract w 0) h fun z h=>o_ G (Instr.extract w 1) h fun C h=>o_ G (Op.unary .not C) h fun D h=>
 (fun q=>cond D
 (K .ret (upd q 4 (.slice none 0 0)) h)
 (aG7 G K q h))
 (u3 (u10 r 2 g 3 j 4 (.slice none 0 0) 8 s 9 u 10 w 7 w 11 z 12 C 5 z) 6 C 13 C 14 D)
theorem enter90:Ent 20 90 [.tmp 4] S90:=ent_ (m:=md90) (c:=(Tryz.f90.body.getD .skip)) (fun _ _ _ _=>by kernel_rfl) Tryz.func90 rfl rfl rfl
def md135:Nat->Hint
 |1=>mh false [0,0,3,0,0,31,63,127] [m_,m_,e_,m_,m_,e_,n_,n_] (fs 2++[true]++fs 5) false
 |_=>mh false [] [] [] false
def S135:Prop:=
 o_ G (Instr.box 28 (r 0)) h fun g h=>o_ G (Instr.box 28 (r 1)) h fun j h=>
 w_ G h (l_ 68 (r 2)) h fun s h'=>
 w_ G h (l_ 28 g) h' fun u h'=>
 c_ G 88 #[s,u] h' fun w h'=>h.le h'/\
 w_ G h (l_ 68 (r 2)) h' fun z h'=>
 w_ G h (l_ 28 j) h' fun C h=>
 c_ G 88 #[z,C] h fun D h=>
 p_ (z3_ w D) h fun E h=>
 K .ret (upd (u10 r 3 g 4 j 5 (.int .i64 0) 6 s 7 u 8 w 9 z 10 C 11 D 12 E) 5 E) h
theorem aB2:Ent 13 135 [.tmp 5] S135:=ent_ (m:=md135) (c:=(Tryz.f135.body.getD .skip)) (fun _ _ _ _=>by kernel_rfl) Tryz.func135 rfl rfl rfl
def md136:Nat->Hint
 |6=>mh false [0,0,3,7,0,0,32,112,240,511] [n_,n_,n_,m_,n_,n_,n_,n_,m_,m_] (fs 10) false
 |11=>mh false [0,0,3,7,0,0,32,112,240,511] [n_,n_,n_,m_,n_,n_,n_,n_,m_,m_] (fs 10) false
 |_=>mh false [] [] [] false
def ac1 (G:Hp) (K:EK) (r:Rg) (h:Hp):Prop:=
 K .ret (u2 r 60 (r 0) 2 (r 0)) h
def Db:Prop:=
 o_ G (z1_ (r 3) (1:Int)) h fun g h=>
 K .normal (u3 r 14 (r 3) 15 g 3 g) h
def K4:Prop:=
 o_ G (Instr.sliceAt 22 (r 0) (some (r 3)) none none) h fun g h=>o_ G (Builtin.clear_ #[22] 0 #[g]) h fun j h=>o_ G (Instr.sliceAt 22 (r 0) none (some (r 3)) none) h fun j h=>
 K .ret (u7 r 54 (r 0) 55 (r 3) 56 g 57 (r 0) 58 (r 3) 59 j 2 j) h
def r6:Prop:=
 o_ G (z1_ (r 5) (1:Int)) h fun g h=>
 K .normal (u3 r 33 (r 5) 34 g 5 g) h
def Cf:Prop:=
 p_ (i_ 22 (r 4) (r 5)) h fun g h'=>
 w_ G h (l_ 28 g) h' fun j h'=>
 p_ (z3_ (r 5) (1:Int)) h' fun s h'=>
 p_ (i_ 22 (r 4) s) h' fun u h'=>
 w_ G h (l_ 28 u) h' fun w h'=>
 dg P_ G h (xEq .neq 28 (.tmp 0) (.tmp 0) j w) h' fun z h=>
 cond z
 (o_ G (i_ 22 (r 4) (r 5)) h fun C h'=>o_ G (l_ 28 C) h' fun D h'=>o_ G (i_ 22 (r 0) (r 3)) h' fun E h'=>
 opH P_ G (su (Instr.storeAt 28 E D)) h' fun F h'=>o_ G (z1_ (r 3) (1:Int)) h' fun F h'=>
 r6 G K (u10 (u10 r 35 (r 4) 36 (r 5) 37 g 38 j 39 (r 4) 40 (r 5) 41 s 42 u 43 w 44 z) 45 (r 0) 46 (r 3) 47 (r 4) 48 (r 5) 49 C 50 D 51 E 52 (r 3) 53 F 3 F) h')
 (r6 G K (u10 r 35 (r 4) 36 (r 5) 37 g 38 j 39 (r 4) 40 (r 5) 41 s 42 u 43 w 44 z) h)
def K3 (r:Rg) (h:Hp) (K:EK):Prop:=
 o_ G (k_ 22 (r 4)) h fun g h=>o_ G (z2_ (r 5) g) h fun j h=>
 cond j
 (Cf G K (u4 r 29 (r 5) 30 (r 4) 31 g 32 j) h)
 (K (.exit 2) (u4 r 29 (r 5) 30 (r 4) 31 g 32 j) h)
def K5:Prop:=
 p_ (i_ 22 (r 0) (r 3)) h fun g h'=>
 w_ G h (l_ 28 g) h' fun j h'=>
 p_ (z3_ (r 3) (1:Int)) h' fun s h'=>
 p_ (i_ 22 (r 0) s) h' fun u h'=>
 w_ G h (l_ 28 u) h' fun w h'=>
 dg P_ G h (xEq .eql 28 (.tmp 0) (.tmp 0) j w) h' fun z h=>
 cond z
 (o_ G (Instr.sliceAt 22 (r 0) (some (r 3)) none none) h fun C h'=>
 dt (K3 G) (u5 (u10 r 16 (r 0) 17 (r 3) 18 g 19 j 20 (r 0) 21 (r 3) 22 s 23 u 24 w 25 z) 26 (r 0) 27 (r 3) 28 C 4 C 5 (.int .i64 1)) h' (df 2 (dj (K4 G K) (df 1 (dj (Db G K) K)))))
 (Db G K (u10 r 16 (r 0) 17 (r 3) 18 g 19 j 20 (r 0) 21 (r 3) 22 s 23 u 24 w 25 z) h)
def ac0 (r:Rg) (h:Hp) (K:EK):Prop:=
 o_ G (k_ 22 (r 0)) h fun g h=>o_ G (z2_ (r 3) g) h fun j h=>
 cond j
 (K5 G K (u4 r 10 (r 3) 11 (r 0) 12 g 13 j) h)
 (K (.exit 0) (u4 r 10 (r 3) 11 (r 0) 12 g 13 j) h)
def ac2:Prop:=
 dt (ac0 G) (upd r 3 (.int .i64 1)) h (df 0 (dj (ac1 G K) K))
def S136:Prop:=
 o_ G (k_ 22 (r 0)) h fun g h=>o_ G (z2_ g (2:Int)) h fun j h=>
 (fun q=>cond j
 (K .ret (u2 q 9 (r 0) 2 (r 0)) h)
 (ac2 G K q h))
 (u4 r 2 (.slice none 0 0) 6 (r 0) 7 g 8 j)
theorem aB1:Ent 61 136 [.tmp 2] S136:=ent_ (m:=md136) (c:=(Tryz.f136.body.getD .skip)) (fun _ _ _ _=>by kernel_rfl) Tryz.func136 rfl rfl rfl
end
section
variable (G:Hp) (K:EK) (r:Rg) (h:Hp)
def md21:Nat->Hint
 |_=>mh false [] [] [] false
def S21:Prop:=
 o_ G (Instr.box 26 (r 0)) h fun g h=>o_ G (f_ 26 g 0) h fun j h=>o_ G (l_ 3 j) h fun s h=>o_ G (z7_ s (6:Int)) h fun u h=>g_ u true (o_ G (f_ 26 g 1) h) h fun w h=>g_ u true (o_ G (l_ 3 w) h) h fun z h=>g_ u true (o_ G (z7_ z (6:Int)) h) h fun C h=>
 opH P_ G (dc u C (.bool false)) h fun D h=>g_ D true (o_ G (f_ 26 g 14) h) h fun E h=>g_ D true (o_ G (l_ 3 E) h) h fun F h=>g_ D true (o_ G (z7_ F (4000:Int)) h) h fun I h=>
 opH P_ G (dc D I (.bool false)) h fun J h=>g_ J true (o_ G (f_ 26 g 7) h) h fun L h=>g_ J true (o_ G (l_ 3 L) h) h fun M h=>g_ J true (o_ G (z7_ M (100:Int)) h) h fun N h=>
 opH P_ G (dc J N (.bool false)) h fun O h=>g_ O true (o_ G (f_ 26 g 10) h) h fun P h=>g_ O true (o_ G (l_ 3 P) h) h fun Q h=>g_ O true (o_ G (z7_ Q (200:Int)) h) h fun U h=>
 opH P_ G (dc O U (.bool false)) h fun V h=>g_ V true (o_ G (f_ 26 g 11) h) h fun W h=>g_ V true (o_ G (l_ 3 W) h) h fun Y h=>g_ V true (o_ G (z7_ Y (200:Int)) h) h fun Z h=>
 opH P_ G (dc V Z (.bool false)) h fun aa h=>g_ aa true (o_ G (f_ 26 g 5) h) h fun ab h=>g_ aa true (o_ G (l_ 23 ab) h) h fun ac h=>g_ aa true (o_ G (k_ 23 ac) h) h fun ae h=>g_ aa true (o_ G (z7_ ae (4:Int)) h) h fun af h=>
 opH P_ G (dc aa af (.bool false)) h fun ag h=>g_ ag true (o_ G (l_ 26 g) h) h fun ah h=>g_ ag true (c_ G 38 #[ah] h) h fun ai h=>
 opH P_ G (dc ag ai (.bool false)) h fun aj h=>
 K .ret (upd (u10 (u10 (u10 (u10 r 1 g 2 (.bool false) 3 j 4 s 5 u 6 u 7 w 8 z 9 C 10 D) 11 D 12 E 13 F 14 I 15 J 16 J 17 L 18 M 19 N 20 O) 21 O 22 P 23 Q 24 U 25 V 26 V 27 W 28 Y 29 Z 30 aa) 31 aa 32 ab 33 ac 34 ae 35 af 36 ag 37 ag 38 ah 39 ai 40 aj) 2 aj) h
theorem enter21:Ent 41 21 [.tmp 2] S21:=ent_ (m:=md21) (c:=(Tryz.f21.body.getD .skip)) (fun _ _ _ _=>by kernel_rfl) Tryz.func21 rfl rfl rfl
end
abbrev N5 (c:Cell):Obj := .cells #[c.1,c.2] 28 (0,0)
def i9 {α:Type} (p:Nat->Bool) (mk:Nat->α):Nat->Nat->List α
 |_,0=>[]
 |n,k+1=>if p n=true then mk n::i9 p mk (n+1) k else i9 p mk (n+1) k
section
theorem Fr:∀(n:Nat) (L:List Nat),L.Nodup->(∀x∈L,x<n)->L.length<=n
 |0,L,_,h=>by
  cases L with
  |nil=>simp
  |cons x L=>exact absurd (h x (.head _)) (by omega)
 |n+1,L,hn,h=>by
  by_cases hm:n∈L
  . have h1:=Fr n (L.erase n) (hn.erase n) (fun x hx=>by
     have h2:=h x (List.mem_of_mem_erase hx)
     have h3:x≠n:=(List.Nodup.mem_erase_iff hn).1 hx |>.1
     omega)
    rw [List.length_erase_of_mem hm]at h1
    have:=List.length_pos_of_mem hm
    omega
  . have:=Fr n L hn (fun x hx=>by
     have h2:=h x hx
     have h3:x≠n:=fun e=>hm (e▸hx)
     omega)
    omega
theorem Bn {w k:Nat} {L:List Cell} (hn:L.Nodup) (h:∀c∈L,inW w k c=true):L.length<=w*k:=by
 have h1:=Fr (w*k) (L.map fun c=>c.2.toNat*w+c.1.toNat) ?_ ?_
 . simpa using h1
 . rw [List.nodup_iff_pairwise_ne,List.pairwise_map]
   rw [List.nodup_iff_pairwise_ne]at hn
   refine List.Pairwise.imp_of_mem ?_ hn
   intro a b ha hb hab e
   apply hab
   obtain ⟨a1,a2,a3,a4⟩:=jr.1 (h a ha)
   obtain ⟨b1,b2,b3,b4⟩:=jr.1 (h b hb)
   have hw:0<w:=by omega
   obtain ⟨x1,y1⟩:=(cellN (n:=b.2.toNat*w+b.1.toNat) hw (show a.1.toNat<w by omega)).1 e
   obtain ⟨x2,y2⟩:=(cellN (n:=b.2.toNat*w+b.1.toNat) hw (show b.1.toNat<w by omega)).1 rfl
   have e1:a.1.toNat=b.1.toNat:=by rw [x1,<- x2]
   have e2:a.2.toNat=b.2.toNat:=by rw [y1,<- y2]
   exact Prod.ext (by omega) (by omega)
 . intro x hx
   obtain ⟨c,hc,rfl⟩:=List.mem_map.1 hx
   exact (Ad (h c hc)).2.2.2
section
variable {C:Conf}
theorem ub (hw:b8 C.w 1 16=true) (hk:b8 C.h 1 16=true):C.w=(wC C:Int)/\C.h=(kC C:Int)/\1<=wC C/\wC C<=16/\1<=kC C/\kC C<=16:=by
 unfold b8 at hw hk
 simp only [Bool.and_eq_true,decide_eq_true_eq]at hw hk
 unfold wC kC
 omega
theorem rg (hw:b8 C.w 1 16=true) (hk:b8 C.h 1 16=true) (c:Cell):inW (wC C) (kC C) c=inB C c:=by
 obtain ⟨e1,e2,_⟩:=ub hw hk
 rw [Bool.eq_iff_iff,jr]
 unfold inB
 simp only [Bool.and_eq_true,decide_eq_true_eq]
 rw [e1,e2]
 constructor
 . rintro ⟨a,b,c,d⟩;exact ⟨a,c,b,d⟩
 . rintro ⟨a,b,c,d⟩;exact ⟨a,c,b,d⟩
theorem Nx {c:Cell} (h1:0<=c.1) (h2:0<=c.2):fAt (f0C C) c=if c∈C.bl then -1 else if c∈C.po then (C.po.idxOf c:Int)+1 else 0:=by
 have e:((c.1.toNat:Int),(c.2.toNat:Int))=c:=by rw [Int.toNat_of_nonneg h1,Int.toNat_of_nonneg h2]
 unfold fAt f0C kd
 rw [e]
 by_cases hb:c∈C.bl
 . rw [if_pos (List.mem_append_left _ hb),if_pos hb,List.idxOf_append,if_pos hb,if_pos (List.idxOf_lt_length_of_mem hb)]
 . rw [if_neg hb]
   by_cases hp:c∈C.po
   . rw [if_pos (List.mem_append_right _ hp),if_pos hp,List.idxOf_append,if_neg hb,if_neg (by omega)]
     omega
   . rw [if_neg (by simp [hb,hp]),if_neg hp]
theorem P5 (hw:b8 C.w 1 16=true) (hk:b8 C.h 1 16=true) (c:Cell):py (wC C) (kC C) (f0C C) c=ot C c:=by
 unfold py ot
 rw [rg hw hk]
 cases hc:inB C c with
 |false=>rfl
 |true=>
  have hc':=hc
  rw [<- rg hw hk]at hc'
  obtain ⟨a1,a2,a3,a4⟩:=jr.1 hc'
  rw [Nx a1 a3]
  simp only [Bool.true_and]
  rw [Bool.eq_iff_iff]
  by_cases hb:c∈C.bl
  . simp [hb,List.count_eq_zero]
  . have:List.count c C.bl=0:=List.count_eq_zero.2 hb
    rw [if_neg hb]
    simp only [this,beq_self_eq_true,iff_true]
    split
    . simp;omega
    . simp
theorem Bm (hw:b8 C.w 1 16=true) (hk:b8 C.h 1 16=true) (p:Pose):dx (wC C) (kC C) (f0C C) p=ie C p:=by
 unfold dx ie
 rw [P5 hw hk,P5 hw hk]
theorem Qj (hw:b8 C.w 1 16=true) (hk:b8 C.h 1 16=true) {c:Cell} (hc:inB C c=true):wz (wC C) (kC C) (f0C C) c.1.toNat c.2.toNat=(decide (c∈C.bl)||mq C c):=by
 have hc':=hc
 rw [<- rg hw hk]at hc'
 obtain ⟨a1,a2,a3,a4⟩:=jr.1 hc'
 have e1:(c.1.toNat:Int)=c.1:=Int.toNat_of_nonneg a1
 have e2:(c.2.toNat:Int)=c.2:=Int.toNat_of_nonneg a3
 have hf:=Nx (C:=C) a1 a3
 unfold wz
 rw [Bm hw hk,Bm hw hk]
 rw [show f0C C c.1.toNat c.2.toNat=fAt (f0C C) c from rfl,hf]
 unfold ie east mq
 simp only [e1,e2]
 by_cases hb:c∈C.bl
 . simp [hb]
 . have ho:ot C (c.1,c.2)=true:=by
    unfold ot
    rw [show ((c.1,c.2):Cell)=c from rfl,hc]
    simp [List.count_eq_zero.2 hb]
   rw [if_neg hb,ho]
   have hne:((if c∈C.po then (C.po.idxOf c:Int)+1 else 0) == -1)=false:=by
    split
    . simp;omega
    . rfl
   rw [hne]
   simp [hb]
theorem D8 {c:Cell}:tj C c=true↔c∈C.ro.flatMap cj:=by
 unfold tj
 rw [List.any_eq_true,List.mem_flatMap]
 refine exists_congr fun p=>and_congr_right fun _=>?_
 rw [decide_eq_true_eq,<- List.count_pos_iff]
 omega
theorem aq6 {c:Cell}:I1 C c<0↔c∉C.po:=by
 unfold I1
 split
 . rename_i h;simp [h]<;>omega
 . rename_i h;simp [h]
theorem f1_at (hw:b8 C.w 1 16=true) (hk:b8 C.h 1 16=true) {c:Cell} (hc:inB C c=true):fAt (f1 (wC C) (kC C) (f0C C)) c=if c∈C.bl then -1 else if mq C c=true then (if c∈C.po then (C.po.idxOf c:Int)+1 else 0)else -2:=by
 have hc':=hc
 rw [<- rg hw hk]at hc'
 obtain ⟨a1,a2,a3,a4⟩:=jr.1 hc'
 unfold fAt f1
 rw [Qj hw hk hc,show f0C C c.1.toNat c.2.toNat=fAt (f0C C) c from rfl,Nx a1 a3]
 by_cases hb:c∈C.bl
 . simp [hb]
 . by_cases hs:mq C c=true
   . simp [hb,hs]
   . simp [hb,hs]
theorem f3_at (hw:b8 C.w 1 16=true) (hk:b8 C.h 1 16=true) {c:Cell} (hc:inB C c=true):fAt (f3C C) c=if tj C c=true then -2 else if c∈C.bl then -1 else if mq C c=true then (if c∈C.po then (C.po.idxOf c:Int)+1 else 0)else -2:=by
 have hc':=hc
 rw [<- rg hw hk]at hc'
 obtain ⟨a1,a2,a3,a4⟩:=jr.1 hc'
 have e:((c.1.toNat:Int),(c.2.toNat:Int))=c:=by rw [Int.toNat_of_nonneg a1,Int.toNat_of_nonneg a3]
 have h1:=f1_at hw hk hc
 unfold f3C fAt f2
 rw [e]
 by_cases hh:c∈C.ro.flatMap cj
 . rw [if_pos hh,if_pos (D8.2 hh)]
 . rw [if_neg hh,if_neg (fun q=>hh (D8.1 q))]
   exact h1
theorem Ig (hw:b8 C.w 1 16=true) (hk:b8 C.h 1 16=true) (c:Cell):(inW (wC C) (kC C) c=true/\fAt (f3C C) c=0)↔ug C c=true:=by
 rw [rg hw hk]
 unfold ug ot
 cases hc:inB C c with
 |false=>simp
 |true=>
  rw [f3_at hw hk hc]
  simp only [Bool.true_and,true_and,Bool.and_eq_true,decide_eq_true_eq,beq_iff_eq,Bool.not_eq_true',aq6,List.count_eq_zero]
  by_cases hh:tj C c=true
  . simp [hh]
  . have hh':tj C c=false:=by simpa using hh
    by_cases hb:c∈C.bl
    . simp [hh',hb]
    . by_cases hs:mq C c=true
      . by_cases hp:c∈C.po
        . simp [hh',hb,hs,hp];omega
        . simp [hh',hb,hs,hp]
      . have hs':mq C c=false:=by simpa using hs
        simp [hh',hb,hs']
theorem Yi:(∀n∈[C.un,C.ac,C.sp,C.tu,C.ho,C.re],b8 n 1 1000=true)↔b8 C.un 1 1000=true/\b8 C.ac 1 1000=true/\b8 C.sp 1 1000=true/\b8 C.tu 1 1000=true/\b8 C.ho 1 1000=true/\b8 C.re 1 1000=true:=by
 simp only [List.mem_cons,List.not_mem_nil,or_false,forall_eq_or_imp,forall_eq]
theorem Ag:dv C↔af6 C:=by
 constructor
 . intro M
   have hw:=M.laid.w
   have hk:=M.laid.h
   obtain ⟨e1,e2,w1,w2,k1,k2⟩:=ub hw hk
   have hm:wC C*kC C<=16*16:=Nat.mul_le_mul w2 k2
   obtain ⟨s1,s2,s3,s4,s5,s6⟩:=Yi.1 M.six
   have hnd:=List.nodup_append.1 M.laid.once
   have hall:=M.laid.all
   have hin:∀c∈C.bl++C.po,inB C c=true:=fun c hc=>by rw [<- rg hw hk];exact hall c hc
   have hpb:∀c∈C.po,mq C c=true:=fun c hc=>by
    have hcin:=hin c (List.mem_append_right _ hc)
    have hcw:=hall c (List.mem_append_right _ hc)
    obtain ⟨a1,a2,a3,a4⟩:=jr.1 hcw
    have hnb:c∉C.bl:=fun hb=>hnd.2.2 c hb c hc rfl
    have hkeep:=Qj hw hk hcin
    cases hs:mq C c with
    |true=>rfl
    |false=>
     exfalso
     have:=M.rob.plain c.1.toNat c.2.toNat (by omega) (by omega) (by rw [hkeep,hs];simp [hnb])
     rw [show f0C C c.1.toNat c.2.toNat=fAt (f0C C) c from rfl,Nx a1 a3,if_neg hnb,if_pos hc]at this
     omega
   refine ⟨?_,M.laid.po8,M.rob.r8,?_,fun c hc=>⟨hin c (List.mem_append_left _ hc),List.nodup_iff_count.1 hnd.1 c,List.count_eq_zero.2 fun hp=>hnd.2.2 c hc c hp rfl⟩,
    fun c hc=>⟨hin c (List.mem_append_right _ hc),List.nodup_iff_count.1 hnd.2.1 c,?_,hpb c hc⟩,fun p hp=>by rw [<- Bm hw hk];exact M.rob.fit p hp,fun c _=>List.nodup_iff_count.1 M.rob.once c,?_⟩
   . unfold qe
     simp [hw,hk,M.ht,M.qu,M.bu,s1,s2,s3,s4,s5,s6]
   . have:=Bn (w:=wC C) (k:=kC C) hnd.1 (fun c hc=>hall c (List.mem_append_left _ hc))
     omega
   . cases hh:tj C c with
     |false=>rfl
     |true=>
      exfalso
      have:=M.rob.low c (D8.1 hh)
      rw [f1_at hw hk (hin c (List.mem_append_right _ hc)),if_neg (fun hb=>hnd.2.2 c hb c hc rfl),if_pos (hpb c hc),if_pos hc]at this
      omega
   . refine ⟨?_,fun s hs=>?_,M.sta.apart,M.sta.most,M.sta.nums,M.sta.once⟩
     . have:=Bn (w:=wC C) (k:=kC C) M.sta.apart (fun c hc=>by
        obtain ⟨s,hs,rfl⟩:=List.mem_map.1 hc
        exact (M.sta.each s hs).1)
       rw [List.length_map]at this
       omega
     . obtain ⟨q1,q2,q3⟩:=M.sta.each s hs
       exact ⟨(Ig hw hk s.1).1 ⟨q1,q2⟩,q3⟩
 . intro M
   have hn:=M.nums
   unfold qe at hn
   simp only [Bool.and_eq_true]at hn
   obtain ⟨hw,hk,hht,s1,s2,s3,s4,s5,s6,hqu,hbu⟩:=hn
   obtain ⟨e1,e2,w1,w2,k1,k2⟩:=ub hw hk
   have hin:∀c∈C.bl++C.po,inW (wC C) (kC C) c=true:=fun c hc=>by
    rw [rg hw hk]
    rcases List.mem_append.1 hc with h|h
    . exact (M.blk c h).1
    . exact (M.prt c h).1
   have hnb:C.bl.Nodup:=List.nodup_iff_count.2 fun c=>by
    by_cases hc:c∈C.bl
    . exact (M.blk c hc).2.1
    . rw [List.count_eq_zero.2 hc];omega
   have hnp:C.po.Nodup:=List.nodup_iff_count.2 fun c=>by
    by_cases hc:c∈C.po
    . exact (M.prt c hc).2.1
    . rw [List.count_eq_zero.2 hc];omega
   have hdis:∀a∈C.bl,∀b∈C.po,a≠b:=fun a ha b hb e=>by
    have:=(M.blk a ha).2.2
    rw [List.count_eq_zero]at this
    exact this (e▸hb)
   have hnd:(C.bl++C.po).Nodup:=List.nodup_append.2 ⟨hnb,hnp,hdis⟩
   have hlaid:Sh C:=⟨hw,hk,M.po8,by
    have:=Bn (w:=wC C) (k:=kC C) hnb (fun c hc=>hin c (List.mem_append_left _ hc))
    rw [e1,e2,<- Int.natCast_mul];omega,hin,hnd⟩
   have hro:∀c∈C.ro.flatMap cj,inB C c=true/\c∉C.bl:=fun c hc=>by
    obtain ⟨p,hp,hcp⟩:=List.mem_flatMap.1 hc
    have hf:=M.fit p hp
    rw [<- Bm hw hk]at hf
    obtain ⟨q1,q2⟩:=qo hf c hcp
    obtain ⟨a1,a2,a3,a4⟩:=jr.1 q1
    refine ⟨by rw [<- rg hw hk];exact q1,fun hb=>q2 ?_⟩
    rw [Nx a1 a3,if_pos hb]
   refine ⟨Yi.2 ⟨s1,s2,s3,s4,s5,s6⟩,hht,hqu,hbu,hlaid,⟨M.ro8,fun x y hx hy hkp=>?_,fun p hp=>by rw [Bm hw hk];exact M.fit p hp,fun c hc=>?_,?_⟩,⟨fun s hs=>?_,M.bins.apart,M.bins.nums,M.bins.once,M.bins.most⟩⟩
   . have hcw:inW (wC C) (kC C) ((x:Int),(y:Int))=true:=jr.2 ⟨by simp,by simpa using hx,by simp,by simpa using hy⟩
     have hcb:=hcw
     rw [rg hw hk]at hcb
     have hkeep:=Qj hw hk hcb
     simp only [Int.toNat_natCast]at hkeep
     rw [hkp]at hkeep
     have h0:=Nx (C:=C) (c:=((x:Int),(y:Int))) (by simp) (by simp)
     unfold fAt at h0
     simp only [Int.toNat_natCast]at h0
     rw [h0]
     by_cases hp:((x:Int),(y:Int))∈C.po
     . have:=(M.prt _ hp).2.2.2
       rw [this]at hkeep
       simp at hkeep
     . rw [if_neg hp]
       split<;>omega
   . obtain ⟨q1,q2⟩:=hro c hc
     rw [f1_at hw hk q1,if_neg q2]
     split
     . have hnp':c∉C.po:=fun hp=>by
        have:=(M.prt c hp).2.2.1
        rw [D8.2 hc]at this
        cases this
       rw [if_neg hnp']
       exact Int.le_refl _
     . omega
   . exact List.nodup_iff_count.2 fun c=>by
      by_cases hc:c∈C.ro.flatMap cj
      . exact M.once c hc
      . rw [List.count_eq_zero.2 hc];omega
   . obtain ⟨q1,q2⟩:=M.bins.each s hs
     obtain ⟨q3,q4⟩:=(Ig hw hk s.1).2 q1
     exact ⟨q3,q4,q2⟩
end
end
section
variable {C:Conf}
theorem Zo (m:dv C) (x y:Nat):f3C C x y = -1↔f0C C x y = -1:=by
 unfold f3C
 refine Zp (fun c hc=>?_) x y
 obtain ⟨p,hp,hcp⟩:=List.mem_flatMap.1 hc
 exact (qo (m.rob.fit p hp) c hcp).2
theorem ar2 (m:dv C) (c:Cell):py (wC C) (kC C) (f3C C) c=ot C c:=by
 rw [<- P5 m.laid.w m.laid.h]
 exact zz (fun x y _ _=>Zo m x y) c
theorem xj (m:dv C) (p:Pose):dx (wC C) (kC C) (f3C C) p=ie C p:=by
 rw [<- Bm m.laid.w m.laid.h]
 exact Al (fun x y _ _=>Zo m x y) p
theorem num_eq (m:dv C) (c:Cell):numI (wC C) (kC C) c=numR C c:=by
 unfold numI numR
 rw [rg m.laid.w m.laid.h,(ub m.laid.w m.laid.h).1]
end
def fq:=jq bC (jq (jq (jq (jq (jq @Bool.and_true @At) (jq @Em @rz)) (jq (jq @As @cf100) (jq @cf22 @cf60))) (jq (jq (jq @cf98 @cf99) (jq @eq30 @Cy)) (jq (jq @Cx @vw) (jq @Fs (jq @Cw @W2))))) (jq (jq (jq (jq @fa48_1p @Qu) (jq @Y9 @W1)) (jq (jq @Y8 @W0) (jq @Ho @ld26))) (jq (jq (jq @Gj @ld28) (jq @vg @ld3)) (jq (jq @ld30 @th) (jq @ld3p (jq @ld4 @ne30p))))))
theorem Dn {G h:Hp} {p:Pose}:bn P_ G 100 #[ld p] h (fun u h'=>∃ip s,u = .slice s 4 4/\Slc du 28 ip u (fj (p.x,p.y))/\Sep [ip,h] h'/\Dis G h'):=by
 refine bn.assume fun d=>aD8 (by simp) ?_
 unfold S100
 simp only [fq]
 intro x hx gx
 generalize e1:Hp.set h x _=h1
 obtain ⟨l1,d1,b1⟩:=boxed e1 hx d gx
 have cx:∀j,bf G h1 ⟨x,j,none⟩=_:=fun j=>bm (bk b1)
 try simp (disch:=first|decide|omega) only [fq,Nat.reduceAdd,Nat.reduceMul,cx]
 intro b hb gb
 refine ⟨noHp.set b _,some ⟨b,0,none⟩,rfl,⟨some b,4,[],rfl,bj,rfl⟩,(Sep.one.new (hb)).swap.cut l1 |>.swap,d1.set gb⟩
def uj (C:Conf) (m:Move) (i:Nat):Bool:=ie C (dm m.f m.d ((i:Int)+1))
def fe (C:Conf) (m:Move):Bool:=ie C m.f&&
 (if m.k=1 then b8 m.n 1 16&&(b8 m.d 0 3&&(decide (m.t=dm m.f m.d m.n)&&(List.range m.n.toNat).all (uj C m)))
  else if m.k=2 then (fj (m.f.x,m.f.y)).all (ot C)&&(decide (m.n=0)&&(decide (m.d=0)&&decide (m.t=zj m.f)))
  else decide (m.k=3\/m.k=4)&&(decide (m.n=0)&&(decide (m.d=0)&&decide (m.t=m.f))))
theorem ne_pose {p q:Pose}:(!((p.x==q.x&&p.y==q.y)&&(p.d==q.d))) = !decide (p=q):=by rw [ru]
theorem Eg {n:Int}:(n==0)=decide (n=0):=by rw [Bool.eq_iff_iff];simp
theorem S9 {G h:Hp} {v:Value} {C:Conf} {m:Move} (hv:CV G h v C) (hL:C.bl.length<=100000000000000):bn P_ G 45 #[v,Gc m] h (fun u h'=>u = .bool (fe C m)/\h'=h):=by
 have hv0:=hv
 obtain ⟨ab,cb,ap,cp,ar,cr,az,cs,rfl,ca⟩:=hv
 refine bn.assume fun d=>quietly (enter45 (by simp) ?_)
 unfold S45
 simp only [fq,Nat.reduceAdd]
 intro x hx gx
 generalize e1:Hp.set h x _=h1
 obtain ⟨l1,d1,b1⟩:=boxed e1 hx d gx
 intro y hy gy
 generalize e2:Hp.set h1 y _=h2
 obtain ⟨l2,d2,b2⟩:=boxed e2 hy d1 gy
 have L:=l1.trans l2
 have bx:=l2 _ _ b1
 have cx:∀j,bf G h2 ⟨x,j,none⟩=_:=fun j=>bm (bk bx)
 have cy:∀j,bf G h2 ⟨y,j,none⟩=_:=fun j=>bm (bk b2)
 have hv2:=hv0.up L d2
 try simp only [fq,cx,cy]
 refine (Cq (p:=m.f) hv2 hL).mono ?_
 rintro _ h2 ⟨rfl,rfl⟩
 have fin:∀b,fe C m=b->(Value.bool b = .bool (fe C m)/\h.le h2):=fun b e=>⟨by rw [e],L⟩
 cases hf:ie C m.f with
 |false=>
  try simp only [fq]
  exact fin _ (by unfold fe;rw [hf];rfl)
 |true=>
 try simp only [fq]
 unfold aL1
 try simp (disch:=decide) only [fq,Nat.reduceAdd,cy]
 by_cases hk1:m.k=1
 . have el:fe C m=(b8 m.n 1 16&&(b8 m.d 0 3&&(decide (m.t=dm m.f m.d m.n)&&(List.range m.n.toNat).all (uj C m)))):=by
    unfold fe
    rw [if_pos hk1,hf,Bool.true_and]
   try simp only [fq,show (m.k==1)=true by simp [hk1]]
   refine ⟨h2,Hp.le.refl _,?_⟩
   try simp only [fq,cy]
   refine (ix (n:=m.n) (a:=1) (b:=16)).mono ?_
   rintro _ h2 ⟨rfl,rfl⟩
   refine ⟨Hp.le.refl _,?_⟩
   cases hn:b8 m.n 1 16 with
   |false=>try simp only [fq];exact fin _ (by rw [el,hn];rfl)
   |true=>
   try simp only [fq,cy]
   refine (ix (n:=m.d) (a:=0) (b:=3)).mono ?_
   rintro _ h2 ⟨rfl,rfl⟩
   refine ⟨Hp.le.refl _,?_⟩
   cases hd:b8 m.d 0 3 with
   |false=>try simp only [fq];exact fin _ (by rw [el,hn,hd];rfl)
   |true=>
   try simp only [fq,Nat.reduceAdd,cy]
   refine (zo (p:=m.f) (dir:=m.d) (n:=m.n)).mono ?_
   rintro _ h2 ⟨rfl,rfl⟩
   refine ⟨Hp.le.refl _,?_⟩
   try simp only [fq,ne_pose]
   cases ht:decide (m.t=dm m.f m.d m.n)with
   |false=>try simp only [fq];exact fin _ (by rw [el,hn,hd,ht];rfl)
   |true=>
   try simp only [fq]
   unfold aL0
   obtain ⟨n1,n16⟩:=ff.1 hn
   refine dp (fun mm r h3=>∃i:Nat,mm=m.n.toNat-i/\i<=m.n.toNat/\r 2 = .pointer (some ⟨x,0,none⟩)/\r 3 = .pointer (some ⟨y,0,none⟩)/\r 5 = .int .i64 ((i:Int)+1)/\h3=h2/\∀j,j<i->uj C m j=true) ?_
    (m:=m.n.toNat) ⟨0,rfl,Nat.zero_le _,by simp (disch:=decide) only [fq],by simp (disch:=decide) only [fq],by simp only [fq]<;>rfl,rfl,by simp⟩
   rintro mm r h3 ⟨i,rfl,hi,g2,g3,g5,rfl,hs⟩ X HX
   unfold aK7
   simp only [fq,g3,g5,cy]
   refine ci (fun hle=>?_) (fun hgt=>?_)
   rotate_left
   . obtain rfl:i=m.n.toNat:=by omega
     try simp (disch:=first|decide|omega) only [fq,Nat.reduceAdd,Nat.reduceMul]
     unfold aK9
     try simp only [fq]
     refine fin _ ?_
     rw [el,hn,hd,ht]
     simp only [Bool.true_and,List.all_eq_true,List.mem_range]
     exact fun j hj=>hs j hj
   unfold O9
   refine ⟨h3,Hp.le.refl _,?_⟩
   try simp (disch:=decide) only [fq,Nat.reduceAdd,g2,g3,g5,cx,cy]
   refine (zo (p:=m.f) (dir:=m.d) (n:=(i:Int)+1)).mono ?_
   rintro _ h3 ⟨rfl,rfl⟩
   refine ⟨Hp.le.refl _,?_⟩
   refine (Cq (p:=dm m.f m.d ((i:Int)+1)) hv2 hL).mono ?_
   rintro _ h3 ⟨rfl,rfl⟩
   cases hb:ie C (dm m.f m.d ((i:Int)+1))with
   |false=>
    try simp only [fq]
    refine fin _ ?_
    rw [el,hn,hd,ht]
    have:(List.range m.n.toNat).all (uj C m)=false:=by
     rw [List.all_eq_false]
     exact ⟨i,List.mem_range.2 (by omega),by unfold uj;rw [hb];simp⟩
    rw [this]
    rfl
   |true=>
    try simp only [fq]
    unfold O8
    try simp (disch:=first|decide|omega) only [fq,g5]
    exact HX (m.n.toNat-(i+1)) _ _ (by omega) ⟨i+1,rfl,by omega,by simp (disch:=decide) only [fq,g2],by simp (disch:=decide) only [fq,g3],by simp only [fq]<;>rfl,rfl,zu hs hb⟩
 have ek1:(m.k==1)=false:=by simp [hk1]
 have el:fe C m=(if m.k=2 then (fj (m.f.x,m.f.y)).all (ot C)&&(decide (m.n=0)&&(decide (m.d=0)&&decide (m.t=zj m.f)))else decide (m.k=3\/m.k=4)&&(decide (m.n=0)&&(decide (m.d=0)&&decide (m.t=m.f)))):=by
  unfold fe
  rw [if_neg hk1,hf,Bool.true_and]
 by_cases hk2:m.k=2
 . rw [if_pos hk2]at el
   try simp only [fq,cy,ek1,show (m.k==2)=true by simp [hk2]]
   refine (Dn (p:=m.f)).mono ?_
   rintro _ h4 ⟨ip,sa,rfl,o,s4,d4⟩
   have hv4:=hv2.up (s4.in 1 rfl) d4
   have cx4:∀j,bf G h4 ⟨x,j,none⟩=_:=fun j=>bm (bk (s4.at 1 rfl bx))
   have cy4:∀j,bf G h4 ⟨y,j,none⟩=_:=fun j=>bm (bk (s4.at 1 rfl b2))
   have fin:∀b,fe C m=b->(Value.bool b = .bool (fe C m)/\h.le h4):=fun b e=>⟨by rw [e],L.trans (s4.in 1 rfl)⟩
   refine dp (fun mm r h3=>∃i:Nat,mm=4-i/\i<=4/\r 2 = .pointer (some ⟨x,0,none⟩)/\r 3 = .pointer (some ⟨y,0,none⟩)/\r 6 = .slice sa 4 4/\r 7 = .int .i64 i/\h3=h4/\((fj (m.f.x,m.f.y)).take i).all (ot C)=true) ?_
    (m:=4) ⟨0,rfl,Nat.zero_le _,by simp (disch:=decide) only [fq],by simp (disch:=decide) only [fq],by simp (disch:=decide) only [fq],by simp only [fq]<;>rfl,rfl,by simp⟩
   rintro mm r h3 ⟨i,rfl,hi,g2,g3,g6,g7,rfl,hs⟩ X HX
   unfold aK6
   simp only [fq,g7]
   refine ci (fun hlt=>?_) (fun hge=>?_)
   rotate_left
   . obtain rfl:i=4:=by omega
     rw [List.take_of_length_le (show (fj (m.f.x,m.f.y)).length<=4 from Nat.le_refl 4)]at hs
     rw [hs,Bool.true_and]at el
     try simp (disch:=first|decide|omega) only [fq,Nat.reduceAdd,Nat.reduceMul]
     unfold aK8
     try simp (disch:=decide) only [fq,g3,cy4,Eg]
     cases hn:decide (m.n=0)with
     |false=>try simp only [fq];exact fin _ (by rw [el,hn];rfl)
     |true=>
     try simp only [fq,g3,cy4,Eg]
     cases hd:decide (m.d=0)with
     |false=>try simp only [fq];exact fin _ (by rw [el,hn,hd];rfl)
     |true=>
     try simp only [fq,Nat.reduceAdd,g3,cy4]
     refine fin _ ?_
     rw [el,hn,hd,<- ru]
     rfl
   have hlt':i<4:=by omega
   obtain ⟨c,hc⟩:∃c,(fj (m.f.x,m.f.y))[i]?=some c:=⟨_,List.getElem?_eq_getElem (by simpa [fj]using hlt')⟩
   obtain ⟨b,ofs,rfl,z0,z1⟩:=Sees.cell (L:=fj (m.f.x,m.f.y)) (G:=G) (o.sees (by decide) (s4.in 0 rfl)) hc
   unfold Kf
   try simp (disch:=decide) only [fq,g2,g6,g7,cx4,sk (Int.natCast_nonneg i) (show (i:Int)<(4:Nat)by omega),z0,z1]
   refine (rt (c:=c) hv4 hL).mono ?_
   rintro _ h3 ⟨rfl,rfl⟩
   have hcm:c∈fj (m.f.x,m.f.y):=List.mem_of_getElem? hc
   cases hb:ot C c with
   |false=>
    try simp only [fq]
    refine fin _ ?_
    have:(fj (m.f.x,m.f.y)).all (ot C)=false:=by
     rw [List.all_eq_false]
     exact ⟨c,hcm,by simp [hb]⟩
    rw [el,this]
    rfl
   |true=>
    try simp only [fq]
    unfold Ke
    try simp (disch:=first|decide|omega) only [fq,g7]
    refine HX (4-(i+1)) _ _ (by omega) ⟨i+1,rfl,hlt',by simp (disch:=decide) only [fq,g2],by simp (disch:=decide) only [fq,g3],by simp (disch:=decide) only [fq,g6],by simp only [fq]<;>rfl,rfl,?_⟩
    rw [List.take_add_one,hc]
    simp [hs,hb]
 have ek2:(m.k==2)=false:=by simp [hk2]
 rw [if_neg hk2]at el
 by_cases hk34:m.k=3\/m.k=4
 rotate_left
 . try simp only [fq,cy,ek1,ek2,show (m.k==3)=false by simp;omega,show (m.k==4)=false by simp;omega]
   unfold Ey
   try simp (disch:=decide) only [fq]
   unfold Rn
   try simp only [fq]
   exact fin _ (by rw [el,decide_eq_false hk34];rfl)
 rw [decide_eq_true hk34,Bool.true_and]at el
 have k12:∀r:Rg,r 3 = .pointer (some ⟨y,0,none⟩)->r 91 = .bool true->Ey G (retK P_ G [.tmp 4] fun u h'=>u = .bool (fe C m)/\h.le h') r h2:=by
  intro r g3 g91
  unfold Ey
  simp only [fq,g91,g3,cy,Eg]
  cases hn:decide (m.n=0)with
  |false=>try simp only [fq];exact fin _ (by rw [el,hn];rfl)
  |true=>
  try simp only [fq,g3,cy,Eg]
  cases hd:decide (m.d=0)with
  |false=>try simp only [fq];exact fin _ (by rw [el,hn,hd];rfl)
  |true=>
  try simp only [fq,Nat.reduceAdd,g3,cy]
  refine fin _ ?_
  rw [el,hn,hd,<- ru]
  rfl
 rcases hk34 with h3|h4
 . try simp only [fq,cy,ek1,ek2,show (m.k==3)=true by simp [h3]]
   exact k12 _ (by simp (disch:=decide) only [fq]) (by simp only [fq])
 . try simp only [fq,cy,ek1,ek2,show (m.k==3)=false by simp [h4],show (m.k==4)=true by simp [h4]]
   exact k12 _ (by simp (disch:=decide) only [fq]) (by simp only [fq])
section
variable {C:Conf}
theorem Sy {p:Pose} (hp:PB p) {d:Int}:ir p d 0=p:=by
 obtain ⟨h1,h2⟩:=hp
 unfold ir
 rw [Int.zero_mul,Int.zero_mul,Int.add_zero,Int.add_zero,Ml h1,Ml h2]
theorem Ka {s:Nat->Bool} {n:Nat}:(List.range (n+1)).all s=(s 0&&(List.range n).all fun i=>s (i+1)):=by
 rw [List.range_succ_eq_map,List.all_cons,List.all_map]
 rfl
theorem Tw (m:dv C) {v:Move} (hp:PB v.f):wayB (wC C) (kC C) (f3C C) v=fe C v:=by
 have ho:=ar2 m
 have hf:=xj m
 unfold wayB fe
 rw [hf]
 cases hfp:ie C v.f with
 |false=>rfl
 |true=>
 rw [Bool.true_and,Bool.true_and]
 by_cases hk1:v.k=1
 . rw [if_pos hk1,if_pos hk1,Ka]
   have e0:rp (wC C) (kC C) (f3C C) v 0=b8 v.d 0 3:=by
    unfold rp okS
    rw [hf,show ((0:Nat):Int)=0 from rfl,Sy hp,hfp,show b8 0 0 16=true from rfl]
    simp
   rw [e0]
   cases hd:b8 v.d 0 3 with
   |false=>simp
   |true=>
   have hd2:=ff.1 hd
   by_cases hn:1<=v.n
   . by_cases hn2:v.n<=16
     . rw [decide_eq_true hn,show b8 v.n 1 16=true from ff.2 ⟨hn,hn2⟩,wd hp hd2]
       have:((List.range v.n.toNat).all fun i=>rp (wC C) (kC C) (f3C C) v (i+1))=(List.range v.n.toNat).all (uj C v):=by
        rw [Bool.eq_iff_iff,List.all_eq_true,List.all_eq_true]
        have e:∀i∈List.range v.n.toNat,rp (wC C) (kC C) (f3C C) v (i+1)=uj C v i:=by
         intro i hi
         have hi:=List.mem_range.1 hi
         unfold rp uj okS
         rw [hd,show b8 ((i+1:Nat):Int) 0 16=true from ff.2 (by omega),hf,wd hp hd2]
         rfl
        exact ⟨fun h i hi=>by rw [<- e i hi];exact h i hi,fun h i hi=>by rw [e i hi];exact h i hi⟩
       rw [this]
       simp only [Bool.true_and]
       rw [Bool.and_comm]
     . have h1:((List.range v.n.toNat).all fun i=>rp (wC C) (kC C) (f3C C) v (i+1))=false:=by
        rw [List.all_eq_false]
        refine ⟨16,List.mem_range.2 (by omega),?_⟩
        unfold rp okS
        rw [show b8 ((16+1:Nat):Int) 0 16=false from rfl]
        simp
       have h2:b8 v.n 1 16=false:=by
        cases h:b8 v.n 1 16 with
        |false=>rfl
        |true=>exact absurd (ff.1 h).2 hn2
       rw [h1,h2]
       simp
   . have h2:b8 v.n 1 16=false:=by
      cases h:b8 v.n 1 16 with
      |false=>rfl
      |true=>exact absurd (ff.1 h).1 hn
     rw [decide_eq_false hn,h2]
     simp
 . rw [if_neg hk1,if_neg hk1]
   have e1:decide (v.d=0/\v.n=0)=(decide (v.n=0)&&decide (v.d=0)):=by
    rw [Bool.eq_iff_iff];simp [and_comm]
   rw [e1]
   by_cases hk2:v.k=2
   . rw [if_pos hk2,if_pos hk2]
     have e2:(fj (v.f.x,v.f.y)).all (py (wC C) (kC C) (f3C C))=(fj (v.f.x,v.f.y)).all (ot C):=by
      congr 1
      funext c
      exact ho c
     rw [e2]
     cases decide (v.n=0)<;>cases decide (v.d=0)<;>simp
   . rw [if_neg hk2,if_neg hk2]
     cases decide (v.n=0)<;>cases decide (v.d=0)<;>simp
def mkR (p:Pose) (d n:Nat):Move:=⟨1,d,n,p,dm p d n,0,0⟩
def rrunD (C:Conf) (p:Pose) (d:Nat):List Move:=mi (fun n=>fe C (mkR p d n)) (mkR p d) 1 16
def Dr (C:Conf) (p:Pose):List Move:=if ie C p=true then mc (rrunD C p) 0 4++(if fe C (og p)=true then [og p]else [])else []
theorem Gs {α:Type} {D E:Nat->List α}:∀{k i:Nat},(∀j,i<=j->j<i+k->D j=E j)->mc D i k=mc E i k
 |0,i,_=>rfl
 |k+1,i,h=>by
  unfold mc
  rw [h i (Nat.le_refl _) (by omega),Gs fun j h1 h2=>h j (by omega) (by omega)]
theorem ap5 (m:dv C) {p:Pose} (hp:PB p) (hf:ie C p=true) {d:Nat} (hd:d<4):∀(k n:Nat),1<=n->n+k<=17->(∀j,1<=j->j<n->ie C (dm p d j)=true)->
 mi (Dz (wC C) (kC C) (f3C C) p d) (wu p d) n k=mi (fun n=>fe C (mkR p d n)) (mkR p d) n k
 |0,n,_,_,_=>rfl
 |k+1,n,h1,h2,h3=>by
  have hd2:(0:Int)<=(d:Int)/\(d:Int)<=3:=by omega
  have e1:Dz (wC C) (kC C) (f3C C) p d n=ie C (dm p d n):=by
   unfold Dz
   rw [xj m,wd hp hd2]
  have e2:wu p d n=mkR p d n:=by
   unfold wu mkR
   rw [wd hp hd2]
  have e3:fe C (mkR p d n)=ie C (dm p d n):=by
   unfold fe
   rw [show (mkR p d n).f=p from rfl,hf,Bool.true_and,if_pos (show (mkR p d n).k=1 from rfl),show b8 (mkR p d n).n 1 16=true from ff.2 (show (1:Int)<=(n:Int)/\(n:Int)<=16 by omega),show b8 (mkR p d n).d 0 3=true from ff.2 hd2,show decide ((mkR p d n).t=dm p (mkR p d n).d (mkR p d n).n)=true from decide_eq_true rfl,show (mkR p d n).n.toNat=(n-1)+1 from (by show (n:Int).toNat=_;omega),List.range_succ,List.all_append]
   have e4:(List.range (n-1)).all (uj C (mkR p d n))=true:=by
    rw [List.all_eq_true]
    intro i hi
    have hi:=List.mem_range.1 hi
    exact h3 (i+1) (by omega) (by omega)
   rw [e4]
   show (true&&(true&&(true&&(true&&(ie C (dm p d (((n-1:Nat):Int)+1))&&true)))))=_
   rw [show ((n-1:Nat):Int)+1=(n:Int)by omega]
   simp
  unfold mi
  rw [e1,e2,e3]
  cases hb:ie C (dm p d n)with
  |false=>rfl
  |true=>
   rw [if_pos rfl,if_pos rfl,ap5 m hp hf hd k (n+1) (by omega) (by omega) fun j a b=>by
    by_cases hj:j<n
    . exact h3 j a hj
    . obtain rfl:j=n:=by omega
      exact hb]
theorem as0 (m:dv C) {p:Pose} (hp:PB p):my (wC C) (kC C) (f3C C) p=Dr C p:=by
 unfold my Dr
 rw [xj m,Tw m (v:=og p) hp]
 cases hf:ie C p with
 |false=>rfl
 |true=>
  rw [if_pos rfl,if_pos rfl]
  congr 1
  unfold Gb
  exact Gs fun j _ hj=>ap5 m hp hf (by omega) 16 1 (Nat.le_refl _) (by decide) fun j a b=>absurd b (by omega)
theorem Bc {α:Type} {p:Nat->Bool} {mk:Nat->α} {n k:Nat}:i9 p mk n (k+1)=if p n=true then mk n::i9 p mk (n+1) k else i9 p mk (n+1) k:=rfl
end
def fk:List Cell->List Cell
 |[]=>[]
 |a::L=>match L with
  |[]=>[a]
  |b::_=>if a=b then fk L else a::fk L
theorem pt {a b:Cell} {L:List Cell}:fk (a::b::L)=if a=b then fk (b::L)else a::fk (b::L):=rfl
theorem Gu {x:Cell}:∀{L:List Cell},x∈fk L↔x∈L:=by
 intro L
 induction L with
 |nil=>exact Iff.rfl
 |cons a L ih=>
  cases L with
  |nil=>exact Iff.rfl
  |cons b L=>
   rw [pt]
   by_cases h:a=b
   . rw [if_pos h,ih]
     subst h
     simp
   . rw [if_neg h,List.mem_cons,ih,List.mem_cons (a:=x) (b:=a)]
theorem Jy {n:Cell->Int} (inj:∀{L:List Cell},True):∀{L:List Cell},(∀a∈L,∀b∈L,n a=n b->a=b)->L.Pairwise (fun a b=>n a<=n b)->(fk L).Pairwise (fun a b=>n a<n b):=by
 intro L
 induction L with
 |nil=>intro _ _;exact .nil
 |cons a L ih=>
  intro hi hp
  obtain ⟨h1,h2⟩:=List.pairwise_cons.1 hp
  cases L with
  |nil=>exact List.pairwise_singleton _ _
  |cons b L=>
   have rest:=ih (fun x hx y hy=>hi x (.tail _ hx) y (.tail _ hy)) h2
   rw [pt]
   by_cases h:a=b
   . rw [if_pos h];exact rest
   . rw [if_neg h]
     refine List.pairwise_cons.2 ⟨fun x hx=>?_,rest⟩
     rw [Gu]at hx
     have hab:n a<n b:=by
      have:=h1 b (.head _)
      have:n a≠n b:=fun e=>h (hi a (.head _) b (.tail _ (.head _)) e)
      omega
     rcases List.mem_cons.1 hx with rfl|hx'
     . exact hab
     . have:=(List.pairwise_cons.1 h2).1 x hx';omega
theorem Ir {n:Cell->Int}:∀{L M:List Cell},L.Pairwise (fun a b=>n a<n b)->M.Pairwise (fun a b=>n a<n b)->(∀x,x∈L↔x∈M)->L=M:=by
 intro L
 induction L with
 |nil=>
  intro M _ _ h
  cases M with
  |nil=>rfl
  |cons a M=>exact absurd ((h a).2 (.head _)) (by simp)
 |cons a L ih=>
  intro M hL hM h
  cases M with
  |nil=>exact absurd ((h a).1 (.head _)) (by simp)
  |cons b M=>
   obtain ⟨l1,l2⟩:=List.pairwise_cons.1 hL
   obtain ⟨m1,m2⟩:=List.pairwise_cons.1 hM
   have e:a=b:=by
    rcases List.mem_cons.1 ((h a).1 (.head _))with e|e
    . exact e
    . rcases List.mem_cons.1 ((h b).2 (.head _))with e'|e'
      . exact e'.symm
      . have:=m1 a e;have:=l1 b e';omega
   subst e
   rw [ih l2 m2 fun x=>?_]
   constructor
   . intro hx
     rcases List.mem_cons.1 ((h x).1 (.tail _ hx))with rfl|h2
     . have:=l1 _ hx;omega
     . exact h2
   . intro hx
     rcases List.mem_cons.1 ((h x).2 (.tail _ hx))with rfl|h2
     . have:=m1 _ hx;omega
     . exact h2
def lm (w k:Nat) (W:List Cell):List Cell:=mc (fun y=>i9 (fun x=>decide ((((x:Nat):Int),((y:Nat):Int))∈W)) (fun x=>(((x:Nat):Int),((y:Nat):Int))) 0 w) 0 k
def numW (w:Nat) (c:Cell):Int:=c.2*w+c.1
theorem Dx {α:Type} {p:Nat->Bool} {mk:Nat->α} {x:α}:∀{k n:Nat},x∈i9 p mk n k↔∃j,n<=j/\j<n+k/\p j=true/\x=mk j:=by
 intro k
 induction k with
 |zero=>intro n;simp [i9];intro j h1 h2;omega
 |succ k ih=>
  intro n
  rw [Bc]
  constructor
  . intro h
    split at h
    . rename_i hp
      rcases List.mem_cons.1 h with rfl|h'
      . exact ⟨n,Nat.le_refl _,by omega,hp,rfl⟩
      . obtain ⟨j,a,b,c,e⟩:=ih.1 h'
        exact ⟨j,by omega,by omega,c,e⟩
    . obtain ⟨j,a,b,c,e⟩:=ih.1 h
      exact ⟨j,by omega,by omega,c,e⟩
  . rintro ⟨j,a,b,c,rfl⟩
    by_cases hj:j=n
    . subst hj
      rw [if_pos c]
      exact .head _
    . have:=(ih (n:=n+1)).2 ⟨j,by omega,by omega,c,rfl⟩
      split
      . exact .tail _ this
      . exact this
theorem pick_pw {α:Type} {p:Nat->Bool} {mk:Nat->α} {R:α->α->Prop} (h:∀i j,i<j->R (mk i) (mk j)):∀{k n:Nat},(i9 p mk n k).Pairwise R:=by
 intro k
 induction k with
 |zero=>intro n;exact .nil
 |succ k ih=>
  intro n
  rw [Bc]
  split
  . refine List.pairwise_cons.2 ⟨fun x hx=>?_,ih⟩
    obtain ⟨j,a,_,_,rfl⟩:=Dx.1 hx
    exact h n j (by omega)
  . exact ih
theorem pl {w k:Nat} {W:List Cell} {x:Cell}:x∈lm w k W↔(0<=x.1/\x.1<w/\0<=x.2/\x.2<k)/\x∈W:=by
 unfold lm
 suffices H:∀(n i:Nat),x∈mc (fun y=>i9 (fun x=>decide ((((x:Nat):Int),((y:Nat):Int))∈W)) (fun x=>(((x:Nat):Int),((y:Nat):Int))) 0 w) i n↔∃y,i<=y/\y<i+n/\x∈i9 (fun x=>decide ((((x:Nat):Int),((y:Nat):Int))∈W)) (fun x=>(((x:Nat):Int),((y:Nat):Int))) 0 w by
  rw [H]
  constructor
  . rintro ⟨y,_,h2,h3⟩
    obtain ⟨j,_,j2,j3,rfl⟩:=Dx.1 h3
    exact ⟨⟨by simp,by simp;omega,by simp,by simp;omega⟩,by simpa using j3⟩
  . rintro ⟨⟨a,b,c,d⟩,h⟩
    obtain ⟨x1,x2⟩:=x
    refine ⟨x2.toNat,by omega,by simp at d c;omega,Dx.2 ⟨x1.toNat,by omega,by simp at a b;omega,?_,?_⟩⟩
    . simp only at a c
      rw [show ((x1.toNat:Nat):Int)=x1 by omega,show ((x2.toNat:Nat):Int)=x2 by omega]
      simpa using h
    . simp only at a c
      rw [show ((x1.toNat:Nat):Int)=x1 by omega,show ((x2.toNat:Nat):Int)=x2 by omega]
 intro n
 induction n with
 |zero=>intro i;simp [mc];intro y h1 h2;omega
 |succ n ih=>
  intro i
  rw [mc,List.mem_append,ih]
  constructor
  . rintro (h|⟨y,a,b,c⟩)
    . exact ⟨i,Nat.le_refl _,by omega,h⟩
    . exact ⟨y,by omega,by omega,c⟩
  . rintro ⟨y,a,b,c⟩
    by_cases e:y=i
    . subst e;exact .inl c
    . exact .inr ⟨y,by omega,by omega,c⟩
theorem tl {w k:Nat} {W:List Cell}:(lm w k W).Pairwise (fun a b=>numW w a<numW w b):=by
 unfold lm
 suffices H:∀(n i:Nat),(mc (fun y=>i9 (fun x=>decide ((((x:Nat):Int),((y:Nat):Int))∈W)) (fun x=>(((x:Nat):Int),((y:Nat):Int))) 0 w) i n).Pairwise (fun a b=>numW w a<numW w b)/\
  ∀x∈mc (fun y=>i9 (fun x=>decide ((((x:Nat):Int),((y:Nat):Int))∈W)) (fun x=>(((x:Nat):Int),((y:Nat):Int))) 0 w) i n,((i*w:Nat):Int)<=numW w x from (H k 0).1
 intro n
 induction n with
 |zero=>intro i;exact ⟨.nil,fun _ h=>by cases h⟩
 |succ n ih=>
  intro i
  rw [mc]
  obtain ⟨h1,h2⟩:=ih (i+1)
  have hrow:∀x∈i9 (fun x=>decide ((((x:Nat):Int),((i:Nat):Int))∈W)) (fun x=>(((x:Nat):Int),((i:Nat):Int))) 0 w,((i*w:Nat):Int)<=numW w x/\numW w x<(((i+1)*w:Nat):Int):=by
   intro x hx
   obtain ⟨j,_,j2,_,rfl⟩:=Dx.1 hx
   unfold numW
   simp only
   have e1:(((i+1)*w:Nat):Int)=((i*w:Nat):Int)+(w:Int):=by rw [Nat.succ_mul];push_cast;rfl
   have e2:((i:Nat):Int)*(w:Int)=((i*w:Nat):Int):=by push_cast;rfl
   rw [e1,e2]
   omega
  refine ⟨List.pairwise_append.2 ⟨pick_pw fun a b hab=>?_,h1,fun a ha b hb=>?_⟩,fun x hx=>?_⟩
  . unfold numW
    simp only
    omega
  . have:=(hrow a ha).2
    have:=h2 b hb
    omega
  . rcases List.mem_append.1 hx with h|h
    . exact (hrow x h).1
    . have:=h2 x h
      have e1:(((i+1)*w:Nat):Int)=((i*w:Nat):Int)+(w:Int):=by rw [Nat.succ_mul];push_cast;rfl
      omega
theorem Mj {w k:Nat} {W S:List Cell} (hw:0<w) (hin:∀c∈W,0<=c.1/\c.1<w/\0<=c.2/\c.2<k) (hp:S.Perm W) (hs:S.Pairwise fun a b=>numW w a<=numW w b):fk S=lm w k W:=by
 refine Ir (n:=numW w) (Jy (fun {_}=>trivial) (fun a ha b hb e=>?_) hs) tl fun x=>?_
 . obtain ⟨a1,a2,a3,a4⟩:=hin a (hp.mem_iff.1 ha)
   obtain ⟨b1,b2,b3,b4⟩:=hin b (hp.mem_iff.1 hb)
   obtain ⟨x,y⟩:=a
   obtain ⟨x',y'⟩:=b
   unfold numW at e
   simp only at*
   have ey:y=y':=by
    rcases Int.lt_trichotomy y y' with h|h|h
    . have:(y+1)*(w:Int)<=y'*w:=Int.mul_le_mul_of_nonneg_right (by omega) (by omega)
      rw [Int.add_mul,Int.one_mul]at this
      omega
    . exact h
    . have:(y'+1)*(w:Int)<=y*w:=Int.mul_le_mul_of_nonneg_right (by omega) (by omega)
      rw [Int.add_mul,Int.one_mul]at this
      omega
   subst ey
   rw [show x=x' by omega]
 . rw [Gu,pl,hp.mem_iff]
   exact ⟨fun h=>⟨hin x h,h⟩,fun h=>h.2⟩
def jv:=jq bC (jq (jq @Bool.and_true (jq @Zs @ix22)) (jq (jq @ld28 @vg) (jq @ln22 @ne28p)))
theorem am6 {P:Program} {G h:Hp} {α:Type} (c:Cod α) (d0:α) {T e:TypeId} (hu:P.underlying T=some (.slice e)) (hn:0<c.n) (hz:((P.info? e).bind (·.zero)).map (·.cells.toList)=some (c.enc d0)) {ty:TypeId} {b off n cap:Nat} {l:List Value} {e':TypeId}
 (hb:h b=some (.cells l.toArray e' (0,0))) (h0:0<n) (hfit:off+n*c.n<=l.length) {K:VK}
 (H:∀l':List Value,l'.length=l.length->l'.take off=l.take off->K (.tuple #[]) (h.set b (.cells l'.toArray e' (0,0)))):
 wpH P G (Builtin.clear_ #[T] ty #[.slice (some ⟨b,off,none⟩) n cap]) h K:=by
 cases hi:P.info? e with
 |none=>rw [hi]at hz;cases hz
 |some inf=>
 rw [hi]at hz
 simp only [Option.bind_some]at hz
 cases hzz:inf.zero with
 |none=>rw [hzz]at hz;cases hz
 |some z=>
 rw [hzz]at hz
 simp only [Option.map_some,Option.some.injEq]at hz
 obtain ⟨n',rfl⟩:∃n',n=n'+1:=⟨n-1,by omega⟩
 have hrow:=zp c d0 (n'+1) z.cells hz.symm hn
 have hsz:z.cells.size=c.n:=by rw [<- Array.length_toList,hz,c.len]
 have hcells:(Builtin.zeroCells z.cells (n'+1)).toList=c.rows (List.replicate (n'+1) d0):=by
  refine Eq.trans ?_ ((congrArg Array.toList hrow).trans (by simp))
  rw [<- hsz]
  rfl
 have key:wpH P G (storeCells ⟨b,off,none⟩ (c.rows (List.replicate (n'+1) d0))) h (fun _ h'=>K (.tuple #[]) h'):=by
  rw [mu _ (k:=0) hb (by rw [c.rows_length,List.length_replicate];omega) (c.rows_one _)]
  exact H _ (zv _ _ _) (by
   rw [tq _ _ _ (by rw [c.rows_length,List.length_replicate];omega),List.append_assoc,List.take_append_of_le_length (by rw [List.length_take];omega),Nat.add_zero,List.take_take,Nat.min_self])
 unfold Builtin.clear_ underlying
 simp only [List.getElem?_toArray,List.getElem?_cons_zero,bind,di,program,wpH,hu,pure]
 simp only [zeroValue,typeInfo,program,bind,di,wpH,hi,hzz,pure]
 rw [hcells]
 exact key
theorem N2 {y x:Cell}:∀{T:List Cell},fk (T++[y,x])=if y=x then fk (T++[y])else fk (T++[y])++[x]
 |[]=>by
  show fk (y::[x])=if y=x then fk [y]else fk [y]++[x]
  rw [pt]
  by_cases h:y=x<;>simp [h,fk]
 |[a]=>by
  show fk (a::y::[x])=if y=x then fk (a::y::[])else fk (a::y::[])++[x]
  simp only [pt]
  by_cases h1:a=y<;>by_cases h2:y=x<;>simp [h1,h2,fk]
 |a::b::T=>by
  show fk (a::b::(T++[y,x]))=if y=x then fk (a::b::(T++[y]))else fk (a::b::(T++[y]))++[x]
  rw [pt,pt]
  have ih:=N2 (y:=y) (x:=x) (T:=b::T)
  simp only [List.cons_append]at ih
  rw [ih]
  by_cases h1:a=b<;>by_cases h2:y=x<;>simp [h1,h2]
theorem Bs {L:List Cell} {k:Nat} {y x:Cell} (hk:1<=k) (hy:L[k-1]?=some y) (hx:L[k]?=some x):fk (L.take (k+1))=if y=x then fk (L.take k)else fk (L.take k)++[x]:=by
 obtain ⟨j,rfl⟩:∃j,k=j+1:=⟨k-1,by omega⟩
 rw [Nat.add_sub_cancel]at hy
 rw [List.take_add_one,List.take_add_one,hx,hy]
 simp only [Option.toList,List.append_assoc,List.cons_append,List.nil_append]
 exact N2
theorem Jz {L:List Cell} (h:L.length<2):fk L=L:=by
 match L,h with
 |[],_=>rfl
 |[a],_=>rfl
theorem st_elem {G h:Hp} {b i:Nat} {M:List Cell} {t:List Value} {x:Cell} {K:Unit->Hp->Prop} (hb:h b=some (.cells (du.rows M++t).toArray 28 (0,0))) (hi:i<M.length):
 wpH P_ G (Instr.storeAt 28 (.pointer (some ⟨b,i*2,none⟩)) (.agg #[x.1,x.2])) h K=K () (h.set b (.cells (du.rows (M.set i x)++t).toArray 28 (0,0))):=by
 rw [uf (n:=2) sz28 hb rfl (by rw [List.length_append,du.rows_length,show du.n=2 from rfl];omega) (by intro v hv;simp [Value.cells]at hv;rcases hv with rfl|rfl<;>rfl)]
 have:=du.rows_put (t:=t) (x:=x) hi
 rw [<- this]
 rfl
theorem S5 {G h:Hp} {b:Nat} {M:List Cell} {t:List Value} (hb:HL.look G h b=some (.cells (du.rows M++t).toArray 28 (0,0))) {i:Nat} {x:Cell} (hx:M[i]?=some x):bf G h ⟨b,i*2,none⟩=some (.int .i64 x.1)/\bf G h ⟨b,i*2+1,none⟩=some (.int .i64 x.2):=by
 have g0:=du.rows_get (t:=t) hx (j:=0) (by decide)
 have g1:=du.rows_get (t:=t) hx (j:=1) (by decide)
 rw [show du.n=2 from rfl]at g0 g1
 exact ⟨(bm hb).trans g0,(bm hb).trans g1⟩
theorem Q5 {G h a:Hp} {R:List Hp} {v:Value} {L:List Cell} (s:HL.Sep (a::R) h) (o:Slc du 28 a v L) (hL:L.length<=100000):bn P_ G 136 #[v] h (fun u h'=>∃a',Slc du 28 a' u (fk L)/\HL.Sep (a'::R) h'/\Dis G h'):=by
 refine bn.assume fun d=>aB1 (by simp) ?_
 unfold S136
 obtain ⟨sa,cap,rfl,hcap⟩:=o.len (by decide)
 simp only [jv]
 refine ci (fun hlt=>?_) (fun hge=>?_)
 . try simp (disch:=first|decide|omega) only [jv,Nat.reduceAdd,Nat.reduceMul]
   exact ⟨a,by rw [Jz (by omega)];exact o,s,d⟩
 unfold ac2
 obtain ⟨ob,o'⟩:=id o
 cases ob with
 |none=>exact absurd o'.2 (fun e=>by rw [e]at hge;simp at hge)
 |some b=>
 obtain ⟨cap',t,e9,hb,hbl⟩:=o'
 simp only [Value.slice.injEq,true_and]at e9
 obtain ⟨rfl,rfl⟩:=e9
 have hbh:=s.at 0 rfl hb
 have rd:=fun {i:Nat} {x:Cell} (hx:L[i]?=some x)=>S5 (G:=G) (bk hbh) hx
 try simp (disch:=first|decide|omega) only [jv,Nat.reduceAdd,Nat.reduceMul]
 generalize hKK:retK P_ G _ _=KK
 refine dp (fun m q h3=>∃k:Nat,m=L.length-k/\1<=k/\k<=L.length/\q 0 = .slice (some ⟨b,0,none⟩) L.length cap/\q 3 = .int .i64 k/\h3=h/\fk (L.take k)=L.take k) ?_
  (m:=L.length-1) ⟨1,rfl,Nat.le_refl _,by omega,by simp (disch:=decide) only [jv],by simp only [jv]<;>rfl,rfl,Jz (by rw [List.length_take];omega)⟩
 rintro m q h3 ⟨k,rfl,h1,hk,q0,q3,rfl,hc⟩ X HX
 unfold ac0
 simp only [jv,q0,q3]
 refine ci (fun hlt=>?_) (fun hge2=>?_)
 rotate_left
 . obtain rfl:k=L.length:=by omega
   rw [List.take_of_length_le (Nat.le_refl _)]at hc
   try simp (disch:=first|decide|omega) only [jv,Nat.reduceAdd,Nat.reduceMul]
   unfold ac1
   rw [<- hKK]
   try simp (disch:=decide) only [jv,q0]
   exact ⟨a,by rw [hc];exact o,s,d⟩
 obtain ⟨x,hx⟩:∃x,L[k]?=some x:=⟨_,List.getElem?_eq_getElem (by omega)⟩
 obtain ⟨y,hy⟩:∃y,L[k-1]?=some y:=⟨_,List.getElem?_eq_getElem (by omega)⟩
 obtain ⟨x0,x1⟩:=rd hx
 obtain ⟨y0,y1⟩:=rd hy
 have ek:(k:Int)-1=((k-1:Nat):Int):=by omega
 unfold K5
 try simp (disch:=first|decide|omega) only [jv,q0,q3,ek,sk (Int.natCast_nonneg k) hlt,sk (Int.natCast_nonneg (k-1)) (show ((k-1:Nat):Int)<(L.length:Nat)by omega),Int.toNat_natCast,x0,x1,y0,y1,Ar]
 refine qw (fun hb2=>?_) (fun hb2=>?_)
 rotate_left
 . unfold Db
   try simp (disch:=first|decide|omega) only [jv,q3]
   refine HX (L.length-(k+1)) _ _ (by omega) ⟨k+1,rfl,by omega,by omega,by simp (disch:=decide) only [jv,q0],by simp only [jv]<;>rfl,rfl,?_⟩
   rw [Bs h1 hy hx,if_neg (fun e=>by rw [e,beq_self_eq_true]at hb2;cases hb2),hc,List.take_add_one,hx]
   rfl
 have exy:y=x:=(eq_of_beq hb2).symm
 try simp (disch:=first|decide|omega) only [jv,Nat.reduceAdd,Nat.reduceMul,q0,q3]
 rw [o0 un22 sz28 (by omega) (by omega) hcap]
 rw [Int.toNat_natCast,if_neg (show ¬cap=k by omega),od,Nat.zero_add]
 have hmax:(du.rows L++t).length=cap*2:=hbl
 try simp (disch:=first|decide|omega) only [jv,Nat.reduceAdd,Nat.reduceMul]
 refine dp (fun m q h4=>∃(w j:Nat) (M:List Cell) (a:Hp),m=L.length-j/\k<=w/\w<j/\k+1<=j/\j<=L.length/\M.length=L.length/\q 0 = .slice (some ⟨b,0,none⟩) L.length cap/\q 3 = .int .i64 w/\q 4 = .slice (some ⟨b,k*2,none⟩) (L.length-k) (cap-k)/\q 5 = .int .i64 (((j-k:Nat):Nat):Int)/\
  a b=some (.cells (du.rows M++t).toArray 28 (0,0))/\HL.Sep (a::R) h4/\Dis G h4/\M.take w=fk (L.take j)/\∀p,j-1<=p->M[p]?=L[p]?) ?_
  (m:=L.length-(k+1)) ⟨k,k+1,L,a,rfl,Nat.le_refl _,by omega,Nat.le_refl _,by omega,rfl,by simp (disch:=decide) only [jv,q0],by simp (disch:=decide) only [jv,q3],by simp (disch:=decide) only [jv],by simp only [jv]<;>(rw [show k+1-k=1 by omega];rfl),hb,s,d,by rw [Bs h1 hy hx,if_pos exy,hc],fun p _=>rfl⟩
 clear HX q0 q3 x0 x1 y0 y1 hc hx hy exy hb2 ek rd hbh hb o s d
 rintro m q h4 ⟨w,j,M,a,rfl,hkw,hwj,hkj,hj,hM,q0,q3,q4,q5,hb,s,d,htk,hsame⟩ X HX
 have hbh:=s.at 0 rfl hb
 have rd:=fun {i:Nat} {x:Cell} (hx:M[i]?=some x)=>S5 (G:=G) (bk hbh) hx
 unfold K3
 simp only [jv,q4,q5]
 refine ci (fun hlt2=>?_) (fun hge3=>?_)
 . obtain ⟨x,hx⟩:∃x,L[j]?=some x:=⟨_,List.getElem?_eq_getElem (by omega)⟩
   obtain ⟨y,hy⟩:∃y,L[j-1]?=some y:=⟨_,List.getElem?_eq_getElem (by omega)⟩
   obtain ⟨x0,x1⟩:=rd ((hsame j (by omega)).trans hx)
   obtain ⟨y0,y1⟩:=rd ((hsame (j-1) (Nat.le_refl _)).trans hy)
   have ej:j*2=k*2+(j-k)*2:=by omega
   have ej1:(j-1)*2=k*2+(j-k-1)*2:=by omega
   rw [ej]at x0 x1
   rw [ej1]at y0 y1
   have e5:(((j-k:Nat):Nat):Int)-1=((j-k-1:Nat):Int):=by omega
   unfold Cf
   try simp (disch:=first|decide|omega) only [jv,q4,q5,e5,sk (Int.natCast_nonneg (j-k)) hlt2,sk (Int.natCast_nonneg (j-k-1)) (show ((j-k-1:Nat):Int)<((L.length-k:Nat):Int)by omega),Int.toNat_natCast,x0,x1,y0,y1,Ar]
   have nxt:(((j-k:Nat):Nat):Int)+1=((j+1-k:Nat):Int):=by omega
   cases hxy:(x==y)with
   |true=>
    try simp only [jv]
    unfold r6
    try simp (disch:=first|decide|omega) only [jv,q5]
    refine HX (L.length-(j+1)) _ _ (by omega) ⟨w,j+1,M,a,rfl,hkw,by omega,by omega,by omega,hM,by simp (disch:=decide) only [jv,q0],by simp (disch:=decide) only [jv,q3],by simp (disch:=decide) only [jv,q4],by simp only [jv]<;>rw [nxt],hb,s,d,?_,fun p hp=>hsame p (by omega)⟩
    rw [htk,Bs (by omega) hy hx,if_pos (eq_of_beq hxy).symm]
   |false=>
    have hwl:(w:Int)<(L.length:Nat):=by omega
    try simp (disch:=first|decide|omega) only [jv,q0,q3,q4,q5,ix22 (Int.natCast_nonneg (j-k)) hlt2,ix22 (Int.natCast_nonneg w) hwl,Int.toNat_natCast,x0,x1]
    rw [st_elem (x:=x) hbh (by omega)]
    have s5:=s.put (o := .cells (du.rows (M.set w x)++t).toArray 28 (0,0)) hb
    have d5:=d.set (o := .cells (du.rows (M.set w x)++t).toArray 28 (0,0)) (d _ _ hbh)
    generalize Hp.set h4 b _=h5 at s5 d5 ⊢
    try simp (disch:=first|decide|omega) only [jv,Nat.reduceAdd,Nat.reduceMul,q3]
    unfold r6
    try simp (disch:=first|decide|omega) only [jv,q5]
    refine HX (L.length-(j+1)) _ _ (by omega) ⟨w+1,j+1,M.set w x,_,rfl,by omega,by omega,by omega,by omega,by rw [List.length_set,hM],by simp (disch:=decide) only [jv,q0],by simp (disch:=decide) only [jv]<;>rfl,by simp (disch:=decide) only [jv,q4],by simp only [jv]<;>rw [nxt],bj,s5,d5,?_,fun p hp=>?_⟩
    . rw [Bs (by omega) hy hx,if_neg (fun e=>by rw [e,beq_self_eq_true]at hxy;cases hxy),<- htk,List.take_add_one,List.getElem?_set_self (by omega),List.take_set_of_le (Nat.le_refl _)]
      rfl
    . rw [List.getElem?_set_ne (by omega)]
      exact hsame p (by omega)
 . obtain rfl:j=L.length:=by omega
   rw [List.take_of_length_le (Nat.le_refl _)]at htk
   clear HX
   have hwl:w<L.length:=hwj
   try simp (disch:=first|decide|omega) only [jv,Nat.reduceAdd,Nat.reduceMul]
   unfold K4
   try simp (disch:=decide) only [jv,q0,q3]
   rw [o0 un22 sz28 (by omega) (by omega) hcap]
   rw [Int.toNat_natCast,if_neg (show ¬cap=w by omega),od,Nat.zero_add]
   try simp (disch:=first|decide|omega) only [jv,Nat.reduceAdd,Nat.reduceMul]
   have hlen:(du.rows M++t).length=cap*2:=by
    rw [List.length_append,du.rows_length,hM,<- du.rows_length,<- List.length_append,hmax]
   refine am6 du ((0,0):Cell) un22 (by decide) (by kernel_rfl) hbh (by omega) (by rw [hlen,show du.n=2 from rfl];omega) fun l' hl1 hl2=>?_
   have s5:=s.put (o := .cells l'.toArray 28 (0,0)) hb
   have d5:=d.set (o := .cells l'.toArray 28 (0,0)) (d _ _ hbh)
   generalize Hp.set h4 b _=h5 at s5 d5 ⊢
   try simp (disch:=first|decide|omega) only [jv,Nat.reduceAdd,Nat.reduceMul,q0,q3]
   rw [zm un22 sz28 (by omega) (by omega)]
   rw [Int.toNat_natCast]
   rw [<- hKK]
   try simp only [jv]
   have hcl:fk L=M.take w:=htk.symm
   have hml:(M.take w).length=w:=by rw [List.length_take];omega
   have hl3:l'=du.rows (fk L)++l'.drop (w*2):=by
    rw [hcl]
    have:=du.rows_take (L:=M) (t:=t) (k:=w) (by omega)
    rw [show du.n=2 from rfl]at this
    rw [<- this,<- hl2,List.take_append_drop]
   refine ⟨_,⟨some b,cap,l'.drop (w*2),by rw [hcl,hml],?_,?_⟩,s5,d5⟩
   . rw [<- hl3];exact bj
   . rw [<- hl3,hl1,hlen];rfl
end Go.Proofs.YtfflipnhffknnaaGreatDoor
end
section
namespace Go.Proofs.YtfflipnhffknnaaGreatDoor
open Go Go.HL Go.Proofs
def B3:Go.Shelf.Ren:=⟨fun|6=>134|15=>161|14=>160|28=>179|29=>180|20=>171|21=>172|22=>173|23=>174|24=>175|25=>176|26=>177|27=>178|46=>188|47=>189|48=>190|49=>191|50=>192|57=>198|n=>n,fun|22=>22|24=>28|25=>247|3=>3|39=>272|0=>0|53=>159|55=>284|4=>4|46=>277|45=>276|50=>251|5=>5|9=>9|66=>289|70=>293|76=>299|77=>300|n=>n,fun|n=>n⟩
theorem ag7:Go.Proofs.SlLaysF0.n6 P_ B3 where
 mixed:=by kernel_rfl
 f6:=⟨ "slices.SortFunc[[]skep/api.Cell,skep/api.Cell]",by decide,Tryz.func134.trans (congrArg some (by kernel_rfl))⟩
 f14:=⟨ "slices.pdqsortCmpFunc[skep/api.Cell]",by decide,Tryz.func160.trans (congrArg some (by kernel_rfl))⟩
 f15:=Tryz.func161.trans (congrArg some (by kernel_rfl))
 f20:=⟨ "slices.insertionSortCmpFunc[skep/api.Cell]",by decide,Tryz.func171.trans (congrArg some (by kernel_rfl))⟩
 f21:=⟨ "slices.heapSortCmpFunc[skep/api.Cell]",by decide,Tryz.func172.trans (congrArg some (by kernel_rfl))⟩
 f22:=⟨ "slices.breakPatternsCmpFunc[skep/api.Cell]",by decide,Tryz.func173.trans (congrArg some (by kernel_rfl))⟩
 f23:=⟨ "slices.choosePivotCmpFunc[skep/api.Cell]",by decide,Tryz.func174.trans (congrArg some (by kernel_rfl))⟩
 f24:=⟨ "slices.reverseRangeCmpFunc[skep/api.Cell]",by decide,Tryz.func175.trans (congrArg some (by kernel_rfl))⟩
 f25:=⟨ "slices.partialInsertionSortCmpFunc[skep/api.Cell]",by decide,Tryz.func176.trans (congrArg some (by kernel_rfl))⟩
 f26:=⟨ "slices.partitionEqualCmpFunc[skep/api.Cell]",by decide,Tryz.func177.trans (congrArg some (by kernel_rfl))⟩
 f27:=⟨ "slices.partitionCmpFunc[skep/api.Cell]",by decide,Tryz.func178.trans (congrArg some (by kernel_rfl))⟩
 f28:=Tryz.func179.trans (congrArg some (by kernel_rfl))
 f29:=Tryz.func180.trans (congrArg some (by kernel_rfl))
 f46:=⟨ "slices.siftDownCmpFunc[skep/api.Cell]",by decide,Tryz.func188.trans (congrArg some (by kernel_rfl))⟩
 f47:=Tryz.func189.trans (congrArg some (by kernel_rfl))
 f48:=Tryz.func190.trans (congrArg some (by kernel_rfl))
 f49:=⟨ "slices.medianAdjacentCmpFunc[skep/api.Cell]",by decide,Tryz.func191.trans (congrArg some (by kernel_rfl))⟩
 f50:=⟨ "slices.medianCmpFunc[skep/api.Cell]",by decide,Tryz.func192.trans (congrArg some (by kernel_rfl))⟩
 f57:=⟨ "slices.order2CmpFunc[skep/api.Cell]",by decide,Tryz.func198.trans (congrArg some (by kernel_rfl))⟩
 t0:=Tryz.underlying0
 a0:=Tryz.isAgg0
 z0:=Tryz.sizeOf0
 v0:=Tryz.zeroValue0
 t3:=Tryz.underlying3
 a3:=Tryz.isAgg3
 z3:=Tryz.sizeOf3
 v3:=Tryz.zeroValue3
 t4:=Tryz.underlying4
 a4:=Tryz.isAgg4
 z4:=Tryz.sizeOf4
 v4:=Tryz.zeroValue4
 t5:=Tryz.underlying5
 a5:=Tryz.isAgg5
 z5:=Tryz.sizeOf5
 v5:=Tryz.zeroValue5
 t9:=Tryz.underlying9
 a9:=Tryz.isAgg9
 z9:=Tryz.sizeOf9
 v9:=Tryz.zeroValue9
 t22:=Tryz.underlying22
 a22:=Tryz.isAgg22
 z22:=Tryz.sizeOf22
 v22:=Tryz.zeroValue22
 t25:=Tryz.underlying247
 a25:=Tryz.isAgg247
 z25:=Tryz.sizeOf247
 v25:=Tryz.zeroValue247
 t39:=Tryz.underlying272
 a39:=Tryz.isAgg272
 z39:=Tryz.sizeOf272
 v39:=Tryz.zeroValue272
 t45:=Tryz.underlying276
 a45:=Tryz.isAgg276
 z45:=Tryz.sizeOf276
 v45:=Tryz.zeroValue276
 t46:=Tryz.underlying277
 a46:=Tryz.isAgg277
 z46:=Tryz.sizeOf277
 v46:=Tryz.zeroValue277
 t50:=Tryz.underlying251
 a50:=Tryz.isAgg251
 z50:=Tryz.sizeOf251
 v50:=Tryz.zeroValue251
 t53:=Tryz.underlying159
 a53:=Tryz.isAgg159
 z53:=Tryz.sizeOf159
 v53:=Tryz.zeroValue159
 t55:=Tryz.underlying284
 a55:=Tryz.isAgg284
 z55:=Tryz.sizeOf284
 v55:=Tryz.zeroValue284
 t66:=Tryz.underlying289
 a66:=Tryz.isAgg289
 z66:=Tryz.sizeOf289
 v66:=Tryz.zeroValue289
 t70:=Tryz.underlying293
 a70:=Tryz.isAgg293
 z70:=Tryz.sizeOf293
 v70:=Tryz.zeroValue293
 t76:=Tryz.underlying299
 a76:=Tryz.isAgg299
 z76:=Tryz.sizeOf299
 v76:=Tryz.zeroValue299
 t77:=Tryz.underlying300
 a77:=Tryz.isAgg300
 z77:=Tryz.sizeOf300
 v77:=Tryz.zeroValue300
end Go.Proofs.YtfflipnhffknnaaGreatDoor
end
section
namespace Go.Proofs.YtfflipnhffknnaaGreatDoor
open Go Go.HL
def ze:=jq bC (jq (jq (jq @pu @cf127) (jq @cf134 (jq @cf136 @cf88))) (jq (jq @vg @ld48) (jq @ld68 (jq @Nj @true_and))))
theorem Yu {w k:Nat} {f:Nat->Nat->Int} {c:Cell} (h:py w k f c=true):inW w k c=true:=by
 unfold py at h
 rw [Bool.and_eq_true]at h
 exact h.1
theorem way_in {w k:Nat} {f:Nat->Nat->Int} {m:Move} (h:wayB w k f m=true):∀c∈wayL m,inW w k c=true:=by
 intro c hc
 unfold wayB at h
 unfold wayL at hc
 rw [Bool.and_eq_true]at h
 obtain ⟨hf,h⟩:=h
 by_cases h1:m.k=1
 . rw [if_pos h1]at h hc
   simp only [Bool.and_eq_true,List.all_eq_true,List.mem_flatMap]at h hc
   obtain ⟨i,hi,hc⟩:=hc
   have:=h.2.1 i hi
   unfold rp at this
   rw [Bool.and_eq_true]at this
   exact (qo this.2 c hc).1
 . rw [if_neg h1]at h hc
   by_cases h2:m.k=2
   . rw [if_pos h2]at h hc
     simp only [Bool.and_eq_true,List.all_eq_true]at h
     exact Yu (h.2.1 c hc)
   . rw [if_neg h2]at hc
     exact (qo hf c hc).1
theorem Jj {D:Nat->List Cell} (h:∀i,(D i).length=2):∀n,((List.range n).flatMap D).length=2*n
 |0=>rfl
 |n+1=>by
  rw [List.range_succ,List.flatMap_append,List.length_append,Jj h n]
  simp [h]
  omega
theorem way_len {w k:Nat} {f:Nat->Nat->Int} {m:Move} (h:wayB w k f m=true):(wayL m).length<=34/\wayL m≠[]:=by
 unfold wayB at h
 rw [Bool.and_eq_true]at h
 obtain ⟨hf,h⟩:=h
 unfold wayL
 by_cases h1:m.k=1
 . rw [if_pos h1]at h ⊢
   simp only [Bool.and_eq_true,List.all_eq_true,List.mem_range,decide_eq_true_eq]at h
   have:=h.2.1 m.n.toNat (by omega)
   unfold rp okS at this
   simp only [Bool.and_eq_true]at this
   have hn:=ff.1 this.1.1
   have e:=Jj (D:=fun (i:Nat)=>cj (ir m.f m.d i)) (fun i=>rfl) (m.n.toNat+1)
   refine ⟨by rw [e];omega,fun hn=>?_⟩
   rw [hn]at e
   simp at e
 . rw [if_neg h1]
   split
   . exact ⟨by simp [fj],by simp [fj]⟩
   . exact ⟨by simp [cj],by simp [cj]⟩
theorem Yv {w k:Nat} {c:Cell} (h:inW w k c=true):numI w k c=numW w c:=by
 unfold numI numW
 rw [if_pos h]
theorem in_bd {w k:Nat} {c:Cell} (h:inW w k c=true):0<=c.1/\c.1<w/\0<=c.2/\c.2<k:=by
 unfold inW at h
 rw [Bool.and_eq_true]at h
 have h1:=ff.1 h.1
 have h2:=ff.1 h.2
 omega
theorem P8 {w k:Nat} {c:Cell} (hw:w<=16) (hk:k<=16) : -1<=numI w k c/\numI w k c<=1000:=by
 unfold numI
 split
 . rename_i h
   obtain ⟨a,b,c1,d⟩:=in_bd h
   have h1:0<=c.2*(w:Int):=Int.mul_nonneg c1 (by omega)
   have h2:c.2*(w:Int)<=16*16:=Int.mul_le_mul (by omega) (by omega) (by omega) (by omega)
   omega
 . omega
theorem Eh {G h:Hp} {v0 w k:Nat} {f:Nat->Nat->Int} {g:Value} {a b:Cell} (hv:∀j,bf G h ⟨v0,j,none⟩=[g][j]?) (gs:GS G h g w k f):bn P_ G 135 #[vj a,vj b,.pointer (some ⟨v0,0,none⟩)] h (fun u h'=>u = .int .i64 (numI w k a-numI w k b)/\h'=h):=by
 obtain ⟨gp,kb,hgp,_⟩:=gs.ex
 refine bn.assume fun d=>quietly (aB2 (by simp) ?_)
 unfold S135
 simp only [ze]
 intro x hx gx
 generalize e1:Hp.set h x _=h1
 obtain ⟨l1,d1,b1⟩:=boxed e1 hx d gx
 intro y hy gy
 generalize e2:Hp.set h1 y _=h2
 obtain ⟨l2,d2,b2⟩:=boxed e2 hy d1 gy
 have cx:∀j,bf G h2 ⟨x,j,none⟩=_:=fun j=>bm (bk (l2 _ _ b1))
 have cy:∀j,bf G h2 ⟨y,j,none⟩=_:=fun j=>bm (bk b2)
 have l02:=l1.trans l2
 have cv:bf G h2 ⟨v0,0,none⟩=some g:=kg l02 d2 (hv 0)
 have gs2:=gs.up l02 d2
 subst hgp
 try simp only [ze,cx,cy,cv]
 refine (pa (c:=a) gs2).mono ?_
 rintro _ h3 ⟨rfl,rfl⟩
 refine ⟨Hp.le.refl _,?_⟩
 try simp (disch:=first|decide|omega) only [ze,Nat.reduceAdd,Nat.reduceMul,cx,cy,cv]
 refine (pa (c:=b) gs2).mono ?_
 rintro _ h3 ⟨rfl,rfl⟩
 have ba:=P8 (c:=a) gs.w2 gs.k2
 have bb:=P8 (c:=b) gs.w2 gs.k2
 try simp (disch:=first|decide|omega) only [ze]
 first|exact l02|exact ⟨rfl,l02⟩
instance:Inhabited Cell:=⟨(0,0)⟩
theorem swo_num (n:Cell->Int):Go.Sort.SWO (Go.Proofs.ltOf fun a b=>n a-n b):=by
 refine ⟨fun x=>?_,fun x y z h1 h2=>?_,fun x y z h1 h2=>?_⟩<;>simp only [Go.Proofs.ltOf,decide_eq_true_eq,decide_eq_false_iff_not]at * <;> omega
def i7 (w k:Nat) (f:Nat->Nat->Int) (m:Move):List Cell:=if wayB w k f m=true then lm w k (wayL m)else []
theorem H8 {G h:Hp} {g:Value} {w k:Nat} {f:Nat->Nat->Int} {m:Move} (gs:GS G h g w k f) (st:jy G) (mb:MB m):bn P_ G 90 #[g,Gc m] h (fun u h'=>∃ip,Slc du 28 ip u (i7 w k f m)/\HL.Sep [ip,h] h'/\Dis G h'):=by
 obtain ⟨gp,kb,hgp,_⟩:=gs.ex
 subst hgp
 refine bn.assume fun d=>enter90 (by simp) ?_
 unfold S90
 simp only [ze]
 intro x hx gx
 generalize e1:Hp.set h x _=h1
 obtain ⟨l1,d1,b1⟩:=boxed e1 hx d gx
 intro y hy gy
 generalize e2:Hp.set h1 y _=h2
 obtain ⟨l2,d2,b2⟩:=boxed e2 hy d1 gy
 have cx:∀j,bf G h2 ⟨x,j,none⟩=_:=fun j=>bm (bk (l2 _ _ b1))
 have cy:∀j,bf G h2 ⟨y,j,none⟩=_:=fun j=>bm (bk b2)
 have l02:=l1.trans l2
 have gs2:=gs.up l02 d2
 try simp only [ze,cx,cy]
 refine (Sj (m:=m) gs2 st mb).mono ?_
 rintro _ h3 ⟨ip,v,L,rfl,o,s3,d3,hL⟩
 try simp only [ze]
 cases hw:wayB w k f m with
 |false=>
  try simp only [ze]
  refine ⟨noHp,?_,(s3.drop.cut l02).none,d3⟩
  unfold i7
  rw [hw]
  exact Slc.nil
 |true=>
  obtain rfl:=hL hw
  obtain ⟨wl,wn⟩:=way_len hw
  try simp only [ze]
  unfold aG7
  obtain ⟨ob,o'⟩:=o
  cases ob with
  |none=>exact absurd o'.2 wn
  |some b=>
  obtain ⟨cap,t,rfl,hb,hbl⟩:=o'
  try simp (disch:=decide) only [ze]
  have hx3:h2 x=some _:=l2 _ _ b1
  refine bn.mono (f:=134) (ag6 (ρ:=B3) ag7 du (by decide) Tryz.isAgg28 Tryz.sizeOf28 (swo_num (numI w k)) (g:=135) (cb:=#[.pointer (some ⟨x,0,none⟩)])
   (enters_of Tryz.func135 (by kernel_rfl) rfl) s3 d3 hb (fun p q h' s' d'=>Eh (a:=p) (b:=q) (fun j=>by rw [bm (bk (s'.in 0 rfl _ _ hx3))]) (gs2.up (s'.in 0 rfl) d')) (by omega)) ?_
  rintro _ h4 ⟨rfl,S,hp,hs,rfl⟩
  have s4:=s3.put (o := .cells (du.rows S++t).toArray 28 (0,0)) hb
  have d4:=d3.set (o := .cells (du.rows S++t).toArray 28 (0,0)) (d3 _ _ (s3.at 0 rfl hb))
  have hlS:S.length=(wayL m).length:=hp.length_eq
  have o4:Slc du 28 (ip.set b (.cells (du.rows S++t).toArray 28 (0,0))) (.slice (some ⟨b,0,none⟩) (wayL m).length cap) S:=⟨some b,cap,t,by rw [hlS],bj,by rw [<- hbl,List.length_append,List.length_append,du.rows_length,du.rows_length,hlS]⟩
  generalize Hp.set h3 b _=h4 at s4 d4 ⊢
  generalize Hp.set ip b _=ip4 at s4 o4
  try simp (disch:=first|decide|omega) only [ze,Nat.reduceAdd,Nat.reduceMul]
  refine (Q5 s4 o4 (by omega)).mono ?_
  rintro u5 h5 ⟨a5,o5,s5,d5⟩
  try simp (disch:=first|decide|omega) only [ze,Nat.reduceAdd,Nat.reduceMul]
  refine ⟨a5,?_,((s5.pick 1 rfl rfl).cut l02).pick 1 rfl rfl,d5⟩
  have hin:=way_in hw
  have e:=Mj (w:=w) (k:=k) (W:=wayL m) (S:=S) (by have:=gs.w1;omega) (fun c hc=>in_bd (hin c hc)) hp (hs.imp_of_mem fun {a b} ha hb h=>by
   rw [Yv (hin a (hp.mem_iff.1 ha)),Yv (hin b (hp.mem_iff.1 hb))]at h
   omega)
  unfold i7
  rw [hw,if_pos rfl,<- e]
  exact o5
end Go.Proofs.YtfflipnhffknnaaGreatDoor
end
section
namespace Go.Proofs.Srch
open Go.Proofs.Resv
section
variable {P M:Type} [DecidableEq P]
inductive Rc (E:Env P M) (p0:P) (t0:Int):P->Nat->Int->Prop where
 |start {i:Nat} (h:inside (E.spans p0) t0=some i):Rc E p0 t0 p0 i t0
 |step {p:P} {i j:Nat} {t b:Int} {s0 s:Sp} {w:M × P × Int × List Sp} (h:Rc E p0 t0 p i t) (h0:(E.spans p)[i]?=some s0) (hw:w∈E.ways p) (hs:s∈w.2.2.2) (h1:s0.1<=s.1) (h2:s.2<=s0.2)
  (hb:t<=b) (hb2:s.1<=b) (he:sumI b w.2.2.1<=s.2) (he2:sumI b w.2.2.1<FV) (hj:inside (E.spans w.2.1) (sumI b w.2.2.1)=some j):Rc E p0 t0 w.2.1 j (sumI b w.2.2.1)
structure Dj (E:Env P M):Prop where
 ris:∀p,Ris (E.spans p)
 wris:∀p,∀w∈E.ways p,Ris w.2.2.2
 sub:∀p,∀w∈E.ways p,∀s∈w.2.2.2,∃s'∈E.spans w.2.1,s'.1<=s.1/\s.2<=s'.2
variable {E:Env P M}
theorem Fj {l:List Sp} (h:Ris l) {t:Int} {i:Nat} {s:Sp} (hs:l[i]?=some s) (h1:s.1<=t) (h2:t<s.2):inside l t=some i:=by
 unfold inside
 rw [List.findIdx?_eq_some_iff_getElem]
 obtain ⟨hi,rfl⟩:=List.getElem?_eq_some_iff.1 hs
 refine ⟨hi,by simp [insB,h1,h2],fun j hj=>?_⟩
 have:=List.pairwise_iff_getElem.1 h.pw j i (by omega) hi hj
 simp [insB]
 intro _
 omega
theorem ris_one {l:List Sp} (h:Ris l) {i j:Nat} {s u:Sp} (hs:l[i]?=some s) (hu:l[j]?=some u) {t:Int} (h1:s.1<=t) (h2:t<=s.2) (h3:u.1<=t) (h4:t<=u.2):i=j:=by
 obtain ⟨hi,rfl⟩:=List.getElem?_eq_some_iff.1 hs
 obtain ⟨hj,rfl⟩:=List.getElem?_eq_some_iff.1 hu
 rcases Nat.lt_trichotomy i j with h5|h5|h5
 . have:=List.pairwise_iff_getElem.1 h.pw i j hi hj h5;omega
 . exact h5
 . have:=List.pairwise_iff_getElem.1 h.pw j i hj hi h5;omega
theorem ao6 {a b d:Int} (h:a<=b):sumI a d<=sumI b d:=by
 unfold sumI cutI FV
 split<;>split<;>omega
theorem Wn (r:Dj E) {p:P} {w:M × P × Int × List Sp} (hw:w∈E.ways p) {s:Sp} (hs:s∈w.2.2.2) {e e':Int} {j:Nat} (hj:inside (E.spans w.2.1) e=some j) (h1:s.1<=e') (h2:e'<=e) (h3:e<=s.2):inside (E.spans w.2.1) e'=some j:=by
 obtain ⟨s',hs',h4,h5⟩:=r.sub p w hw s hs
 obtain ⟨i,hi,rfl⟩:=List.getElem_of_mem hs'
 obtain ⟨u,hu,h6,h7,_⟩:=Gm hj
 have:=ris_one (r.ris w.2.1) (List.getElem?_eq_getElem hi) hu (t:=e) (by omega) (by omega) h6 (by omega)
 subst this
 rw [List.getElem?_eq_getElem hi]at hu
 cases hu
 exact Fj (r.ris w.2.1) (List.getElem?_eq_getElem hi) (by omega) (by omega)
def Up (S S':List (St P M)):Prop:=∀x∈S,∃x'∈S',x'.p=x.p/\x'.i=x.i/\x'.a<=x.a/\(x.dn=true->x'=x)
theorem Up.refl (S:List (St P M)):Up S S:=fun x hx=>⟨x,hx,rfl,rfl,Int.le_refl _,fun _=>rfl⟩
theorem Up.trans {S S' S'':List (St P M)} (a:Up S S') (b:Up S' S''):Up S S'':=fun x hx=>by
 obtain ⟨y,hy,e1,e2,e3,e4⟩:=a x hx
 obtain ⟨z,hz,f1,f2,f3,f4⟩:=b y hy
 refine ⟨z,hz,f1.trans e1,f2.trans e2,by omega,fun hd=>?_⟩
 have:=e4 hd;subst this
 exact f4 hd
theorem Qa {p0:P} {t0 lo:Int} {z:M} {S:List (St P M)} (v:Inv E p0 t0 z lo S) {p:P} {t:Int} {m:M} {b:Int} (hlo:lo<=t):Up S (note E S p t m b)/\∀x∈note E S p t m b,x.dn=true->x∈S:=by
 unfold note
 split
 . unfold yz
   split
   . rename_i k hk
     obtain ⟨x,hx,e1,e2⟩:=uo hk
     simp only [hx]
     split
     . rename_i hlt
       have hkl:k<S.length:=(List.getElem?_eq_some_iff.1 hx).1
       have hxe:S[k]=x:=(List.getElem?_eq_some_iff.1 hx).2
       have hnd:x.dn=false:=by
        cases hd:x.dn with
        |false=>rfl
        |true=>have:=v.dn x (List.mem_of_getElem? hx) hd;omega
       refine ⟨fun y hy=>?_,fun y hy hd=>?_⟩
       . obtain ⟨j,hj,rfl⟩:=List.getElem_of_mem hy
         by_cases hjk:j=k
         . subst hjk
           rw [hxe]
           refine ⟨{ x with a:=t,mv:=m,b:=b },List.mem_of_getElem? (i:=j) (by rw [List.getElem?_set_self hkl]),rfl,rfl,Int.le_of_lt hlt,fun hd=>?_⟩
           rw [hnd]at hd;cases hd
         . exact ⟨_,List.mem_of_getElem? (by rw [List.getElem?_set_ne (Ne.symm hjk)];exact List.getElem?_eq_getElem hj),rfl,rfl,Int.le_refl _,fun _=>rfl⟩
       . rcases List.mem_or_eq_of_mem_set hy with h|rfl
         . exact h
         . rw [hnd]at hd;cases hd
     . exact ⟨.refl _,fun _ h _=>h⟩
   . refine ⟨fun y hy=>⟨y,List.mem_append_left _ hy,rfl,rfl,Int.le_refl _,fun _=>rfl⟩,fun y hy hd=>?_⟩
     rcases List.mem_append.1 hy with h|h
     . exact h
     . rw [List.mem_singleton]at h;subst h;cases hd
 . exact ⟨.refl _,fun _ h _=>h⟩
theorem Tn {S:List (St P M)} {p:P} {t:Int} {m:M} {b:Int} {j:Nat} (hj:inside (E.spans p) t=some j):∃y∈note E S p t m b,y.p=p/\y.i=j/\y.a<=t:=by
 unfold note
 rw [hj]
 simp only
 unfold yz
 cases hk:key S p j with
 |none=>exact ⟨_,List.mem_append_right _ (.head _),rfl,rfl,Int.le_refl _⟩
 |some k=>
  obtain ⟨x,hx,e1,e2⟩:=uo hk
  have hkl:k<S.length:=(List.getElem?_eq_some_iff.1 hx).1
  simp only [hx]
  split
  . exact ⟨{ x with a:=t,mv:=m,b:=b },List.mem_of_getElem? (i:=k) (by rw [List.getElem?_set_self hkl]),e1,e2,Int.le_refl _⟩
  . exact ⟨x,List.mem_of_getElem? hx,e1,e2,by omega⟩
def L5 (E:Env P M) (S:List (St P M)) (x:St P M) (w:M × P × Int × List Sp) (s:Sp):Prop:=
 x.s.1<=s.1->s.2<=x.s.2->sumI (max x.a s.1) w.2.2.1<=s.2->sumI (max x.a s.1) w.2.2.1<FV->∀j,inside (E.spans w.2.1) (sumI (max x.a s.1) w.2.2.1)=some j->∃y∈S,y.p=w.2.1/\y.i=j/\y.a<=sumI (max x.a s.1) w.2.2.1
theorem L5.up {S S':List (St P M)} {x:St P M} {w:M × P × Int × List Sp} {s:Sp} (n:L5 E S x w s) (u:Up S S'):L5 E S' x w s:=fun h1 h2 h3 h4 j hj=>by
 obtain ⟨y,hy,e1,e2,e3⟩:=n h1 h2 h3 h4 j hj
 obtain ⟨z,hz,f1,f2,f3,_⟩:=u y hy
 exact ⟨z,hz,f1.trans e1,f2.trans e2,by omega⟩
structure Cl (E:Env P M) (p0:P) (t0:Int) (S:List (St P M)):Prop where
 start:∀i,inside (E.spans p0) t0=some i->∃x∈S,x.p=p0/\x.i=i/\x.a<=t0
 closed:∀x∈S,x.dn=true->∀w∈E.ways x.p,∀s∈w.2.2.2,L5 E S x w s
theorem step_up (ok:rk E) {p0:P} {t0:Int} {z:M} {S:List (St P M)} {x:St P M} {k:Nat} (v:Inv E p0 t0 z x.a S) (ha:0<=x.a) {w:M × P × Int × List Sp} (hw:w∈E.ways x.p) {s:Sp}:
 Up S (jd E x k w S s)/\(∀y∈jd E x k w S s,y.dn=true->y∈S)/\L5 E (jd E x k w S s) x w s:=by
 unfold jd
 split
 . rename_i h;exact ⟨.refl _,fun _ h _=>h,fun h1 h2=>by omega⟩
 . split
   . rename_i h;exact ⟨.refl _,fun _ h _=>h,fun h1 h2 h3 h4=>by omega⟩
   . rename_i h1 h2
     have h4:=Ib (show 0<=max x.a s.1 by omega) (ok.lasts _ w hw).1 (by omega)
     have:=Qa v (p:=w.2.1) (t:=sumI (max x.a s.1) w.2.2.1) (m:=E.stamp w.1 (max x.a s.1) (sumI (max x.a s.1) w.2.2.1)) (b:=k) (by omega)
     exact ⟨this.1,this.2,fun _ _ _ _ j hj=>Tn hj⟩
theorem ao0 (ok:rk E) {p0:P} {t0:Int} {z:M} {x:St P M} {k:Nat} (hd:x.dn=true) (ha:0<=x.a) (hox:E.ok x.p) {w:M × P × Int × List Sp} (hw:w∈E.ways x.p):∀(l:List Sp) {S:List (St P M)},(∀s∈l,s∈w.2.2.2)->Inv E p0 t0 z x.a S->S[k]?=some x->
 Up S (l.foldl (jd E x k w) S)/\(∀y∈l.foldl (jd E x k w) S,y.dn=true->y∈S)/\∀s∈l,L5 E (l.foldl (jd E x k w) S) x w s
 |[],S,_,v,hx=>⟨.refl _,fun _ h _=>h,fun _ h=>by cases h⟩
 |s::l,S,hl,v,hx=>by
  obtain ⟨v1,h1⟩:=Id ok v hx hd ha hox hw (hl s (.head _))
  obtain ⟨u1,d1,n1⟩:=step_up ok (k:=k) v ha hw (s:=s)
  obtain ⟨u2,d2,n2⟩:=ao0 ok hd ha hox hw l (fun s hs=>hl s (.tail _ hs)) v1 h1
  refine ⟨u1.trans u2,fun y hy hyd=>d1 y (d2 y hy hyd) hyd,fun u hu=>?_⟩
  rcases List.mem_cons.1 hu with rfl|hu
  . exact n1.up u2
  . exact n2 u hu
theorem X8 (ok:rk E) {p0:P} {t0:Int} {z:M} {x:St P M} {k:Nat} (hd:x.dn=true) (ha:0<=x.a) (hox:E.ok x.p):∀(l:List (M × P × Int × List Sp)) {S:List (St P M)},(∀w∈l,w∈E.ways x.p)->Inv E p0 t0 z x.a S->S[k]?=some x->
 Up S (l.foldl (uq E x k) S)/\(∀y∈l.foldl (uq E x k) S,y.dn=true->y∈S)/\∀w∈l,∀s∈w.2.2.2,L5 E (l.foldl (uq E x k) S) x w s
 |[],S,_,v,hx=>⟨.refl _,fun _ h _=>h,fun _ h=>by cases h⟩
 |w::l,S,hl,v,hx=>by
  obtain ⟨v1,h1⟩:=Pq ok hd ha hox (hl w (.head _)) w.2.2.2 (fun _ h=>h) v hx
  obtain ⟨u1,d1,n1⟩:=ao0 ok (k:=k) hd ha hox (hl w (.head _)) w.2.2.2 (fun _ h=>h) v hx
  obtain ⟨u2,d2,n2⟩:=X8 ok hd ha hox l (fun w hw=>hl w (.tail _ hw)) v1 h1
  refine ⟨u1.trans u2,fun y hy hyd=>d1 y (d2 y hy hyd) hyd,fun u hu=>?_⟩
  rcases List.mem_cons.1 hu with rfl|hu
  . exact fun s hs=>(n1 s hs).up u2
  . exact n2 u hu
theorem take_up {S:List (St P M)} {k:Nat} {x:St P M} (hx:S[k]?=some x) (hnd:x.dn=false):(∀y∈S,∃y'∈take S k x,y'.p=y.p/\y'.i=y.i/\y'.a<=y.a)/\∀y∈take S k x,y.dn=true->y∈S\/y={ x with dn:=true }:=by
 have hkl:k<S.length:=(List.getElem?_eq_some_iff.1 hx).1
 have hxe:S[k]=x:=(List.getElem?_eq_some_iff.1 hx).2
 unfold take
 refine ⟨fun y hy=>?_,fun y hy hd=>?_⟩
 . obtain ⟨j,hj,rfl⟩:=List.getElem_of_mem hy
   by_cases hjk:j=k
   . subst hjk
     rw [hxe]
     exact ⟨{ x with dn:=true },List.mem_of_getElem? (i:=j) (by rw [List.getElem?_set_self hkl]),rfl,rfl,Int.le_refl _⟩
   . exact ⟨_,List.mem_of_getElem? (by rw [List.getElem?_set_ne (Ne.symm hjk)];exact List.getElem?_eq_getElem hj),rfl,rfl,Int.le_refl _⟩
 . rcases List.mem_or_eq_of_mem_set hy with h|h
   . exact .inl h
   . exact .inr h
theorem ap9 (ok:rk E) {p0:P} {t0 lo:Int} {z:M} {S:List (St P M)} (v:Inv E p0 t0 z lo S) (c:Cl E p0 t0 S) {k:Nat} {x:St P M} (h:least E S=some (k,x)):
 Inv E p0 t0 z x.a (Ak E { x with dn:=true } k (take S k x))/\Cl E p0 t0 (Ak E { x with dn:=true } k (take S k x))/\
  (∀y∈Ak E { x with dn:=true } k (take S k x),y.dn=true->y∈S\/y={ x with dn:=true }):=by
 obtain ⟨hx,hnd,_⟩:=um h
 have hxm:=List.mem_of_getElem? hx
 obtain ⟨v1,h1⟩:=H6 v h
 have ha:0<=x.a:=by
  obtain ⟨e1,e2,e3⟩:=v.at_ x hxm
  have:=ok.pos x.p x.s (List.mem_of_getElem? e1)
  omega
 have hox:=v.ok x hxm
 obtain ⟨v2,_⟩:=Hz ok (x:={ x with dn:=true }) rfl ha hox (E.ways x.p) (fun _ h=>h) v1 h1
 obtain ⟨u2,d2,n2⟩:=X8 ok (x:={ x with dn:=true }) rfl ha hox (E.ways x.p) (fun _ h=>h) v1 h1
 obtain ⟨u1,d1⟩:=take_up hx hnd
 refine ⟨v2,⟨fun i hi=>?_,fun y hy hd w hw s hs=>?_⟩,fun y hy hd=>d1 y (d2 y hy hd) hd⟩
 . obtain ⟨y,hy,e1,e2,e3⟩:=c.start i hi
   obtain ⟨y1,hy1,f1,f2,f3⟩:=u1 y hy
   obtain ⟨y2,hy2,g1,g2,g3,_⟩:=u2 y1 hy1
   exact ⟨y2,hy2,by rw [g1,f1,e1],by rw [g2,f2,e2],by omega⟩
 . rcases d1 y (d2 y hy hd) hd with h3|rfl
   . intro q1 q2 q3 q4 j hj
     obtain ⟨u,hu,e1,e2,e3⟩:=c.closed y h3 hd w hw s hs q1 q2 q3 q4 j hj
     obtain ⟨y1,hy1,f1,f2,f3⟩:=u1 u hu
     obtain ⟨y2,hy2,g1,g2,g3,_⟩:=u2 y1 hy1
     exact ⟨y2,hy2,by rw [g1,f1,e1],by rw [g2,f2,e2],by omega⟩
   . exact n2 w hw s hs
theorem Te (ok:rk E) (r:Dj E) {p0:P} {t0 lo:Int} {z:M} {S:List (St P M)} (v:Inv E p0 t0 z lo S) (c:Cl E p0 t0 S) {p:P} {i:Nat} {t:Int} (h:Rc E p0 t0 p i t):
 (∃x∈S,x.p=p/\x.i=i/\x.dn=true/\x.a<=t)\/∃y∈S,y.dn=false/\y.a<=t:=by
 induction h with
 |@start i h=>
  obtain ⟨x,hx,e1,e2,e3⟩:=c.start i h
  cases hd:x.dn with
  |true=>exact .inl ⟨x,hx,e1,e2,hd,e3⟩
  |false=>exact .inr ⟨x,hx,hd,e3⟩
 |@step p i j t b s0 s w h h0 hw hs h1 h2 hb hb2 he he2 hj ih=>
  have hb0:0<=b:=by have:=(r.wris p w hw).bd s hs;omega
  have hlt:=Ib hb0 (ok.lasts _ w hw).1 he2
  rcases ih with ⟨x,hx,rfl,rfl,hd,e3⟩|⟨y,hy,hd,e⟩
  . have hxs:x.s=s0:=by have:=(v.at_ x hx).1;rw [h0]at this;exact (Option.some.inj this).symm
    have hm:sumI (max x.a s.1) w.2.2.1<=sumI b w.2.2.1:=ao6 (by omega)
    have hx0:0<=max x.a s.1:=by have:=(r.wris _ w hw).bd s hs;omega
    have hlt2:=Ib hx0 (ok.lasts _ w hw).1 (show sumI (max x.a s.1) w.2.2.1<FV by omega)
    have hj':=Wn r hw hs hj (e':=sumI (max x.a s.1) w.2.2.1) (by omega) hm he
    obtain ⟨y,hy,f1,f2,f3⟩:=c.closed x hx hd w hw s hs (by rw [hxs];exact h1) (by rw [hxs];exact h2) (by omega) (by omega) j hj'
    cases hd2:y.dn with
    |true=>exact .inl ⟨y,hy,f1,f2,hd2,by omega⟩
    |false=>exact .inr ⟨y,hy,hd2,by omega⟩
  . exact .inr ⟨y,hy,hd,by omega⟩
theorem Yk (ok:rk E) (r:Dj E) {p0:P} {t0:Int} {z:M} {goal:P->Sp->Bool}:∀(n:Nat) {lo:Int} {S:List (St P M)},Inv E p0 t0 z lo S->Cl E p0 t0 S->(∀x∈S,x.dn=true->goal x.p x.s=false)->
 (∃lo' S' k x f,run E goal n S = .ok (path S' f k [])/\S'.length=f/\Inv E p0 t0 z lo' S'/\S'[k]?=some x/\goal x.p x.s=true/\∀p i t s,Rc E p0 t0 p i t->(E.spans p)[i]?=some s->goal p s=true->x.a<=t)\/
 (run E goal n S = .no 6/\∀p i t s,Rc E p0 t0 p i t->(E.spans p)[i]?=some s->goal p s=false)\/run E goal n S = .no 7
 |0,lo,S,v,c,g => .inr (.inr rfl)
 |n+1,lo,S,v,c,g=>by
  unfold run
  cases h:least E S with
  |none=>
   refine .inr (.inl ⟨rfl,fun p i t s hr hs=>?_⟩)
   have hall:=I8 h
   rcases Te ok r v c hr with ⟨x,hx,rfl,rfl,hd,_⟩|⟨y,hy,hd,_⟩
   . have:=(v.at_ x hx).1
     rw [hs]at this
     rw [Option.some.inj this]
     exact g x hx hd
   . rw [hall y hy]at hd;cases hd
  |some q=>
   obtain ⟨k,x⟩:=q
   simp only
   obtain ⟨hx,hnd,hmin⟩:=um h
   by_cases hg:goal x.p x.s=true
   . rw [if_pos hg]
     obtain ⟨v1,h1⟩:=H6 v h
     refine .inl ⟨_,take S k x,k,_,S.length,rfl,by simp [take],v1,h1,hg,fun p i t s hr hs hgs=>?_⟩
     rcases Te ok r v c hr with ⟨y,hy,rfl,rfl,hd,_⟩|⟨y,hy,hd,hle⟩
     . have:=(v.at_ y hy).1
       rw [hs]at this
       rw [Option.some.inj this,g y hy hd]at hgs
       cases hgs
     . have:=hmin y hy hd
       unfold ltK at this
       simp only [decide_eq_false_iff_not]at this
       simp only
       omega
   . rw [if_neg hg]
     obtain ⟨v2,c2,d2⟩:=ap9 ok v c h
     rcases Yk ok r n v2 c2 (fun y hy hd=>by
      rcases d2 y hy hd with h3|rfl
      . exact g y h3 hd
      . simpa using hg)with h|h|h
     . exact .inl h
     . exact .inr (.inl h)
     . exact .inr (.inr h)
theorem ag3 (ok:rk E) {p0:P} {t0:Int} {z:M} (hok:E.ok p0):Inv E p0 t0 z t0 (note E [] p0 t0 z (-1))/\Cl E p0 t0 (note E [] p0 t0 z (-1))/\∀x∈note E [] p0 t0 z (-1),x.dn=false:=by
 refine ⟨I5 (Inv.start _ _ _ _) (Int.le_refl _) hok (.inl ⟨rfl,rfl,rfl,rfl⟩),⟨fun i hi=>Tn hi,fun x hx hd=>?_⟩,fun x hx=>?_⟩
 . have:=(Qa (Inv.start (E:=E) p0 t0 z t0) (p:=p0) (t:=t0) (m:=z) (b := -1) (Int.le_refl _)).2 x hx hd
   cases this
 . cases hd:x.dn with
   |false=>rfl
   |true=>
    have:=(Qa (Inv.start (E:=E) p0 t0 z t0) (p:=p0) (t:=t0) (m:=z) (b := -1) (Int.le_refl _)).2 x hx hd
    cases this
theorem au8 (ok:rk E) (r:Dj E) {p0:P} {t0:Int} {z:M} {goal:P->Sp->Bool} (hok:E.ok p0) (n:Nat):
 (find E goal p0 t0 z n = .no 18/\inside (E.spans p0) t0=none)\/((inside (E.spans p0) t0).isSome=true/\
 ((∃lo' S' k x,find E goal p0 t0 z n = .ok (path S' S'.length k [])/\Inv E p0 t0 z lo' S'/\S'[k]?=some x/\goal x.p x.s=true/\∀p i t s,Rc E p0 t0 p i t->(E.spans p)[i]?=some s->goal p s=true->x.a<=t)\/
 (find E goal p0 t0 z n = .no 6/\∀p i t s,Rc E p0 t0 p i t->(E.spans p)[i]?=some s->goal p s=false)\/find E goal p0 t0 z n = .no 7)):=by
 unfold find
 cases h:inside (E.spans p0) t0 with
 |none=>exact .inl ⟨rfl,rfl⟩
 |some i=>
  refine .inr ⟨rfl,?_⟩
  obtain ⟨v,c,d⟩:=ag3 ok (t0:=t0) (z:=z) hok
  rcases Yk ok r (goal:=goal) n v c (fun x hx hd=>by rw [d x hx]at hd;cases hd)with ⟨lo',S',k,x,f,h1,rfl,h2⟩|h|h
  . exact .inl ⟨lo',S',k,x,h1,h2⟩
  . exact .inr (.inl h)
  . exact .inr (.inr h)
end
end Go.Proofs.Srch
end
section
namespace Go.Proofs.Wt
structure It where
 k:Int
 m:Int
 s:Int
 n:Int
def It.b4 (x y:It):Bool:=decide (x.k<y.k\/(x.k=y.k/\(x.m<y.m\/(x.m=y.m/\x.s<y.s))))
def It.lt (x y:It):Bool:=if x.b4 y=true then true else if y.b4 x=true then false else decide (x.n<y.n)
def px (L:List It) (i j:Nat):List It:=match L[i]?,L[j]? with
 |some x,some y=>(L.set i y).set j x
 |_,_=>L
theorem ec (L:List It) (i j:Nat):(px L i j).length=L.length:=by
 unfold px
 split<;>simp
def tf (L:List It) (i j:Nat):Bool:=match L[i]?,L[j]? with
 |some x,some y=>x.lt y
 |_,_=>false
def lw (L:List It) (i:Nat):List It:=if h:0<i/\tf L i ((i-1) / 2)=true then lw (px L i ((i-1) / 2)) ((i-1) / 2)else L
 termination_by i
 decreasing_by omega
theorem vo (L:List It) (i:Nat):(lw L i).length=L.length:=by
 induction i using Nat.strongRecOn generalizing L with
 |_ i ih=>
  rw [lw]
  split
  . rw [ih _ (by omega),ec]
  . rfl
def jh (L:List It) (first k:Nat):Nat:=if k<L.length/\tf L k first=true then k else first
def nc (L:List It) (i:Nat):Nat:=jh L (jh L i (2*i+1)) (2*i+2)
theorem Be (L:List It) (f k:Nat):jh L f k=f\/(jh L f k=k/\k<L.length):=by
 unfold jh
 split
 . rename_i h;exact .inr ⟨rfl,h.1⟩
 . exact .inl rfl
theorem pc (L:List It) (i:Nat):nc L i=i\/(i<nc L i/\nc L i<L.length):=by
 unfold nc
 rcases Be L (jh L i (2*i+1)) (2*i+2)with h|⟨h,h2⟩
 . rw [h]
   rcases Be L i (2*i+1)with h|⟨h,h2⟩
   . exact .inl h
   . rw [h];exact .inr ⟨by omega,h2⟩
 . rw [h];exact .inr ⟨by omega,h2⟩
def jx (L:List It) (i:Nat):List It:=if h:nc L i=i then L else jx (px L i (nc L i)) (nc L i)
 termination_by L.length-i
 decreasing_by
 rw [ec]
 have:=(pc L i).resolve_left h
 omega
theorem yw (L:List It) (i:Nat):(jx L i).length=L.length:=by
 have key:∀m L i,L.length-i<=m->(jx L i).length=L.length:=by
  intro m
  induction m with
  |zero=>
   intro L i hm
   rw [jx]
   split
   . rfl
   . rename_i h;have:=(pc L i).resolve_left h;omega
  |succ m ih=>
   intro L i hm
   rw [jx]
   split
   . rfl
   . rename_i h
     have:=(pc L i).resolve_left h
     rw [ih _ _ (by rw [ec];omega),ec]
 exact key _ L i (Nat.le_refl _)
def popL (L:List It):List It:=jx ((px L 0 (L.length-1)).dropLast) 0
theorem zy (L:List It):(popL L).length=L.length-1:=by
 unfold popL
 rw [yw,List.length_dropLast,ec]
theorem at1 (L:List It) (x:It) (h:L≠[]):L.set (L.length-1) x=L.dropLast++[x]:=by
 rw [List.set_eq_take_append_cons_drop,if_pos (by have:=List.length_pos_iff.2 h;omega),List.dropLast_eq_take]
 have:0<L.length:=List.length_pos_iff.2 h
 rw [show L.length-1+1=L.length by omega,List.drop_length]
theorem as7 {x y:It}:x.lt y=true↔x.k<y.k\/(x.k=y.k/\(x.m<y.m\/(x.m=y.m/\(x.s<y.s\/(x.s=y.s/\x.n<y.n))))):=by
 unfold It.lt It.b4
 simp only [decide_eq_true_eq]
 split
 . simp;omega
 . split
   . simp;omega
   . simp;omega
def It.le (x y:It):Prop:=y.lt x=false
theorem Qh {x y:It}:x.le y↔x.k<y.k\/(x.k=y.k/\(x.m<y.m\/(x.m=y.m/\(x.s<y.s\/(x.s=y.s/\x.n<=y.n))))):=by
 unfold It.le
 rw [Bool.eq_false_iff,ne_eq,as7]
 omega
theorem It.le.trans {x y z:It} (a:x.le y) (b:y.le z):x.le z:=by
 rw [Qh]at *;omega
theorem It.le.refl (x:It):x.le x:=by rw [Qh];omega
theorem le_of_lt {x y:It} (a:x.lt y=true):x.le y:=by rw [Qh];rw [as7]at a;omega
def at_ (L:List It) (i:Nat):It:=L.getD i ⟨0,0,0,0⟩
theorem Rh {L:List It} {i:Nat} (h:i<L.length):L[i]?=some (at_ L i):=by
 unfold at_
 rw [List.getD_eq_getElem?_getD,List.getElem?_eq_getElem h]
 rfl
theorem Er {L:List It} {i j:Nat} (hi:i<L.length) (hj:j<L.length):tf L i j=(at_ L i).lt (at_ L j):=by
 simp [tf,Rh hi,Rh hj]
theorem qy {L:List It} {i j:Nat} (hi:i<L.length) (hj:j<L.length) (k:Nat):at_ (px L i j) k=if k=j then at_ L i else if k=i then at_ L j else at_ L k:=by
 unfold px
 rw [Rh hi,Rh hj]
 simp only
 unfold at_
 simp only [List.getD_eq_getElem?_getD]
 by_cases h1:k=j
 . subst h1;rw [if_pos rfl,List.getElem?_set_self (by simpa using hj)];rfl
 . rw [if_neg h1,List.getElem?_set_ne (Ne.symm h1)]
   by_cases h2:k=i
   . subst h2;rw [if_pos rfl,List.getElem?_set_self hi];rfl
   . rw [if_neg h2,List.getElem?_set_ne (Ne.symm h2)]
theorem E8 (L:List It) (i j:Nat):(px L i j).Perm L:=by
 unfold px
 split
 . rename_i x y hx hy
   obtain ⟨hi,rfl⟩:=List.getElem?_eq_some_iff.1 hx
   obtain ⟨hj,rfl⟩:=List.getElem?_eq_some_iff.1 hy
   exact List.set_set_perm hi hj
 . exact .refl _
def yn (L:List It):Prop:=∀j,0<j->j<L.length->(at_ L ((j-1) / 2)).le (at_ L j)
def upOk (L:List It) (i:Nat):Prop:=(∀j,0<j->j<L.length->j≠i->(at_ L ((j-1) / 2)).le (at_ L j))/\
 (∀j,0<j->j<L.length->(j-1) / 2=i->0<i->(at_ L ((i-1) / 2)).le (at_ L j))
theorem ag8:∀(i:Nat) (L:List It),i<L.length->upOk L i->yn (lw L i):=by
 intro i
 induction i using Nat.strongRecOn with
 |_ i ih=>
  intro L hi ⟨h1,h2⟩
  rw [lw]
  split
  . rename_i h
    obtain ⟨h0,ha⟩:=h
    have hp:(i-1) / 2<L.length:=by omega
    rw [Er hi hp]at ha
    refine ih _ (by omega) _ (by rw [ec];exact hp) ⟨?_,?_⟩
    . intro j j0 jl jne
      rw [ec]at jl
      rw [qy hi hp,qy hi hp]
      by_cases e1:j=i
      . subst e1
        rw [if_pos rfl,if_neg jne,if_pos rfl]
        exact le_of_lt ha
      . rw [if_neg jne,if_neg e1]
        by_cases e2:(j-1) / 2=(i-1) / 2
        . rw [if_pos e2]
          have:=h1 j j0 jl e1
          rw [e2]at this
          exact (le_of_lt ha).trans this
        . rw [if_neg e2]
          by_cases e3:(j-1) / 2=i
          . rw [if_pos e3]
            exact h2 j j0 jl e3 h0
          . rw [if_neg e3]
            exact h1 j j0 jl e1
    . intro j j0 jl jp p0
      rw [ec]at jl
      rw [qy hi hp,qy hi hp]
      rw [if_neg (by omega),if_neg (by omega),if_neg (by omega)]
      by_cases e1:j=i
      . rw [if_pos e1]
        exact h1 _ p0 hp (by omega)
      . rw [if_neg e1]
        have a1:=h1 j j0 jl e1
        rw [jp]at a1
        exact (h1 _ p0 hp (by omega)).trans a1
  . rename_i h
    intro j j0 jl
    by_cases e:j=i
    . subst e
      have:tf L j ((j-1) / 2)=false:=by
       cases ha:tf L j ((j-1) / 2)with
       |false=>rfl
       |true=>exact absurd ⟨j0,ha⟩ h
      rw [Er jl (by omega)]at this
      exact this
    . exact h1 j j0 jl e
theorem Sw (i:Nat):∀L:List It,(lw L i).Perm L:=by
 induction i using Nat.strongRecOn with
 |_ i ih=>
  intro L
  rw [lw]
  split
  . rename_i h
    exact (ih _ (by omega) _).trans (E8 _ _ _)
  . exact .refl _
def downOk (L:List It) (i:Nat):Prop:=(∀j,0<j->j<L.length->(j-1) / 2≠i->(at_ L ((j-1) / 2)).le (at_ L j))/\
 (∀j,0<j->j<L.length->(j-1) / 2=i->0<i->(at_ L ((i-1) / 2)).le (at_ L j))
theorem Yr {L:List It} {f k:Nat} (hf:f<L.length):(at_ L (jh L f k)).le (at_ L f)/\(k<L.length->(at_ L (jh L f k)).le (at_ L k)):=by
 unfold jh
 split
 . rename_i h
   rw [Er h.1 hf]at h
   exact ⟨le_of_lt h.2,fun _ => .refl _⟩
 . rename_i h
   refine ⟨.refl _,fun hk=>?_⟩
   have:tf L k f=false:=by
    cases ha:tf L k f with
    |false=>rfl
    |true=>exact absurd ⟨hk,ha⟩ h
   rw [Er hk hf]at this
   exact this
theorem Wx {L:List It} {i:Nat} (hi:i<L.length):(at_ L (nc L i)).le (at_ L i)/\∀j,0<j->j<L.length->(j-1) / 2=i->(at_ L (nc L i)).le (at_ L j):=by
 have h1:=Yr (L:=L) (f:=i) (k:=2*i+1) hi
 have hp:jh L i (2*i+1)<L.length:=by
  rcases Be L i (2*i+1)with h|⟨h,h'⟩<;>omega
 have h2:=Yr (L:=L) (f:=jh L i (2*i+1)) (k:=2*i+2) hp
 refine ⟨h2.1.trans h1.1,fun j j0 jl jp=>?_⟩
 rcases (show j=2*i+1\/j=2*i+2 by omega)with rfl|rfl
 . exact h2.1.trans (h1.2 jl)
 . exact h2.2 jl
theorem Un {L:List It} {i:Nat} (h:nc L i≠i):(nc L i-1) / 2=i:=by
 unfold nc at*
 rcases Be L (jh L i (2*i+1)) (2*i+2)with e|⟨e,_⟩
 . rw [e]at h ⊢
   rcases Be L i (2*i+1)with e|⟨e,_⟩
   . exact absurd e h
   . rw [e];omega
 . rw [e];omega
theorem Sx:∀(m:Nat) (i:Nat) (L:List It),L.length-i<=m->i<L.length->downOk L i->yn (jx L i):=by
 intro m
 induction m with
 |zero=>intro i L hm hi;omega
 |succ m ih=>
  intro i L hm hi ⟨h1,h2⟩
  have hle:=Wx hi
  rw [jx]
  split
  . rename_i h
    intro j j0 jl
    by_cases e:(j-1) / 2=i
    . rw [h]at hle
      rw [e]
      exact hle.2 j j0 jl e
    . exact h1 j j0 jl e
  . rename_i h
    obtain ⟨f1,f2⟩:=(pc L i).resolve_left h
    have fp:=Un h
    generalize nc L i=f at*
    refine ih f _ (by rw [ec];omega) (by rw [ec];exact f2) ⟨?_,?_⟩
    . intro j j0 jl jp
      rw [ec]at jl
      rw [qy hi f2,qy hi f2]
      by_cases e1:j=f
      . subst e1
        rw [if_pos rfl,if_neg jp,if_pos fp]
        exact hle.1
      . rw [if_neg jp,if_neg e1]
        by_cases e2:j=i
        . subst e2
          rw [if_pos rfl,if_neg (by omega)]
          exact h2 f (by omega) f2 fp j0
        . rw [if_neg e2]
          by_cases e3:(j-1) / 2=i
          . rw [if_pos e3]
            exact hle.2 j j0 jl e3
          . rw [if_neg e3]
            exact h1 j j0 jl e3
    . intro j j0 jl jp _
      rw [ec]at jl
      rw [qy hi f2,qy hi f2,fp]
      rw [if_neg (by omega),if_pos rfl,if_neg (by omega),if_neg (by omega)]
      have:=h1 j j0 jl (by omega)
      rwa [jp]at this
theorem L9:∀(m:Nat) (i:Nat) (L:List It),L.length-i<=m->(jx L i).Perm L:=by
 intro m
 induction m with
 |zero=>
  intro i L hm
  rw [jx]
  split
  . exact .refl _
  . rename_i h;have:=(pc L i).resolve_left h;omega
 |succ m ih=>
  intro i L hm
  rw [jx]
  split
  . exact .refl _
  . rename_i h
    have:=(pc L i).resolve_left h
    exact (ih _ _ (by rw [ec];omega)).trans (E8 _ _ _)
theorem ak6 {L:List It} (h:yn L):∀j,j<L.length->(at_ L 0).le (at_ L j):=by
 intro j
 induction j using Nat.strongRecOn with
 |_ j ih=>
  intro hj
  by_cases j0:j=0
  . subst j0;exact .refl _
  . exact (ih _ (by omega) (by omega)).trans (h j (by omega) hj)
theorem Au {L M:List It} {j:Nat} (h:j<L.length):at_ (L++M) j=at_ L j:=by
 unfold at_
 simp only [List.getD_eq_getElem?_getD]
 rw [List.getElem?_append_left h]
theorem push_ok {L:List It} {x:It} (h:yn L):yn (lw (L++[x]) L.length)/\(lw (L++[x]) L.length).Perm (x::L):=by
 refine ⟨ag8 _ _ (by simp) ⟨fun j j0 jl jne=>?_,fun j j0 jl jp _=>?_⟩,(Sw _ _).trans (List.perm_append_singleton _ _)⟩
 . simp at jl
   rw [Au (by omega),Au (by omega)]
   exact h j j0 (by omega)
 . simp at jl
   omega
theorem Gz {L:List It} {j:Nat} (h:j<L.length-1):at_ L.dropLast j=at_ L j:=by
 unfold at_
 simp only [List.getD_eq_getElem?_getD,List.dropLast_eq_take]
 rw [List.getElem?_take_of_lt h]
theorem pop_ok {x:It} {L:List It} (h:yn (x::L)):yn (popL (x::L))/\(x::L).Perm (x::popL (x::L))/\∀y∈L,x.le y:=by
 have hroot:∀y∈L,x.le y:=by
  intro y hy
  obtain ⟨i,hi,rfl⟩:=List.getElem_of_mem hy
  have:=ak6 h (i+1) (by simpa using hi)
  simpa [at_,List.getD_eq_getElem?_getD,hi]using this
 have hM:(x::L).length-1<(x::L).length:=by simp
 have h0:0<(x::L).length:=by simp
 have hsl:=ec (x::L) 0 ((x::L).length-1)
 have hpop:yn (popL (x::L)):=by
  unfold popL
  by_cases hl:L=[]
  . subst hl
    intro j j0 jl
    rw [yw,List.length_dropLast,ec]at jl
    simp at jl
  . have hl':0<L.length:=List.length_pos_iff.2 hl
    refine Sx _ 0 _ (Nat.le_refl _) (by rw [List.length_dropLast,ec];simpa using hl') ⟨fun j j0 jl jp=>?_,fun j j0 jl jp i0=>by omega⟩
    rw [List.length_dropLast,ec]at jl
    rw [Gz (by rw [ec];omega),Gz (by rw [ec];omega),qy h0 hM,qy h0 hM]
    simp only [List.length_cons,Nat.add_sub_cancel]at jl ⊢
    rw [if_neg (by omega),if_neg (by omega),if_neg (by omega),if_neg (by omega)]
    exact h j j0 (by simp;omega)
 refine ⟨hpop,?_,hroot⟩
 have p1:(px (x::L) 0 ((x::L).length-1)).Perm (x::L):=E8 _ _ _
 have hne:px (x::L) 0 ((x::L).length-1)≠[]:=by intro e;rw [e]at hsl;simp at hsl
 have hlast:(px (x::L) 0 ((x::L).length-1)).getLast hne=x:=by
  rw [List.getLast_eq_getElem]
  have e:=qy h0 hM ((x::L).length-1)
  rw [if_pos rfl]at e
  unfold at_ at e
  rw [List.getD_eq_getElem?_getD,List.getElem?_eq_getElem (by rw [hsl];exact hM)]at e
  simp only [Option.getD_some]at e
  simp only [hsl]
  rw [e]
  rfl
 have p2:(px (x::L) 0 ((x::L).length-1)).Perm (x::(px (x::L) 0 ((x::L).length-1)).dropLast):=by
  conv=>lhs;rw [<- List.dropLast_concat_getLast hne,hlast]
  exact List.perm_append_singleton _ _
 exact p1.symm.trans (p2.trans ((L9 _ 0 _ (Nat.le_refl _)).symm.cons x))
end Go.Proofs.Wt
end

/- Texts of the proof, one behind the other. -/
import Derived.Test.YtfflipnhffknnaaGreatDoorAM4
import Derived.Test.YtfflipnhffknnaaGreatDoorAM1
import Derived.Test.YtfflipnhffknnaaGreatDoorAH3
import Derived.Test.YtfflipnhffknnaaGreatDoorAH4
import Derived.Test.YtfflipnhffknnaaGreatDoorAM3
set_option linter.unusedSimpArgs false
set_option linter.unusedVariables false
set_option maxRecDepth 100000
set_option maxHeartbeats 8000000
set_option linter.defProp false
section
namespace Go.Proofs.YtfflipnhffknnaaGreatDoor
open Go Go.HL Go.Proofs.Resv Go.Proofs.Srch
def tn:=jq bC (jq (jq (jq (jq @al229 @gg) (jq @ny @cf115)) (jq (jq @cf149 @Di) (jq @fa134_6 (jq @ao1 @ld127)))) (jq (jq (jq @aj8 @ld129) (jq @ld129p (jq @ld229 @aj7))) (jq (jq @ld30 @qw) (jq @Mn (jq @ld @ir)))))
theorem Wy {α:Type} {ok:Nat->Bool} {mk:Nat->α}:∀{k n:Nat} {m:α},m∈kz ok mk n k->∃j,n<=j/\j<n+k/\ok j=true/\m=mk j
 |0,n,m,h=>by simp [kz]at h
 |k+1,n,m,h=>by
   unfold kz at h
   split at h
   . rename_i ho
     rcases List.mem_cons.1 h with rfl|h
     . exact ⟨n,by omega,by omega,ho,rfl⟩
     . obtain ⟨j,h1,h2,h3,h4⟩:=Wy h
       exact ⟨j,by omega,by omega,h3,h4⟩
   . cases h
theorem Wz {α:Type} {ok:Nat->Bool} {mk:Nat->α}:∀{k n:Nat},(kz ok mk n k).length<=k
 |0,n=>by simp [kz]
 |k+1,n=>by
   unfold kz
   split
   . have:=Wz (ok:=ok) (mk:=mk) (k:=k) (n:=n+1)
     simpa using this
   . simp
theorem Tt {α:Type} {D:Nat->List α}:∀{k i:Nat} {m:α},m∈lx D i k->∃j,i<=j/\j<i+k/\m∈D j
 |0,i,m,h=>by simp [lx]at h
 |k+1,i,m,h=>by
   unfold lx at h
   rcases List.mem_append.1 h with h|h
   . exact ⟨i,by omega,by omega,h⟩
   . obtain ⟨j,h1,h2,h3⟩:=Tt h
     exact ⟨j,by omega,by omega,h3⟩
theorem Aj {w k:Nat} {f:Nat->Nat->Int} {p:Pose} {m:Move} (h:m∈lr w k f p):dg w k f p=true/\((∃d n,d<4/\1<=n/\n<=16/\C1 w k f p d n=true/\m=uy p d n)\/(wayB w k f (m9 p)=true/\m=m9 p)):=by
 unfold lr at h
 split at h
 . rename_i hf
   refine ⟨hf,?_⟩
   rcases List.mem_append.1 h with h|h
   . obtain ⟨d,h1,h2,h3⟩:=Tt h
     obtain ⟨n,n1,n2,n3,rfl⟩:=Wy h3
     exact .inl ⟨d,n,by omega,n1,by omega,n3,rfl⟩
   . split at h
     . rename_i hw
       rw [List.mem_singleton]at h
       exact .inr ⟨hw,h⟩
     . cases h
 . cases h
theorem Mh {w k:Nat} {f:Nat->Nat->Int} {p:Pose}:(lr w k f p).length<=65:=by
 unfold lr
 split
 . rw [List.length_append]
   have h1:(Fj w k f p).length<=64:=by
     unfold Fj
     simp only [lx,List.length_append,List.length_nil]
     have:=fun d=>Wz (ok:=C1 w k f p d) (mk:=uy p d) (k:=16) (n:=1)
     have h0:=this 0
     have h1:=this (0+1)
     have h2:=this (0+1+1)
     have h3:=this (0+1+1+1)
     unfold runD
     omega
   split
   . simp;omega
   . simp;omega
 . simp
theorem aj0 {w k:Nat} {f:Nat->Nat->Int} {p:Pose} (hp:PB p):∀m∈lr w k f p,MB m:=by
 intro m hm
 rcases (Aj hm).2 with ⟨d,n,_,h1,h2,_,rfl⟩|⟨_,rfl⟩
 . refine ⟨⟨?_,?_⟩,hp⟩
   . show (-9223372036854775808:Int)<=(n:Int);omega
   . show (n:Int)<=9223372036854775807;omega
 . exact Ok hp
theorem _root_.Go.HL.xCallV_func {P:Program} {G h:Hp} {y:Value} {args:Array Value} {K:VK} (H:opH P G (ij y args) h K):∃fn a b,y = .func fn a b:=by
 cases y<;>first|exact ⟨_,_,_,rfl⟩|exact H.elim
theorem Z9 {G:Hp} {a b y:Value} {h:Hp} {K:VK}:opE P_ G (ij (.func (.func 165) #[] #[a,b]) #[y]) h K=al P_ G 165 #[y,a,b] h K:=by kernel_rfl
theorem Ch.put2 {q:Par} {ms mw mp:Nat} {c:Cs} {o1 o3 o':Obj} {ip P2 b:Hp} {p:Pose} {v:Value} (ch:Ch q b ms mw mp c) (k1:MapO o1 c.L1) (k2:MapO o' (mput c.L2 (numP q.w q.k p) v)) (k3:MapO o3 c.L3) {h:Hp} {R:List Hp}
   (s:HL.Sep (noHp.set ms o1::noHp.set mw o'::noHp.set mp o3::c.P::ip::P2::R) h) (hp:dg q.w q.k q.f p=true) (hn:mget c.L2 (numP q.w q.k p)=none) (sl:WaP q ip P2 v (lr q.w q.k q.f p)):
   ∃a' c',Ch q a' ms mw mp c'/\c.le c'/\mget c'.L2 (numP q.w q.k p)=some v/\c'.L1=c.L1/\c'.L3=c.L3/\HL.Sep (a'::R) h:=by
 obtain ⟨P',s1,t1⟩:=Sep.pack [ip,P2,c.P] (R:=noHp.set ms o1::noHp.set mw o'::noHp.set mp o3::R) (Sep.fr (R:=R) [noHp.set ms o1,noHp.set mw o',noHp.set mp o3,c.P,ip,P2] s [4,5,3,0,1,2] (by decide) rfl)
 obtain ⟨a',s2,t2⟩:=Sep.pack [noHp.set ms o1,noHp.set mw o',noHp.set mp o3,P'] (R:=R) (Sep.fr (R:=R) [P',noHp.set ms o1,noHp.set mw o',noHp.set mp o3] s1 [1,2,3,0] (by decide) rfl)
 refine ⟨a',⟨c.L1,mput c.L2 (numP q.w q.k p) v,c.L3,P'⟩,⟨⟨o1,o',o3,k1,k2,k3,t2⟩,?_,?_,ch.m3⟩,⟨.refl _,?_,.refl _,t1.in 2 rfl⟩,by rw [ol,if_pos rfl],rfl,rfl,s2⟩
 . intro n u hu
   obtain ⟨p',f',n',s'⟩:=ch.m1 n u hu
   exact ⟨p',f',n',s'.le (t1.in 2 rfl)⟩
 . intro n u hu
   rw [ol]at hu
   split at hu
   . rename_i e
     cases hu
     refine ⟨p,hp,e,?_⟩
     obtain ⟨raws,r1,r2,r3⟩:=sl
     refine ⟨raws,r1.le (t1.in 0 rfl),by rw [r2];simp [qr],fun i x y hx hy=>?_⟩
     unfold qr at hy
     rw [List.getElem?_map]at hy
     cases hm:(lr q.w q.k q.f p)[i]? with
     |none=>rw [hm]at hy;cases hy
     |some m=>
       rw [hm]at hy
       cases hy
       obtain ⟨q1,q2,q3,q4⟩:=r3 i x m hx hm
       exact ⟨q1,q2,q3,by have:=q4.le (t1.in 1 rfl);exact this⟩
   . obtain ⟨p',f',n',s'⟩:=ch.m2 n u hu
     exact ⟨p',f',n',s'.le (t1.in 2 rfl)⟩
 . intro n u hu
   rw [ol]
   split
   . rename_i e;rw [<- e,hn]at hu;cases hu
   . exact hu
theorem Rn {G h a ak:Hp} {R:List Hp} {q:Par} {sp kp ms mw mp mt hp:Nat} {c:Cs} {p:Pose} (ch:Ch q a ms mw mp c) (kpk:KP ak kp q.C.un q.C.ac q.C.sp) (bg:Bg G q sp kp ms mw mp mt hp) (s:HL.Sep (a::ak::R) h) (hpf:dg q.w q.k q.f p=true):
   al P_ G 121 #[.pointer (some ⟨sp,0,none⟩),ja p] h (fun u h'=>∃a' ak' c',Ch q a' ms mw mp c'/\KP ak' kp q.C.un q.C.ac q.C.sp/\c.le c'/\c'.L1=c.L1/\mget c'.L2 (numP q.w q.k p)=some u/\HL.Sep (a'::ak'::R) h'/\Dis G h'):=by
 obtain ⟨ab,cb,ap,cp,ar,cr,az,cs,gp,tp,hbg⟩:=id bg.ex
 refine al.assume fun d=>as6 (by simp) ?_
 have hin:=Am hpf
 obtain ⟨_,_,gs,_⟩:=hbg h d
 have hpb:=in_pb gs.w2 gs.k2 hin
 unfold S121
 simp only [tn]
 intro x0 hx0 gx0 xp hxp gxp
 have s1:=(s.new (o := .cells #[.pointer (some ⟨sp,0,none⟩)] 127 (0,0)) hx0).new (o := .cells #[p.x,p.y,.bool p.d] 30 (0,0)) hxp
 have d1:=(d.set (o := .cells #[.pointer (some ⟨sp,0,none⟩)] 127 (0,0)) gx0).set (o := .cells #[p.x,p.y,.bool p.d] 30 (0,0)) gxp
 generalize Hp.set (Hp.set h x0 _) xp _=h1 at s1 d1 ⊢
 have c01:af G h1 ⟨x0,0,none⟩=some (.pointer (some ⟨sp,0,none⟩)):=by rw [aj (ai (s1.at 1 rfl ag))];rfl
 have cx1:∀k,af G h1 ⟨xp,k,none⟩=_:=fun k=>aj (ai (s1.at 0 rfl ag))
 try simp only [tn,c01,cx1]
 have s1':=Sep.fr [_,_,_,_] s1 [2,3,1,0] (by decide) rfl
 refine (zd ch bg s1' hpf).mono ?_
 rintro _ h2 ⟨rfl,a2,c2,ch2,cl2,e1,e2,e3,hm3,s2,d2⟩
 have b2:=vh (hbg h2 d2).2.1
 have c02:af G h2 ⟨x0,0,none⟩=some (.pointer (some ⟨sp,0,none⟩)):=by rw [aj (ai (s2.at 2 rfl ag))];rfl
 have cx2:∀k,af G h2 ⟨xp,k,none⟩=_:=fun k=>aj (ai (s2.at 3 rfl ag))
 obtain ⟨o1,o2,o3,m1,m2,m3,sa⟩:=id ch2.sep
 have hmw:h2 mw=some o2:=(s2.open sa).at 1 rfl ag
 try simp only [tn,c02,b2.mw]
 rw [Ft unmw un3r zerow (ai hmw) m2]
 cases hg:mget c2.L2 (numP q.w q.k p)with
 |some v=>
   have hw:=ch2.look2 hpf hg
   obtain ⟨raws,r1,_,_⟩:=hw
   obtain ⟨sv,cv,rfl,_⟩:=r1.len (by decide)
   try simp only [tn,Option.getD_some,Option.isSome_some]
   intro xl hxl gxl
   have s3:=s2.past (o := .cells #[.slice sv raws.length cv] 229 (0,0)) hxl
   have d3:=d2.set (o := .cells #[.slice sv raws.length cv] 229 (0,0)) gxl
   have hxs:(h2.set xl (.cells #[.slice sv raws.length cv] 229 (0,0))) xl=some (.cells #[.slice sv raws.length cv] 229 (0,0)):=ag
   rw [dh sz229 rfl ag (by simp),set_set]
   try simp only [tn,List.set_cons_zero]
   generalize Hp.set h2 xl _=h3 at s3 d3 hxs ⊢
   have cl:af G h3 ⟨xl,0,none⟩=some (.slice sv raws.length cv):=by rw [aj (ai hxs)];rfl
   try simp (disch:=first|decide|omega) only [tn,Nat.reduceAdd,Nat.reduceMul,cl]
   exact ⟨a2,ak,c2,ch2,kpk,cl2,e1,hg,Sep.fr (R:=R) [_,_,_,_] s3 [0,1] (by decide) rfl,d3⟩
 |none=>
   try simp only [tn,Option.getD_none,Option.isSome_none]
   intro xl hxl gxl
   obtain ⟨Qr,s2r,sR⟩:=Sep.rest [a2,ak,noHp.set x0 (.cells #[.pointer (some ⟨sp,0,none⟩)] 127 (0,0)),noHp.set xp (.cells #[p.x,p.y,.bool p.d] 30 (0,0))] s2
   have s3:=s2r.new (o := .cells #[.slice none 0 0] 229 (0,0)) hxl
   have d3:=d2.set (o := .cells #[.slice none 0 0] 229 (0,0)) gxl
   rw [dh sz229 rfl ag (by simp),set_set]
   try simp only [tn,List.set_cons_zero]
   generalize Hp.set h2 xl _=h3 at s3 d3 ⊢
   unfold Y9
   obtain ⟨ca3,c3,gs3,ts3⟩:=hbg h3 d3
   have b3:=vh c3
   have c03:af G h3 ⟨x0,0,none⟩=some (.pointer (some ⟨sp,0,none⟩)):=by rw [aj (ai (s3.at 3 rfl ag))];rfl
   have cx3:∀k,af G h3 ⟨xp,k,none⟩=_:=fun k=>aj (ai (s3.at 4 rfl ag))
   try simp (disch:=decide) only [tn,c03,b3.g,cx3]
   refine Sg.mono ?_
   rintro _ h4 ⟨b1,b2',rfl,s4,d4⟩
   have s5:HL.Sep [noHp.set xl (.cells #[.slice none 0 0] 229 (0,0)),a2,ak,noHp.set x0 (.cells #[.pointer (some ⟨sp,0,none⟩)] 127 (0,0)),noHp.set xp (.cells #[p.x,p.y,.bool p.d] 30 (0,0)),Qr,noHp.set b1 (.cells #[.pointer (some ⟨gp,0,none⟩)] 68 (0,0)),noHp.set b2' (.cells #[p.x,p.y,.bool p.d] 30 (0,0))] h4:=(s4.pick 2 rfl rfl).open s3
   try simp (disch:=first|decide|omega) only [tn,Nat.reduceAdd,Nat.reduceMul]
   intro y l oo hl gl hoo hy
   rw [Z9]
   have yl:=Sd (xl:=xl) (x0:=x0) bg gl hoo (by simp (disch:=decide) only [tn]) (by simp (disch:=decide) only [tn]) hy
   obtain ⟨ay,s6,say⟩:=Sep.pack [noHp,noHp.set xl (.cells #[.slice none 0 0] 229 (0,0)),noHp,ak,noHp.set x0 (.cells #[.pointer (some ⟨sp,0,none⟩)] 127 (0,0)),noHp.set l (oo none)] (R:=[noHp.set b1 (.cells #[.pointer (some ⟨gp,0,none⟩)] 68 (0,0)),noHp.set b2' (.cells #[p.x,p.y,.bool p.d] 30 (0,0)),a2,noHp.set xp (.cells #[p.x,p.y,.bool p.d] 30 (0,0)),Qr])
     ((s5.new (o:=oo none) hl).none.none.sel [0,3,1,5,6,2,9,10,4,7,8] (by decide) rfl)
   obtain ⟨Qy,s7,sQy⟩:=Sep.rest [ay] s6
   have d7:Dis G (h4.set l (oo none)):=d4.set gl
   have yb:MvY q kp sp xl x0 l (oo none) [] ay:=⟨noHp,.slice none 0 0,noHp,ak,⟨[],Slc.nil,rfl,fun i x m hx=>by simp at hx⟩,kpk,say⟩
   have hyf:=xCallV_func (yl [] (m9 p) ay Qy _ (by simp) (Ok hpb) yb s7 d7)
   have dQ:Dis G Qy:=fun b o e=>d7 b o (s7.in 1 rfl _ _ e)
   refine (Sf hyf yl yb s7 (sQy.at 0 rfl ag) (sQy.at 1 rfl ag) (hbg Qy dQ).2.2.1 bg.st hpb (by have:=Mh (w:=q.w) (k:=q.k) (f:=q.f) (p:=p);omega) (aj0 hpb)).mono ?_
   rintro _ h8 ⟨a8,s8,d8,ip,v,P2,ak8,wa,kpk8,sa8⟩
   have s9:=Sep.unrest [ip,noHp.set xl (.cells #[v] 229 (0,0)),P2,ak8,noHp.set x0 (.cells #[.pointer (some ⟨sp,0,none⟩)] 127 (0,0)),noHp.set l (oo none)] (s8.open sa8) sQy
   obtain ⟨h9,s10,t10⟩:=Sep.pack [ip,noHp.set xl (.cells #[v] 229 (0,0)),P2,ak8,noHp.set x0 (.cells #[.pointer (some ⟨sp,0,none⟩)] 127 (0,0)),a2,Qr] (R:=[noHp.set l (oo none)]) (s9.sel [0,1,2,3,4,8,10,5] (by decide) rfl)
   have d9:Dis G h9:=fun b o e=>d8 b o (s10.in 0 rfl _ _ e)
   refine ⟨h9,s10.in 0 rfl,?_,.inl ⟨s10.at 1 rfl ag,?_⟩⟩
   . rcases s10.apart (b:=noHp.set l (oo none)) (by simp) l with e|e
     . exact e
     . rw [ag]at e;cases e
   try simp only [tn]
   unfold Y8
   have b9:=vh (hbg h9 d9).2.1
   have c09:af G h9 ⟨x0,0,none⟩=some (.pointer (some ⟨sp,0,none⟩)):=by rw [aj (ai (t10.at 4 rfl ag))];rfl
   have cl9:af G h9 ⟨xl,0,none⟩=some v:=by rw [aj (ai (t10.at 1 rfl ag))];rfl
   have t11:=(t10.pick 5 rfl rfl).open sa
   have hmw9:h9 mw=some o2:=t11.at 1 rfl ag
   have hv:∃s n c,v = .slice s n c:=by
     obtain ⟨raws,r1,_⟩:=wa
     obtain ⟨s,c,e,_⟩:=r1.len (by decide)
     exact ⟨s,_,c,e⟩
   obtain ⟨sv,nv,cv,rfl⟩:=hv
   try simp (disch:=decide) only [tn,c09,b9.mw,cl9]
   refine we unmw un3r hmw9 m2 fun o' mo'=>?_
   have s12:=(t11.pick 1 rfl rfl).put (o:=o') ag
   rw [set_set]at s12
   have d12:=d9.set (o:=o') (d9 _ _ hmw9)
   generalize Hp.set h9 mw _=h12 at s12 d12 ⊢
   have cl12:af G h12 ⟨xl,0,none⟩=some (.slice sv nv cv):=by rw [aj (ai (s12.at 5 rfl ag))];rfl
   try simp only [tn,cl12]
   obtain ⟨a13,c13,ch13,cl13,g13,l1,l3,s13⟩:=Ch.put2 (R:=[ak8,Qr]) ch2 m1 mo' m3 (s12.sel [1,0,2,3,4,6,7,9] (by decide) rfl) hpf hg wa
   refine ⟨a13,ak8,c13,ch13,kpk8,cl2.trans cl13,by rw [l1,e1],g13,Sep.unrest [a13,ak8] s13 sR,d12⟩
end Go.Proofs.YtfflipnhffknnaaGreatDoor
end
section
namespace Go.Proofs.YtfflipnhffknnaaGreatDoor
open Go Go.HL
section
variable (G:Hp) (K:EK) (r:Rg) (h:Hp)
def md63:Nat->Hint
 |_=>mh false [] [] [] false
def S63:Prop:=
 o_ G (Instr.build 218 #[(0,(r 0))]) h fun v0 h0=>o_ G (Instr.box 218 v0) h0 fun v1 h1=>
 K .ret (u5 r 2 (.pointer none) 3 (r 0) 4 v0 5 v1 2 v1) h1
theorem enter63:Ent 6 63 [.tmp 2] S63:=ent_ (m:=md63) (c:=(Tryz.f63.body.getD .skip)) (fun _ _ _ _=>by kernel_rfl) Tryz.func63 rfl rfl rfl
def md64:Nat->Hint
 |_=>mh false [] [] [] false
def ay6:Prop:=
 o_ G (Instr.fieldAt 139 (r 2) 1) h fun v2 h2=>o_ G (Instr.fieldAt 137 v2 1) h2 fun v3 h3=>o_ G (Instr.loadAt 3 v3) h3 fun v4 h4=>o_ G (Instr.fieldAt 139 (r 3) 1) h4 fun v5 h5=>o_ G (Instr.fieldAt 137 v5 1) h5 fun v6 h6=>o_ G (Instr.loadAt 3 v6) h6 fun v7 h7=>o_ G (binOp .lss 3 v4 v7) h7 fun v8 h8=>
 K .ret (u8 r 31 v2 32 v3 33 v4 34 v5 35 v6 36 v7 37 v8 4 v8) h8
def S64:Prop:=
 o_ G (Instr.box 139 (r 0)) h fun v0 h0=>o_ G (Instr.box 139 (r 1)) h0 fun v1 h1=>o_ G (Instr.fieldAt 139 v0 0) h1 fun v9 h9=>o_ G (Instr.loadAt 3 v9) h9 fun v10 h10=>o_ G (Instr.fieldAt 139 v1 0) h10 fun v11 h11=>o_ G (Instr.loadAt 3 v11) h11 fun v12 h12=>
 opH P_ G (xEq .neq 3 (.tmp 0) (.tmp 0) v10 v12) h12 fun v13 h13=>
 cond v13
 (o_ G (Instr.fieldAt 139 v0 0) h13 fun v14 h14=>o_ G (Instr.loadAt 3 v14) h14 fun v15 h15=>o_ G (Instr.fieldAt 139 v1 0) h15 fun v16 h16=>o_ G (Instr.loadAt 3 v16) h16 fun v17 h17=>o_ G (binOp .lss 3 v15 v17) h17 fun v18 h18=>
 K .ret (u5 (u10 r 2 v0 3 v1 4 (.bool false) 6 v9 7 v10 8 v11 9 v12 10 v13 5 v13 11 v14) 12 v15 13 v16 14 v17 15 v18 4 v18) h18)
 (o_ G (Instr.fieldAt 139 v0 1) h13 fun v19 h19=>o_ G (Instr.fieldAt 137 v19 0) h19 fun v20 h20=>o_ G (Instr.loadAt 3 v20) h20 fun v21 h21=>o_ G (Instr.fieldAt 139 v1 1) h21 fun v22 h22=>o_ G (Instr.fieldAt 137 v22 0) h22 fun v23 h23=>o_ G (Instr.loadAt 3 v23) h23 fun v24 h24=>
 opH P_ G (xEq .neq 3 (.tmp 0) (.tmp 0) v21 v24) h24 fun v25 h25=>
 cond v25
 (o_ G (Instr.fieldAt 139 v0 1) h25 fun v26 h26=>o_ G (Instr.fieldAt 137 v26 0) h26 fun v27 h27=>o_ G (Instr.loadAt 3 v27) h27 fun v28 h28=>o_ G (Instr.fieldAt 139 v1 1) h28 fun v29 h29=>o_ G (Instr.fieldAt 137 v29 0) h29 fun v30 h30=>o_ G (Instr.loadAt 3 v30) h30 fun v31 h31=>o_ G (binOp .lss 3 v28 v31) h31 fun v32 h32=>
 K .ret (u5 (u10 (u10 r 2 v0 3 v1 4 (.bool false) 6 v9 7 v10 8 v11 9 v12 10 v13 5 v13 17 v19) 18 v20 19 v21 20 v22 21 v23 22 v24 23 v25 16 v25 24 v26 25 v27 26 v28) 27 v29 28 v30 29 v31 30 v32 4 v32) h32)
 (ay6 G K (u7 (u10 r 2 v0 3 v1 4 (.bool false) 6 v9 7 v10 8 v11 9 v12 10 v13 5 v13 17 v19) 18 v20 19 v21 20 v22 21 v23 22 v24 23 v25 16 v25) h25))
theorem enter64:Ent 38 64 [.tmp 4] S64:=ent_ (m:=md64) (c:=(Tryz.f64.body.getD .skip)) (fun _ _ _ _=>by kernel_rfl) Tryz.func64 rfl rfl rfl
def md68:Nat->Hint
 |_=>mh false [] [] [] false
def ay4:Prop:=
 opH P_ G (xNil (r 0)) h fun v7 h7=>o_ G (Instr.fieldAt 218 v7 1) h7 fun v8 h8=>o_ G (Instr.loadAt 216 v8) h8 fun v9 h9=>o_ G (Builtin.len_ #[216] 3 #[v9]) h9 fun v10 h10=>o_ G (binOp .sub 3 v10 (.int .i64 1)) h10 fun v11 h11=>
 c_ G 118 #[(r 0),(.int .i64 0),v11] h11 fun v12 h12=>
 opH P_ G (xNil (r 0)) h12 fun v13 h13=>o_ G (Instr.fieldAt 218 v13 1) h13 fun v14 h14=>o_ G (Instr.loadAt 216 v14) h14 fun v15 h15=>o_ G (Instr.build 227 #[]) h15 fun v16 h16=>o_ G (Instr.indexAt 216 v15 v11) h16 fun v17 h17=>
 opH P_ G (su (Instr.storeAt 227 v17 v16)) h17 fun v18 h18=>
 opH P_ G (xNil (r 0)) h18 fun v19 h19=>o_ G (Instr.fieldAt 218 v19 1) h19 fun v20 h20=>o_ G (Instr.loadAt 216 v20) h20 fun v21 h21=>o_ G (Instr.sliceAt 216 v21 none (some v11) none) h21 fun v22 h22=>
 opH P_ G (xNil (r 0)) h22 fun v23 h23=>o_ G (Instr.fieldAt 218 v23 1) h23 fun v24 h24=>
 opH P_ G (su (Instr.storeAt 216 v24 v22)) h24 fun v25 h25=>
 c_ G 119 #[(r 0),(.int .i64 0)] h25 fun v26 h26=>o_ G (Instr.loadAt 139 (r 4)) h26 fun v27 h27=>
 opH P_ G (su (Instr.storeAt 139 (r 2) v27)) h27 fun v28 h28=>
 K .ret (u10 (u10 (u10 r 15 (r 0) 16 v7 17 v8 18 v9 19 v10 20 v11 6 v11 21 (r 0) 22 v11 23 v12) 24 (r 0) 25 v13 26 v14 27 v15 28 v11 29 v16 30 v17 31 (r 0) 32 (r 0) 33 v19) 34 v20 35 v21 36 v11 37 v22 38 v23 39 v24 40 (r 0) 41 v26 42 v27 3 (.bool true)) h28
def S68:Prop:=
 o_ G (Instr.alloc 139 true (.tuple #[])) h fun v0 h0=>
 c_ G 117 #[(r 0)] h0 fun v1 h1=>o_ G (Instr.extract v1 0) h1 fun v2 h2=>o_ G (Instr.extract v1 1) h2 fun v3 h3=>o_ G (Instr.alloc 139 true (.tuple #[])) h3 fun v4 h4=>
 opH P_ G (su (Instr.storeAt 139 v4 v2)) h4 fun v5 h5=>o_ G (Op.unary .not v3) h5 fun v6 h6=>
 cond v6
 (o_ G (Instr.loadAt 139 v4) h6 fun v29 h29=>
 opH P_ G (su (Instr.storeAt 139 v0 v29)) h29 fun v30 h30=>
 K .ret (u3 (u10 r 2 v0 3 (.bool false) 8 (r 0) 9 v1 7 v1 10 v2 11 v3 4 v4 5 v3 12 v3) 13 v6 14 v29 3 (.bool false)) h30)
 (ay4 G K (upd (u10 r 2 v0 3 (.bool false) 8 (r 0) 9 v1 7 v1 10 v2 11 v3 4 v4 5 v3 12 v3) 13 v6) h6)
theorem X3:Ent 43 68 [.cell 2 139,.tmp 3] S68:=ent_ (m:=md68) (c:=(Tryz.f68.body.getD .skip)) (fun _ _ _ _=>by kernel_rfl) Tryz.func68 rfl rfl rfl
def md116:Nat->Hint
 |2=>mh false [0,0,2,6,14,0,0,64,192,448,992,2016,4094,8191,16383,32767] [n_,n_,n_,n_,m_,m_,n_,n_,n_,m_,n_,.alloc,e_,n_,n_,.store] (fs 16) false
 |_=>mh false [] [] [] false
def Zd:Prop:=
 bm P_ noHp noHp (xNil (r 0)) h fun v8 h8=>
 p_ (Instr.fieldAt 218 v8 1) h8 fun v9 h9=>
 w_ G h (Instr.loadAt 216 v9) h9 fun v10 h10=>
 w_ G h (Instr.loadAt 139 (r 3)) h10 fun v11 h11=>
 bm P_ noHp noHp (xNil (r 0)) h11 fun v12 h12=>
 p_ (Instr.fieldAt 218 v12 2) h12 fun v13 h13=>
 w_ G h (Instr.loadAt 3 v13) h13 fun v14 h14=>
 p_ (Instr.build 227 #[(0,v11),(1,v14)]) h14 fun v15 h15=>o_ G (Instr.buildSlice 216 1 #[(0,v15)]) h15 fun v16 h16=>o_ G (Builtin.append_ #[216,216] 216 #[v10,v16]) h16 fun v17 h17=>
 bm P_ noHp noHp (xNil (r 0)) h17 fun v18 h18=>
 p_ (Instr.fieldAt 218 v18 1) h18 fun v19 h19=>
 opH P_ G (su (Instr.storeAt 216 v19 v17)) h19 fun v20 h20=>
 opH P_ G (xNil (r 0)) h20 fun v21 h21=>o_ G (Instr.fieldAt 218 v21 2) h21 fun v22 h22=>o_ G (Instr.loadAt 3 v22) h22 fun v23 h23=>o_ G (binOp .add 3 v23 (.int .i64 1)) h23 fun v24 h24=>
 opH P_ G (xNil (r 0)) h24 fun v25 h25=>o_ G (Instr.fieldAt 218 v25 2) h25 fun v26 h26=>
 opH P_ G (su (Instr.storeAt 3 v26 v24)) h26 fun v27 h27=>
 opH P_ G (xNil (r 0)) h27 fun v28 h28=>o_ G (Instr.fieldAt 218 v28 1) h28 fun v29 h29=>o_ G (Instr.loadAt 216 v29) h29 fun v30 h30=>o_ G (Builtin.len_ #[216] 3 #[v30]) h30 fun v31 h31=>o_ G (binOp .sub 3 v31 (.int .i64 1)) h31 fun v32 h32=>
 c_ G 147 #[(r 0),v32] h32 fun v33 h33=>
 K .normal (u10 (u10 (u10 r 13 (r 0) 14 (r 0) 15 v8 16 v9 17 v10 18 v11 19 (r 0) 20 v12 21 v13 22 v14) 23 v15 24 v16 25 v17 26 v18 27 v19 28 (r 0) 29 v21 30 v22 31 v23 32 v24) 33 v25 34 v26 35 (r 0) 36 (r 0) 37 v28 38 v29 39 v30 40 v31 41 v32 42 v33) h33
def S116:Prop:=
 o_ G (Instr.box 139 (r 1)) h fun v0 h0=>
 opH P_ G (xEq .eql 132 (.tmp 0) (.const .nilFunc) (r 0) (.pointer none)) h0 fun v1 h1=>g_ v1 false (fun K1=>K1 (r 0) h1) h1 fun v2 h2=>g_ v1 false (opH P_ G (xNil v2) h2) h2 fun v3 h3=>g_ v1 false (o_ G (Instr.fieldAt 218 v3 0) h3) h3 fun v4 h4=>g_ v1 false (o_ G (Instr.loadAt 140 v4) h4) h4 fun v5 h5=>g_ v1 false (opH P_ G (xEq .eql 140 (.tmp 0) (.const .nilFunc) v5 .nilFunc) h5) h5 fun v6 h6=>
 opH P_ G (bj v1 (.bool true) v6) h6 fun v7 h7=>
 (fun q=>cond v7
 (K .ret q h7)
 (Zd G K q h7))
 (u10 r 3 v0 4 (r 0) 5 v1 6 v1 7 v2 8 v3 9 v4 10 v5 11 v6 12 v7)
theorem at1:Ent 43 116 [] S116:=ent_ (m:=md116) (c:=(Tryz.f116.body.getD .skip)) (fun _ _ _ _=>by kernel_rfl) Tryz.func116 rfl rfl rfl
def md117:Nat->Hint
 |_=>mh false [] [] [] false
def Zc:Prop:=
 opH P_ G (xNil (r 0)) h fun v9 h9=>o_ G (Instr.fieldAt 218 v9 1) h9 fun v10 h10=>o_ G (Instr.loadAt 216 v10) h10 fun v11 h11=>o_ G (Instr.indexAt 216 v11 (.int .i64 0)) h11 fun v12 h12=>o_ G (Instr.fieldAt 227 v12 0) h12 fun v13 h13=>o_ G (Instr.loadAt 139 v13) h13 fun v14 h14=>
 opH P_ G (su (Instr.storeAt 139 (r 2) v14)) h14 fun v15 h15=>
 K .ret (u8 r 16 (r 0) 17 v9 18 v10 19 v11 20 v12 21 v13 22 v14 3 (.bool true)) h15
def S117:Prop:=
 o_ G (Instr.alloc 139 true (.tuple #[])) h fun v0 h0=>
 opH P_ G (xEq .eql 132 (.tmp 0) (.const .nilFunc) (r 0) (.pointer none)) h0 fun v1 h1=>g_ v1 false (fun K1=>K1 (r 0) h1) h1 fun v2 h2=>g_ v1 false (opH P_ G (xNil v2) h2) h2 fun v3 h3=>g_ v1 false (o_ G (Instr.fieldAt 218 v3 1) h3) h3 fun v4 h4=>g_ v1 false (o_ G (Instr.loadAt 216 v4) h4) h4 fun v5 h5=>g_ v1 false (o_ G (Builtin.len_ #[216] 3 #[v5]) h5) h5 fun v6 h6=>g_ v1 false (opH P_ G (xEq .eql 3 (.tmp 0) (.const .nilFunc) v6 (.int .i64 0)) h6) h6 fun v7 h7=>
 opH P_ G (bj v1 (.bool true) v7) h7 fun v8 h8=>
 cond v8
 (o_ G (Instr.alloc 139 true (.tuple #[])) h8 fun v16 h16=>o_ G (Instr.loadAt 139 v16) h16 fun v17 h17=>
 opH P_ G (su (Instr.storeAt 139 v0 v17)) h17 fun v18 h18=>
 K .ret (u5 (u10 r 2 v0 3 (.bool false) 5 (r 0) 6 v1 7 v1 8 v2 9 v3 10 v4 11 v5 12 v6) 13 v7 14 v8 4 v16 15 v17 3 (.bool false)) h18)
 (Zc G K (u2 (u10 r 2 v0 3 (.bool false) 5 (r 0) 6 v1 7 v1 8 v2 9 v3 10 v4 11 v5 12 v6) 13 v7 14 v8) h8)
theorem at0:Ent 23 117 [.cell 2 139,.tmp 3] S117:=ent_ (m:=md117) (c:=(Tryz.f117.body.getD .skip)) (fun _ _ _ _=>by kernel_rfl) Tryz.func117 rfl rfl rfl
def md118:Nat->Hint
 |0=>mh false [0,1,3,7,0,0,32,96,224,0,0,1024,3072,7168,0,31744,64512,0,131072,393216,917504,0,4063232,8257536,16776703,33553919,67108863,134217727] [n_,n_,n_,m_,n_,n_,n_,n_,m_,n_,n_,n_,n_,m_,n_,n_,m_,n_,n_,n_,m_,n_,n_,m_,n_,.store,n_,.store] (fs 28) false
 |_=>mh false [] [] [] false
def S118:Prop:=
 bm P_ noHp noHp (xNil (r 0)) h fun v0 h0=>
 p_ (Instr.fieldAt 218 v0 1) h0 fun v1 h1=>
 w_ G h (Instr.loadAt 216 v1) h1 fun v2 h2=>
 bm P_ noHp noHp (xNil (r 0)) h2 fun v3 h3=>
 p_ (Instr.fieldAt 218 v3 1) h3 fun v4 h4=>
 w_ G h (Instr.loadAt 216 v4) h4 fun v5 h5=>
 bm P_ noHp noHp (xNil (r 0)) h5 fun v6 h6=>
 p_ (Instr.fieldAt 218 v6 1) h6 fun v7 h7=>
 w_ G h (Instr.loadAt 216 v7) h7 fun v8 h8=>
 p_ (Instr.indexAt 216 v8 (r 2)) h8 fun v9 h9=>
 w_ G h (Instr.loadAt 227 v9) h9 fun v10 h10=>
 bm P_ noHp noHp (xNil (r 0)) h10 fun v11 h11=>
 p_ (Instr.fieldAt 218 v11 1) h11 fun v12 h12=>
 w_ G h (Instr.loadAt 216 v12) h12 fun v13 h13=>
 p_ (Instr.indexAt 216 v13 (r 1)) h13 fun v14 h14=>
 w_ G h (Instr.loadAt 227 v14) h14 fun v15 h15=>
 p_ (Instr.indexAt 216 v2 (r 1)) h15 fun v16 h16=>
 opH P_ G (su (Instr.storeAt 227 v16 v10)) h16 fun v17 h17=>
 p_ (Instr.indexAt 216 v5 (r 2)) h17 fun v18 h18=>
 opH P_ G (su (Instr.storeAt 227 v18 v15)) h18 fun v19 h19=>
 K .normal (u6 (u10 (u10 r 6 (r 0) 7 v0 8 v1 9 v2 10 (r 1) 11 (r 0) 12 v3 13 v4 14 v5 15 (r 2)) 16 (r 0) 17 v6 18 v7 19 v8 20 (r 2) 21 v9 22 v10 23 (r 0) 24 v11 25 v12) 26 v13 27 (r 1) 28 v14 29 v15 30 v16 31 v18) h19
theorem as9:Ent 32 118 [] S118:=ent_ (m:=md118) (c:=(Tryz.f118.body.getD .skip)) (fun _ _ _ _=>by kernel_rfl) Tryz.func118 rfl rfl rfl
def md119:Nat->Hint
 |_=>mh false [] [] [] false
def Kr:Prop:=
 c_ G 118 #[(r 0),(r 1),(r 4)] h fun v6 h6=>
 K .normal (u6 r 36 (r 0) 37 (r 1) 38 (r 4) 39 v6 40 (r 4) 1 (r 4)) h6
def Ks:Prop:=
 opH P_ G (xEq .eql 3 (.tmp 0) (.tmp 0) (r 4) (r 1)) h fun v5 h5=>
 cond v5
 (K .ret (u3 r 33 (r 4) 34 (r 1) 35 v5) h5)
 (Kr G K (u3 r 33 (r 4) 34 (r 1) 35 v5) h5)
def ot:Prop:=
 o_ G (binOp .add 3 (r 15) (.int .i64 1)) h fun v8 h8=>
 K .normal (u2 r 32 v8 15 v8) h8
def ul:Prop:=
 o_ G (Instr.index 110 (r 14) (r 15)) h fun v9 h9=>
 opH P_ G (xNil (r 0)) h9 fun v10 h10=>o_ G (Instr.fieldAt 218 v10 1) h10 fun v11 h11=>o_ G (Instr.loadAt 216 v11) h11 fun v12 h12=>o_ G (Builtin.len_ #[216] 3 #[v12]) h12 fun v13 h13=>o_ G (binOp .lss 3 v9 v13) h13 fun v14 h14=>g_ v14 true (fun K1=>K1 (r 0) h14) h14 fun v15 h15=>g_ v14 true (fun K1=>K1 v9 h15) h15 fun v16 h16=>g_ v14 true (fun K1=>K1 (r 4) h16) h16 fun v17 h17=>g_ v14 true (c_ G 148 #[v15,v16,v17] h17) h17 fun v18 h18=>
 opH P_ G (bj v14 v18 (.bool false)) h18 fun v19 h19=>
 (fun q=>cond v19
 (ot G K (u2 q 31 v9 4 v9) h19)
 (ot G K q h19))
 (u5 (u10 r 17 v9 6 v9 18 v9 19 (r 0) 20 v10 21 v11 22 v12 23 v13 24 v14 25 v14) 26 v15 27 v16 28 v17 29 v18 30 v19)
def Kq (r:Rg) (h:Hp) (K:EK):Prop:=
 o_ G (binOp .lss 3 (r 15) (.int .i64 2)) h fun v7 h7=>
 cond v7
 (ul G K (upd r 16 v7) h7)
 (K (.exit 2) (upd r 16 v7) h7)
def Zb (r:Rg) (h:Hp) (K:EK):Prop:=
 o_ G (binOp .mul 3 (.int .i64 2) (r 1)) h fun v0 h0=>o_ G (binOp .add 3 v0 (.int .i64 1)) h0 fun v1 h1=>o_ G (binOp .mul 3 (.int .i64 2) (r 1)) h1 fun v2 h2=>o_ G (binOp .add 3 v2 (.int .i64 2)) h2 fun v3 h3=>o_ G (Instr.build 110 #[(0,v1),(1,v3)]) h3 fun v4 h4=>
 dl (Kq G) (u10 r 7 (r 1) 4 (r 1) 8 (r 1) 9 v0 10 v1 11 (r 1) 12 v2 13 v3 14 v4 15 (.int .i64 0)) h4 (bo 2 (ci (Ks G K) (bo 1 K)))
def S119:Prop:=
 dl (Zb G) r h (bo 0 K)
theorem as8:Ent 41 119 [] S119:=ent_ (m:=md119) (c:=(Tryz.f119.body.getD .skip)) (fun _ _ _ _=>by kernel_rfl) Tryz.func119 rfl rfl rfl
def md147:Nat->Hint
 |_=>mh false [] [] [] false
def J4:Prop:=
 o_ G (binOp .sub 3 (r 1) (.int .i64 1)) h fun v8 h8=>o_ G (binOp .quo 3 v8 (.int .i64 2)) h8 fun v9 h9=>
 c_ G 118 #[(r 0),(r 1),v9] h9 fun v10 h10=>o_ G (binOp .sub 3 (r 1) (.int .i64 1)) h10 fun v11 h11=>o_ G (binOp .quo 3 v11 (.int .i64 2)) h11 fun v12 h12=>
 K .normal (u10 r 14 (r 0) 15 (r 1) 16 (r 1) 17 v8 18 v9 19 v10 20 (r 1) 21 v11 22 v12 1 v12) h12
def Yq (r:Rg) (h:Hp) (K:EK):Prop:=
 o_ G (binOp .gtr 3 (r 1) (.int .i64 0)) h fun v0 h0=>g_ v0 true (fun K1=>K1 (r 0) h0) h0 fun v1 h1=>g_ v0 true (fun K1=>K1 (r 1) h1) h1 fun v2 h2=>g_ v0 true (fun K1=>K1 (r 1) h2) h2 fun v3 h3=>g_ v0 true (o_ G (binOp .sub 3 v3 (.int .i64 1)) h3) h3 fun v4 h4=>g_ v0 true (o_ G (binOp .quo 3 v4 (.int .i64 2)) h4) h4 fun v5 h5=>g_ v0 true (c_ G 148 #[v1,v2,v5] h5) h5 fun v6 h6=>
 opH P_ G (bj v0 v6 (.bool false)) h6 fun v7 h7=>
 (fun q=>cond v7
 (J4 G K q h7)
 (K (.exit 0) q h7))
 (u10 r 4 (r 1) 5 v0 6 v0 7 v1 8 v2 9 v3 10 v4 11 v5 12 v6 13 v7)
def S147:Prop:=
 dl (Yq G) r h (bo 0 K)
theorem aq6:Ent 23 147 [] S147:=ent_ (m:=md147) (c:=(Tryz.f147.body.getD .skip)) (fun _ _ _ _=>by kernel_rfl) Tryz.func147 rfl rfl rfl
def md148:Nat->Hint
 |1=>mh false [0,1,3,7,0,31,63,0,128,384,896,0,3968,8064,0,0,49279,131071] [n_,n_,n_,m_,n_,n_,m_,n_,n_,n_,m_,n_,n_,m_,.alloc,.alloc,.store,.store] [false,false,false,false,false,false,false,false,false,false,false,false,false,false,false,false,true,false] false
 |2=>mh false [0,1,3,7,0,16,0,64,255,511] [n_,n_,n_,m_,n_,m_,n_,m_,e_,n_] (fs 10) false
 |4=>mh false [0,1,3,7,0,16,0,64,255,511] [n_,n_,n_,m_,n_,m_,n_,m_,e_,n_] (fs 10) false
 |_=>mh false [] [] [] false
def Yp:Prop:=
 o_ G (Instr.fieldAt 227 (r 7) 1) h fun v14 h14=>o_ G (Instr.loadAt 3 v14) h14 fun v15 h15=>o_ G (Instr.fieldAt 227 (r 8) 1) h15 fun v16 h16=>o_ G (Instr.loadAt 3 v16) h16 fun v17 h17=>o_ G (binOp .lss 3 v15 v17) h17 fun v18 h18=>
 K .ret (u6 r 43 v14 44 v15 45 v16 46 v17 47 v18 6 v18) h18
def S148:Prop:=
 bm P_ noHp noHp (xNil (r 0)) h fun v0 h0=>
 p_ (Instr.fieldAt 218 v0 1) h0 fun v1 h1=>
 w_ G h (Instr.loadAt 216 v1) h1 fun v2 h2=>
 p_ (Instr.indexAt 216 v2 (r 1)) h2 fun v3 h3=>
 w_ G h (Instr.loadAt 227 v3) h3 fun v4 h4=>
 bm P_ noHp noHp (xNil (r 0)) h4 fun v5 h5=>
 p_ (Instr.fieldAt 218 v5 1) h5 fun v6 h6=>
 w_ G h (Instr.loadAt 216 v6) h6 fun v7 h7=>
 p_ (Instr.indexAt 216 v7 (r 2)) h7 fun v8 h8=>
 w_ G h (Instr.loadAt 227 v8) h8 fun v9 h9=>o_ G (Instr.alloc 227 true (.tuple #[])) h9 fun v10 h10=>o_ G (Instr.alloc 227 true (.tuple #[])) h10 fun v11 h11=>
 opH P_ G (su (Instr.storeAt 227 v10 v4)) h11 fun v12 h12=>h.le h12/\
 opH P_ G (su (Instr.storeAt 227 v11 v9)) h12 fun v13 h13=>
 bm P_ noHp noHp (xNil (r 0)) h13 fun v19 h19=>
 p_ (Instr.fieldAt 218 v19 0) h19 fun v20 h20=>
 w_ G h13 (Instr.loadAt 140 v20) h20 fun v21 h21=>
 p_ (Instr.fieldAt 227 v10 0) h21 fun v22 h22=>
 w_ G h13 (Instr.loadAt 139 v22) h22 fun v23 h23=>
 p_ (Instr.fieldAt 227 v11 0) h23 fun v24 h24=>
 w_ G h13 (Instr.loadAt 139 v24) h24 fun v25 h25=>
 opH P_ G (ij v21 #[v23,v25]) h25 fun v26 h26=>
 cond v26
 (K .ret (u8 (u10 (u10 r 6 (.bool false) 9 (r 0) 10 v0 11 v1 12 v2 13 (r 1) 14 v3 15 v4 16 (r 0) 17 v5) 18 v6 19 v7 20 (r 2) 21 v8 22 v9 7 v10 8 v11 24 (r 0) 25 v19 26 v20) 27 v21 28 v22 29 v23 30 v24 31 v25 32 v26 23 v26 6 (.bool true)) h26)
 (bm P_ noHp noHp (xNil (r 0)) h26 fun v27 h27=>
 p_ (Instr.fieldAt 218 v27 0) h27 fun v28 h28=>
 w_ G h26 (Instr.loadAt 140 v28) h28 fun v29 h29=>
 p_ (Instr.fieldAt 227 v11 0) h29 fun v30 h30=>
 w_ G h26 (Instr.loadAt 139 v30) h30 fun v31 h31=>
 p_ (Instr.fieldAt 227 v10 0) h31 fun v32 h32=>
 w_ G h26 (Instr.loadAt 139 v32) h32 fun v33 h33=>
 opH P_ G (ij v29 #[v31,v33]) h33 fun v34 h34=>
 cond v34
 (K .ret (u8 (u10 (u10 (u10 r 6 (.bool false) 9 (r 0) 10 v0 11 v1 12 v2 13 (r 1) 14 v3 15 v4 16 (r 0) 17 v5) 18 v6 19 v7 20 (r 2) 21 v8 22 v9 7 v10 8 v11 24 (r 0) 25 v19 26 v20) 27 v21 28 v22 29 v23 30 v24 31 v25 32 v26 23 v26 34 (r 0) 35 v27 36 v28) 37 v29 38 v30 39 v31 40 v32 41 v33 42 v34 33 v34 6 (.bool false)) h34)
 (Yp G K (u7 (u10 (u10 (u10 r 6 (.bool false) 9 (r 0) 10 v0 11 v1 12 v2 13 (r 1) 14 v3 15 v4 16 (r 0) 17 v5) 18 v6 19 v7 20 (r 2) 21 v8 22 v9 7 v10 8 v11 24 (r 0) 25 v19 26 v20) 27 v21 28 v22 29 v23 30 v24 31 v25 32 v26 23 v26 34 (r 0) 35 v27 36 v28) 37 v29 38 v30 39 v31 40 v32 41 v33 42 v34 33 v34) h34))
theorem aq5:Ent 48 148 [.tmp 6] S148:=ent_ (m:=md148) (c:=(Tryz.f148.body.getD .skip)) (fun _ _ _ _=>by kernel_rfl) Tryz.func148 rfl rfl rfl
end
end Go.Proofs.YtfflipnhffknnaaGreatDoor
end
section
namespace Go.Proofs.YtfflipnhffknnaaGreatDoor.Hw
open Go Go.HL Go.Proofs.Wt
def bRtH:=jq bC (jq (jq (jq (jq (jq @List.length_cons.{0} (jq @List.length_nil.{0} @al139)) (jq (jq @al227 @E3) (jq @bd218_0 @bd227_))) (jq (jq @Vz (jq @kg @bin_quo)) (jq (jq @bne_self_eq_false.{0} @ad4) (jq @vf @cf117)))) (jq (jq (jq @cf118 (jq @cf119 @cf147)) (jq (jq @cf148 @cf64) (jq @eq132s @eq140s))) (jq (jq @fa137_0 (jq @fa137_1 @Xt)) (jq (jq @Xs @fa218_0) (jq @am6 @fa218_1))))) (jq (jq (jq (jq @am5 (jq @fa218_2 @am4)) (jq (jq @fa227_0 @am3) (jq @fa227_1 @ix216))) (jq (jq @ix216p (jq @ld139 @ld139p)) (jq (jq @ld140 @ld140p) (jq @ld216 @ld216p)))) (jq (jq (jq @ld227p (jq @ld3 @ld3p)) (jq (jq @ln216 @ld) (jq @ir @yr))) (jq (jq (jq @uq @my) (jq @jy @kq)) (jq (jq @ag1 @st227w) (jq @st3s @true_and))))))
def itC:Cod It:=⟨4,fun x=>[.int .i64 x.k,.int .i64 x.m,.int .i64 x.s,.int .i64 x.n],fun _=>rfl,fun _ v hv=>by simp at hv;rcases hv with rfl|rfl|rfl|rfl<;>rfl⟩
theorem eoitem:gc P_ 227 itC.n 32:=eo227
structure HA (h:Hp) (hp bp cap:Nat) (L:List It) (n:Int) (t:List Value):Prop where
 hd:h hp=some (.cells #[.func (.func 64) #[] #[],.slice (some ⟨bp,0,none⟩) L.length cap,n] 218 (0,0))
 row:h bp=some (.cells (itC.rows L++t).toArray 227 (0,0))
theorem HA.ne {h:Hp} {hp bp cap:Nat} {L:List It} {n:Int} {t:List Value} (a:HA h hp bp cap L n t):hp≠bp:=fun e=>by
 have h1:=a.hd
 have h2:=a.row
 rw [e,h2]at h1
 simp at h1
theorem HA.le {h h':Hp} {hp bp cap:Nat} {L:List It} {n:Int} {t:List Value} (a:HA h hp bp cap L n t) (l:h.le h'):HA h' hp bp cap L n t:=⟨l _ _ a.hd,l _ _ a.row⟩
theorem Mm {G h:Hp} {a0 a1 a2 b0 b1 b2:Int}:al P_ G 64 #[.agg #[a0,a1,a2],.agg #[b0,b1,b2]] h (fun v h'=>v = .bool ((⟨a0,a1,a2,0⟩:It).b4 ⟨b0,b1,b2,0⟩)/\h'=h):=by
 refine quietly (enter64 (by simp) ?_)
 unfold S64
 simp only [bRtH]
 intro x hx gx y hy gy
 have hxy:x≠y:=je hy
 have lf:=(b8 (o := .cells #[a0,a1,a2] 139 (0,0)) hx).trans (b8 (o := .cells #[b0,b1,b2] 139 (0,0)) hy)
 simp only [bRtH,am hxy]
 by_cases h1:a0=b0
 . subst h1
   simp only [bRtH,am hxy]
   by_cases h2:a1=b1
   . subst h2
     simp only [bRtH,am hxy]
     unfold ay6
     simp (disch:=decide) only [bRtH,Nat.reduceAdd,am hxy]
     refine ⟨?_,lf⟩
     simp [It.b4]
   . rw [show (a1 != b1)=true by simpa using h2]
     simp only [bRtH,am hxy]
     refine ⟨?_,lf⟩
     simp [It.b4,h2]
 . rw [show (a0 != b0)=true by simpa using h1]
   simp only [bRtH,am hxy]
   refine ⟨?_,lf⟩
   simp [It.b4,h1]
theorem it0 {L:List It} {t:List Value} {i:Nat} {x:It} (hi:L[i]?=some x):(itC.rows L++t)[i*4]?=some (.int .i64 x.k):=itC.rows_get (j:=0) hi (by decide)
theorem it1 {L:List It} {t:List Value} {i:Nat} {x:It} (hi:L[i]?=some x):(itC.rows L++t)[i*4+1]?=some (.int .i64 x.m):=itC.rows_get (j:=1) hi (by decide)
theorem it2 {L:List It} {t:List Value} {i:Nat} {x:It} (hi:L[i]?=some x):(itC.rows L++t)[i*4+2]?=some (.int .i64 x.s):=itC.rows_get (j:=2) hi (by decide)
theorem it3 {L:List It} {t:List Value} {i:Nat} {x:It} (hi:L[i]?=some x):(itC.rows L++t)[i*4+3]?=some (.int .i64 x.n):=itC.rows_get (j:=3) hi (by decide)
theorem Jm {G h:Hp} {hp bp cap:Nat} {L:List It} {n:Int} {t:List Value} (a:HA h hp bp cap L n t) {i j:Nat} {x y:It} (hi:L[i]?=some x) (hj:L[j]?=some y):
   al P_ G 148 #[.pointer (some ⟨hp,0,none⟩),i,j] h (fun v h'=>v = .bool (x.lt y)/\h'=h):=by
 have hil:i<L.length:=(List.getElem?_eq_some_iff.1 hi).1
 have hjl:j<L.length:=(List.getElem?_eq_some_iff.1 hj).1
 have c1:∀k,af G h ⟨hp,k,none⟩=_:=fun k=>aj (ai a.hd)
 have c2:∀k,af G h ⟨bp,k,none⟩=_:=fun k=>aj (ai a.row)
 refine quietly (aq5 (by simp) ?_)
 unfold S148
 simp -implicitDefEqProofs (maxSteps:=2000000) (disch:=first|decide|with_reducible exact Nat.ne_of_beq_eq_false rfl|exact aq|exact ao|omega|rfl|(simp;done)|fail) only [bRtH,c1]
 simp only [bRtH,c2,it0 hi,it1 hi,it2 hi,it3 hi,it0 hj,it1 hj,it2 hj,it3 hj]
 intro p hp' gp q hq gq
 have hpq:p≠q:=je hq
 have hq':=jf hq
 have e1:hp≠p:=gf a.hd hp'
 have e2:hp≠q:=gf a.hd hq'
 simp (disch:=first|decide|exact aq|exact ao|omega|rfl) only [bRtH,dt hpq]
 refine ⟨((Hp.le.refl h).set hp').set hq',?_⟩
 simp only [bRtH,am hpq,am e1,am e2,c1]
 refine Mm.mono ?_
 rintro _ _ ⟨rfl,rfl⟩
 have b4':∀x y:It,(⟨x.k,x.m,x.s,0⟩:It).b4 ⟨y.k,y.m,y.s,0⟩=x.b4 y:=fun _ _=>rfl
 rw [b4']
 refine pl (fun hlt=>?_) (fun hge=>?_)
 . exact ⟨by simp [It.lt,hlt],((Hp.le.refl h).set hp').set hq'⟩
 simp only [bRtH,am hpq,am e1,am e2,c1]
 refine Mm.mono ?_
 rintro _ _ ⟨rfl,rfl⟩
 rw [b4']
 refine pl (fun hlt=>?_) (fun hge2=>?_)
 . exact ⟨by simp [It.lt,hlt,hge],((Hp.le.refl h).set hp').set hq'⟩
 unfold Yp
 simp (disch:=decide) only [bRtH,am hpq,am e1,am e2,c1]
 exact ⟨by simp [It.lt,hge,hge2],((Hp.le.refl h).set hp').set hq'⟩
theorem Ec {G h:Hp} {hp bp cap:Nat} {L:List It} {n:Int} {t:List Value} (a:HA h hp bp cap L n t) {i j:Nat} {x y:It} (hi:L[i]?=some x) (hj:L[j]?=some y):
   al P_ G 118 #[.pointer (some ⟨hp,0,none⟩),i,j] h (fun v h'=>h'=h.set bp (.cells (itC.rows ((L.set i y).set j x)++t).toArray 227 (0,0))):=by
 have hil:i<L.length:=(List.getElem?_eq_some_iff.1 hi).1
 have hjl:j<L.length:=(List.getElem?_eq_some_iff.1 hj).1
 have c1:∀k,af G h ⟨hp,k,none⟩=_:=fun k=>aj (ai a.hd)
 have c2:∀k,af G h ⟨bp,k,none⟩=_:=fun k=>aj (ai a.row)
 refine as9 (by simp) ?_
 unfold S118
 simp (disch:=first|decide|omega) only [bRtH,c1]
 simp only [bRtH,c2,it0 hi,it1 hi,it2 hi,it3 hi,it0 hj,it1 hj,it2 hj,it3 hj]
 refine Eq.mpr (Bq itC (x:=y) Hd a.row hil) ?_
 refine Eq.mpr (Bq itC (x:=x) Hd ag (by simpa using hjl)) ?_
 rw [set_set]
theorem HA.swap {h:Hp} {hp bp cap:Nat} {L L':List It} {n:Int} {t:List Value} (a:HA h hp bp cap L n t) (hl:L'.length=L.length):HA (h.set bp (.cells (itC.rows L'++t).toArray 227 (0,0))) hp bp cap L' n t:=
 ⟨by rw [au a.ne,hl];exact a.hd,ag⟩
theorem tdiv2 {m:Nat}:((m:Int)).tdiv 2=((m / 2:Nat):Int):=by
 rw [Int.tdiv_eq_ediv_of_nonneg (by omega)];omega
theorem up_spec {G h:Hp} {hp bp cap:Nat} {L:List It} {n:Int} {t:List Value} (a:HA h hp bp cap L n t) (hL:L.length<=68719476736) {i:Nat} (hi:i<L.length):
   al P_ G 147 #[.pointer (some ⟨hp,0,none⟩),i] h (fun v h'=>h'=h.set bp (.cells (itC.rows (kw L i)++t).toArray 227 (0,0))):=by
 refine aq6 (by simp) ?_
 unfold S147
 refine di (fun m r h'=>m<L.length/\r 0 = .pointer (some ⟨hp,0,none⟩)/\r 1 = .int .i64 m/\∃M,M.length=L.length/\h'=h.set bp (.cells (itC.rows M++t).toArray 227 (0,0))/\kw M m=kw L i) ?_ (m:=i) ⟨hi,rfl,rfl,L,rfl,(ym a.row).symm,rfl⟩
 rintro m r h' ⟨hm,e0,e1,M,hM,rfl,hs⟩ X hX
 have a':=a.swap hM
 unfold Yq
 simp only [bRtH,e0,e1]
 by_cases h0:0<m
 . rw [gi (show (m:Int)>0 by omega)]
   obtain ⟨k,rfl⟩:∃k,m=k+1:=⟨m-1,by omega⟩
   have hk:((k+1:Nat):Int)-1=(k:Int):=by omega
   simp (disch:=first|decide|omega) only [bRtH,hk,tdiv2]
   obtain ⟨x,hx⟩:∃x,M[k+1]?=some x:=⟨_,List.getElem?_eq_getElem (by omega)⟩
   obtain ⟨y,hy⟩:∃y,M[k / 2]?=some y:=⟨_,List.getElem?_eq_getElem (by omega)⟩
   refine (Jm a' hx hy).mono ?_
   rintro _ _ ⟨rfl,rfl⟩
   have ea:rc M (k+1) (k / 2)=x.lt y:=by simp [rc,hx,hy]
   refine pl (fun hlt=>?_) (fun hge=>?_)
   . unfold J4
     simp (disch:=first|decide|omega) only [bRtH,e0,e1,hk,tdiv2]
     refine (Ec a' hx hy).mono ?_
     rintro _ _ rfl
     refine hX (k / 2) _ _ (by omega) ⟨by omega,by simp (disch:=decide) only [bRtH,e0],by simp only [bRtH],oa M (k+1) (k / 2),by rw [dm];exact hM,?_,?_⟩
     . rw [set_set];simp [oa,hx,hy]
     . rw [<- hs]
       conv=>rhs;rw [kw]
       rw [dif_pos ⟨by omega,by rw [show k+1-1=k by omega,ea];exact hlt⟩]
       rfl
   . have e:kw M (k+1)=M:=by rw [kw,dif_neg];rw [show k+1-1=k by omega,ea,hge];simp
     rw [<- hs,e]
 . rw [ig (show ¬(m:Int)>0 by omega)]
   simp only [bRtH]
   have e:kw M m=M:=by rw [kw,dif_neg (by omega)]
   rw [<- hs,e]
def HR (h:Hp) (hp:Nat) (L:List It) (n:Int) (ob:Option Nat):Prop:=
 ∃sl,h hp=some (.cells #[.func (.func 64) #[] #[],sl,n] 218 (0,0))/\Own itC 227 h sl L ob
theorem HR.HA {h:Hp} {hp:Nat} {L:List It} {n:Int} {b:Nat} (a:HR h hp L n (some b)):∃cap t,HA h hp b cap L n t/\(itC.rows L++t).length=cap*4:=by
 obtain ⟨sl,h1,cap,t,rfl,h2,h3⟩:=a
 exact ⟨cap,t,⟨h1,h2⟩,h3⟩
theorem pu {G h:Hp}:al P_ G 63 #[.func (.func 64) #[] #[]] h (fun v h'=>∃x,v = .pointer (some ⟨x,0,none⟩)/\h x=none/\G x=none/\h'=h.set x (.cells #[.func (.func 64) #[] #[],.slice none 0 0,(0:Int)] 218 (0,0))):=by
 refine enter63 (by simp) ?_
 unfold S63
 simp only [bRtH]
 intro x hx gx
 exact ⟨x,rfl,hx,gx,rfl⟩
theorem Z6 {G h:Hp} {hp:Nat} {L:List It} {n:Int} {ob:Option Nat} (a:HR h hp L n ob) (hL:L.length<=34359738368) (hn0:0<=n) (hn:n<=68719476736) {k m s:Int}:
   al P_ G 116 #[.pointer (some ⟨hp,0,none⟩),.agg #[k,m,s]] h (fun v h'=>∃b cap ts,(ob=some b\/(h b=none/\G b=none))/\(itC.rows (kw (L++[⟨k,m,s,n⟩]) L.length)++ts).length=cap*4/\
     h'=(h.set hp (.cells #[.func (.func 64) #[] #[],.slice (some ⟨b,0,none⟩) (L.length+1) cap,.int .i64 (n+1)] 218 (0,0))).set b (.cells (itC.rows (kw (L++[⟨k,m,s,n⟩]) L.length)++ts).toArray 227 (0,0))):=by
 obtain ⟨sl,h1,o⟩:=a
 have c1:∀k,af G h ⟨hp,k,none⟩=_:=fun k=>aj (ai h1)
 refine al.less (at1 (by simp) (R:=fun v hf=>∃b cap ts,(ob=some b\/(h b=none/\G b=none))/\(itC.rows (kw (L++[⟨k,m,s,n⟩]) L.length)++ts).length=cap*4/\
    ((h.set hp (.cells #[.func (.func 64) #[] #[],.slice (some ⟨b,0,none⟩) (L.length+1) cap,.int .i64 (n+1)] 218 (0,0))).set b (.cells (itC.rows (kw (L++[⟨k,m,s,n⟩]) L.length)++ts).toArray 227 (0,0))).le hf) ?_)
    (fun v hf ⟨b,cap,ts,h1,h2,h3⟩=>⟨_,h3,b,cap,ts,h1,h2,rfl⟩)
 unfold S116
 simp only [bRtH]
 intro x hx gx
 have e1:hp≠x:=gf h1 hx
 simp only [bRtH,am e1,c1]
 unfold Zd
 simp (disch:=decide) only [bRtH,am e1,c1]
 intro q hq gq
 have exq:x≠q:=je hq
 have hq':=jf hq
 have e2:hp≠q:=gf h1 hq'
 have o':Own itC 227 ((h.set x (.cells #[k,m,s] 139 (0,0))).set q (.cells #[k,m,s,n] 227 (0,0))) sl L ob:=by
   cases ob with
   |none=>exact o
   |some b=>
     obtain ⟨cap,t,r1,r2,r3⟩:=o
     exact ⟨cap,t,r1,by rw [au (gf r2 hq'),au (gf r2 hx)];exact r2,r3⟩
 refine F9 itC (M:=[⟨k,m,s,n⟩]) Wn eoitem (by decide) o' ⟨rfl,.inr ⟨q,0,1,rfl,fun j hj=>?_⟩⟩ (by simp) (by simp;omega) ?_
 . rw [Nat.zero_add,Bc];rfl
 intro b cap ts hb hlen
 have e3:hp≠b:=by
   rcases hb with hb|⟨hb,_⟩
   . subst hb
     obtain ⟨_,_,_,r2,_⟩:=o
     intro e
     rw [e,r2]at h1
     simp at h1
   . exact gf h1 (jf (jf hb))
 have hb2:ob=some b\/(h b=none/\G b=none):=hb.imp id fun ⟨u,v⟩=>⟨jf (jf u),v⟩
 simp only [dt e3,dt e2,dt e1]
 rw [dh sz216 rfl h1 (by simp)]
 simp (disch:=first|decide|omega) only [bRtH,dt e3,dt e2,dt e1,am e1,am e2,am e3]
 have hLl:(L++[⟨k,m,s,n⟩]:List It).length=L.length+1:=by simp
 have a2:HA ((((h.set hp (.cells #[.func (.func 64) #[] #[],.slice (some ⟨b,0,none⟩) (L.length+1) cap,.int .i64 (n+1)] 218 (0,0))).set x (.cells #[k,m,s] 139 (0,0))).set q (.cells #[k,m,s,n] 227 (0,0))).set b
     (.cells (itC.rows (L++[⟨k,m,s,n⟩])++ts).toArray 227 (0,0))) hp b cap (L++[⟨k,m,s,n⟩]) (n+1) ts:=
   ⟨by rw [au e3,au e2,au e1,ag,hLl],ag⟩
 try simp -implicitDefEqProofs (maxSteps:=2000000) (disch:=first|decide|with_reducible exact Nat.ne_of_beq_eq_false rfl|exact aq|exact ao|omega|rfl|(simp;done)|fail) only [bRtH,Nat.reduceAdd,Nat.reduceMul,am e1,am e2,am e3]
 rw [show ((L.length+1:Nat):Int)-1=(L.length:Int)by omega]
 refine (up_spec a2 (by simp;omega) (by simp)).mono ?_
 rintro _ _ rfl
 refine ⟨b,cap,ts,hb2,?_,?_⟩
 . rw [List.length_append,itC.rows_length]at hlen ⊢
   rw [uh]
   exact hlen
 . rw [set_set]
   refine Hp.le.both ?_
   intro y o hy
   by_cases e4:y=hp
   . subst e4
     rw [ag]at hy
     rw [au e2,au e1,ag]
     exact hy
   . rw [au e4]at hy
     rw [au (gf hy hq'),au (gf hy hx),au e4]
     exact hy
theorem ar0 {G h:Hp} {x y:Value} {K:VK}:wpH P_ G (Instr.index 110 (.agg #[x,y]) (.int .i64 0)) h K=K x h:=by kernel_rfl
theorem ar1 {G h:Hp} {x y:Value} {K:VK}:wpH P_ G (Instr.index 110 (.agg #[x,y]) (.int .i64 1)) h K=K y h:=by kernel_rfl
theorem aa7 {G h:Hp} {hp bp cap:Nat} {M:List It} {n:Int} {t:List Value} (a:HA h hp bp cap M n t) (hM:M.length<=68719476736) {r:Rg} {K:EK} {q k f j:Nat} (g0:r 0 = .pointer (some ⟨hp,0,none⟩))
   (g14:r 14 = .agg #[.int .i64 (2*j+1),.int .i64 (2*j+2)]) (g15:r 15 = .int .i64 q) (hk:(q=0/\k=2*j+1)\/(q=1/\k=2*j+2)) (g4:r 4 = .int .i64 f) (hf:k<M.length->f<M.length)
   (H:∀r',r' 0=r 0->r' 1=r 1->r' 14=r 14->r' 15 = .int .i64 (q+1)->r' 4 = .int .i64 (im M f k:Nat)->K .normal r' h):ul G K r h:=by
 have c1:∀k,af G h ⟨hp,k,none⟩=_:=fun k=>aj (ai a.hd)
 have ei:∀(K:Value->Hp->Prop),wpH P_ G (Instr.index 110 (r 14) (r 15)) h K=K (k:Nat) h:=by
   intro K
   rw [g14,g15]
   rcases hk with ⟨rfl,rfl⟩|⟨rfl,rfl⟩
   . exact ar0
   . exact ar1
 have q1:(q:Int)+1<=2:=by omega
 unfold ul
 simp only [bRtH,ei,g0,g4,c1]
 by_cases hlt:k<M.length
 . rw [gi (show (k:Int)<(M.length:Int)by omega)]
   simp only [bRtH]
   obtain ⟨x,hx⟩:∃x,M[k]?=some x:=⟨_,List.getElem?_eq_getElem hlt⟩
   obtain ⟨y,hy⟩:∃y,M[f]?=some y:=⟨_,List.getElem?_eq_getElem (hf hlt)⟩
   refine (Jm a hx hy).mono ?_
   rintro _ _ ⟨rfl,rfl⟩
   have ea:rc M k f=x.lt y:=by simp [rc,hx,hy]
   refine pl (fun e=>?_) (fun e=>?_)
   . unfold ot
     simp (disch:=first|decide|omega) only [bRtH,g15]
     refine H _ (by simp (disch:=decide) only [bRtH]) (by simp (disch:=decide) only [bRtH]) (by simp (disch:=decide) only [bRtH]) (by simp only [bRtH]) ?_
     simp (disch:=decide) only [bRtH]
     simp [im,hlt,ea,e]
   . unfold ot
     simp (disch:=first|decide|omega) only [bRtH,g15]
     refine H _ (by simp (disch:=decide) only [bRtH]) (by simp (disch:=decide) only [bRtH]) (by simp (disch:=decide) only [bRtH]) (by simp only [bRtH]) ?_
     simp (disch:=decide) only [bRtH,g4]
     simp [im,hlt,ea,e]
 . rw [ig (show ¬(k:Int)<(M.length:Int)by omega)]
   simp only [bRtH]
   unfold ot
   simp (disch:=first|decide|omega) only [bRtH,g15]
   refine H _ (by simp (disch:=decide) only [bRtH]) (by simp (disch:=decide) only [bRtH]) (by simp (disch:=decide) only [bRtH]) (by simp only [bRtH]) ?_
   simp (disch:=decide) only [bRtH,g4]
   simp [im,hlt]
theorem ac8 {G h:Hp} {hp bp cap:Nat} {L:List It} {n:Int} {t:List Value} (a:HA h hp bp cap L n t) (hL:L.length<=68719476736) {i:Nat} (hi:i<=L.length):
   al P_ G 119 #[.pointer (some ⟨hp,0,none⟩),i] h (fun v h'=>h'=h.set bp (.cells (itC.rows (jk L i)++t).toArray 227 (0,0))):=by
 refine as8 (by simp) ?_
 unfold S119
 refine di (fun m r h'=>∃j:Nat,j<=L.length/\m=L.length-j/\r 0 = .pointer (some ⟨hp,0,none⟩)/\r 1 = .int .i64 j/\∃M,M.length=L.length/\h'=h.set bp (.cells (itC.rows M++t).toArray 227 (0,0))/\jk M j=jk L i) ?_ (m:=L.length-i) ⟨i,hi,rfl,rfl,rfl,L,rfl,(ym a.row).symm,rfl⟩
 rintro m r h' ⟨j,hj,rfl,e0,e1,M,hM,rfl,hs⟩ X hX
 have a':=a.swap hM
 have c1:∀k,af G (h.set bp (.cells (itC.rows M++t).toArray 227 (0,0))) ⟨hp,k,none⟩=_:=fun k=>aj (ai a'.hd)
 unfold Zb
 simp (disch:=first|decide|omega) only [bRtH,e0,e1]
 refine di (fun m r' h'=>∃q:Nat,q<=2/\m=2-q/\r' 0 = .pointer (some ⟨hp,0,none⟩)/\r' 1 = .int .i64 j/\r' 14 = .agg #[.int .i64 (2*j+1),.int .i64 (2*j+2)]/\r' 15 = .int .i64 q/\
    r' 4 = .int .i64 (if q=0 then j else if q=1 then im M j (2*j+1)else lu M j:Nat)/\h'=h.set bp (.cells (itC.rows M++t).toArray 227 (0,0))) ?_ (m:=2) ⟨0,by omega,rfl,by simp (disch:=decide) only [bRtH,e0],by simp (disch:=decide) only [bRtH,e1],by simp (disch:=decide) only [bRtH],by simp only [bRtH];rfl,by simp (disch:=decide) only [bRtH,e1],rfl⟩
 rintro m r' h' ⟨q,hq,rfl,f0,f1,f14,f15,f4,rfl⟩ Y hY
 unfold Kq
 have f4j:∃f:Nat,r' 4 = .int .i64 f/\f<=M.length/\(f=j\/f<M.length):=by
   refine ⟨_,f4,?_⟩
   have h1:=nq M j
   have h2:=Ah M j (2*j+1)
   split
   . omega
   . split<;>omega
 obtain ⟨f,f4',hf1,hf2⟩:=f4j
 have hf:(if q=0 then j else if q=1 then im M j (2*j+1)else lu M j)=f:=by rw [f4]at f4';have:=congrArg (fun v=>match v with | .int _ x=>x|_=>0) f4';simp only at this;omega
 simp only [bRtH,f15]
 by_cases hq2:q<2
 . rw [gi (show (q:Int)<2 by omega)]
   simp only [bRtH]
   refine aa7 a' (by omega) (q:=q) (k:=2*j+1+q) (f:=f) (j:=j) (by simp (disch:=decide) only [bRtH,f0]) (by simp (disch:=decide) only [bRtH,f14]) (by simp (disch:=decide) only [bRtH,f15]) (by omega) (by simp (disch:=decide) only [bRtH,f4']) (by omega) ?_
   intro r2 g0 g1 g14 g15 g4
   refine hY (2-(q+1)) _ _ (by omega) ⟨q+1,by omega,rfl,by rw [g0];simp (disch:=decide) only [bRtH,f0],by rw [g1];simp (disch:=decide) only [bRtH,f1],by rw [g14];simp (disch:=decide) only [bRtH,f14],by rw [g15];rfl,?_,rfl⟩
   rw [g4,<- hf]
   rcases (show q=0\/q=1 by omega)with rfl|rfl<;>rfl
 . have q2:q=2:=by omega
   subst q2
   rw [ig (show ¬((2:Nat):Int)<2 by omega)]
   have hff:lu M j=f:=by simpa using hf
   simp only [bRtH]
   unfold Ks
   simp (disch:=decide) only [bRtH,f4',f1]
   by_cases hfj:f=j
   . rw [show ((f:Int)==(j:Int))=true by simp [hfj]]
     simp only [bRtH]
     have e:jk M j=M:=by rw [jk,dif_pos (by rw [hff,hfj])]
     rw [<- hs,e]
   . rw [show ((f:Int)==(j:Int))=false by simp;omega]
     simp only [bRtH]
     unfold Kr
     have hfo:=(nq M j).resolve_left (by rw [hff];exact hfj)
     rw [hff]at hfo
     obtain ⟨x,hx⟩:∃x,M[j]?=some x:=⟨_,List.getElem?_eq_getElem (by omega)⟩
     obtain ⟨y,hy⟩:∃y,M[f]?=some y:=⟨_,List.getElem?_eq_getElem (by omega)⟩
     simp (disch:=decide) only [bRtH,f0,f1,f4']
     refine (Ec a' hx hy).mono ?_
     rintro _ _ rfl
     refine hX (L.length-f) _ _ (by omega) ⟨f,by omega,rfl,by simp (disch:=decide) only [bRtH,f0],by simp only [bRtH,f4'],oa M j f,by rw [dm];exact hM,?_,?_⟩
     . rw [set_set];simp [oa,hx,hy]
     . rw [<- hs]
       conv=>rhs;rw [jk]
       rw [dif_neg (by rw [hff];exact hfj),hff]
def pkV:List It->Value
 |[] => .tuple #[.agg #[(0:Int),(0:Int),(0:Int)],.bool false]
 |x::_ => .tuple #[.agg #[x.k,x.m,x.s],.bool true]
theorem HR.slice {h:Hp} {hp:Nat} {L:List It} {n:Int} {ob:Option Nat} (a:HR h hp L n ob):∃sa cap,h hp=some (.cells #[.func (.func 64) #[] #[],.slice sa L.length cap,n] 218 (0,0)):=by
 obtain ⟨sl,h1,o⟩:=a
 cases ob with
 |none=>obtain ⟨rfl,rfl⟩:=o;exact ⟨none,0,h1⟩
 |some b=>obtain ⟨cap,t,rfl,_⟩:=o;exact ⟨_,cap,h1⟩
theorem L9 {G h:Hp} {hp:Nat} {L:List It} {n:Int} {ob:Option Nat} (a:HR h hp L n ob):al P_ G 117 #[.pointer (some ⟨hp,0,none⟩)] h (fun v h'=>v=pkV L/\h'=h):=by
 obtain ⟨sa,cap,h1⟩:=a.slice
 have c1:∀k,af G h ⟨hp,k,none⟩=_:=fun k=>aj (ai h1)
 refine quietly (at0 (by simp) ?_)
 unfold S117
 simp (disch:=decide) only [bRtH]
 intro x hx gx
 have e1:hp≠x:=gf h1 hx
 simp only [bRtH,am e1,c1]
 cases L with
 |nil=>
   simp only [bRtH,show (((0:Nat):Int)==0)=true from rfl]
   intro y hy gy
   have e2:x≠y:=je hy
   simp (disch:=first|decide|exact aq|exact ao|omega|rfl) only [bRtH,am e2,dt e2]
   exact ⟨rfl,((Hp.le.refl h).set hx).set (jf hy)⟩
 |cons z L=>
   simp only [bRtH,show ((((z::L).length:Nat):Int)==0)=false by simp only [List.length_cons,beq_eq_false_iff_ne,ne_eq];omega]
   unfold Zc
   cases ob with
   |none=>obtain ⟨_,_,_,hL⟩:=a;cases hL
   |some b=>
     obtain ⟨cap',t,ha,_⟩:=a.HA
     have h2:=ha.hd
     rw [h1]at h2
     have e3:sa=some ⟨b,0,none⟩/\cap=cap':=by simpa using h2
     obtain ⟨rfl,rfl⟩:=e3
     have c2:∀k,af G h ⟨b,k,none⟩=_:=fun k=>aj (ai ha.row)
     have e4:b≠x:=gf ha.row hx
     have i0:=it0 (t:=t) (show (z::L)[0]?=some z from rfl)
     have i1:=it1 (t:=t) (show (z::L)[0]?=some z from rfl)
     have i2:=it2 (t:=t) (show (z::L)[0]?=some z from rfl)
     rw [Nat.zero_mul]at i0 i1 i2
     rw [Nat.zero_add]at i1 i2
     have hlen:(0:Int)<((z::L).length:Nat):=by simp only [List.length_cons];omega
     simp (disch:=first|decide|omega) only [bRtH,am e1,am e4,c1,ix216 (Int.le_refl 0) hlen,Int.toNat_zero,Nat.zero_mul]
     simp (disch:=first|decide|exact aq|exact ao|omega|rfl) only [bRtH,am e1,am e4,c2,i0,i1,i2]
     exact ⟨rfl,(Hp.le.refl h).set hx⟩
theorem pop_nil {G h:Hp} {hp:Nat} {n:Int} {ob:Option Nat} (a:HR h hp [] n ob):al P_ G 68 #[.pointer (some ⟨hp,0,none⟩)] h (fun v h'=>v=pkV []/\h'=h):=by
 refine quietly (X3 (by simp) ?_)
 unfold S68
 simp (disch:=decide) only [bRtH]
 intro x hx gx
 obtain ⟨sl,h1,o⟩:=a
 have e1:hp≠x:=gf h1 hx
 have a':HR (h.set x (.cells #[(0:Int),(0:Int),(0:Int)] 139 (0,0))) hp [] n ob:=by
   refine ⟨sl,by rw [au e1];exact h1,?_⟩
   cases ob with
   |none=>exact o
   |some b=>obtain ⟨cap,t,q1,q2,q3⟩:=o;exact ⟨cap,t,q1,by rw [au (gf q2 hx)];exact q2,q3⟩
 refine (L9 a').mono ?_
 rintro _ _ ⟨rfl,rfl⟩
 simp (disch:=first|decide|exact aq|exact ao|omega|rfl) only [bRtH,pkV]
 intro y hy gy
 have e2:x≠y:=je hy
 simp (disch:=first|decide|exact aq|exact ao|omega|rfl) only [bRtH,Bool.not_false,am e2,dt e2]
 exact ((Hp.le.refl h).set hx).set (jf hy)
theorem HR.keep {h h':Hp} {hp:Nat} {L:List It} {n:Int} {ob:Option Nat} (a:HR h hp L n ob) (e1:h' hp=h hp) (e2:∀b,ob=some b->h' b=h b):HR h' hp L n ob:=by
 obtain ⟨sl,h1,o⟩:=a
 refine ⟨sl,by rw [e1];exact h1,?_⟩
 cases ob with
 |none=>exact o
 |some b=>obtain ⟨cap,t,q1,q2,q3⟩:=o;exact ⟨cap,t,q1,by rw [e2 b rfl];exact q2,q3⟩
theorem HR.new {h:Hp} {hp:Nat} {L:List It} {n:Int} {ob:Option Nat} (a:HR h hp L n ob) {x:Nat} {o:Obj} (hx:h x=none):HR (h.set x o) hp L n ob:=by
 obtain ⟨sa,cap,h1⟩:=a.slice
 refine a.keep (by rw [au (gf h1 hx)]) (fun b hb=>?_)
 subst hb
 obtain ⟨sl,_,cap,t,_,q2,_⟩:=a
 rw [au (gf q2 hx)]
theorem ai1 {G h:Hp} {hp b cap:Nat} {x:It} {L:List It} {n:Int} {t:List Value} (a:HA h hp b cap (x::L) n t) (hlen:(itC.rows (x::L)++t).length=cap*4) (hL:L.length<=34359738368):
   al P_ G 68 #[.pointer (some ⟨hp,0,none⟩)] h (fun v h'=>v=pkV (x::L)/\∃ts,(itC.rows (popL (x::L))++ts).length=cap*4/\
     h'=(h.set hp (.cells #[.func (.func 64) #[] #[],.slice (some ⟨b,0,none⟩) L.length cap,n] 218 (0,0))).set b (.cells (itC.rows (popL (x::L))++ts).toArray 227 (0,0))):=by
 refine al.less (X3 (by simp) (R:=fun v hf=>v=pkV (x::L)/\∃ts,(itC.rows (popL (x::L))++ts).length=cap*4/\
    ((h.set hp (.cells #[.func (.func 64) #[] #[],.slice (some ⟨b,0,none⟩) L.length cap,n] 218 (0,0))).set b (.cells (itC.rows (popL (x::L))++ts).toArray 227 (0,0))).le hf) ?_)
    (fun v hf ⟨h1,ts,h2,h3⟩=>⟨_,h3,h1,ts,h2,rfl⟩)
 unfold S68
 simp (disch:=decide) only [bRtH]
 intro y hy gy
 have ehy:hp≠y:=gf a.hd hy
 have eby:b≠y:=gf a.row hy
 have ehb:=a.ne
 have aHR:HR h hp (x::L) n (some b):=⟨_,a.hd,cap,t,rfl,a.row,hlen⟩
 refine (L9 (aHR.new hy)).mono ?_
 rintro _ _ ⟨rfl,rfl⟩
 simp (disch:=first|decide|exact aq|exact ao|omega|rfl) only [bRtH,pkV]
 intro z hz gz
 have eyz:y≠z:=je hz
 have hz':=jf hz
 have ehz:hp≠z:=gf a.hd hz'
 have ebz:b≠z:=gf a.row hz'
 have c1:∀k,af G h ⟨hp,k,none⟩=_:=fun k=>aj (ai a.hd)
 try simp (disch:=first|decide|omega) only [bRtH,Nat.reduceAdd,Nat.reduceMul,Bool.not_true]
 unfold ay4
 simp (disch:=first|decide|omega) only [bRtH,am ehy,am ehz,c1]
 rw [show (((L.length+1:Nat):Int)-1)=((L.length:Nat):Int)by omega]
 have a1:HA ((h.set y (.cells #[(0:Int),(0:Int),(0:Int)] 139 (0,0))).set z (.cells #[x.k,x.m,x.s] 139 (0,0))) hp b cap (x::L) n t:=
   ⟨by rw [au ehz,au ehy];exact a.hd,by rw [au ebz,au eby];exact a.row⟩
 obtain ⟨l,hl⟩:∃l,(x::L)[L.length]?=some l:=⟨_,List.getElem?_eq_getElem (by simp)⟩
 refine (Ec a1 (i:=0) (j:=L.length) rfl hl).mono ?_
 rintro _ _ rfl
 have hM:((x::L).set 0 l).set L.length x=oa (x::L) 0 L.length:=by
   unfold oa
   rw [hl]
   rfl
 rw [hM]
 have hMl:(oa (x::L) 0 L.length).length=L.length+1:=by rw [dm];rfl
 have hcap:L.length+1<=cap:=by
   rw [List.length_append,itC.rows_length]at hlen
   simp only [List.length_cons,itC]at hlen
   omega
 generalize hMM:oa (x::L) 0 L.length=M at*
 have hi:((L.length:Nat):Int)<(((x::L).length:Nat):Int):=by simp only [List.length_cons];omega
 simp (disch:=first|decide|omega) only [bRtH,am ehb,am ehy,am ehz,c1,ix216 (Int.natCast_nonneg L.length) hi]
 refine Eq.mpr (Bq itC (x:=⟨0,0,0,0⟩) Hd ag (by omega)) ?_
 rw [set_set]
 simp only [bRtH,am ehb,am ehy,am ehz,c1]
 rw [Rp Wn Hd (Int.natCast_nonneg L.length) (by omega)]
 simp only [dt ehb,dt ehz,dt ehy]
 rw [dh sz216 rfl a.hd (by simp)]
 have hset:M.set L.length ⟨0,0,0,0⟩=M.dropLast++[⟨0,0,0,0⟩]:=by
   have:=aj9 M ⟨0,0,0,0⟩ (by intro e;rw [e]at hMl;simp at hMl)
   rwa [hMl]at this
 have hrow:itC.rows (M.set L.length ⟨0,0,0,0⟩)++t=itC.rows M.dropLast++(([.int .i64 0,.int .i64 0,.int .i64 0,.int .i64 0]:List Value)++t):=by
   rw [hset,itC.rows_append,itC.rows_single,List.append_assoc]
   rfl
 have hdl:M.dropLast.length=L.length:=by rw [List.length_dropLast,hMl];rfl
 simp only [bRtH,hrow]
 have a2:HA ((((h.set hp (.cells #[.func (.func 64) #[] #[],.slice (some ⟨b,0,none⟩) L.length cap,n] 218 (0,0))).set y (.cells #[(0:Int),(0:Int),(0:Int)] 139 (0,0))).set z (.cells #[x.k,x.m,x.s] 139 (0,0))).set b
     (.cells (itC.rows M.dropLast++(([.int .i64 0,.int .i64 0,.int .i64 0,.int .i64 0]:List Value)++t)).toArray 227 (0,0))) hp b cap M.dropLast n (([.int .i64 0,.int .i64 0,.int .i64 0,.int .i64 0]:List Value)++t):=
   ⟨by rw [au ehb,au ehz,au ehy,ag,hdl],ag⟩
 refine (ac8 a2 (by omega) (i:=0) (by omega)).mono ?_
 rintro _ _ rfl
 have hpop:jk M.dropLast 0=popL (x::L):=by
   unfold popL
   rw [show (x::L).length-1=L.length from rfl,hMM]
 rw [hpop]
 simp (disch:=first|decide|exact aq|exact ao|omega|rfl) only [bRtH,set_set,am (Ne.symm ebz),am (Ne.symm eby),am eyz,am (Ne.symm eyz),dt (Ne.symm eby),dt eyz]
 refine ⟨_,?_,Hp.le.both ?_⟩
 . have h3:=congrArg List.length hrow
   rw [List.length_append,List.length_append,itC.rows_length,itC.rows_length,List.length_set,hMl,hdl]at h3
   rw [List.length_append,itC.rows_length]at hlen ⊢
   rw [yy]
   simp only [List.length_cons,Nat.add_sub_cancel]at hlen ⊢
   omega
 . refine Hp.le.set (Hp.le.set ?_ ?_) ?_
   . exact Hp.le.refl _
   . rw [au (Ne.symm ehy)];exact hy
   . rw [au (Ne.symm ehz)];exact hz'
def HP (a:Hp) (hp:Nat) (L:List It) (n:Int):Prop:=∃ob,HR a hp L n ob
theorem hr_of {h:Hp} {hp b cap:Nat} {L:List It} {n:Int} {ts:List Value} (ne:hp≠b) (hlen:(itC.rows L++ts).length=cap*4):
   HR ((h.set hp (.cells #[.func (.func 64) #[] #[],.slice (some ⟨b,0,none⟩) L.length cap,n] 218 (0,0))).set b (.cells (itC.rows L++ts).toArray 227 (0,0))) hp L n (some b):=
 ⟨_,by rw [au ne,ag],cap,ts,rfl,ag,hlen⟩
theorem hpush {G h a:Hp} {R:List Hp} {hp:Nat} {L:List It} {n k m s:Int} (p:HP a hp L n) (sp:Sep (a::R) h) (hL:L.length<=34359738368) (hn0:0<=n) (hn:n<=68719476736):
   al P_ G 116 #[.pointer (some ⟨hp,0,none⟩),.agg #[k,m,s]] h (fun v h'=>∃a',HP a' hp (kw (L++[⟨k,m,s,n⟩]) L.length) (n+1)/\Sep (a'::R) h'/\Dis G h'):=by
 obtain ⟨ob,hr⟩:=p
 refine (Sep.on sp (Z6 hr hL hn0 hn)).mono ?_
 rintro v h' ⟨a',⟨b,cap,ts,hb,hlen,rfl⟩,s',d'⟩
 refine ⟨_,⟨some b,?_⟩,s',d'⟩
 have ne:hp≠b:=by
   rcases hb with rfl|⟨hb,_⟩
   . obtain ⟨_,_,ha,_⟩:=hr.HA
     exact ha.ne
   . obtain ⟨sl,h1,_⟩:=hr
     exact gf h1 hb
 have hl:(kw (L++[⟨k,m,s,n⟩]) L.length).length=L.length+1:=by rw [uh];simp
 rw [<- hl]
 exact hr_of ne hlen
theorem ak2 {G h a:Hp} {R:List Hp} {hp:Nat} {n:Int} (p:HP a hp [] n) (sp:Sep (a::R) h):
   al P_ G 68 #[.pointer (some ⟨hp,0,none⟩)] h (fun v h'=>v=pkV []/\h'=h):=by
 obtain ⟨ob,hr⟩:=p
 refine pop_nil (ob:=ob) (n:=n) ?_
 obtain ⟨sl,h1,o⟩:=hr
 exact ⟨sl,sp.hd _ _ h1,Own.le o sp.hd⟩
theorem hpop {G h a:Hp} {R:List Hp} {hp:Nat} {x:It} {L:List It} {n:Int} (p:HP a hp (x::L) n) (sp:Sep (a::R) h) (hL:L.length<=34359738368):
   al P_ G 68 #[.pointer (some ⟨hp,0,none⟩)] h (fun v h'=>v=pkV (x::L)/\∃a',HP a' hp (popL (x::L)) n/\Sep (a'::R) h'/\Dis G h'):=by
 obtain ⟨ob,hr⟩:=p
 cases ob with
 |none=>obtain ⟨sl,_,_,hL⟩:=hr;cases hL
 |some b=>
   obtain ⟨cap,t,ha,hlen⟩:=hr.HA
   refine (Sep.on sp (ai1 ha hlen hL)).mono ?_
   rintro v h' ⟨a',⟨rfl,ts,hlen',rfl⟩,s',d'⟩
   refine ⟨rfl,_,⟨some b,?_⟩,s',d'⟩
   have hl:(popL (x::L)).length=L.length:=by rw [yy];rfl
   rw [<- hl]
   exact hr_of ha.ne hlen'
end Go.Proofs.YtfflipnhffknnaaGreatDoor.Hw
end
section
namespace Go.Proofs.YtfflipnhffknnaaGreatDoor
open Go Go.HL Go.Proofs.Resv Go.Proofs.Srch
abbrev Nd:=Int × Int
abbrev ndV (c:Nd):Value := .agg #[c.1,c.2]
theorem deqnode (d:Nat) {x0 y0:Int} {x1 y1:Int}:Det P_ (Op.equalIn (d+1+1) 137 (.agg #[x0,x1]) (.agg #[y0,y1])) ((x0==y0)&&((x1==y1)&&true)):=by
 refine ql Tryz.underlying137 (by kernel_rfl) ?_
 refine jd (by decide) (dj Tryz.underlying3 rfl rfl) (dj Tryz.underlying3 rfl rfl) (mo (d:=d+0) Tryz.underlying3) ?_
 refine jd (by decide) (dj Tryz.underlying3 rfl rfl) (dj Tryz.underlying3 rfl rfl) (mo (d:=d+0) Tryz.underlying3) ?_
 exact Ar
theorem O6:Og P_ 137 (fun c:Nd=>ndV c):=by
 refine ⟨⟨_,Tryz.underlying137⟩,fun a b=>?_,fun b a=>⟨by intro G h K;kernel_rfl,by intro G h K;kernel_rfl⟩,fun a=>?_⟩
 . have:=deqnode 9998 (x0:=a.1) (x1:=a.2) (y0:=b.1) (y1:=b.2)
   rw [Bool.and_true]at this
   exact this
 . rw [show (10000:Nat)=9999+1 from rfl]
   simp [Instr.sameBits]
abbrev SS:=List (St Pose Move)
def ux (w k:Nat) (x:St Pose Move):Nd:=(numP w k x.p,(x.i:Int))
def iu (w k:Nat) (S:SS) (b:Int):Nd:=if b<0 then (0,0)else match S[b.toNat]? with
 |some y=>ux w k y
 |none=>(0,0)
def stpL (f:Nd) (m:Move) (a:Int) (dn:Bool):List Value:=[.int .i64 f.1,.int .i64 f.2,.int .i64 m.k,.int .i64 m.d,.int .i64 m.n,.int .i64 m.f.x,.int .i64 m.f.y,.bool m.f.d,.int .i64 m.t.x,.int .i64 m.t.y,.bool m.t.d,.int .i64 m.a,.int .i64 m.e,.int .i64 a,.bool dn]
abbrev pt (f:Nd) (m:Move) (a:Int) (dn:Bool):Obj := .cells (stpL f m a dn).toArray 146 (0,0)
def entV (e:Nd × Nat):Nd × Value:=(e.1,.pointer (some ⟨e.2,0,none⟩))
structure StE (w k:Nat) (b:Hp) (E:List (Nd × Nat)) (S:SS):Prop where
 len:E.length=S.length
 nod:(E.map (·.2)).Nodup
 cel:∀(i:Nat) (e:Nd × Nat) (x:St Pose Move),E[i]?=some e->S[i]?=some x->e.1=ux w k x/\b e.2=some (pt (iu w k S x.b) x.mv x.a x.dn)
def StP (w k:Nat) (a:Hp) (mt:Nat) (S:SS):Prop:=∃o E b,KMap (fun c:Nd=>ndV c) o (E.map entV)/\HL.Sep [noHp.set mt o,b] a/\StE w k b E S
theorem Iw {α β:Type} {pe:α->Bool} {ps:β->Bool}:∀{E:List α} {S:List β},E.length=S.length->(∀(j:Nat) (e:α) (x:β),E[j]?=some e->S[j]?=some x->pe e=ps x)->E.findIdx? pe=S.findIdx? ps
 |[],[],_,_=>rfl
 |[],_::_,h,_=>by simp at h
 |_::_,[],h,_=>by simp at h
 |e::E,x::S,h,hp=>by
   rw [List.findIdx?_cons,List.findIdx?_cons,hp 0 e x rfl rfl,Iw (E:=E) (S:=S) (by simpa using h) (fun j e x he hx=>hp (j+1) e x he hx)]
theorem StE.key {w k:Nat} {f:Nat->Nat->Int} {b:Hp} {E:List (Nd × Nat)} {S:SS} (s:StE w k b E S) (hS:∀x∈S,dg w k f x.p=true) {p:Pose} (hp:dg w k f p=true) {i:Nat}:
   kidx (E.map entV) (numP w k p,(i:Int))=key S p i:=by
 unfold kidx Srch.key
 rw [List.findIdx?_map]
 refine Iw s.len fun j e x he hx=>?_
 obtain ⟨h1,_⟩:=s.cel j e x he hx
 show (e.1==(numP w k p,(i:Int)))=Sr p i x
 rw [h1]
 unfold ux Sr
 have hxf:=hS x (List.mem_of_getElem? hx)
 rw [Bool.eq_iff_iff]
 simp only [beq_iff_eq,Prod.mk.injEq,Bool.and_eq_true,decide_eq_true_eq]
 constructor
 . rintro ⟨h2,h3⟩;exact ⟨uu hxf hp h2,by omega⟩
 . rintro ⟨rfl,rfl⟩;exact ⟨rfl,rfl⟩
theorem StE.get {w k:Nat} {f:Nat->Nat->Int} {b:Hp} {E:List (Nd × Nat)} {S:SS} (s:StE w k b E S) (hS:∀x∈S,dg w k f x.p=true) {p:Pose} (hp:dg w k f p=true) {i:Nat}:
   (Srch.key S p i=none/\kget (E.map entV) (numP w k p,(i:Int))=none)\/
   ∃j e x,Srch.key S p i=some j/\E[j]?=some e/\S[j]?=some x/\kget (E.map entV) (numP w k p,(i:Int))=some (.pointer (some ⟨e.2,0,none⟩))/\b e.2=some (pt (iu w k S x.b) x.mv x.a x.dn):=by
 unfold kget
 rw [s.key hS hp]
 cases h:Srch.key S p i with
 |none=>exact .inl ⟨rfl,rfl⟩
 |some j=>
   obtain ⟨x,hx,_,_⟩:=ti h
   have hj:j<E.length:=by rw [s.len];exact (List.getElem?_eq_some_iff.1 hx).1
   obtain ⟨e,he⟩:∃e,E[j]?=some e:=⟨_,List.getElem?_eq_getElem hj⟩
   refine .inr ⟨j,e,x,rfl,he,hx,?_,(s.cel j e x he hx).2⟩
   simp [List.getElem?_map,he,entV]
theorem S3 {w k:Nat} {S:SS} {y:St Pose Move} {b:Int} (hb:b<0\/b.toNat<S.length):iu w k (S++[y]) b=iu w k S b:=by
 unfold iu
 split
 . rfl
 . rename_i h
   rw [List.getElem?_append_left (by omega)]
theorem Dc {w k:Nat} {S:SS} {j:Nat} {x y:St Pose Move} {b:Int} (hx:S[j]?=some x) (h1:y.p=x.p) (h2:y.i=x.i):iu w k (S.set j y) b=iu w k S b:=by
 unfold iu
 split
 . rfl
 . by_cases hj:j=b.toNat
   . subst hj
     rw [List.getElem?_set_self (List.getElem?_eq_some_iff.1 hx).1,hx]
     simp [ux,h1,h2]
   . rw [List.getElem?_set_ne hj]
theorem Me {α:Type} {x:α}:∀{L:List α} {j:Nat},L.Nodup->x∉L->(L.set j x).Nodup
 |[],j,h,_=>by simp
 |a::L,0,h,hn=>by
   rw [List.set_cons_zero]
   exact List.nodup_cons.2 ⟨fun hm=>hn (.tail _ hm),(List.nodup_cons.1 h).2⟩
 |a::L,j+1,h,hn=>by
   rw [List.set_cons_succ]
   refine List.nodup_cons.2 ⟨fun hm=>?_,Me (List.nodup_cons.1 h).2 (fun hm=>hn (.tail _ hm))⟩
   rcases List.mem_or_eq_of_mem_set hm with h1|h1
   . exact (List.nodup_cons.1 h).1 h1
   . exact hn (h1 ▸ .head _)
theorem StE.put {w k:Nat} {f:Nat->Nat->Int} {b:Hp} {E:List (Nd × Nat)} {S:SS} (s:StE w k b E S) (hS:∀x∈S,dg w k f x.p=true) (hby:∀x∈S,x.b<0\/x.b.toNat<S.length) {p:Pose} (hp:dg w k f p=true) {i:Nat} {sp:Sp} {t:Int} {m:Move} {bi:Int} (hbi:bi<0\/bi.toNat<S.length) {x1:Nat} (hx1:b x1=none)
   (hlt:∀j x,Srch.key S p i=some j->S[j]?=some x->t<x.a/\x.dn=false):
   ∃E',kput (E.map entV) (numP w k p,(i:Int)) (.pointer (some ⟨x1,0,none⟩))=E'.map entV/\StE w k (b.set x1 (pt (iu w k S bi) m t false)) E' (xv S p i sp t m bi):=by
 have hno:x1∉E.map (·.2):=fun hm=>by
   obtain ⟨e,he,rfl⟩:=List.mem_map.1 hm
   obtain ⟨j,hj,rfl⟩:=List.getElem_of_mem he
   have:=(s.cel j _ _ (List.getElem?_eq_getElem hj) (List.getElem?_eq_getElem (by rw [<- s.len];exact hj))).2
   rw [hx1]at this;cases this
 have hne:∀(j:Nat) (e:Nd × Nat),E[j]?=some e->e.2≠x1:=fun j e he h=>hno (by rw [<- h];exact List.mem_map.2 ⟨e,List.mem_of_getElem? he,rfl⟩)
 unfold kput xv
 rw [s.key hS hp]
 cases h:Srch.key S p i with
 |none=>
   refine ⟨E++[((numP w k p,(i:Int)),x1)],by simp [entV],⟨by simp [s.len],?_,fun j e x he hx=>?_⟩⟩
   . rw [List.map_append,List.nodup_append]
     refine ⟨s.nod,by simp,?_⟩
     intro a ha b' hb' e
     simp at hb'
     subst hb';subst e
     exact hno ha
   . by_cases hj:j<E.length
     . rw [List.getElem?_append_left hj]at he
       rw [List.getElem?_append_left (by rw [<- s.len];exact hj)]at hx
       obtain ⟨h1,h2⟩:=s.cel j e x he hx
       rw [au (hne j e he),S3 (hby x (List.mem_of_getElem? hx))]
       exact ⟨h1,h2⟩
     . rw [List.getElem?_append_right (by omega)]at he
       rw [List.getElem?_append_right (by rw [<- s.len];omega),<- s.len]at hx
       have hj0:j-E.length=0:=by have:=(List.getElem?_eq_some_iff.1 he).1;simp at this;omega
       rw [hj0]at he hx
       cases he
       cases hx
       exact ⟨rfl,by rw [ag,S3 hbi]⟩
 |some j=>
   obtain ⟨x,hx,e1,e2⟩:=ti h
   obtain ⟨hlt',hdn⟩:=hlt j x h hx
   have hjS:j<S.length:=(List.getElem?_eq_some_iff.1 hx).1
   have hjE:j<E.length:=by rw [s.len];exact hjS
   simp only [hx,if_pos hlt']
   refine ⟨E.set j ((numP w k p,(i:Int)),x1),by rw [List.map_set];rfl,⟨by simp [s.len],?_,fun l e y he hy=>?_⟩⟩
   . rw [List.map_set]
     exact Me s.nod hno
   . by_cases hl:j=l
     . subst hl
       rw [List.getElem?_set_self hjE]at he
       rw [List.getElem?_set_self hjS]at hy
       cases he
       cases hy
       refine ⟨by simp [ux,e1,e2],?_⟩
       have e3:({ x with a:=t,mv:=m,b:=bi }:St Pose Move).p=x.p:=rfl
       have e4:({ x with a:=t,mv:=m,b:=bi }:St Pose Move).i=x.i:=rfl
       rw [ag,Dc (y:={ x with a:=t,mv:=m,b:=bi }) hx e3 e4,hdn]
     . rw [List.getElem?_set_ne hl]at he hy
       obtain ⟨h1,h2⟩:=s.cel l e y he hy
       have e3:({ x with a:=t,mv:=m,b:=bi }:St Pose Move).p=x.p:=rfl
       have e4:({ x with a:=t,mv:=m,b:=bi }:St Pose Move).i=x.i:=rfl
       rw [au (hne l e he),Dc (y:={ x with a:=t,mv:=m,b:=bi }) hx e3 e4]
       exact ⟨h1,h2⟩
def l8:=jq bC (jq (jq (jq (jq @al137 @ae5) (jq @V2 (jq @ue @cf115))) (jq (jq @cf116 (jq @cf65 @cf66)) (jq @I5 (jq @ao0 @fa146_2)))) (jq (jq (jq @Xr (jq @U9 @ld132p)) (jq @U8 (jq @ld3 @ld30))) (jq (jq @ld4 (jq @ld @ir)) (jq @my (jq @kq @st137w)))))
theorem unmt:P_.underlying 131=some (.map 137 149):=by kernel_rfl
theorem zerot:o0 P_ 149=some (.pointer none):=by kernel_rfl
abbrev stepV (f:Nd) (m:Move):Value := .agg #[f.1,f.2,m.k,m.d,m.n,m.f.x,m.f.y,.bool m.f.d,m.t.x,m.t.y,.bool m.t.d,m.a,m.e,(0:Int),.bool false]
def Kept (q:Par) (c:Cs) (S:SS):Prop:=∀x∈S,(mget c.L1 (numP q.w q.k x.p)).isSome=true/\mget c.L3 (numP q.w q.k x.p)=some (ja x.p)
theorem Kept.le {q:Par} {c c':Cs} {S:SS} (k:Kept q c S) (l:c.le c'):Kept q c' S:=fun x hx=>by
 obtain ⟨h1,h2⟩:=k x hx
 cases h:mget c.L1 (numP q.w q.k x.p)with
 |none=>rw [h]at h1;cases h1
 |some v=>exact ⟨by rw [l.l1 _ _ h];rfl,l.l3 _ _ h2⟩
theorem Kept.note {q:Par} {c:Cs} {S:SS} (k:Kept q c S) {p:Pose} (h1:(mget c.L1 (numP q.w q.k p)).isSome=true) (h3:mget c.L3 (numP q.w q.k p)=some (ja p)) {t:Int} {m:Move} {b:Int}:Kept q c (note q.E S p t m b):=by
 intro x hx
 unfold Srch.note at hx
 split at hx
 . unfold xv at hx
   split at hx
   . split at hx
     . rename_i y hy
       split at hx
       . rcases List.mem_or_eq_of_mem_set hx with h|h
         . exact k x h
         . subst h;exact k y (List.mem_of_getElem? hy)
       . exact k x hx
     . exact k x hx
   . rcases List.mem_append.1 hx with h|h
     . exact k x h
     . rw [List.mem_singleton]at h;subst h;exact ⟨h1,h3⟩
 . exact k x hx
structure Srs (q:Par) (a ae ah:Hp) (ms mw mp mt hp:Nat) (c:Cs) (S:SS) (L:List Go.Proofs.Wt.It) (n:Int):Prop where
 ch:Ch q a ms mw mp c
 st:StP q.w q.k ae mt S
 hp:Hw.HP ah hp L n
 ok:Go.Proofs.Wt.wq L
 qi:QI q.E L S
 kept:Kept q c S
 n0:0<=n
 ln:(L.length:Int)<=n
theorem Lp {q:Par} (gt:kc q.T) (fw:Few q.T 100) (p:Pose):(lg q.w q.k q.T q.r p).length<=1000000:=by
 unfold lg
 have:=Dd gt fw q.r ((bz p).map (numI q.w q.k))
 rw [List.length_map,show (bz p).length=2 from rfl]at this
 omega
theorem StE.le {w k:Nat} {b b':Hp} {E:List (Nd × Nat)} {S:SS} (s:StE w k b E S) (l:b.le b'):StE w k b' E S:=
 ⟨s.len,s.nod,fun i e x he hx=>let ⟨h1,h2⟩:=s.cel i e x he hx;⟨h1,l _ _ h2⟩⟩
theorem H4 {G h a ae ah:Hp} {R:List Hp} {q:Par} {sp kp ms mw mp mt hp:Nat} {c:Cs} {S:SS} {L:List Go.Proofs.Wt.It} {n t lo t0:Int} {p p0:Pose} {m z:Move} {b:Int} (ss:Srs q a ae ah ms mw mp mt hp c S L n) (bg:Bg G q sp kp ms mw mp mt hp)
   (v:Inv q.E p0 t0 z lo S) (hlo:lo<=t) (hpf:dg q.w q.k q.f p=true) (hn:n<=34359738368) (hb:b<0\/b.toNat<S.length) (s:HL.Sep (a::ae::ah::R) h):
   al P_ G 67 #[.pointer (some ⟨sp,0,none⟩),ja p,t,stepV (iu q.w q.k S b) m] h (fun _ h'=>∃a' ae' ah' c' L' n',Srs q a' ae' ah' ms mw mp mt hp c' (note q.E S p t m b) L' n'/\c.le c'/\c'.L2=c.L2/\n<=n'/\n'<=n+1/\HL.Sep (a'::ae'::ah'::R) h'/\Dis G h'):=by
 obtain ⟨ab,cb,ap,cp,ar,cr,az,cs,gp,tp,hbg⟩:=id bg.ex
 obtain ⟨ch,stp,hpp,hok,qi,kept,hn0,hln⟩:=ss
 have hS:∀x∈S,dg q.w q.k q.f x.p=true:=v.ok
 have hby:∀x∈S,x.b<0\/x.b.toNat<S.length:=fun x hx=>by
   rcases v.by_ x hx with ⟨h,_⟩|⟨y,h0,hy,_⟩
   . left;omega
   . exact .inr (List.getElem?_eq_some_iff.1 hy).1
 refine al.assume fun d=>enter67 (by simp) ?_
 unfold S67
 simp only [l8]
 intro xp hxp gxp x1 hx1 gx1
 have s1:=(s.new (o := .cells #[p.x,p.y,.bool p.d] 30 (0,0)) hxp).new (o := .cells (stpL (iu q.w q.k S b) m 0 false).toArray 146 (0,0)) hx1
 have d1:=(d.set (o := .cells #[p.x,p.y,.bool p.d] 30 (0,0)) gxp).set (o := .cells (stpL (iu q.w q.k S b) m 0 false).toArray 146 (0,0)) gx1
 simp only [stpL]at s1 d1
 generalize Hp.set (Hp.set h xp _) x1 _=h1 at s1 d1 ⊢
 have cx1:∀k,af G h1 ⟨xp,k,none⟩=_:=fun k=>aj (ai (s1.at 1 rfl ag))
 try simp only [l8,cx1]
 have s1':=Sep.fr (R:=R) [_,_,_,_,_] s1 [2,3,4,1,0] (by decide) rfl
 refine (lv ch bg s1' hpf).mono ?_
 rintro u h2 ⟨a2,c2,ch2,cl2,e2,g1,g3,s2,d2⟩
 have sl:=ch2.look1 hpf g1
 try simp (disch:=first|decide|omega) only [l8,Nat.reduceAdd,Nat.reduceMul]
 refine (Fv (t:=t) (sl.see (by decide) (ch2.pool.trans (s2.in 0 rfl))) (by have:=Lp bg.gt bg.fw p;omega)).mono ?_
 rintro _ h2 ⟨rfl,rfl⟩
 try simp only [l8]
 cases hi:inside (lg q.w q.k q.T q.r p) t with
 |none=>
   have e:insI (lg q.w q.k q.T q.r p) t = -1:=by unfold insI;rw [hi]
   rw [e]
   try simp only [l8,show decide ((-1:Int)<0)=true from rfl]
   have en:note q.E S p t m b=S:=by
     unfold Srch.note
     have:inside (q.E.spans p) t=none:=hi
     rw [this]
   rw [en]
   exact ⟨a2,ae,ah,c2,L,n,⟨ch2,stp,hpp,hok,qi,kept.le cl2,hn0,hln⟩,cl2,e2,by omega,by omega,Sep.fr (R:=R) [_,_,_,_,_] s2 [0,1,2] (by decide) rfl,d2⟩
 |some i=>
   have e:insI (lg q.w q.k q.T q.r p) t=(i:Int):=by unfold insI;rw [hi]
   rw [e]
   try simp only [l8,show decide ((i:Int)<0)=false from decide_eq_false (by omega)]
   unfold ay5
   have cx2:∀k,af G h2 ⟨xp,k,none⟩=_:=fun k=>aj (ai (s2.at 3 rfl ag))
   try simp (disch:=decide) only [l8,cx2]
   refine (zd ch2 bg s2 hpf).mono ?_
   rintro _ h3 ⟨rfl,a3,c3,ch3,cl3,f1,f2,f3,g33,s3,d3⟩
   try simp (disch:=first|decide|exact aq|exact ao|omega|rfl) only [l8]
   intro xn hxn gxn
   obtain ⟨o,E,bb,km,sb,se⟩:=stp
   have s4:=s3.new (o := .cells #[(numP q.w q.k p),i] 137 (0,0)) hxn
   have d4:=d3.set (o := .cells #[(numP q.w q.k p),i] 137 (0,0)) gxn
   generalize Hp.set h3 xn _=h4 at s4 d4 ⊢
   have s5:=(Sep.fr (R:=R) [noHp.set xn (.cells #[(numP q.w q.k p),i] 137 (0,0)),a3,ae,ah,noHp.set xp (.cells #[p.x,p.y,.bool p.d] 30 (0,0)),noHp.set x1 (.cells (stpL (iu q.w q.k S b) m 0 false).toArray 146 (0,0))] s4 [2,1,3,5,0] (by decide) rfl).open sb
   have b4:=vh (hbg h4 d4).2.1
   have hmt:h4 mt=some o:=s5.at 0 rfl ag
   have hl:∀K,pw P_ G h4 (Instr.lookup 131 (.map (some mt)) (.agg #[(numP q.w q.k p),(i:Int)]) true) K=K (.tuple #[(kget (E.map entV) (numP q.w q.k p,(i:Int))).getD (.pointer none),.bool (kget (E.map entV) (numP q.w q.k p,(i:Int))).isSome]):=fun K=>
     O8 O6 unmt zerot (ai hmt) km (k:=(numP q.w q.k p,(i:Int)))
   have en:note q.E S p t m b=xv S p i ((lg q.w q.k q.T q.r p).getD i (0,0)) t m b:=by
     unfold Srch.note
     have:inside (q.E.spans p) t=some i:=hi
     rw [this]
     rfl
   have k2:R8 q.E S p t=some i->(∀j x,Srch.key S p i=some j->S[j]?=some x->t<x.a/\x.dn=false)->∀r':Rg,r' 0 = .pointer (some ⟨sp,0,none⟩)->r' 2 = .int .i64 t->r' 7 = .pointer (some ⟨x1,0,none⟩)->r' 9 = .pointer (some ⟨xn,0,none⟩)->
       Wb G (retK P_ G [] fun _ h'=>∃a' ae' ah' c' L' n',Srs q a' ae' ah' ms mw mp mt hp c' (note q.E S p t m b) L' n'/\c.le c'/\c'.L2=c.L2/\n<=n'/\n'<=n+1/\HL.Sep (a'::ae'::ah'::R) h'/\Dis G h') r' h4:=by
     intro hpu hlt r' e0 e2' e7 e9
     unfold Wb
     simp only [l8,e0,e2',e7,e9]
     have hx14:h4 x1=some (.cells (stpL (iu q.w q.k S b) m 0 false).toArray 146 (0,0)):=s5.at 4 rfl ag
     rw [dh sz3 rfl hx14 (by simp [stpL])]
     have hset:(stpL (iu q.w q.k S b) m 0 false).set 13 (.int .i64 t)=stpL (iu q.w q.k S b) m t false:=rfl
     rw [hset]
     have s6:=(s5.pick 4 rfl rfl).put (o:=pt (iu q.w q.k S b) m t false) ag
     rw [set_set]at s6
     have d6:Dis G (h4.set x1 (pt (iu q.w q.k S b) m t false)):=d4.set (d4 _ _ hx14)
     generalize Hp.set h4 x1 _=h6 at s6 d6 ⊢
     have b6:=vh (hbg h6 d6).2.1
     have cn6:∀k,af G h6 ⟨xn,k,none⟩=_:=fun k=>aj (ai (s6.at 5 rfl ag))
     have hmt6:h6 mt=some o:=s6.at 1 rfl ag
     try simp only [l8,b6.mt,cn6]
     refine U5 O6 unmt hmt6 km (k:=(numP q.w q.k p,(i:Int))) fun o' mo'=>?_
     have s7:=(s6.pick 1 rfl rfl).put (o:=o') ag
     rw [set_set]at s7
     have d7:Dis G (h6.set mt o'):=d6.set (d6 _ _ hmt6)
     generalize Hp.set h6 mt o'=h7 at s7 d7 ⊢
     have b7:=vh (hbg h7 d7).2.1
     have cn7:∀k,af G h7 ⟨xn,k,none⟩=_:=fun k=>aj (ai (s7.at 5 rfl ag))
     try simp only [l8,b7.hp,cn7]
     refine (Hw.hpush (k:=t) (m:=numP q.w q.k p) (s:=(i:Int)) hpp (s7.pick 4 rfl rfl) (by omega) hn0 (by omega)).mono ?_
     rintro _ h8 ⟨ah8,hp8,s8,d8⟩
     try simp (disch:=first|decide|omega) only [l8,Nat.reduceAdd,Nat.reduceMul]
     obtain ⟨E',hk',se'⟩:=se.put (f:=q.f) hS hby hpf (i:=i) (sp:=(lg q.w q.k q.T q.r p).getD i (0,0)) (t:=t) (m:=m) (bi:=b) hb (x1:=x1) (by
       rcases (s8.pick 2 rfl rfl).apart (b:=bb) (by simp) x1 with e|e
       . rw [ag]at e;cases e
       . exact e) hlt
     rw [hk']at mo'
     obtain ⟨b9,s9,t9⟩:=Sep.pack [noHp.set x1 (pt (iu q.w q.k S b) m t false),bb] (R:=noHp.set mt o'::a3::ah8::R) (Sep.fr (R:=R) [ah8,noHp.set mt o',noHp.set x1 (pt (iu q.w q.k S b) m t false),bb,a3,noHp.set xn (.cells #[(numP q.w q.k p),i] 137 (0,0))] s8 [2,3,1,4,0] (by decide) rfl)
     obtain ⟨ae9,s10,t10⟩:=Sep.pack [noHp.set mt o',b9] (R:=a3::ah8::R) s9.swap
     have l9:(bb.set x1 (pt (iu q.w q.k S b) m t false)).le b9:=fun y ob hy=>by
       by_cases hyx:y=x1
       . subst hyx
         rw [ag]at hy
         cases hy
         exact t9.at 0 rfl ag
       . rw [au hyx]at hy
         exact t9.in 1 rfl _ _ hy
     obtain ⟨hok',hperm⟩:=Go.Proofs.Wt.push_ok (x:=⟨t,numP q.w q.k p,(i:Int),n⟩) hok
     refine ⟨a3,ae9,ah8,c3,_,n+1,⟨ch3,⟨o',E',b9,mo',t10,?_⟩,hp8,hok',?_,?_,by omega,?_⟩,cl2.trans cl3,by rw [f2,e2],by omega,by omega,Sep.fr (R:=R) [ae9,a3,ah8] s10 [1,0,2] (by decide) rfl,d8⟩
     . rw [en];exact se'.le l9
     . refine note_q (n:=n) qi ?_
       rw [hpu]
       exact hperm
     . exact (kept.le (cl2.trans cl3)).note (by rw [cl3.l1 _ _ g1];rfl) g33
     . rw [Go.Proofs.Wt.uh];simp only [List.length_append,List.length_cons,List.length_nil];omega
   have stay:note q.E S p t m b=S->∃a' ae' ah' c' L' n',Srs q a' ae' ah' ms mw mp mt hp c' (note q.E S p t m b) L' n'/\c.le c'/\c'.L2=c.L2/\n<=n'/\n'<=n+1/\HL.Sep (a'::ae'::ah'::R) h4/\Dis G h4:=fun e=>by
     rw [e]
     obtain ⟨ae9,s9,t9⟩:=Sep.pack [noHp.set mt o,bb] (R:=a3::ah::R) (Sep.fr (R:=R) [noHp.set mt o,bb,a3,ah,noHp.set x1 (.cells (stpL (iu q.w q.k S b) m 0 false).toArray 146 (0,0)),noHp.set xn (.cells #[(numP q.w q.k p),i] 137 (0,0))] s5 [0,1,2,3] (by decide) rfl)
     exact ⟨a3,ae9,ah,c3,L,n,⟨ch3,⟨o,E,bb,km,t9,se⟩,hpp,hok,qi,kept.le (cl2.trans cl3),hn0,hln⟩,cl2.trans cl3,by rw [f2,e2],by omega,by omega,Sep.fr (R:=R) [ae9,a3,ah] s9 [1,0,2] (by decide) rfl,d4⟩
   try simp only [l8,b4.mt,hl]
   rcases se.get (f:=q.f) hS hpf (i:=i)with ⟨hk,hg⟩|⟨j,e',x,hk,he,hx,hg,hbx⟩
   . rw [hg]
     try simp only [l8,Option.getD_none,Option.isSome_none]
     refine k2 ?_ (fun j x h=>by rw [hk]at h;cases h) _ (by simp (disch:=decide) only [l8]) (by simp (disch:=decide) only [l8]) (by simp (disch:=decide) only [l8]) (by simp (disch:=decide) only [l8])
     unfold R8
     have:inside (q.E.spans p) t=some i:=hi
     rw [this]
     simp only
     rw [hk]
   . rw [hg]
     have hx4:h4 e'.2=some (pt (iu q.w q.k S x.b) x.mv x.a x.dn):=s5.at 1 rfl hbx
     have cd:af G h4 ⟨e'.2,14,none⟩=some (.bool x.dn):=by rw [aj (ai hx4)];rfl
     have ca:af G h4 ⟨e'.2,13,none⟩=some (.int .i64 x.a):=by rw [aj (ai hx4)];rfl
     try simp only [l8,Option.getD_some,Option.isSome_some,cd,ca]
     have hxm:=List.mem_of_getElem? hx
     cases hdn:x.dn with
     |true=>
       try simp only [l8,fe]
       refine stay ?_
       rw [en]
       unfold xv
       rw [hk]
       simp only [hx]
       rw [if_neg (by have:=v.dn x hxm hdn;omega)]
     |false=>
       try simp only [l8,ca]
       by_cases hle:x.a<=t
       . try simp only [l8,gi hle]
         refine stay ?_
         rw [en]
         unfold xv
         rw [hk]
         simp only [hx]
         rw [if_neg (by omega)]
       . try simp only [l8,ig hle]
         refine k2 ?_ (fun j2 x2 h2 hx2=>by rw [hk]at h2;cases h2;rw [hx]at hx2;cases hx2;exact ⟨by omega,hdn⟩) _ (by simp (disch:=decide) only [l8]) (by simp (disch:=decide) only [l8]) (by simp (disch:=decide) only [l8]) (by simp (disch:=decide) only [l8])
         unfold R8
         have:inside (q.E.spans p) t=some i:=hi
         rw [this]
         simp only
         rw [hk]
         simp only [hx]
         rw [if_pos (by omega)]
def jn:=jq bC (jq (jq (jq (jq @al151 @al48) (jq @ae2 (jq @rq @kg))) (jq (jq @cf67 (jq @cf77 @Px)) (jq @Pw (jq @fa232_0 @fa232_1)))) (jq (jq (jq @Pp @Vm) (jq @I1 (jq @ld137 @ld151))) (jq (jq @ld3 (jq @ld30 @ld48)) (jq @Ur (jq @st3s @Hn)))))
abbrev WayT:=Move × Pose × Int × List Sp
abbrev wayO (m:Move) (d:Int) (a:Option Addr) (n c:Nat):Obj := .cells #[m.k,m.d,m.n,m.f.x,m.f.y,.bool m.f.d,m.t.x,m.t.y,.bool m.t.d,m.a,m.e,d,.slice a n c] 232 (0,0)
structure Fbx (q:Par) (Bx:Hp) (xn xo:Nat) (x:St Pose Move):Prop where
 n:Bx xn=some (.cells #[(numP q.w q.k x.p),(x.i:Int)] 137 (0,0))
 o:Bx xo=some (.cells #[x.s.1,x.s.2] 151 (0,0))
theorem Mx {α β:Type} {f:β->α->β} {S:β} {L:List α} {i:Nat} {s:α} (h:L[i]?=some s):(L.take (i+1)).foldl f S=f ((L.take i).foldl f S) s:=by
 rw [List.take_add_one,h,List.foldl_append];rfl
theorem from_in {G h a ae ah Bx:Hp} {R:List Hp} {q:Par} {sp kp ms mw mp mt hp xn xo xw:Nat} {c:Cs} {S:SS} {L:List Go.Proofs.Wt.It} {n t0:Int} {p0:Pose} {z:Move} {x:St Pose Move} {k:Nat} {y:WayT} {sa:Option Addr} {cap:Nat} {KK:EK}
   (ss:Srs q a ae ah ms mw mp mt hp c S L n) (bg:Bg G q sp kp ms mw mp mt hp) (ok:p8 q.E) (v:Inv q.E p0 t0 z x.a S) (hx:S[k]?=some x) (hd:x.dn=true) (ha:0<=x.a) (hox:dg q.w q.k q.f x.p=true) (hy:y∈q.E.ways x.p) (hy1:y.2.1=y.1.t)
   (fb:Fbx q Bx xn xo x) (hw:Bx xw=some (wayO y.1 y.2.2.1 sa y.2.2.2.length cap)) (sl:Slc mc 151 c.P (.slice sa y.2.2.2.length cap) y.2.2.2) (hn:n+y.2.2.2.length<=34359738368)
   (s:HL.Sep (a::ae::ah::Bx::R) h) (d:Dis G h) (r:Rg) (g0:r 0 = .pointer (some ⟨sp,0,none⟩)) (g2:r 2 = .int .i64 x.a) (g4:r 4 = .pointer (some ⟨xn,0,none⟩)) (g7:r 7 = .pointer (some ⟨xo,0,none⟩)) (g9:r 9 = .pointer (some ⟨xw,0,none⟩)) (g38:r 38 = .slice sa y.2.2.2.length cap) (g39:r 39 = .int .i64 y.2.2.2.length) (g40:r 40 = .int .i64 0)
   (H:∀(r':Rg) h' a' ae' ah' c' L' n',Srs q a' ae' ah' ms mw mp mt hp c' (tj q.E x k S y) L' n'->Inv q.E p0 t0 z x.a (tj q.E x k S y)->(tj q.E x k S y)[k]?=some x->c.le c'->n<=n'->n'<=n+y.2.2.2.length->HL.Sep (a'::ae'::ah'::Bx::R) h'->Dis G h'->
     r' 0=r 0->r' 2=r 2->r' 4=r 4->r' 7=r 7->r' 31=r 31->r' 32=r 32->r' 33=r 33->KK (.exit 2) r' h'):
   dl (E5 G) r h KK:=by
 have hn0:=ss.n0
 refine di (fun m r' h'=>∃(i:Nat) (a' ae' ah':Hp) (c':Cs) (L':List Go.Proofs.Wt.It) (n':Int),m=y.2.2.2.length-i/\i<=y.2.2.2.length/\Srs q a' ae' ah' ms mw mp mt hp c' ((y.2.2.2.take i).foldl (ik q.E x k y) S) L' n'/\Inv q.E p0 t0 z x.a ((y.2.2.2.take i).foldl (ik q.E x k y) S)/\((y.2.2.2.take i).foldl (ik q.E x k y) S)[k]?=some x/\
     c.le c'/\n<=n'/\n'<=n+i/\HL.Sep (a'::ae'::ah'::Bx::R) h'/\Dis G h'/\r' 0=r 0/\r' 2=r 2/\r' 4=r 4/\r' 7=r 7/\r' 9=r 9/\r' 31=r 31/\r' 32=r 32/\r' 33=r 33/\r' 38=r 38/\r' 39=r 39/\r' 40 = .int .i64 i) ?_ (m:=y.2.2.2.length)
   ⟨0,a,ae,ah,c,L,n,rfl,by omega,ss,v,hx,.refl _,by omega,by omega,s,d,rfl,rfl,rfl,rfl,rfl,rfl,rfl,rfl,rfl,rfl,g40⟩
 rintro m r1 h1 ⟨i,a1,ae1,ah1,c1,L1,n1,rfl,hi,ss1,v1,hx1,cl1,hn1,hn2,s1,d1,e0,e2,e4,e7,e9,e31,e32,e33,e38,e39,e40⟩ X hX
 unfold E5
 simp only [jn,e39,g39,e40]
 refine bv (fun hlt=>?_) (fun hge=>?_)
 rotate_left
 . obtain rfl:i=y.2.2.2.length:=by omega
   rw [List.take_length]at ss1 v1 hx1
   exact H _ _ a1 ae1 ah1 c1 L1 n1 ss1 v1 hx1 cl1 hn1 hn2 s1 d1 (by simp (disch:=decide) only [jn,e0]) (by simp (disch:=decide) only [jn,e2]) (by simp (disch:=decide) only [jn,e4]) (by simp (disch:=decide) only [jn,e7]) (by simp (disch:=decide) only [jn,e31]) (by simp (disch:=decide) only [jn,e32]) (by simp (disch:=decide) only [jn,e33])
 obtain ⟨sx,hsx⟩:∃u,y.2.2.2[i]?=some u:=⟨_,List.getElem?_eq_getElem (by omega)⟩
 obtain ⟨b,o,rfl,z1,z2⟩:=Sees.span ((sl.le cl1.p).see (G:=G) (by decide) (ss1.ch.pool.trans (s1.in 0 rfl))) hsx
 have hstep:=Mx (f:=ik q.E x k y) (S:=S) hsx
 have hsm:=List.mem_of_getElem? hsx
 unfold D1
 simp (disch:=first|decide|exact aq|exact ao|omega|rfl) only [jn,e38,g38,e40,Sq (Int.natCast_nonneg i) hlt,z1,z2]
 intro zb hzb gzb
 have s2:=s1.past (o := .cells #[sx.1,sx.2] 151 (0,0)) hzb
 have d2:=d1.set (o := .cells #[sx.1,sx.2] 151 (0,0)) gzb
 have hzs:(h1.set zb (.cells #[sx.1,sx.2] 151 (0,0))) zb=some (.cells #[sx.1,sx.2] 151 (0,0)):=ag
 generalize Hp.set h1 zb _=h2 at s2 d2 hzs ⊢
 have cz:∀k,af G h2 ⟨zb,k,none⟩=_:=fun k=>aj (ai hzs)
 have co:∀k,af G h2 ⟨xo,k,none⟩=_:=fun k=>aj (ai (s2.at 3 rfl fb.o))
 have cw:∀k,af G h2 ⟨xw,k,none⟩=_:=fun k=>aj (ai (s2.at 3 rfl hw))
 have next:∀(r':Rg) h3 a3 ae3 ah3 c3 L3 n3,Srs q a3 ae3 ah3 ms mw mp mt hp c3 (ik q.E x k y ((y.2.2.2.take i).foldl (ik q.E x k y) S) sx) L3 n3->c1.le c3->n1<=n3->n3<=n1+1->HL.Sep (a3::ae3::ah3::Bx::R) h3->Dis G h3->
     r' 0=r1 0->r' 2=r1 2->r' 4=r1 4->r' 7=r1 7->r' 9=r1 9->r' 31=r1 31->r' 32=r1 32->r' 33=r1 33->r' 38=r1 38->r' 39=r1 39->r' 40=r1 40->
     n9 G (ci X KK) r' h3:=by
   intro r' h3 a3 ae3 ah3 c3 L3 n3 ss3 cl3 m1 m2 s3 d3 w0 w2 w4 w7 w9 w31 w32 w33 w38 w39 w40
   unfold n9
   simp (disch:=first|decide|omega) only [jn,w40,e40]
   have vv:=Hk ok v1 hx1 hd ha hox hy (k:=k) hsm
   refine hX (y.2.2.2.length-(i+1)) _ _ (by omega) ⟨i+1,a3,ae3,ah3,c3,L3,n3,rfl,by omega,by rw [hstep];exact ss3,by rw [hstep];exact vv.1,by rw [hstep];exact vv.2,cl1.trans cl3,by omega,by omega,s3,d3,by simp (disch:=decide) only [jn,w0,e0],by simp (disch:=decide) only [jn,w2,e2],by simp (disch:=decide) only [jn,w4,e4],by simp (disch:=decide) only [jn,w7,e7],by simp (disch:=decide) only [jn,w9,e9],by simp (disch:=decide) only [jn,w31,e31],by simp (disch:=decide) only [jn,w32,e32],by simp (disch:=decide) only [jn,w33,e33],by simp (disch:=decide) only [jn,w38,e38],by simp (disch:=decide) only [jn,w39,e39],by simp only [jn];rfl⟩
 have skip:ik q.E x k y ((y.2.2.2.take i).foldl (ik q.E x k y) S) sx=(y.2.2.2.take i).foldl (ik q.E x k y) S->Srs q a1 ae1 ah1 ms mw mp mt hp c1 (ik q.E x k y ((y.2.2.2.take i).foldl (ik q.E x k y) S) sx) L1 n1:=fun e=>by rw [e];exact ss1
 try simp only [jn,cz,e7,g7,co]
 by_cases h1:sx.1<x.s.1
 . try simp only [jn,gi h1,fe]
   exact next _ h2 a1 ae1 ah1 c1 L1 n1 (skip (by unfold ik;rw [if_pos (.inl h1)])) (.refl _) (by omega) (by omega) s2 d2 (by simp (disch:=omega) only [av]) (by simp (disch:=omega) only [av]) (by simp (disch:=omega) only [av]) (by simp (disch:=omega) only [av]) (by simp (disch:=omega) only [av]) (by simp (disch:=omega) only [av]) (by simp (disch:=omega) only [av]) (by simp (disch:=omega) only [av]) (by simp (disch:=omega) only [av]) (by simp (disch:=omega) only [av]) (by simp (disch:=omega) only [av])
 try simp only [jn,ig h1,cz,co]
 by_cases h2':sx.2>x.s.2
 . try simp only [jn,gi h2']
   exact next _ h2 a1 ae1 ah1 c1 L1 n1 (skip (by unfold ik;rw [if_pos (.inr h2')])) (.refl _) (by omega) (by omega) s2 d2 (by simp (disch:=omega) only [av]) (by simp (disch:=omega) only [av]) (by simp (disch:=omega) only [av]) (by simp (disch:=omega) only [av]) (by simp (disch:=omega) only [av]) (by simp (disch:=omega) only [av]) (by simp (disch:=omega) only [av]) (by simp (disch:=omega) only [av]) (by simp (disch:=omega) only [av]) (by simp (disch:=omega) only [av]) (by simp (disch:=omega) only [av])
 try simp only [jn,ig h2']
 unfold D0
 try simp (disch:=decide) only [jn,cz,e2,g2,e9,g9,cw,max2w]
 refine (Rv.Rh (a:=max x.a sx.1) (b:=y.2.2.1)).mono ?_
 rintro _ h2 ⟨rfl,rfl⟩
 have hst:ik q.E x k y ((y.2.2.2.take i).foldl (ik q.E x k y) S) sx=if sumI (max x.a sx.1) y.2.2.1>sx.2\/sumI (max x.a sx.1) y.2.2.1>=FV then (y.2.2.2.take i).foldl (ik q.E x k y) S else note q.E ((y.2.2.2.take i).foldl (ik q.E x k y) S) y.2.1 (sumI (max x.a sx.1) y.2.2.1) (q.E.stamp y.1 (max x.a sx.1) (sumI (max x.a sx.1) y.2.2.1)) k:=by
   unfold ik
   rw [if_neg (by omega)]
 have hlst:=(ok.lasts _ y hy).1
 try simp only [jn,cz]
 obtain ⟨ev,hev⟩:∃ev,ev=sumI (max x.a sx.1) y.2.2.1:=⟨_,rfl⟩
 rw [<- hev]at hst ⊢
 have hgt:ev<FV->max x.a sx.1<ev:=fun h=>by rw [hev]at h ⊢;exact Hh (by omega) hlst h
 have skip2:(ev>sx.2\/ev>=FV)->∀(r':Rg),r' 0=r1 0->r' 2=r1 2->r' 4=r1 4->r' 7=r1 7->r' 9=r1 9->r' 31=r1 31->r' 32=r1 32->r' 33=r1 33->r' 38=r1 38->r' 39=r1 39->r' 40=r1 40->n9 G (ci X KK) r' h2:=fun he r' w0 w2 w4 w7 w9 w31 w32 w33 w38 w39 w40=>
   next r' h2 a1 ae1 ah1 c1 L1 n1 (skip (by rw [hst,if_pos he])) (.refl _) (by omega) (by omega) s2 d2 w0 w2 w4 w7 w9 w31 w32 w33 w38 w39 w40
 by_cases q1:max x.a sx.1>=sx.2
 . have hq:ev>sx.2\/ev>=FV:=by
     by_cases hf:ev<FV
     . have:=hgt hf;exact .inl (by omega)
     . exact .inr (by omega)
   try simp only [jn,gi q1,fe]
   refine skip2 hq _ (by simp (disch:=omega) only [av]) (by simp (disch:=omega) only [av]) (by simp (disch:=omega) only [av]) (by simp (disch:=omega) only [av]) (by simp (disch:=omega) only [av]) (by simp (disch:=omega) only [av]) (by simp (disch:=omega) only [av]) (by simp (disch:=omega) only [av]) (by simp (disch:=omega) only [av]) (by simp (disch:=omega) only [av]) (by simp (disch:=omega) only [av])
 try simp only [jn,ig q1,cz]
 by_cases q2:ev>sx.2
 . try simp only [jn,gi q2,fe]
   refine skip2 (.inl q2) _ (by simp (disch:=omega) only [av]) (by simp (disch:=omega) only [av]) (by simp (disch:=omega) only [av]) (by simp (disch:=omega) only [av]) (by simp (disch:=omega) only [av]) (by simp (disch:=omega) only [av]) (by simp (disch:=omega) only [av]) (by simp (disch:=omega) only [av]) (by simp (disch:=omega) only [av]) (by simp (disch:=omega) only [av]) (by simp (disch:=omega) only [av])
 try simp only [jn,ig q2]
 by_cases q3:ev>=4611686018427387904
 . try simp only [jn,gi q3]
   refine skip2 (.inr q3) _ (by simp (disch:=omega) only [av]) (by simp (disch:=omega) only [av]) (by simp (disch:=omega) only [av]) (by simp (disch:=omega) only [av]) (by simp (disch:=omega) only [av]) (by simp (disch:=omega) only [av]) (by simp (disch:=omega) only [av]) (by simp (disch:=omega) only [av]) (by simp (disch:=omega) only [av]) (by simp (disch:=omega) only [av]) (by simp (disch:=omega) only [av])
 try simp only [jn,ig q3]
 rw [if_neg (show ¬(ev>sx.2\/ev>=FV)by unfold FV;omega)]at hst
 unfold Dz
 have cn:∀k,af G h2 ⟨xn,k,none⟩=_:=fun k=>aj (ai (s2.at 3 rfl fb.n))
 try simp -implicitDefEqProofs (maxSteps:=2000000) (disch:=first|decide|with_reducible exact Nat.ne_of_beq_eq_false rfl|exact aq|exact ao|omega|rfl|(simp;done)|fail) only [jn,Nat.reduceAdd,e0,g0,e4,g4,e9,g9,cw]
 intro xm hxm gxm
 have s3:=s2.past (o:=pv (yi y.1 (max x.a sx.1) ev)) hxm
 have d3:=d2.set (o:=pv (yi y.1 (max x.a sx.1) ev)) gxm
 simp only [yi]at s3 d3
 generalize Hp.set h2 xm _=h3 at s3 d3 ⊢
 have cn3:∀k,af G h3 ⟨xn,k,none⟩=_:=fun k=>aj (ai (s3.at 3 rfl fb.n))
 try simp (disch:=first|decide|omega) only [jn,cn3]
 have hkl:k<((y.2.2.2.take i).foldl (ik q.E x k y) S).length:=(List.getElem?_eq_some_iff.1 hx1).1
 have hfk:iu q.w q.k ((y.2.2.2.take i).foldl (ik q.E x k y) S) (k:Int)=ux q.w q.k x:=by
   unfold iu
   rw [if_neg (by omega),Int.toNat_natCast,hx1]
 have hft:dg q.w q.k q.f y.1.t=true:=by rw [<- hy1];exact ok.to _ hox y hy
 have hlo:x.a<=ev:=by have:=hgt (by unfold FV;omega);omega
 have hr:=H4 (p:=y.1.t) (t:=ev) (m:=yi y.1 (max x.a sx.1) ev) (b:=(k:Int)) ss1 bg v1 hlo hft (by omega) (.inr (by simpa using hkl)) s3
 rw [hfk]at hr
 simp only [ux,yi]at hr
 refine hr.mono ?_
 rintro _ h4 ⟨a4,ae4,ah4,c4,L4,n4,ss4,cl4,l24,m1,m2,s4,d4⟩
 refine next _ h4 a4 ae4 ah4 c4 L4 n4 (by rw [hst,hy1];exact ss4) cl4 m1 m2 s4 d4 (by simp (disch:=omega) only [av]) (by simp (disch:=omega) only [av]) (by simp (disch:=omega) only [av]) (by simp (disch:=omega) only [av]) (by simp (disch:=omega) only [av]) (by simp (disch:=omega) only [av]) (by simp (disch:=omega) only [av]) (by simp (disch:=omega) only [av]) (by simp (disch:=omega) only [av]) (by simp (disch:=omega) only [av]) (by simp (disch:=omega) only [av])
def F6:=jq bC (jq (jq @al232 (jq @fa232_2 @ld142)) (jq @ld232 (jq @ln142 @st232w)))
theorem Sees.way {G h:Hp} {sa:Option Addr} {cap n:Nat} {L:List RawW} (s:Sees tg G h (.slice sa n cap) L) {i:Nat} {x:RawW} (hx:L[i]?=some x):
   ∃b o,sa=some ⟨b,o,none⟩/\∀j,j<13->af G h ⟨b,o+i*13+j,none⟩=(tg.enc x)[j]?:=by
 obtain ⟨s',cap',e,_,hc⟩:=s
 cases e
 rcases hc with rfl|⟨b,o,rfl,hc⟩
 . simp at hx
 . exact ⟨b,o,rfl,fun j hj=>hc i x hx j hj⟩
theorem Gn {q:Par} {p:Pose} {j:Nat} {y:WayT} (h:(qr q.C q.w q.k q.f q.T q.r p)[j]?=some y):∃m,m∈lr q.w q.k q.f p/\y=wayE q.C q.w q.k q.f q.T q.r m:=by
 unfold qr at h
 rw [List.getElem?_map]at h
 cases hm:(lr q.w q.k q.f p)[j]? with
 |none=>rw [hm]at h;cases h
 |some m=>rw [hm]at h;cases h;exact ⟨m,List.mem_of_getElem? hm,rfl⟩
theorem Zn {q:Par} (gt:kc q.T) (fw:Few q.T 100) (hw:q.w<=16) (hk:q.k<=16) (m:Move):(wayE q.C q.w q.k q.f q.T q.r m).2.2.2.length<=30301:=by
 show (li q.T q.r ((jj q.w q.k q.f m).map (numI q.w q.k))).length<=30301
 have h1:=Dd gt fw q.r ((jj q.w q.k q.f m).map (numI q.w q.k))
 rw [List.length_map]at h1
 have h2:=Lm (w:=q.w) (k:=q.k) (f:=q.f) (m:=m) hw hk
 have h3:(jj q.w q.k q.f m).length*(100+1)<=300*101:=Nat.mul_le_mul h2 (by omega)
 omega
theorem Vi {α β:Type} {f:β->α->β} {S:β} {L:List α} {i:Nat} {s:α} (h:L[i]?=some s):(L.take (i+1)).foldl f S=f ((L.take i).foldl f S) s:=Mx h
theorem ak9 {G h a ae ah Bx:Hp} {R:List Hp} {q:Par} {sp kp ms mw mp mt hp xn xo:Nat} {c:Cs} {S:SS} {L:List Go.Proofs.Wt.It} {n t0:Int} {p0:Pose} {z:Move} {x:St Pose Move} {k:Nat} {raws:List RawW} {sa:Option Addr} {cap:Nat} {KK:EK}
   (ss:Srs q a ae ah ms mw mp mt hp c S L n) (bg:Bg G q sp kp ms mw mp mt hp) (ok:p8 q.E) (v:Inv q.E p0 t0 z x.a S) (hx:S[k]?=some x) (hd:x.dn=true) (ha:0<=x.a) (hox:dg q.w q.k q.f x.p=true) (hw16:q.w<=16) (hk16:q.k<=16)
   (fb:Fbx q Bx xn xo x) (wsl:Slc tg 232 c.P (.slice sa raws.length cap) raws) (hrl:raws.length=(qr q.C q.w q.k q.f q.T q.r x.p).length)
   (hraw:∀(i:Nat) (x':RawW) (y:WayT),raws[i]?=some x'->(qr q.C q.w q.k q.f q.T q.r x.p)[i]?=some y->x'.m=y.1/\x'.d=y.2.2.1/\x'.n=y.2.2.2.length/\Slc mc 151 c.P (.slice x'.a x'.n x'.c) y.2.2.2) (hn:n<=34000000000)
   (s:HL.Sep (a::ae::ah::Bx::R) h) (d:Dis G h) (r:Rg) (g0:r 0 = .pointer (some ⟨sp,0,none⟩)) (g2:r 2 = .int .i64 x.a) (g4:r 4 = .pointer (some ⟨xn,0,none⟩)) (g7:r 7 = .pointer (some ⟨xo,0,none⟩)) (g31:r 31 = .slice sa raws.length cap) (g32:r 32 = .int .i64 raws.length) (g33:r 33 = .int .i64 0)
   (H:∀(r':Rg) h' a' ae' ah' c' L' n',Srs q a' ae' ah' ms mw mp mt hp c' (zm q.E x k S) L' n'->c.le c'->n<=n'->n'<=n+2000000->HL.Sep (a'::ae'::ah'::Bx::R) h'->Dis G h'->KK (.exit 0) r' h'):
   dl (V9 G) r h KK:=by
 have hn0:=ss.n0
 have hml:(qr q.C q.w q.k q.f q.T q.r x.p).length<=65:=by unfold qr;rw [List.length_map];exact Mh
 refine di (fun m r' h'=>∃(j:Nat) (a' ae' ah':Hp) (c':Cs) (L':List Go.Proofs.Wt.It) (n':Int),m=raws.length-j/\j<=raws.length/\Srs q a' ae' ah' ms mw mp mt hp c' (((qr q.C q.w q.k q.f q.T q.r x.p).take j).foldl (tj q.E x k) S) L' n'/\Inv q.E p0 t0 z x.a (((qr q.C q.w q.k q.f q.T q.r x.p).take j).foldl (tj q.E x k) S)/\(((qr q.C q.w q.k q.f q.T q.r x.p).take j).foldl (tj q.E x k) S)[k]?=some x/\
     c.le c'/\n<=n'/\n'<=n+j*30301/\HL.Sep (a'::ae'::ah'::Bx::R) h'/\Dis G h'/\r' 0=r 0/\r' 2=r 2/\r' 4=r 4/\r' 7=r 7/\r' 31=r 31/\r' 32=r 32/\r' 33 = .int .i64 j) ?_ (m:=raws.length)
   ⟨0,a,ae,ah,c,L,n,rfl,by omega,ss,v,hx,.refl _,by omega,by omega,s,d,rfl,rfl,rfl,rfl,rfl,rfl,g33⟩
 rintro m r1 h1 ⟨j,a1,ae1,ah1,c1,L1,n1,rfl,hj,ss1,v1,hx1,cl1,hn1,hn2,s1,d1,e0,e2,e4,e7,e31,e32,e33⟩ X hX
 unfold V9
 simp only [F6,e32,g32,e33]
 refine bv (fun hlt=>?_) (fun hge=>?_)
 rotate_left
 . obtain rfl:j=raws.length:=by omega
   rw [hrl,List.take_length]at ss1
   exact H _ _ a1 ae1 ah1 c1 L1 n1 ss1 cl1 hn1 (by omega) s1 d1
 obtain ⟨y,hy⟩:∃u,(qr q.C q.w q.k q.f q.T q.r x.p)[j]?=some u:=⟨_,List.getElem?_eq_getElem (by omega)⟩
 obtain ⟨xr,hxr⟩:∃u,raws[j]?=some u:=⟨_,List.getElem?_eq_getElem (by omega)⟩
 obtain ⟨q1,q2,q3,q4⟩:=hraw j xr y hxr hy
 obtain ⟨mv,hmv,hye⟩:=Gn hy
 have hym:y∈q.E.ways x.p:=List.mem_of_getElem? hy
 have hyl:y.2.2.2.length<=30301:=by rw [hye];exact Zn bg.gt bg.fw hw16 hk16 mv
 have hstep:((qr q.C q.w q.k q.f q.T q.r x.p).take (j+1)).foldl (tj q.E x k) S=tj q.E x k (((qr q.C q.w q.k q.f q.T q.r x.p).take j).foldl (tj q.E x k) S) y:=Vi hy
 obtain ⟨b,o,rfl,hc⟩:=Sees.way ((wsl.le cl1.p).see (G:=G) (by decide) (ss1.ch.pool.trans (s1.in 0 rfl))) hxr
 have cr:∀(i:Nat),i<13->af G h1 ⟨b,o+j*13+i,none⟩=(tg.enc xr)[i]?:=hc
 have cr0:=cr 0 (by decide)
 have cr1:=cr 1 (by decide)
 have cr2:=cr 2 (by decide)
 have cr3:=cr 3 (by decide)
 have cr4:=cr 4 (by decide)
 have cr5:=cr 5 (by decide)
 have cr6:=cr 6 (by decide)
 have cr7:=cr 7 (by decide)
 have cr8:=cr 8 (by decide)
 have cr9:=cr 9 (by decide)
 have cr10:=cr 10 (by decide)
 have cr11:=cr 11 (by decide)
 have cr12:=cr 12 (by decide)
 simp only [tg,Nat.add_zero,List.getElem?_cons_zero,List.getElem?_cons_succ]at cr0 cr1 cr2 cr3 cr4 cr5 cr6 cr7 cr8 cr9 cr10 cr11 cr12
 unfold Nt
 simp (disch:=first|decide|exact aq|exact ao|omega|rfl) only [F6,e31,g31,e33,ix229 (Int.natCast_nonneg j) hlt,cr0,cr1,cr2,cr3,cr4,cr5,cr6,cr7,cr8,cr9,cr10,cr11,cr12]
 intro xw hxw gxw
 have s2:=s1.new (o:=wayO xr.m xr.d xr.a xr.n xr.c) hxw
 have d2:=d1.set (o:=wayO xr.m xr.d xr.a xr.n xr.c) gxw
 have hws:(h1.set xw (wayO xr.m xr.d xr.a xr.n xr.c)) xw=some (wayO xr.m xr.d xr.a xr.n xr.c):=ag
 simp only [wayO]at s2 d2 hws
 generalize Hp.set h1 xw _=h2 at s2 d2 hws ⊢
 have hws':=hws
 generalize hob:Obj.cells #[xr.m.k,xr.m.d,xr.m.n,xr.m.f.x,xr.m.f.y,.bool xr.m.f.d,xr.m.t.x,xr.m.t.y,.bool xr.m.t.d,xr.m.a,xr.m.e,xr.d,.slice xr.a xr.n xr.c] 232 (0,0)=ob at s2 d2 hws
 have s3:=HL.Sep.fr [noHp.set xw ob,a1,ae1,ah1,Bx] (R:=R) s2 [4,0,1,2,3] (by decide) rfl
 obtain ⟨Bx',s4,t4⟩:=HL.Sep.pack [Bx,noHp.set xw ob] (R:=a1::ae1::ah1::R) s3
 have s5:=HL.Sep.fr [Bx',a1,ae1,ah1] (R:=R) s4 [1,2,3,0] (by decide) rfl
 have hbw:Bx' xw=some (wayO y.1 y.2.2.1 xr.a y.2.2.2.length xr.c):=by
   have:=t4.at 1 rfl (x:=xw) (o:=ob) ag
   rw [this,<- hob,q1,q2,q3]
 have fb':Fbx q Bx' xn xo x:=⟨t4.at 0 rfl fb.n,t4.at 0 rfl fb.o⟩
 rw [q3]at q4
 have hyp:y.2.1=y.1.t:=by rw [hye];rfl
 refine from_in ss1 bg ok v1 hx1 hd ha hox hym hyp fb' hbw (q4.le cl1.p) (by omega) s5 d2 _ (by simp (disch:=omega) only [av,e0,g0]) (by simp (disch:=omega) only [av,e2,g2]) (by simp (disch:=omega) only [av,e4,g4]) (by simp (disch:=omega) only [av,e7,g7]) (by simp (disch:=decide) only [F6]) (by simp (disch:=decide) only [F6,q3]) (by simp (disch:=decide) only [F6,q3]) (by simp only [F6]) ?_
 intro r3 h3 a3 ae3 ah3 c3 L3 n3 ss3 v3 hx3 cl3 m1 m2 s6 d6 f0 f2 f4 f7 f31 f32 f33
 have s7:HL.Sep (Bx'::a3::ae3::ah3::R) h3:=HL.Sep.fr [a3,ae3,ah3,Bx'] (R:=R) s6 [3,0,1,2] (by decide) rfl
 have s8:HL.Sep (a3::ae3::ah3::Bx::R) h3:=HL.Sep.fr [Bx,noHp.set xw ob,a3,ae3,ah3] (R:=R) (HL.Sep.open (L:=[Bx,noHp.set xw ob]) (R:=a3::ae3::ah3::R) s7 t4) [2,3,4,0] (by decide) rfl
 simp (disch:=omega) only [av]at f0 f2 f4 f7 f31 f32 f33
 show E6 G (ci X KK) r3 h3
 unfold E6
 simp (disch:=first|decide|omega) only [F6,f33,e33]
 refine hX (raws.length-(j+1)) _ _ (by omega) ⟨j+1,a3,ae3,ah3,c3,L3,n3,rfl,by omega,by rw [hstep];exact ss3,by rw [hstep];exact v3,by rw [hstep];exact hx3,cl1.trans cl3,by omega,by omega,s8,d6,by simp (disch:=omega) only [av,f0,e0],by simp (disch:=omega) only [av,f2,e2],by simp (disch:=omega) only [av,f4,e4],by simp (disch:=omega) only [av,f7,e7],by simp (disch:=omega) only [av,f31,e31],by simp (disch:=omega) only [av,f32,e32],by simp only [F6];rfl⟩
def xy:=jq bC (jq (jq (jq (jq @al151 @al30) (jq @cf121 @cf66)) (jq (jq @I6 @Tk) (jq @Tj @En))) (jq (jq (jq @Va @ld151p) (jq @ld30 @qw)) (jq (jq @ld3p @ln229) (jq @ir (jq @Ur @A0)))))
theorem join3 {a b c h:Hp} {R:List Hp} (s:HL.Sep (a::b::c::R) h):∃q:Hp,a.le q/\b.le q/\c.le q/\∀h':Hp,a.le h'->b.le h'->c.le h'->q.le h':=by
 have a1:qf a b:=s.apart (by simp)
 have a2:qf a c:=s.apart (by simp)
 have a3:qf b c:=s.drop.apart (by simp)
 have a4:qf a (b.join c):=fun x=>by
   rcases a1 x with e|e
   . exact .inl e
   . rcases a2 x with e'|e'
     . exact .inl e'
     . right;unfold Hp.join;rw [e];exact e'
 refine ⟨a.join (b.join c),Hp.le_join,Hp.le_join.trans (Hp.le_join2 a4),(Hp.le_join2 a3).trans (Hp.le_join2 a4),fun h' l1 l2 l3 x o e=>?_⟩
 unfold Hp.join at e
 cases hx:a x with
 |some u=>rw [hx]at e;cases e;exact l1 _ _ hx
 |none=>
   rw [hx]at e
   simp only at e
   cases hy:b x with
   |some u=>rw [hy]at e;cases e;exact l2 _ _ hy
   |none=>rw [hy]at e;exact l3 _ _ e
theorem ab8 {G h a ae ah ak:Hp} {R:List Hp} {q:Par} {sp kp ms mw mp mt hp:Nat} {c:Cs} {S:SS} {L:List Go.Proofs.Wt.It} {n t0:Int} {p0:Pose} {z:Move} {x:St Pose Move} {k:Nat}
   (ss:Srs q a ae ah ms mw mp mt hp c S L n) (kpk:KP ak kp q.C.un q.C.ac q.C.sp) (bg:Bg G q sp kp ms mw mp mt hp) (ok:p8 q.E) (v:Inv q.E p0 t0 z x.a S) (hx:S[k]?=some x) (hd:x.dn=true) (ha:0<=x.a) (hn:n<=34000000000)
   (s:HL.Sep (a::ae::ah::ak::R) h):
   al P_ G 70 #[.pointer (some ⟨sp,0,none⟩),ndV (ux q.w q.k x),x.a] h (fun _ h'=>∃a' ae' ah' ak' c' L' n',Srs q a' ae' ah' ms mw mp mt hp c' (zm q.E x k S) L' n'/\KP ak' kp q.C.un q.C.ac q.C.sp/\c.le c'/\n<=n'/\n'<=n+2000000/\HL.Sep (a'::ae'::ah'::ak'::R) h'/\Dis G h'):=by
 obtain ⟨ab,cb,ap,cp,ar,cr,az,cs,gp,tp,hbg⟩:=id bg.ex
 have hxm:=List.mem_of_getElem? hx
 have hox:dg q.w q.k q.f x.p=true:=v.ok x hxm
 obtain ⟨hsi,hs1,hs2⟩:=v.at_ x hxm
 obtain ⟨hk1,hk3⟩:=ss.kept x hxm
 refine al.assume fun d=>enter70 (by simp) ?_
 obtain ⟨_,_,gs,_⟩:=hbg h d
 have hw16:=gs.w2
 have hk16:=gs.k2
 unfold S70
 simp only [ux]
 simp only [xy]
 intro xn hxn gxn
 have s1:=s.new (o := .cells #[(numP q.w q.k x.p),(x.i:Int)] 137 (0,0)) hxn
 have d1:=d.set (o := .cells #[(numP q.w q.k x.p),(x.i:Int)] 137 (0,0)) gxn
 generalize hon:Obj.cells #[(numP q.w q.k x.p),(x.i:Int)] 137 (0,0)=on at s1 d1 ⊢
 generalize Hp.set h xn _=h1 at s1 d1 ⊢
 have cn1:∀k,af G h1 ⟨xn,k,none⟩=_:=fun k=>aj (ai ((s1.at 0 rfl ag).trans (by rw [hon])))
 obtain ⟨o1,o2,o3,m1,m2,m3,sa⟩:=id ss.ch.sep
 have hmp:h1 mp=some o3:=(HL.Sep.open (s1.pick 1 rfl rfl) sa).at 2 rfl ag
 have b1:=vh (hbg h1 d1).2.1
 try simp only [xy,b1.mp,cn1]
 rw [Fs unmp un3r zerop (ai hmp) m3,hk3,Option.getD_some]
 intro xp hxp gxp
 try simp (disch:=first|decide|exact aq|exact ao|omega|rfl) only [xy]
 have s2:=s1.new (o := .cells #[x.p.x,x.p.y,.bool x.p.d] 30 (0,0)) hxp
 have d2:=d1.set (o := .cells #[x.p.x,x.p.y,.bool x.p.d] 30 (0,0)) gxp
 generalize hop:Obj.cells #[x.p.x,x.p.y,.bool x.p.d] 30 (0,0)=op at s2 d2 ⊢
 generalize Hp.set h1 xp _=h2 at s2 d2 ⊢
 have s2o:HL.Sep ([noHp.set ms o1,noHp.set mw o2,noHp.set mp o3,c.P]++([noHp.set xp op,noHp.set xn on,ae,ah,ak]++R)) h2:=HL.Sep.open (R:=[noHp.set xp op,noHp.set xn on,ae,ah,ak]++R) (s2.pick 2 rfl rfl) sa
 obtain ⟨q9,l1,l2,l3,l4⟩:=join3 (R:=[]) (HL.Sep.sel (L':=[noHp.set xn on,noHp.set xp op,c.P]) (HL.Sep.take s2o 6 rfl) [5,4,3] (by decide) rfl)
 have lq2:q9.le h2:=l4 h2 (s2.in 1 rfl) (s2.in 0 rfl) (ss.ch.pool.trans (s2.in 2 rfl))
 have cq:∀k,af G q9 ⟨xp,k,none⟩=_:=fun k=>aj (ai ((l2 _ _ ag).trans (by rw [hop])))
 have cqn:∀k,af G q9 ⟨xn,k,none⟩=_:=fun k=>aj (ai ((l1 _ _ ag).trans (by rw [hon])))
 refine ⟨q9,lq2,?_⟩
 try simp only [xy,cq]
 refine (lv ss.ch bg (HL.Sep.fr (R:=R) [noHp.set xp op,noHp.set xn on,a,ae,ah,ak] s2 [2,3,4,5,1,0] (by decide) rfl) hox).mono ?_
 rintro u h3 ⟨a3,c3,ch3,cl3,e2,hu,hu3,s3,d3⟩
 have s3:HL.Sep (a3::ae::ah::ak::noHp.set xn on::noHp.set xp op::R) h3:=s3
 refine ⟨l4 h3 (s3.in 4 rfl) (s3.in 5 rfl) (cl3.p.trans (ch3.pool.trans (s3.in 0 rfl))),?_⟩
 obtain ⟨u0,hu0⟩:=Option.isSome_iff_exists.1 hk1
 have huu:=cl3.l1 _ _ hu0
 rw [hu]at huu
 cases huu
 have slu:=ss.ch.look1 hox hu0
 obtain ⟨sv,cv,rfl,_⟩:=slu.len (by decide)
 have hsi':(lg q.w q.k q.T q.r x.p)[x.i]?=some x.s:=hsi
 obtain ⟨b,o,rfl,z1,z2⟩:=Sees.span (slu.see (G:=G) (by decide) l3) hsi'
 have hlt:=(List.getElem?_eq_some_iff.1 hsi').1
 have hlti:(x.i:Int)<((lg q.w q.k q.T q.r x.p).length:Int):=Int.ofNat_lt.2 hlt
 simp (disch:=first|decide|exact aq|exact ao|omega|rfl) only [xy,cqn,Sq (Int.natCast_nonneg x.i) hlti,z1,z2]
 intro xo hxo gxo
 have s4:=s3.new (o := .cells #[x.s.1,x.s.2] 151 (0,0)) hxo
 have d4:=d3.set (o := .cells #[x.s.1,x.s.2] 151 (0,0)) gxo
 generalize hoo:Obj.cells #[x.s.1,x.s.2] 151 (0,0)=oo at s4 d4 ⊢
 generalize Hp.set h3 xo _=h4 at s4 d4 ⊢
 have s4:HL.Sep (noHp.set xo oo::a3::ae::ah::ak::noHp.set xn on::noHp.set xp op::R) h4:=s4
 have cx4:∀k,af G h4 ⟨xp,k,none⟩=_:=fun k=>aj (ai ((s4.at 6 rfl ag).trans (by rw [hop])))
 try simp only [xy,cx4]
 refine (Rn ch3 kpk bg (HL.Sep.fr (R:=R) [noHp.set xo oo,a3,ae,ah,ak,noHp.set xn on,noHp.set xp op] s4 [1,4,2,3,0,5,6] (by decide) rfl) hox).mono ?_
 rintro u h5 ⟨a5,ak5,c5,ch5,kp5,cl5,e5,hu5,s5,d5⟩
 have s5:HL.Sep (a5::ak5::ae::ah::noHp.set xo oo::noHp.set xn on::noHp.set xp op::R) h5:=s5
 obtain ⟨raws,wsl,hrl,hraw⟩:=ch5.look2 hox hu5
 obtain ⟨sw,cw,rfl,_⟩:=wsl.len (by decide)
 try simp only [xy]
 have cl:=cl3.trans cl5
 have ss5:Srs q a5 ae ah ms mw mp mt hp c5 S L n:=⟨ch5,ss.st,ss.hp,ss.ok,ss.qi,ss.kept.le cl,ss.n0,ss.ln⟩
 have s6:HL.Sep ([noHp.set xn on,noHp.set xo oo]++(a5::ae::ah::ak5::R)) h5:=HL.Sep.fr (R:=R) [a5,ak5,ae,ah,noHp.set xo oo,noHp.set xn on,noHp.set xp op] s5 [5,4,0,2,3,1] (by decide) rfl
 obtain ⟨Bx,s7,t7⟩:=HL.Sep.pack [noHp.set xn on,noHp.set xo oo] (R:=a5::ae::ah::ak5::R) s6
 have fb:Fbx q Bx xn xo x:=⟨(t7.at 0 rfl ag).trans (by rw [hon]),(t7.at 1 rfl ag).trans (by rw [hoo])⟩
 refine ak9 ss5 bg ok v hx hd ha hox hw16 hk16 fb wsl hrl hraw hn (R:=ak5::R) (HL.Sep.fr (R:=R) [Bx,a5,ae,ah,ak5] s7 [1,2,3,0,4] (by decide) rfl) d5 _ (by simp (disch:=omega) only [av];rfl) (by simp (disch:=omega) only [av];rfl) (by simp (disch:=decide) only [xy]) (by simp (disch:=decide) only [xy]) (by simp (disch:=decide) only [xy]) (by simp (disch:=decide) only [xy]) (by simp only [xy]) ?_
 intro r' h8 a8 ae8 ah8 c8 L8 n8 ss8 cl8 m1 m2 s8 d8
 exact ⟨a8,ae8,ah8,ak5,c8,L8,n8,ss8,kp5,cl.trans cl8,m1,m2,HL.Sep.fr (R:=R) [a8,ae8,ah8,Bx,ak5] s8 [0,1,2,4] (by decide) rfl,d8⟩
end Go.Proofs.YtfflipnhffknnaaGreatDoor
end
section
namespace Go.Proofs.YtfflipnhffknnaaGreatDoor
open Go Go.HL
def vi:=jq bC (jq (jq @Sm @Sj) (jq @ln40 (jq @my @kq)))
def rt {α:Type} (L M:List α) (i:Nat):Prop:=M.length=L.length/\∀p:Nat,p<L.length->M[p]?=if p<i\/L.length-i<=p then L[L.length-1-p]? else L[p]?
theorem rt.zero {α:Type} {L:List α}:rt L L 0:=⟨rfl,fun p hp=>by rw [if_neg (by omega)]⟩
theorem rt.all {α:Type} {L M:List α} {i:Nat} (f:rt L M i) (h:L.length<=2*i+1):M=L.reverse:=by
 refine List.ext_getElem? fun p=>?_
 by_cases hp:p<L.length
 . rw [f.2 p hp,List.getElem?_reverse hp]
   split
   . rfl
   . congr 1
     omega
 . rw [List.getElem?_eq_none (by rw [f.1];omega),List.getElem?_eq_none (by simp;omega)]
theorem rt.next {α:Type} {L M:List α} {i:Nat} {x y:α} (f:rt L M i) (h:2*i+1<L.length) (hx:M[i]?=some x) (hy:M[L.length-1-i]?=some y):rt L ((M.set i y).set (L.length-1-i) x) (i+1):=by
 refine ⟨by rw [List.length_set,List.length_set,f.1],fun p hp=>?_⟩
 have e1:L[i]?=some x:=by rw [<- hx,f.2 i (by omega),if_neg (by omega)]
 have e2:L[L.length-1-i]?=some y:=by rw [<- hy,f.2 _ (by omega),if_neg (by omega)]
 by_cases h1:p=L.length-1-i
 . subst h1
   rw [List.getElem?_set_self (by rw [List.length_set,f.1];omega),if_pos (by omega),show L.length-1-(L.length-1-i)=i by omega,e1]
 . rw [List.getElem?_set_ne (by omega)]
   by_cases h2:p=i
   . subst h2
     rw [List.getElem?_set_self (by rw [f.1];omega),if_pos (by omega),e2]
   . rw [List.getElem?_set_ne (by omega),f.2 p hp]
     by_cases h3:p<i\/L.length-i<=p
     . rw [if_pos h3,if_pos (by omega)]
     . rw [if_neg h3,if_neg (by omega)]
theorem Sees.mvx {G h:Hp} {sa:Option Addr} {cap n:Nat} {L:List Move} (s:Sees ff G h (.slice sa n cap) L) {i:Nat} {m:Move} (hx:L[i]?=some m):
   ∃b o,sa=some ⟨b,o,none⟩/\af G h ⟨b,o+i*11,none⟩=some (.int .i64 m.k)/\af G h ⟨b,o+i*11+1,none⟩=some (.int .i64 m.d)/\af G h ⟨b,o+i*11+2,none⟩=some (.int .i64 m.n)/\af G h ⟨b,o+i*11+3,none⟩=some (.int .i64 m.f.x)/\af G h ⟨b,o+i*11+4,none⟩=some (.int .i64 m.f.y)/\af G h ⟨b,o+i*11+5,none⟩=some (.bool m.f.d)/\af G h ⟨b,o+i*11+6,none⟩=some (.int .i64 m.t.x)/\af G h ⟨b,o+i*11+7,none⟩=some (.int .i64 m.t.y)/\af G h ⟨b,o+i*11+8,none⟩=some (.bool m.t.d)/\af G h ⟨b,o+i*11+9,none⟩=some (.int .i64 m.a)/\af G h ⟨b,o+i*11+10,none⟩=some (.int .i64 m.e):=by
 obtain ⟨s',cap',e,_,hc⟩:=s
 cases e
 rcases hc with rfl|⟨b,o,rfl,hc⟩
 . simp at hx
 . have e2:=fun j hj=>hc i m hx j hj
   exact ⟨b,o,rfl,e2 0 (by decide),e2 1 (by decide),e2 2 (by decide),e2 3 (by decide),e2 4 (by decide),e2 5 (by decide),e2 6 (by decide),e2 7 (by decide),e2 8 (by decide),e2 9 (by decide),e2 10 (by decide)⟩
theorem Wu {G h:Hp} {b i:Nat} {M:List Move} {t:List Value} {j:Move} {K:Unit->Hp->Prop} (hb:h b=some (.cells (ff.rows M++t).toArray 48 (0,0))) (hi:i<M.length):
   wpH P_ G (Instr.storeAt 48 (.pointer (some ⟨b,i*11,none⟩)) (Fm j)) h K=K () (h.set b (.cells (ff.rows (M.set i j)++t).toArray 48 (0,0))):=by
 rw [qs (n:=11) sz48 hb rfl (by rw [List.length_append,ff.rows_length,show ff.n=11 from rfl];omega) (by intro v hv;simp [Value.cells]at hv;rcases hv with rfl|rfl|rfl|rfl|rfl|rfl|rfl|rfl|rfl|rfl|rfl<;>rfl)]
 have:=ff.rows_put (t:=t) (x:=j) hi
 rw [<- this]
 rfl
theorem Z2 {G h a:Hp} {R:List Hp} {v:Value} {L:List Move} (s:HL.Sep (a::R) h) (o:Slc ff 48 a v L) (hL:L.length<=1000000):al P_ G 120 #[v] h (fun u h'=>∃a',Slc ff 48 a' v L.reverse/\HL.Sep (a'::R) h'/\Dis G h'):=by
 refine al.assume fun d=>as7 (by simp) ?_
 unfold S120
 obtain ⟨sa,cap,rfl,_⟩:=o.len (by decide)
 simp (disch:=first|decide|omega) only [vi]
 generalize hKK:retK P_ G _ _=KK
 refine di (fun m q h3=>∃(i:Nat) (a:Hp) (M:List Move),m=L.length-i/\2*i<=L.length+1/\q 0 = .slice sa L.length cap/\q 2 = .int .i64 i/\q 3 = .int .i64 ((L.length:Int)-1-i)/\Slc ff 48 a (.slice sa L.length cap) M/\rt L M i/\HL.Sep (a::R) h3/\Dis G h3) ?_
   (m:=L.length) ⟨0,a,L,rfl,by omega,by simp (disch:=decide) only [vi],by simp (disch:=decide) only [vi]<;>rfl,by simp only [vi];simp,o,rt.zero,s,d⟩
 clear s o d
 rintro m q h3 ⟨i,a,M,rfl,hi,q0,q2,q3,o,fl,s3,d3⟩ X HX
 unfold Za
 simp only [vi,q2,q3]
 refine bv (fun hlt=>?_) (fun hge=>?_)
 rotate_left
 . try simp (disch:=first|decide|omega) only [vi,Nat.reduceAdd,Nat.reduceMul]
   rw [<- hKK]
   try simp only [vi]
   rw [fl.all (by omega)]at o
   exact ⟨a,o,s3,d3⟩
 have hij:2*i+1<L.length:=by omega
 obtain ⟨j,ej⟩:∃j:Nat,j=L.length-1-i:=⟨_,rfl⟩
 have ejn:(L.length:Int)-1-(i:Int)=(j:Int):=by omega
 rw [ejn]at q3
 have hil:(i:Int)<L.length:=by omega
 have hjl:(j:Int)<L.length:=by omega
 obtain ⟨x,hx⟩:∃x,M[i]?=some x:=⟨_,List.getElem?_eq_getElem (by rw [fl.1];omega)⟩
 obtain ⟨y,hy⟩:∃y,M[j]?=some y:=⟨_,List.getElem?_eq_getElem (by rw [fl.1];omega)⟩
 have sv:=o.sees (G:=G) (by decide) (s3.in 0 rfl)
 obtain ⟨b,of,rfl,x0,x1,x2,x3,x4,x5,x6,x7,x8,x9,x10⟩:=Sees.mvx sv hx
 obtain ⟨b',of',e',y0,y1,y2,y3,y4,y5,y6,y7,y8,y9,y10⟩:=Sees.mvx sv hy
 cases e'
 obtain ⟨ob,o'⟩:=o
 cases ob with
 |none=>exact absurd o'.2 (fun e=>by rw [e]at hx;simp at hx)
 |some ob=>
 obtain ⟨cap',t,e9,hb,hbl⟩:=o'
 rw [fl.1]at e9
 simp only [Value.slice.injEq,Option.some.injEq,Addr.mk.injEq,and_true,true_and]at e9
 obtain ⟨⟨rfl,rfl⟩,rfl⟩:=e9
 rw [Nat.zero_add]at x0 x1 x2 x3 x4 x5 x6 x7 x8 x9 x10 y0 y1 y2 y3 y4 y5 y6 y7 y8 y9 y10
 have hb3:=s3.at 0 rfl hb
 unfold Ko
 simp (disch:=first|decide|omega) only [vi,q0,q2,q3,ix40 (Int.natCast_nonneg i) hil,ix40 (Int.natCast_nonneg j) hjl,Int.toNat_natCast,x0,x1,x2,x3,x4,x5,x6,x7,x8,x9,x10,y0,y1,y2,y3,y4,y5,y6,y7,y8,y9,y10]
 rw [Wu (j:=y) hb3 (by rw [fl.1];omega)]
 have s4:=s3.put (o := .cells (ff.rows (M.set i y)++t).toArray 48 (0,0)) hb
 have d4:=d3.set (o := .cells (ff.rows (M.set i y)++t).toArray 48 (0,0)) (d3 _ _ hb3)
 generalize Hp.set h3 b _=h4 at s4 d4 ⊢
 try simp (disch:=first|decide|omega) only [vi,Nat.reduceAdd,Nat.reduceMul,q0,q3,ix40 (Int.natCast_nonneg j) hjl,Int.toNat_natCast]
 rw [Wu (j:=x) (s4.at 0 rfl ag) (by rw [List.length_set,fl.1];omega)]
 have s5:=s4.put (o := .cells (ff.rows ((M.set i y).set j x)++t).toArray 48 (0,0)) ag
 rw [set_set]at s5
 have d5:=d4.set (o := .cells (ff.rows ((M.set i y).set j x)++t).toArray 48 (0,0)) (d4 _ _ (s4.at 0 rfl ag))
 generalize Hp.set h4 b _=h5 at s5 d5 ⊢
 have fn:=fl.next hij hx (by rw [<- ej];exact hy)
 rw [<- ej]at fn
 unfold Kn
 simp (disch:=first|decide|omega) only [vi,q2,q3]
 refine HX (L.length-(i+1)) _ _ (by omega) ⟨i+1,_,_,rfl,by omega,by simp (disch:=decide) only [vi,q0],by simp (disch:=decide) only [vi]<;>rfl,by simp only [vi]<;>(congr 1;omega),⟨some b,cap,t,by rw [fn.1],ag,?_⟩,fn,s5,d5⟩
 rw [<- hbl,List.length_append,List.length_append,ff.rows_length,ff.rows_length,List.length_set,List.length_set]
end Go.Proofs.YtfflipnhffknnaaGreatDoor
end
section
namespace Go.Proofs.YtfflipnhffknnaaGreatDoor
open Go Go.HL Go.Proofs.Resv Go.Proofs.Srch
def tq:=jq bC (jq (jq (jq @bne_self_eq_false.{0} (jq @T8 @cf120)) (jq @I5 (jq @an7 @fa146_1))) (jq (jq @zq (jq @U9 @U8)) (jq (jq @ld3 @ld48) (jq @ld @ir))))
theorem Vl:∀(n:Nat) (L:List Nat),L.Nodup->(∀x∈L,x<n)->L.length<=n
 |0,L,_,h=>by
   cases L with
   |nil=>simp
   |cons x L=>exact absurd (h x (.head _)) (by omega)
 |n+1,L,hn,h=>by
   by_cases hm:n∈L
   . have h1:=Vl n (L.erase n) (hn.erase n) (fun x hx=>by
       have h2:=h x (List.mem_of_mem_erase hx)
       have h3:x≠n:=(List.Nodup.mem_erase_iff hn).1 hx |>.1
       omega)
     rw [List.length_erase_of_mem hm]at h1
     have:=List.length_pos_of_mem hm
     omega
   . have:=Vl n L hn (fun x hx=>by
       have h2:=h x hx
       have h3:x≠n:=fun e=>hm (e▸hx)
       omega)
     omega
theorem O3 {w k:Nat} {f:Nat->Nat->Int} {p:Pose} (h:dg w k f p=true) (hw:w<=16) (hk:k<=16):0<=numP w k p/\numP w k p<512:=by
 obtain ⟨e1,_,_,e4⟩:=uv (Am h)
 have:w*k<=16*16:=Nat.mul_le_mul hw hk
 unfold numP
 rw [e1]
 split<;>omega
theorem Uo {q:Par} {p0:Pose} {t0 lo:Int} {z:Move} {S:SS} (v:Inv q.E p0 t0 z lo S) (gt:kc q.T) (fw:Few q.T 100) (hw:q.w<=16) (hk:q.k<=16):S.length<=110000:=by
 have hsl:∀x∈S,x.i<204:=fun x hx=>by
   have h1:=(List.getElem?_eq_some_iff.1 (v.at_ x hx).1).1
   have h2:(q.E.spans x.p).length=(li q.T q.r ((bz x.p).map (numI q.w q.k))).length:=rfl
   have h3:=Dd gt fw q.r ((bz x.p).map (numI q.w q.k))
   rw [List.length_map,show (bz x.p).length=2 from rfl]at h3
   omega
 have h1:=Vl (512*204) (S.map fun x=>(numP q.w q.k x.p).toNat*204+x.i) ?_ ?_
 . rw [List.length_map]at h1;omega
 . refine List.Pairwise.map _ ?_ (List.pairwise_iff_getElem.2 fun i j hi hj hij=>?_) (R:=fun x y:St Pose Move=>x∈S/\y∈S/\¬(x.p=y.p/\x.i=y.i))
   . rintro x y ⟨hx,hy,hne⟩ e
     have b1:=O3 (v.ok x hx) hw hk
     have b2:=O3 (v.ok y hy) hw hk
     have c1:=hsl x hx
     have c2:=hsl y hy
     refine hne ⟨uu (v.ok x hx) (v.ok y hy) ?_,?_⟩<;>omega
   . exact ⟨List.getElem_mem hi,List.getElem_mem hj,List.pairwise_iff_getElem.1 v.keys i j hi hj hij⟩
 . intro n hn
   obtain ⟨x,hx,rfl⟩:=List.mem_map.1 hn
   have b1:=O3 (v.ok x hx) hw hk
   have c1:=hsl x hx
   omega
theorem Zm {q:Par} {p:Pose} {y:WayT} (h:y∈q.E.ways p):y.1.k≠0:=by
 obtain ⟨i,hi⟩:=List.getElem?_of_mem h
 obtain ⟨m,hm,rfl⟩:=Gn hi
 show m.k≠0
 obtain ⟨_,⟨d,n,_,_,_,_,rfl⟩|⟨_,rfl⟩⟩:=Aj hm
 . show (1:Int)≠0;decide
 . show (2:Int)≠0;decide
theorem O7 {l:List (Nat × St Pose Move)}:(nf l).length<=l.length:=by
 induction l with
 |nil=>simp [nf]
 |cons x l ih=>
   cases l with
   |nil=>simp [nf]
   |cons y l=>simp only [nf,List.length_cons]at ih ⊢;omega
theorem Ma {G h a ae ah:Hp} {R:List Hp} {q:Par} {sp kp ms mw mp mt hp:Nat} {c:Cs} {S:SS} {L:List Go.Proofs.Wt.It} {n t0 lo:Int} {p0:Pose} {z:Move} {x:St Pose Move} {k:Nat}
   (ss:Srs q a ae ah ms mw mp mt hp c S L n) (bg:Bg G q sp kp ms mw mp mt hp) (v:Inv q.E p0 t0 z lo S) (hz:z.k=0) (hx:S[k]?=some x) (s:HL.Sep (a::ae::ah::R) h):
   al P_ G 69 #[.pointer (some ⟨sp,0,none⟩),ndV (ux q.w q.k x)] h (fun u h'=>∃ip,Slc ff 48 ip u (path S S.length k [])/\(path S S.length k []).length<=110000/\HL.Sep (ip::a::ae::ah::R) h'/\Dis G h'):=by
 obtain ⟨ab,cb,ap,cp,ar,cr,az,cs,gp,tp,hbg⟩:=id bg.ex
 refine al.assume fun d=>enter69 (by simp) ?_
 obtain ⟨_,_,gs,_⟩:=hbg h d
 have hS:∀x∈S,dg q.w q.k q.f x.p=true:=v.ok
 have hSl:=Uo v bg.gt bg.fw gs.w2 gs.k2
 obtain ⟨l,hch,hll⟩:=M7 v hx
 have hpath:=H8 hch S.length [] hll
 rw [List.append_nil]at hpath
 rw [hpath]
 have hml:=O7 (l:=l)
 obtain ⟨o,E,bb,km,sb,se⟩:=id ss.st
 unfold S69
 simp only [ux]
 simp only [tq]
 intro xn hxn gxn
 have s1:=s.past (o := .cells #[(numP q.w q.k x.p),(x.i:Int)] 137 (0,0)) hxn
 have d1:=d.set (o := .cells #[(numP q.w q.k x.p),(x.i:Int)] 137 (0,0)) gxn
 have hns:(h.set xn (.cells #[(numP q.w q.k x.p),(x.i:Int)] 137 (0,0))) xn=some (.cells #[(numP q.w q.k x.p),(x.i:Int)] 137 (0,0)):=ag
 generalize Hp.set h xn _=h1 at s1 d1 hns ⊢
 have cn1:∀k,af G h1 ⟨xn,k,none⟩=_:=fun k=>aj (ai hns)
 have b1:=vh (hbg h1 d1).2.1
 have hmt:h1 mt=some o:=(s1.pick 1 rfl rfl).open sb |>.at 0 rfl ag
 have look:∀{h':Hp} {k':Nat} {x':St Pose Move},HL.look G h' mt=some o->S[k']?=some x'->∃e,E[k']?=some e/\bb e.2=some (pt (iu q.w q.k S x'.b) x'.mv x'.a x'.dn)/\∀K,pw P_ G h' (Instr.lookup 131 (.map (some mt)) (.agg #[(numP q.w q.k x'.p),(x'.i:Int)]) false) K=K (.pointer (some ⟨e.2,0,none⟩)):=by
   intro h' k' x' hm hx'
   have hk:=ak0 v hx'
   rcases se.get (f:=q.f) hS (hS _ (List.mem_of_getElem? hx')) (i:=x'.i)with ⟨h0,_⟩|⟨j,e,y,h1,h2,h3,h4,h5⟩
   . rw [hk]at h0;cases h0
   . rw [hk]at h1
     cases h1
     rw [hx']at h3
     cases h3
     refine ⟨e,h2,h5,fun K=>?_⟩
     have:=Fr (K:=K) O6 unmt zerot hm km (k:=(numP q.w q.k x'.p,(x'.i:Int)))
     rw [h4,Option.getD_some]at this
     exact this
 obtain ⟨e0,he0,hb0,lk0⟩:=look (ai hmt) hx
 try simp only [tq,b1.mt,cn1,lk0]
 have kind:∀{k':Nat} {x':St Pose Move},S[k']?=some x'->(x'.b<0->x'.mv.k=0)/\(0<=x'.b->x'.mv.k≠0):=by
   intro k' x' hx'
   rcases v.by_ x' (List.mem_of_getElem? hx')with ⟨h1,_,_,h2⟩|⟨y,h1,_,_,_,⟨w,hw,_,_,_,_,_,_,_,_,hm⟩⟩
   . exact ⟨fun _=>by rw [h2];exact hz,fun h=>by omega⟩
   . refine ⟨fun h=>by omega,fun _=>?_⟩
     rw [hm]
     exact Zm hw
 generalize hKK:bo 0 _=KK
 refine di (fun m r' h'=>∃(k':Nat) (x':St Pose Move) (l':List (Nat × St Pose Move)) (e':Nd × Nat) (ip:Hp) (M:List Move),m=l'.length/\Eb S k' l'/\S[k']?=some x'/\bb e'.2=some (pt (iu q.w q.k S x'.b) x'.mv x'.a x'.dn)/\Slc ff 48 ip (r' 5) M/\M++nf l'=nf l/\r' 0 = .pointer (some ⟨sp,0,none⟩)/\r' 6 = .pointer (some ⟨e'.2,0,none⟩)/\HL.Sep (ip::a::ae::ah::R) h'/\Dis G h') ?_ (m:=l.length)
   ⟨k,x,l,e0,noHp,[],rfl,hch,hx,hb0,by simp (disch:=decide) only [tq];exact Slc.nil,rfl,by simp (disch:=decide) only [tq],by simp only [tq],s1.none,d1⟩
 rintro m r1 h2 ⟨k',x',l',e',ip,M,rfl,hc',hx',hbe,om,hM,e0',e6,s2,d2⟩ X hX
 unfold ay3
 have hbe2:h2 e'.2=some (pt (iu q.w q.k S x'.b) x'.mv x'.a x'.dn):=(s2.pick 2 rfl rfl).open sb |>.at 1 rfl hbe
 have ce2:∀k,af G h2 ⟨e'.2,k,none⟩=_:=fun k=>aj (ai hbe2)
 simp only [stpL]at ce2
 simp only [tq,e6,ce2]
 have hMl:M.length<=110000:=by
   have:=congrArg List.length hM
   rw [List.length_append]at this
   omega
 cases hc' with
 |start h0 hb=>
   rename_i x''
   rw [hx']at h0
   cases h0
   have hk0:=(kind hx').1 hb
   try simp only [tq,hk0,decide_true,Bool.not_true]
   rw [<- hKK]
   show Wa G _ _ _
   unfold Wa
   simp (disch:=decide) only [tq]
   rw [show nf [(k',x')]=[]from rfl,List.append_nil]at hM
   subst hM
   refine (Z2 s2 om (by omega)).mono ?_
   rintro _ h3 ⟨ip3,om3,s3,d3⟩
   try simp (disch:=first|decide|omega) only [tq,Nat.reduceAdd,Nat.reduceMul]
   exact ⟨ip3,om3,by rw [List.length_reverse];omega,s3,d3⟩
 |@step _ j x'' l'' h0 hb hc2=>
   rw [hx']at h0
   cases h0
   have hk0:=(kind hx').2 (by omega)
   try simp only [tq,show (x'.mv.k != 0)=true from by simpa using hk0]
   unfold Nv
   try simp (disch:=decide) only [tq,Nat.reduceAdd,e6,ce2]
   intro b hb' gb
   have s3:=s2.past (o := .cells #[x'.mv.k,x'.mv.d,x'.mv.n,x'.mv.f.x,x'.mv.f.y,.bool x'.mv.f.d,x'.mv.t.x,x'.mv.t.y,.bool x'.mv.t.d,x'.mv.a,x'.mv.e] 48 (0,0)) hb'
   have d3:=d2.set (o := .cells #[x'.mv.k,x'.mv.d,x'.mv.n,x'.mv.f.x,x'.mv.f.y,.bool x'.mv.f.d,x'.mv.t.x,x'.mv.t.y,.bool x'.mv.t.d,x'.mv.a,x'.mv.e] 48 (0,0)) gb
   have hbs:(h2.set b (.cells #[x'.mv.k,x'.mv.d,x'.mv.n,x'.mv.f.x,x'.mv.f.y,.bool x'.mv.f.d,x'.mv.t.x,x'.mv.t.y,.bool x'.mv.t.d,x'.mv.a,x'.mv.e] 48 (0,0))) b=_:=ag
   generalize Hp.set h2 b _=h3 at s3 d3 hbs ⊢
   refine ez ff (by decide) un40 eomove (by decide) (by decide) (M:=[x'.mv]) s3 d3 om (Sees.row (c:=ff) (L:=[x'.mv]) hbs rfl (Nat.le_refl _)) (by simp;omega) fun v4 a4 h4 o4 s4 d4=>?_
   obtain ⟨y,hy⟩:∃y,S[j]?=some y:=by cases hc2<;>exact ⟨_,by assumption⟩
   obtain ⟨e1,he1,hb1,lk1⟩:=look (h':=h4) (ai ((s4.pick 2 rfl rfl).open sb |>.at 0 rfl ag)) hy
   have hbe4:h4 e'.2=some (pt (iu q.w q.k S x'.b) x'.mv x'.a x'.dn):=(s4.pick 2 rfl rfl).open sb |>.at 1 rfl hbe
   have hfr:iu q.w q.k S x'.b=ux q.w q.k y:=by
     unfold iu
     rw [if_neg (by omega),hb,Int.toNat_natCast,hy]
   rw [hfr]at hbe4
   have ce4:∀k,af G h4 ⟨e'.2,k,none⟩=_:=fun k=>aj (ai hbe4)
   simp only [stpL,ux]at ce4
   have b4:=vh (hbg h4 d4).2.1
   unfold Nu
   try simp (disch:=decide) only [tq,e0',e6,b4.mt,ce4,lk1]
   refine hX l''.length _ _ (by simp) ⟨j,y,l'',e1,a4,M++[x'.mv],rfl,hc2,hy,hb1,by simp (disch:=decide) only [tq];exact o4,?_,by simp (disch:=decide) only [tq,e0'],by simp only [tq],s4,d4⟩
   rw [<- hM,List.append_assoc]
   congr 1
   cases hc2<;>rfl
def bRtS:=jq bC (jq (jq (jq (jq (jq @Bool.and_true @al139) (jq @al30 (jq @cf66 @cf68))) (jq (jq @cf69 (jq @cf70 @eq28)) (jq @eq30 (jq @I6 @I5)))) (jq (jq (jq @Xu @Tk) (jq @Tj (jq @Xt @an9))) (jq (jq @Xs (jq @an8 @an6)) (jq @Xr (jq @an5 @Ti))))) (jq (jq (jq (jq @Gv @tk) (jq @am0 (jq @al9 @En))) (jq (jq @Va (jq @U9 @ld132)) (jq @ld137 (jq @U8 @ld28)))) (jq (jq (jq @ld3 (jq @ld30 @qw)) (jq @ld3p (jq @ld4 @ld4p))) (jq (jq @ld (jq @ir @jy)) (jq @sn (jq @ag1 @A0))))))
theorem StE.look {w k:Nat} {f:Nat->Nat->Int} {b:Hp} {E:List (Nd × Nat)} {S:SS} (s:StE w k b E S) (hS:∀x∈S,dg w k f x.p=true) {j:Nat} {x:St Pose Move} (hx:S[j]?=some x) (hk:Srch.key S x.p x.i=some j):
   ∃e,E[j]?=some e/\b e.2=some (pt (iu w k S x.b) x.mv x.a x.dn)/\kget (E.map entV) (numP w k x.p,(x.i:Int))=some (.pointer (some ⟨e.2,0,none⟩)):=by
 rcases s.get (f:=f) hS (hS _ (List.mem_of_getElem? hx)) (i:=x.i)with ⟨h0,_⟩|⟨j',e,y,h1,h2,h3,h4,h5⟩
 . rw [hk]at h0;cases h0
 . rw [hk]at h1
   cases h1
   rw [hx]at h3
   cases h3
   exact ⟨e,h2,h5,h4⟩
theorem StE.done {w k:Nat} {b:Hp} {E:List (Nd × Nat)} {S:SS} (s:StE w k b E S) {j:Nat} {x:St Pose Move} {e:Nd × Nat} (hx:S[j]?=some x) (he:E[j]?=some e):
   StE w k (b.set e.2 (pt (iu w k S x.b) x.mv x.a true)) E (take S j x):=by
 have hjS:j<S.length:=(List.getElem?_eq_some_iff.1 hx).1
 have e3:({ x with dn:=true }:St Pose Move).p=x.p:=rfl
 have e4:({ x with dn:=true }:St Pose Move).i=x.i:=rfl
 refine ⟨by unfold take;rw [List.length_set];exact s.len,s.nod,fun i e' y he' hy=>?_⟩
 unfold take at hy ⊢
 by_cases hij:j=i
 . subst hij
   rw [List.getElem?_set_self hjS]at hy
   rw [he]at he'
   cases he'
   cases hy
   refine ⟨(s.cel j e x he hx).1,?_⟩
   rw [ag,Dc (y:={ x with dn:=true }) hx e3 e4]
 . rw [List.getElem?_set_ne hij]at hy
   obtain ⟨h1,h2⟩:=s.cel i e' y he' hy
   have hne:e'.2≠e.2:=fun h=>by
     have hl1:=(List.getElem?_eq_some_iff.1 he).1
     have hl2:=(List.getElem?_eq_some_iff.1 he').1
     have a1:(E.map (·.2))[j]?=some e.2:=by rw [List.getElem?_map,he];rfl
     have a2:(E.map (·.2))[i]?=some e'.2:=by rw [List.getElem?_map,he'];rfl
     rw [h,<- a1]at a2
     exact hij ((List.getElem?_inj (by simpa using hl1) s.nod).1 a2.symm)
   rw [au hne,Dc (y:={ x with dn:=true }) hx e3 e4]
   exact ⟨h1,h2⟩
def outL:Res Move->List Move
 | .ok l=>l
 | .no _=>[]
def outE:Res Move->Int
 | .ok _=>0
 | .no e=>e
structure Fz (G B:Hp) (q:Par) (sp kp ms mw mp mt hp xc xg:Nat) (gp:Pose) (any:Bool):Prop where
 bg:∀A h,HL.Sep [A,B] h->Dis G h->Bg (HL.under G h A) q sp kp ms mw mp mt hp
 rd:∃g tp,∀h,B.le h->Dis G h->BC G h sp g kp tp q.r ms mw mp mt hp
 gt:kc q.T
 fw:Few q.T 100
 w2:q.w<=16
 k2:q.k<=16
 bud:∀h,B.le h->Dis G h->af G h ⟨xc,14,none⟩=some (.int .i64 q.C.bu)
 aim:B xg=some (.cells #[gp.x,gp.y,.bool gp.d,.bool any] 45 (0,0))
def mj (gp:Pose) (any:Bool) (p:Pose) (s:Sp):Bool:=((p.x==gp.x&&p.y==gp.y&&p.d==gp.d)||(any&&(p.x==gp.x&&p.y==gp.y)))&&(s.2==FV)
theorem Rt {P M:Type} [DecidableEq P] {E:Env P M} {goal:P->Sp->Bool} {n:Nat} {S:List (St P M)} {k:Nat} {x:St P M} (h:least E S=some (k,x)) (hg:goal x.p x.s=true):run E goal (n+1) S = .ok (path (take S k x) S.length k []):=by
 conv=>lhs;unfold run
 rw [h]
 simp only [hg,if_true]
theorem run_on {P M:Type} [DecidableEq P] {E:Env P M} {goal:P->Sp->Bool} {n:Nat} {S:List (St P M)} {k:Nat} {x:St P M} (h:least E S=some (k,x)) (hg:goal x.p x.s=false):run E goal (n+1) S=run E goal n (zm E { x with dn:=true } k (take S k x)):=by
 conv=>lhs;unfold run
 rw [h]
 simp [hg]
def OutR (G:Hp) (B:Hp) (W:Res Move) (u:Value) (h':Hp):Prop:=∃ip vs,u = .tuple #[vs,(outE W)]/\Slc ff 48 ip vs (outL W)/\(outL W).length<=110000/\HL.Sep [ip,B] h'/\Dis G h'
theorem R0 {G h A B a ae ah ak:Hp} {q:Par} {sp kp ms mw mp mt hp xc xg:Nat} {gp:Pose} {any:Bool} {c:Cs} {S:SS} {L:List Go.Proofs.Wt.It} {n t0 lo:Int} {p0:Pose} {z:Move} {N:Nat}
   (fz:Fz G B q sp kp ms mw mp mt hp xc xg gp any) (ok:p8 q.E) (ht0:0<=t0) (hN:(N:Int)=q.C.bu) (hN1:1<=N) (hN2:N<=4000) (hz:z.k=0)
   (ss:Srs q a ae ah ms mw mp mt hp c S L n) (kpk:KP ak kp q.C.un q.C.ac q.C.sp) (v:Inv q.E p0 t0 z lo S) (hn:n<=1)
   (sA:HL.Sep [a,ae,ah,ak] A) (s:HL.Sep [A,B] h) (d:Dis G h) (r:Rg) (g19:r 19 = .pointer (some ⟨sp,0,none⟩)) (g6:r 6 = .pointer (some ⟨xc,0,none⟩)) (g11:r 11 = .pointer (some ⟨xg,0,none⟩)) (g20:r 20 = .int .i64 0) (g15:r 15 = .int .i64 6) {Q:Value->Hp->Prop} (HQ:∀u h',OutR G B (run q.E (mj gp any) N S) u h'->Q u h'):
   dl (Wi G) r h (bo 0 (ci (E9 G (retK P_ G [.tmp 12,.tmp 13] Q)) (qg (retK P_ G [.tmp 12,.tmp 13] Q)))):=by
 obtain ⟨g,tp,hrd⟩:=fz.rd
 generalize hW:run q.E (mj gp any) N S=W at HQ
 generalize hKR:retK P_ G [.tmp 12,.tmp 13] Q=KR
 generalize hKK:bo 0 _=KK
 refine di (fun m r' h'=>∃(i:Nat) (S':SS) (A' a' ae' ah' ak':Hp) (c':Cs) (L':List Go.Proofs.Wt.It) (n' lo':Int),m=(N-i)*40000000000+L'.length/\i<N/\run q.E (mj gp any) (N-i) S'=W/\Srs q a' ae' ah' ms mw mp mt hp c' S' L' n'/\KP ak' kp q.C.un q.C.ac q.C.sp/\Inv q.E p0 t0 z lo' S'/\n'<=1+i*2000000/\
     HL.Sep [a',ae',ah',ak'] A'/\HL.Sep [A',B] h'/\Dis G h'/\r' 19 = .pointer (some ⟨sp,0,none⟩)/\r' 6 = .pointer (some ⟨xc,0,none⟩)/\r' 11 = .pointer (some ⟨xg,0,none⟩)/\r' 20 = .int .i64 i/\r' 15 = .int .i64 6) ?_ (m:=N*40000000000+L.length)
   ⟨0,S,A,a,ae,ah,ak,c,L,n,lo,by simp,by omega,hW,ss,kpk,v,by omega,sA,s,d,g19,g6,g11,g20,g15⟩
 clear ss kpk v sA s d g19 g6 g11 g20 g15 hW
 rintro m r1 h1 ⟨i,S1,A1,a1,ae1,ah1,ak1,c1,L1,n1,lo1,rfl,hi,hW,ss,kpk,v,hn1,sA,s,d,e19,e6,e11,e20,e15⟩ X hX
 have b1:=hrd h1 (s.in 1 rfl) d
 unfold Wi
 simp only [bRtS,e19,b1.hp]
 obtain ⟨N',hN'⟩:∃N',N-i=N'+1:=⟨N-i-1,by omega⟩
 have sAh:HL.Sep [ah1,a1,ae1,ak1] A1:=sA.sel [2,0,1,3] (by decide) rfl
 have hLn:=ss.ln
 cases L1 with
 |nil=>
   refine (Hw.ak2 ss.hp (HL.Sep.open (R:=[B]) s sAh)).mono ?_
   rintro _ h2 ⟨rfl,rfl⟩
   simp only [Hw.pkV]
   try simp (disch:=first|decide|exact aq|exact ao|omega|rfl) only [bRtS]
   intro xw hxw gxw
   have s2:=s.past (o := .cells #[(0:Int),(0:Int),(0:Int)] 139 (0,0)) hxw
   have d2:=d.set (o := .cells #[(0:Int),(0:Int),(0:Int)] 139 (0,0)) gxw
   generalize Hp.set h2 xw _=h3 at s2 d2 ⊢
   rw [<- hKK]
   show E9 G KR _ _
   unfold E9
   have hr:W = .no 6:=by
     rw [<- hW,hN']
     unfold run
     rw [ai0 ss.qi]
   rw [<- hKR]
   simp (disch:=decide) only [bRtS,e15]
   exact HQ _ _ ⟨noHp,_,by rw [hr];rfl,by rw [hr];exact Slc.nil,by rw [hr];simp [outL],(s2.drop).none,d2⟩
 |cons w L1=>
   obtain ⟨wk,wm,ws,wn⟩:=w
   obtain ⟨hok',hperm,hmin⟩:=Go.Proofs.Wt.pop_ok ss.ok
   obtain ⟨k,x,hxk,em,es,hstale,hfresh⟩:=popQ ok v ss.qi hmin (L':=Go.Proofs.Wt.popL (⟨wk,wm,ws,wn⟩::L1)) (List.Perm.cons_inv hperm).symm
   have em':wm=numP q.w q.k x.p:=em.symm
   have es':ws=(x.i:Int):=es.symm
   subst em' es'
   have hxm:=List.mem_of_getElem? hxk
   have hpl:=Go.Proofs.Wt.yy (⟨wk,numP q.w q.k x.p,(x.i:Int),wn⟩::L1)
   simp only [List.length_cons]at hpl hLn
   refine (Sep.on s (Hw.hpop (G:=HL.under G h1 A1) ss.hp sAh (by omega))).mono ?_
   rintro _ h2 ⟨A2,⟨rfl,ah2,hp2,sA2,dA2⟩,s2,d2⟩
   have sA2:HL.Sep [ah2,a1,ae1,ak1] A2:=sA2
   simp only [Hw.pkV]
   try simp (disch:=first|decide|exact aq|exact ao|omega|rfl) only [bRtS]
   intro xw hxw gxw
   have s3:=s2.new (o := .cells #[wk,(numP q.w q.k x.p),(x.i:Int)] 139 (0,0)) hxw
   have d3:=d2.set (o := .cells #[wk,(numP q.w q.k x.p),(x.i:Int)] 139 (0,0)) gxw
   generalize how:Obj.cells #[wk,(numP q.w q.k x.p),(x.i:Int)] 139 (0,0)=ow at s3 d3 ⊢
   generalize Hp.set h2 xw _=h3 at s3 d3 ⊢
   have s3:HL.Sep [A2,B,noHp.set xw ow] h3:=s3.sel [1,2,0] (by decide) rfl
   have cw3:∀k,af G h3 ⟨xw,k,none⟩=_:=fun k=>aj (ai ((s3.at 2 rfl ag).trans (by rw [how])))
   have b3:=hrd h3 (s3.in 1 rfl) d3
   obtain ⟨o,E,bb,km,sb,se⟩:=id ss.st
   have sAe:HL.Sep [ae1,a1,ah2,ak1] A2:=sA2.sel [2,1,0,3] (by decide) rfl
   have sAo:HL.Sep [noHp.set mt o,bb,a1,ah2,ak1] A2:=HL.Sep.open (L:=[noHp.set mt o,bb]) (R:=[a1,ah2,ak1]) sAe sb
   have hmt3:h3 mt=some o:=(s3.in 0 rfl) _ _ (sAo.at 0 rfl ag)
   obtain ⟨e,he,hbe,hkg⟩:=se.look (f:=q.f) v.ok hxk (ak0 v hxk)
   have hbe3:h3 e.2=some (pt (iu q.w q.k S1 x.b) x.mv x.a x.dn):=(s3.in 0 rfl) _ _ (sAo.at 1 rfl hbe)
   have ce3:∀k,af G h3 ⟨e.2,k,none⟩=_:=fun k=>aj (ai hbe3)
   simp only [stpL]at ce3
   have lk3:∀K,pw P_ G h3 (Instr.lookup 131 (.map (some mt)) (.agg #[(numP q.w q.k x.p),(x.i:Int)]) false) K=K (.pointer (some ⟨e.2,0,none⟩)):=by
     intro K
     have:=Fr (G:=G) (K:=K) O6 unmt zerot (ai hmt3) km (k:=(numP q.w q.k x.p,(x.i:Int)))
     rw [hkg,Option.getD_some]at this
     exact this
   unfold Of
   try simp (disch:=decide) only [bRtS,Nat.reduceAdd,e19,b3.mt,cw3,lk3,ce3]
   have stale:(x.dn=true\/x.a≠wk)->∀r':Rg,r' 19 = .pointer (some ⟨sp,0,none⟩)->r' 6 = .pointer (some ⟨xc,0,none⟩)->r' 11 = .pointer (some ⟨xg,0,none⟩)->r' 20 = .int .i64 i->r' 15 = .int .i64 6->X r' h3:=by
     intro hs r' w19 w6 w11 w20 w15
     exact hX ((N-i)*40000000000+(Go.Proofs.Wt.popL (⟨wk,numP q.w q.k x.p,(x.i:Int),wn⟩::L1)).length) _ _ (by rw [hpl];simp only [List.length_cons];omega)
       ⟨i,S1,A2,a1,ae1,ah2,ak1,c1,_,n1,lo1,rfl,hi,hW,⟨ss.ch,ss.st,hp2,hok',hstale hs,ss.kept,ss.n0,by rw [hpl];omega⟩,kpk,v,hn1,sA2.sel [1,2,0,3] (by decide) rfl,s3.sel [0,1] (by decide) rfl,d3,w19,w6,w11,w20,w15⟩
   cases hdn:x.dn with
   |true=>
     try simp only [bRtS,fe]
     exact stale (.inl hdn) _ (by simp (disch:=omega) only [av,e19]) (by simp (disch:=omega) only [av,e6]) (by simp (disch:=omega) only [av,e11]) (by simp (disch:=omega) only [av,e20]) (by simp (disch:=omega) only [av,e15])
   |false=>
   try simp only [bRtS,ce3,cw3]
   by_cases hxa:x.a=wk
   rotate_left
   . try simp only [bRtS,show (x.a != wk)=true from by simpa using hxa]
     exact stale (.inr hxa) _ (by simp (disch:=omega) only [av,e19]) (by simp (disch:=omega) only [av,e6]) (by simp (disch:=omega) only [av,e11]) (by simp (disch:=omega) only [av,e20]) (by simp (disch:=omega) only [av,e15])
   subst hxa
   try simp only [bRtS,show (x.a != x.a)=false from by simp]
   obtain ⟨hle,hq2⟩:=hfresh hdn rfl
   obtain ⟨v2,hx2⟩:=Hc v hle
   suffices k8:∀r':Rg,r' 19 = .pointer (some ⟨sp,0,none⟩)->r' 6 = .pointer (some ⟨xc,0,none⟩)->r' 11 = .pointer (some ⟨xg,0,none⟩)->r' 20 = .int .i64 i->r' 15 = .int .i64 6->r' 21 = .pointer (some ⟨xw,0,none⟩)->r' 23 = .pointer (some ⟨e.2,0,none⟩)->E8 G (ci X KK) r' h3 from
     k8 _ (by simp (disch:=omega) only [av,e19]) (by simp (disch:=omega) only [av,e6]) (by simp (disch:=omega) only [av,e11]) (by simp (disch:=omega) only [av,e20]) (by simp (disch:=omega) only [av,e15]) (by simp (disch:=decide) only [bRtS]) (by simp (disch:=decide) only [bRtS])
   clear stale
   intro r2 f19 f6 f11 f20 f15 f21 f23
   unfold E8
   simp (disch:=decide) only [bRtS,f23]
   rw [dh sz4 rfl hbe3 (by simp [stpL])]
   have hset:(stpL (iu q.w q.k S1 x.b) x.mv x.a x.dn).set 14 (.bool true)=stpL (iu q.w q.k S1 x.b) x.mv x.a true:=rfl
   rw [hset]
   have s4:=s3.put (o:=pt (iu q.w q.k S1 x.b) x.mv x.a true) (sAo.at 1 rfl hbe)
   have d4:=d3.set (o:=pt (iu q.w q.k S1 x.b) x.mv x.a true) (d3 _ _ hbe3)
   have sA4:=(HL.Sep.sel (L':=[bb,noHp.set mt o,a1,ah2,ak1]) sAo [1,0,2,3,4] (by decide) rfl).put (o:=pt (iu q.w q.k S1 x.b) x.mv x.a true) hbe
   have se4:=se.done hxk he
   generalize bb.set e.2 _=bb4 at sA4 se4
   generalize A2.set e.2 _=A4 at s4 sA4
   generalize Hp.set h3 e.2 _=h4 at s4 d4 ⊢
   obtain ⟨ae4,sA5,t5⟩:=HL.Sep.pack [noHp.set mt o,bb4] (R:=[a1,ah2,ak1]) (sA4.sel [1,0,2,3,4] (by decide) rfl)
   have sA5:HL.Sep [a1,ae4,ah2,ak1] A4:=sA5.sel [1,0,2,3] (by decide) rfl
   have ss4:Srs q a1 ae4 ah2 ms mw mp mt hp c1 (take S1 k x) (Go.Proofs.Wt.popL (⟨x.a,numP q.w q.k x.p,(x.i:Int),wn⟩::L1)) n1:=⟨ss.ch,⟨o,E,bb4,km,t5,se4⟩,hp2,hok',hq2,fun y hy=>by
     obtain ⟨j,hj⟩:=List.getElem?_of_mem hy
     unfold take at hj
     by_cases hkj:k=j
     . subst hkj
       rw [List.getElem?_set_self (List.getElem?_eq_some_iff.1 hxk).1]at hj
       cases hj
       exact ss.kept x hxm
     . rw [List.getElem?_set_ne hkj]at hj
       exact ss.kept y (List.mem_of_getElem? hj),ss.n0,by rw [hpl];omega⟩
   obtain ⟨o1,o2,o3,m1,m2,m3,sa⟩:=id ss.ch.sep
   have sA6:HL.Sep [noHp.set ms o1,noHp.set mw o2,noHp.set mp o3,c1.P,ae4,ah2,ak1] A4:=HL.Sep.open (L:=[noHp.set ms o1,noHp.set mw o2,noHp.set mp o3,c1.P]) (R:=[ae4,ah2,ak1]) sA5 sa
   have hmp:h4 mp=some o3:=(s4.in 0 rfl) _ _ (sA6.at 2 rfl ag)
   have b4:=hrd h4 (s4.in 1 rfl) d4
   obtain ⟨hk1,hk3⟩:=ss.kept x hxm
   have cw4:∀k,af G h4 ⟨xw,k,none⟩=_:=fun k=>aj (ai ((s4.at 2 rfl ag).trans (by rw [how])))
   try simp -implicitDefEqProofs (maxSteps:=2000000) (disch:=first|decide|with_reducible exact Nat.ne_of_beq_eq_false rfl|exact aq|exact ao|omega|rfl|(simp;done)|fail) only [bRtS,Nat.reduceAdd,f20,f19,b4.mp,f21,cw4]
   rw [Fs unmp un3r zerop (ai hmp) m3,hk3,Option.getD_some]
   intro xp hxp gxp
   try simp (disch:=first|decide|exact aq|exact ao|omega|rfl) only [bRtS]
   have s5:=s4.new (o := .cells #[x.p.x,x.p.y,.bool x.p.d] 30 (0,0)) hxp
   have d5:=d4.set (o := .cells #[x.p.x,x.p.y,.bool x.p.d] 30 (0,0)) gxp
   generalize hop:Obj.cells #[x.p.x,x.p.y,.bool x.p.d] 30 (0,0)=op at s5 d5 ⊢
   generalize Hp.set h4 xp _=h5 at s5 d5 ⊢
   have s5:HL.Sep [A4,B,noHp.set xw ow,noHp.set xp op] h5:=s5.sel [1,2,3,0] (by decide) rfl
   have cp5:∀k,af G h5 ⟨xp,k,none⟩=_:=fun k=>aj (ai ((s5.at 3 rfl ag).trans (by rw [hop])))
   have cw5:∀k,af G h5 ⟨xw,k,none⟩=_:=fun k=>aj (ai ((s5.at 2 rfl ag).trans (by rw [how])))
   have cg5:∀k,af G h5 ⟨xg,k,none⟩=_:=fun k=>aj (ai (s5.at 1 rfl fz.aim))
   have hA0:0<=x.a:=by
     obtain ⟨z1,z2,_⟩:=v.at_ x hxm
     have:=(ok.pos _ _ (List.mem_of_getElem? z1)).1
     omega
   have k9:mj gp any x.p x.s=false->∀(r':Rg) (h' A' a':Hp) (c':Cs),Srs q a' ae4 ah2 ms mw mp mt hp c' (take S1 k x) (Go.Proofs.Wt.popL (⟨x.a,numP q.w q.k x.p,(x.i:Int),wn⟩::L1)) n1->HL.Sep [a',ae4,ah2,ak1] A'->HL.Sep [A',B,noHp.set xw ow] h'->Dis G h'->r' 19 = .pointer (some ⟨sp,0,none⟩)->r' 6 = .pointer (some ⟨xc,0,none⟩)->r' 11 = .pointer (some ⟨xg,0,none⟩)->r' 20 = .int .i64 ((i:Int)+1)->r' 15 = .int .i64 6->r' 21 = .pointer (some ⟨xw,0,none⟩)->E7 G (ci X KK) r' h':=by
     intro hg r' h' A' a' c' ss' sA' s' d' w19 w6 w11 w20 w15 w21
     have hrun:W=run q.E (mj gp any) N' (zm q.E { x with dn:=true } k (take S1 k x)):=by
       rw [<- hW,hN',run_on hle hg]
     have cb:=fz.bud h' (s'.in 1 rfl) d'
     unfold E7
     try simp only [bRtS,w6,w20,cb]
     by_cases hb:(i:Int)+1=q.C.bu
     . try simp only [bRtS,show ((i:Int)+1==q.C.bu)=true from by simpa using hb]
       rw [<- hKK]
       show E9 G KR _ _
       unfold E9
       have hN0:N'=0:=by omega
       subst hN0
       rw [<- hKR]
       simp (disch:=decide) only [bRtS]
       exact HQ _ _ ⟨noHp,_,by rw [hrun];rfl,by rw [hrun];exact Slc.nil,by rw [hrun];simp [run,outL],(s'.sel [1] (by decide) rfl).none,d'⟩
     . try simp only [bRtS,show ((i:Int)+1==q.C.bu)=false from by simpa using hb]
       unfold Jt
       have cw':∀k,af G h' ⟨xw,k,none⟩=_:=fun k=>aj (ai ((s'.at 2 rfl ag).trans (by rw [how])))
       try simp (disch:=decide) only [bRtS,Nat.reduceAdd,w19,w21,cw']
       have bg:=fz.bg A' h' (s'.sel [0,1] (by decide) rfl) d'
       refine (Sep.on s' (ab8 (G:=HL.under G h' A') (R:=[]) (x:={ x with dn:=true }) ss' kpk bg ok v2 hx2 rfl hA0 (by omega) sA')).mono ?_
       rintro _ h7 ⟨A7,⟨a7,ae7,ah7,ak7,c7,L7,n7,ss7,kp7,_,m1,m2,sA7,_⟩,s7,d7⟩
       try simp (disch:=first|decide|omega) only [bRtS,Nat.reduceAdd,Nat.reduceMul]
       have v7:=(G9 ok (k:=k) (x:={ x with dn:=true }) rfl hA0 (v.ok x hxm) (q.E.ways x.p) (fun _ h=>h) v2 hx2).1
       have ln7:=ss7.ln
       refine hX ((N-(i+1))*40000000000+L7.length) _ _ (by omega) ⟨i+1,_,A7,a7,ae7,ah7,ak7,c7,L7,n7,x.a,rfl,by omega,?_,ss7,kp7,v7,by omega,sA7,s7.sel [0,1] (by decide) rfl,d7,by simp (disch:=omega) only [av,w19],by simp (disch:=omega) only [av,w6],by simp (disch:=omega) only [av,w11],by simp (disch:=omega) only [av,w20];rfl,by simp (disch:=omega) only [av,w15]⟩
       rw [show N-(i+1)=N' by omega]
       exact hrun.symm
   try simp only [bRtS,cp5,f11,cg5]
   have sJ:HL.Sep [noHp.set xp op,noHp.set xw ow,c1.P] h5:=HL.Sep.sel (HL.Sep.open (R:=[B,noHp.set xw ow,noHp.set xp op]) s5 sA6) [9,8,3] (by decide) rfl
   cases hD:(x.p.x==gp.x&&x.p.y==gp.y&&x.p.d==gp.d)with
   |true=>
     try simp only [bRtS,Nat.reduceAdd,fe]
     obtain ⟨q9,l1,l2,l3,l4⟩:=join3 (R:=[]) sJ
     have lq2:q9.le h5:=l4 h5 (s5.in 3 rfl) (s5.in 2 rfl) ((sA6.in 3 rfl).trans (s5.in 0 rfl))
     have cq:∀k,af G q9 ⟨xp,k,none⟩=_:=fun k=>aj (ai ((l1 _ _ ag).trans (by rw [hop])))
     have cqn:∀k,af G q9 ⟨xw,k,none⟩=_:=fun k=>aj (ai ((l2 _ _ ag).trans (by rw [how])))
     refine ⟨q9,lq2,?_⟩
     try simp only [bRtS,cq,f19,fe]
     refine (Sep.on s5 (lv (G:=HL.under G h5 A4) (R:=[ae4,ah2,ak1]) ss4.ch (fz.bg A4 h5 (s5.sel [0,1] (by decide) rfl) d5) sA5 (v.ok x hxm))).mono ?_
     rintro u h6 ⟨A6,⟨a6,c6,ch6,cl6,e2,hu,hu3,sA7,_⟩,s6,d6⟩
     refine ⟨l4 h6 (s6.in 3 rfl) (s6.in 2 rfl) (cl6.p.trans (ch6.pool.trans ((sA7.in 0 rfl).trans (s6.in 0 rfl)))),?_⟩
     obtain ⟨u0,hu0⟩:=Option.isSome_iff_exists.1 hk1
     have huu:=cl6.l1 _ _ hu0
     rw [hu]at huu
     cases huu
     have slu:=ss.ch.look1 (v.ok x hxm) hu0
     obtain ⟨sv,cv,rfl,_⟩:=slu.len (by decide)
     have hsi':(lg q.w q.k q.T q.r x.p)[x.i]?=some x.s:=(v.at_ x hxm).1
     obtain ⟨b,o,rfl,z1,z2⟩:=Sees.span (slu.see (G:=G) (by decide) l3) hsi'
     have hlti:(x.i:Int)<((lg q.w q.k q.T q.r x.p).length:Int):=Int.ofNat_lt.2 (List.getElem?_eq_some_iff.1 hsi').1
     try simp (disch:=first|decide|omega) only [bRtS,cqn,Sq (Int.natCast_nonneg x.i) hlti,z1,z2,fe]
     have ss6:Srs q a6 ae4 ah2 ms mw mp mt hp c6 (take S1 k x) (Go.Proofs.Wt.popL (⟨x.a,numP q.w q.k x.p,(x.i:Int),wn⟩::L1)) n1:=⟨ch6,ss4.st,ss4.hp,ss4.ok,ss4.qi,ss4.kept.le cl6,ss4.n0,ss4.ln⟩
     by_cases hfv:x.s.2=4611686018427387904
     . have hg:mj gp any x.p x.s=true:=by unfold mj FV;rw [hfv];rw [hD];rfl
       try simp only [bRtS,show (x.s.2==4611686018427387904)=true from by simpa using hfv]
       have cw6:∀k,af G h6 ⟨xw,k,none⟩=_:=fun k=>aj (ai ((s6.at 2 rfl ag).trans (by rw [how])))
       try simp only [bRtS,f21,f19,cw6]
       refine (Sep.on s6 (Ma (G:=HL.under G h6 A6) (R:=[ak1]) ss6 (fz.bg A6 h6 (s6.sel [0,1] (by decide) rfl) d6) v2 hz hx2 sA7)).mono ?_
       rintro u h8 ⟨A8,⟨ip,sl8,hl8,sA8,_⟩,s8,d8⟩
       have hrun:W = .ok (path (take S1 k x) S1.length k []):=by
         rw [<- hW,hN',Rt hle hg]
       have hlen:(take S1 k x).length=S1.length:=by unfold take;rw [List.length_set]
       rw [hlen]at sl8 hl8
       rw [<- hKK,<- hKR]
       try simp (disch:=decide) only [bRtS]
       exact HQ _ _ ⟨ip,_,by rw [hrun];rfl,by rw [hrun];exact sl8,by rw [hrun];exact hl8,(s8.cut (sA8.in 0 rfl)).sel [0,1] (by decide) rfl,d8⟩
     . try simp only [bRtS,show (x.s.2==4611686018427387904)=false from by simpa using hfv]
       exact k9 (by unfold mj FV;rw [show (x.s.2==4611686018427387904)=false from by simpa using hfv,Bool.and_false]) _ h6 A6 a6 c6 ss6 sA7 (s6.sel [0,1,2] (by decide) rfl) d6 (by simp (disch:=omega) only [av,f19]) (by simp (disch:=omega) only [av,f6]) (by simp (disch:=omega) only [av,f11]) (by simp (disch:=decide) only [bRtS]) (by simp (disch:=omega) only [av,f15]) (by simp (disch:=omega) only [av,f21])
   |false=>
     try simp only [bRtS,cg5]
     cases hany:any with
     |false=>
       try simp only [bRtS,fe]
       refine ⟨h5,Hp.le.refl _,?_⟩
       try simp (disch:=first|decide|omega) only [bRtS,Nat.reduceAdd,Nat.reduceMul,fe]
       exact k9 (by unfold mj;rw [hD,hany];rfl) _ h5 A4 a1 c1 ss4 sA5 (s5.sel [0,1,2] (by decide) rfl) d5 (by simp (disch:=omega) only [av,f19]) (by simp (disch:=omega) only [av,f6]) (by simp (disch:=omega) only [av,f11]) (by simp (disch:=decide) only [bRtS]) (by simp (disch:=omega) only [av,f15]) (by simp (disch:=omega) only [av,f21])
     |true=>
       try simp only [bRtS,cp5,cg5,f11]
       cases hC:(x.p.x==gp.x&&x.p.y==gp.y)with
       |true=>
         try simp only [bRtS,Nat.reduceAdd]
         obtain ⟨q9,l1,l2,l3,l4⟩:=join3 (R:=[]) sJ
         have lq2:q9.le h5:=l4 h5 (s5.in 3 rfl) (s5.in 2 rfl) ((sA6.in 3 rfl).trans (s5.in 0 rfl))
         have cq:∀k,af G q9 ⟨xp,k,none⟩=_:=fun k=>aj (ai ((l1 _ _ ag).trans (by rw [hop])))
         have cqn:∀k,af G q9 ⟨xw,k,none⟩=_:=fun k=>aj (ai ((l2 _ _ ag).trans (by rw [how])))
         refine ⟨q9,lq2,?_⟩
         try simp only [bRtS,cq,f19,fe]
         refine (Sep.on s5 (lv (G:=HL.under G h5 A4) (R:=[ae4,ah2,ak1]) ss4.ch (fz.bg A4 h5 (s5.sel [0,1] (by decide) rfl) d5) sA5 (v.ok x hxm))).mono ?_
         rintro u h6 ⟨A6,⟨a6,c6,ch6,cl6,e2,hu,hu3,sA7,_⟩,s6,d6⟩
         refine ⟨l4 h6 (s6.in 3 rfl) (s6.in 2 rfl) (cl6.p.trans (ch6.pool.trans ((sA7.in 0 rfl).trans (s6.in 0 rfl)))),?_⟩
         obtain ⟨u0,hu0⟩:=Option.isSome_iff_exists.1 hk1
         have huu:=cl6.l1 _ _ hu0
         rw [hu]at huu
         cases huu
         have slu:=ss.ch.look1 (v.ok x hxm) hu0
         obtain ⟨sv,cv,rfl,_⟩:=slu.len (by decide)
         have hsi':(lg q.w q.k q.T q.r x.p)[x.i]?=some x.s:=(v.at_ x hxm).1
         obtain ⟨b,o,rfl,z1,z2⟩:=Sees.span (slu.see (G:=G) (by decide) l3) hsi'
         have hlti:(x.i:Int)<((lg q.w q.k q.T q.r x.p).length:Int):=Int.ofNat_lt.2 (List.getElem?_eq_some_iff.1 hsi').1
         try simp (disch:=first|decide|omega) only [bRtS,cqn,Sq (Int.natCast_nonneg x.i) hlti,z1,z2,fe]
         have ss6:Srs q a6 ae4 ah2 ms mw mp mt hp c6 (take S1 k x) (Go.Proofs.Wt.popL (⟨x.a,numP q.w q.k x.p,(x.i:Int),wn⟩::L1)) n1:=⟨ch6,ss4.st,ss4.hp,ss4.ok,ss4.qi,ss4.kept.le cl6,ss4.n0,ss4.ln⟩
         by_cases hfv:x.s.2=4611686018427387904
         . have hg:mj gp any x.p x.s=true:=by unfold mj FV;rw [hfv];rw [hD,hany,hC];rfl
           try simp only [bRtS,show (x.s.2==4611686018427387904)=true from by simpa using hfv]
           have cw6:∀k,af G h6 ⟨xw,k,none⟩=_:=fun k=>aj (ai ((s6.at 2 rfl ag).trans (by rw [how])))
           try simp only [bRtS,f21,f19,cw6]
           refine (Sep.on s6 (Ma (G:=HL.under G h6 A6) (R:=[ak1]) ss6 (fz.bg A6 h6 (s6.sel [0,1] (by decide) rfl) d6) v2 hz hx2 sA7)).mono ?_
           rintro u h8 ⟨A8,⟨ip,sl8,hl8,sA8,_⟩,s8,d8⟩
           have hrun:W = .ok (path (take S1 k x) S1.length k []):=by
             rw [<- hW,hN',Rt hle hg]
           have hlen:(take S1 k x).length=S1.length:=by unfold take;rw [List.length_set]
           rw [hlen]at sl8 hl8
           rw [<- hKK,<- hKR]
           try simp (disch:=decide) only [bRtS]
           exact HQ _ _ ⟨ip,_,by rw [hrun];rfl,by rw [hrun];exact sl8,by rw [hrun];exact hl8,(s8.cut (sA8.in 0 rfl)).sel [0,1] (by decide) rfl,d8⟩
         . try simp only [bRtS,show (x.s.2==4611686018427387904)=false from by simpa using hfv]
           exact k9 (by unfold mj FV;rw [show (x.s.2==4611686018427387904)=false from by simpa using hfv,Bool.and_false]) _ h6 A6 a6 c6 ss6 sA7 (s6.sel [0,1,2] (by decide) rfl) d6 (by simp (disch:=omega) only [av,f19]) (by simp (disch:=omega) only [av,f6]) (by simp (disch:=omega) only [av,f11]) (by simp (disch:=decide) only [bRtS]) (by simp (disch:=omega) only [av,f15]) (by simp (disch:=omega) only [av,f21])
       |false=>
         try simp only [bRtS]
         refine ⟨h5,Hp.le.refl _,?_⟩
         try simp (disch:=first|decide|omega) only [bRtS,Nat.reduceAdd,Nat.reduceMul,fe]
         exact k9 (by unfold mj;rw [hD,hany,hC];rfl) _ h5 A4 a1 c1 ss4 sA5 (s5.sel [0,1,2] (by decide) rfl) d5 (by simp (disch:=omega) only [av,f19]) (by simp (disch:=omega) only [av,f6]) (by simp (disch:=omega) only [av,f11]) (by simp (disch:=decide) only [bRtS]) (by simp (disch:=omega) only [av,f15]) (by simp (disch:=omega) only [av,f21])
theorem Ot {C:Conf} (mk:cj C):(1<=C.un/\C.un<=1000)/\(1<=C.ac/\C.ac<=1000)/\(1<=C.sp/\C.sp<=1000)/\(1<=C.tu/\C.tu<=1000)/\(1<=C.ho/\C.ho<=1000):=by
 have h:=mk.six
 simp only [List.mem_cons,List.not_mem_nil,or_false,forall_eq_or_imp,forall_eq,ax,Bool.and_eq_true,decide_eq_true_eq]at h
 omega
theorem Ik {C:Conf} (mk:cj C) {w k:Nat} {f:Nat->Nat->Int} {p:Pose} {m:Move} (h:m∈lr w k f p):1<=dp C m/\dp C m<=16000:=by
 obtain ⟨⟨a1,a2⟩,_,_,⟨b1,b2⟩,_⟩:=Ot mk
 obtain ⟨_,⟨d,n,_,n1,n2,_,rfl⟩|⟨_,rfl⟩⟩:=Aj h
 . obtain ⟨_,t2,t3⟩:=Wq (A:=C.ac) (V:=C.sp) (n:=(n:Int)) a1 a2
   have e:dp C (uy p d n)=Ff C.un C.ac C.sp n:=by unfold dp;exact if_pos rfl
   rw [e]
   exact ⟨t3 (by omega) (by omega),t2⟩
 . have e:dp C (m9 p)=C.tu:=by
     unfold dp
     rw [if_neg (by show ¬((2:Int)=1);decide)]
     exact if_pos rfl
   rw [e]
   omega
theorem Zo {w k:Nat} {f:Nat->Nat->Int} {p:Pose} (h:wayB w k f (m9 p)=true):dg w k f (yg p)=true:=by
 unfold wayB at h
 simp only [Bool.and_eq_true]at h
 obtain ⟨_,h⟩:=h
 rw [if_neg (by show ¬((2:Int)=1);decide),show (m9 p).k=2 from rfl,if_pos (rfl:(2:Int)=2)]at h
 simp only [Bool.and_eq_true,List.all_eq_true]at h
 obtain ⟨_,h,_⟩:=h
 have h1:∀c∈ec (p.x,p.y),oc w k f c=true:=h
 unfold dg
 rw [Bool.and_eq_true]
 refine ⟨h1 _ (by simp [ec,yg]),h1 _ ?_⟩
 unfold east yg
 cases p.d<;>simp [ec]
theorem ao7 {q:Par} (mk:cj q.C) (gt:kc q.T):p8 q.E:=by
 refine ⟨fun p y hy=>?_,fun p s hs=>?_,fun p hp y hy=>?_,fun p p' hp hp' e=>uu (f:=q.f) hp hp' e⟩
 . obtain ⟨i,hi⟩:=List.getElem?_of_mem hy
   obtain ⟨m,hm,rfl⟩:=Gn hi
   have:=Ik mk hm
   exact ⟨this.1,Int.le_trans this.2 (by decide)⟩
 . have hr:Ris (q.E.spans p):=yq gt q.r _
   exact hr.bd s hs
 . obtain ⟨i,hi⟩:=List.getElem?_of_mem hy
   obtain ⟨m,hm,rfl⟩:=Gn hi
   show dg q.w q.k q.f m.t=true
   obtain ⟨_,⟨d,n,_,_,_,ho,rfl⟩|⟨hb,rfl⟩⟩:=Aj hm
   . exact ho
   . exact Zo hb
end Go.Proofs.YtfflipnhffknnaaGreatDoor
end
section
namespace Go.Proofs.YtfflipnhffknnaaGreatDoor
open Go Go.HL
theorem ca_nil {G h:Hp} {C:Conf} (h1:C.bl=[]) (h2:C.po=[]) (h3:C.ro=[]) (h4:C.st=[]):CA G h C none 0 none 0 none 0 none 0:=by
 obtain ⟨w,hh,ht,bl,po,ro,st,un,ac,sp,tu,ho,qu,re,bu,back⟩:=C
 subst h1 h2 h3 h4
 exact ⟨Slc.nil.sees (e:=28) (a:=noHp) (by decide) (fun _ _ e=>by cases e),Slc.nil.sees (e:=28) (a:=noHp) (by decide) (fun _ _ e=>by cases e),Slc.nil.sees (e:=30) (a:=noHp) (by decide) (fun _ _ e=>by cases e),[],Slc.nil.sees (e:=95) (a:=noHp) (by decide) (fun _ _ e=>by cases e),by simp⟩
theorem may_nil {C:Conf} (h1:C.bl=[]) (h2:C.po=[]) (h3:C.ro=[]) (h4:C.st=[]):Zk C↔og C=true:=by
 refine ⟨fun m=>m.nums,fun n=>⟨n,by simp [h2],by simp [h3],by simp [h1],by simp [h1],by simp [h2],by simp [h3],by simp [h3],?_⟩⟩
 exact ⟨by simp [h4],by simp [h4],by simp [h4],by simp [h4],by simp [h4],by simp [h4]⟩
end Go.Proofs.YtfflipnhffknnaaGreatDoor
end
section
namespace Go.Proofs.YtfflipnhffknnaaGreatDoor
open Go Go.HL Go.Proofs.Resv Go.Proofs.Srch
def bRtT:=jq bC (jq (jq (jq (jq @tt @bd146_) (jq @cf29 @cf63)) (jq (jq @cf65 @cf66) (jq @cf67 @Xu))) (jq (jq (jq @Bw @Ez) (jq @Ey @ld26)) (jq (jq @ld3 @ld30) (jq @ld @jy))))
def zM:Move:=⟨0,0,0,⟨0,0,false⟩,⟨0,0,false⟩,0,0⟩
theorem kb_of {C:Conf} (mk:cj C):KB C.un C.ac C.sp:=by
 obtain ⟨⟨a1,a2⟩,⟨b1,b2⟩,⟨c1,c2⟩,_,_⟩:=Ot mk
 exact ⟨a1,a2,b1,b2,c1,c2⟩
theorem mkmapR {T:TypeId} {G h:Hp} {K:VK}:wpH P_ G (Instr.makeMap T none) h K=∀x,h x=none->G x=none->K (.map (some x)) (h.set x (.map #[] 0)):=by
 simp [Instr.makeMap,bind,Sem.bind,pure,wpH,newObj]
theorem find_k3 {G h ga B0:Hp} {C:Conf} {T:Tb} {ab:Option Addr} {cb:Nat} {ap:Option Addr} {cp:Nat} {ar:Option Addr} {cr:Nat} {az:Option Addr} {cs:Nat} {xc xp xg tp gb kb w k:Nat} {f:Nat->Nat->Int} {p gp:Pose} {rb t:Int} {any:Bool}
   (st:iq G) (mk:cj C) (hbu:C.bu<=4000) (gt:kc T) (fw:Few T 100) (go:GO ga gb kb w k f) (ca:CA G B0 C ab cb ap cp ar cr az cs) (ts:Rv.TSee G B0 tp T) (hpf:dg w k f p=true) (ht0:0<=t) (ht1:t<FV)
   (bc:B0 xc=some (.cells #[C.w,C.h,C.ht,.slice ab C.bl.length cb,.slice ap C.po.length cp,.slice ar C.ro.length cr,.slice az C.st.length cs,C.un,C.ac,C.sp,C.tu,C.ho,C.qu,C.re,C.bu,.bool C.back] 26 (0,0)))
   (bp:B0 xp=some (.cells #[p.x,p.y,.bool p.d] 30 (0,0))) (bgl:B0 xg=some (.cells #[gp.x,gp.y,.bool gp.d,.bool any] 45 (0,0)))
   (s:HL.Sep [ga,B0] h) (d:Dis G h) (r:Rg) (g1:r 1 = .pointer (some ⟨tp,0,none⟩)) (g2:r 2 = .int .i64 rb) (g4:r 4 = .int .i64 t) (g6:r 6 = .pointer (some ⟨xc,0,none⟩)) (g9:r 9 = .pointer (some ⟨xp,0,none⟩)) (g11:r 11 = .pointer (some ⟨xg,0,none⟩)) (g14:r 14 = .pointer (some ⟨gb,0,none⟩)) {Q:Value->Hp->Prop} (HQ:∀u h',OutR G B0 (find (envE C w k f T rb) (mj gp any) p t zM C.bu.toNat) u h'->Q u h'):
   Wj G (retK P_ G [.tmp 12,.tmp 13] Q) r h:=by
 generalize hq:(⟨C,w,k,f,T,rb⟩:Par)=q
 have hE:envE C w k f T rb=q.E:=by rw [<- hq];rfl
 rw [hE]at HQ
 generalize hW:find q.E (mj gp any) p t zM C.bu.toNat=W at HQ
 generalize hKR:retK P_ G [.tmp 12,.tmp 13] Q=KR
 unfold Wj
 have cc:∀k,af G h ⟨xc,k,none⟩=_:=fun k=>aj (ai (s.at 1 rfl bc))
 simp only [bRtT,g6,cc]
 refine (Il (U:=C.un) (A:=C.ac) (V:=C.sp)).mono ?_
 rintro _ h1 (⟨_,ak,kp,rfl,kpk,s1,d1⟩|⟨hno,_⟩)
 rotate_left
 . exact absurd (kb_of mk) hno
 have s1:HL.Sep [ak,ga,B0] h1:=HL.Sep.open (L:=[ga,B0]) (R:=[ak]) (s1.swap) s |>.sel [2,0,1] (by decide) rfl
 have cc1:∀k,af G h1 ⟨xc,k,none⟩=_:=fun k=>aj (ai (s1.at 2 rfl bc))
 try simp only [bRtT,g6,cc1]
 simp only [mkmapR]
 intro ms hms gms mw hmw gmw mp hmp gmp mt hmt gmt
 have s2:=((((s1.new (o := .map #[] 0) hms).new (o := .map #[] 0) hmw).new (o := .map #[] 0) hmp).new (o := .map #[] 0) hmt)
 have d2:=((((d1.set (o := .map #[] 0) gms).set (o := .map #[] 0) gmw).set (o := .map #[] 0) gmp).set (o := .map #[] 0) gmt)
 generalize Hp.set (Hp.set (Hp.set (Hp.set h1 ms _) mw _) mp _) mt _=h2 at s2 d2 ⊢
 try simp only [bRtT,g14,g1,g2]
 intro sp hsp gsp
 have s3:=s2.new (o := .cells ((ou C (.slice ab C.bl.length cb) (.slice ap C.po.length cp) (.slice ar C.ro.length cr) (.slice az C.st.length cs) (.pointer (some ⟨gb,0,none⟩)) kp tp rb ms mw mp mt 0).set 24 (.pointer none)).toArray 134 (0,0)) hsp
 have d3:=d2.set (o := .cells ((ou C (.slice ab C.bl.length cb) (.slice ap C.po.length cp) (.slice ar C.ro.length cr) (.slice az C.st.length cs) (.pointer (some ⟨gb,0,none⟩)) kp tp rb ms mw mp mt 0).set 24 (.pointer none)).toArray 134 (0,0)) gsp
 simp only [ou,List.set_cons_succ,List.set_cons_zero]at s3 d3
 generalize hos:Obj.cells (List.toArray [.int .i64 C.w,_,_,_,_,_,_,_,_,_,_,_,_,_,_,_,_,_,_,_,_,_,_,_,_]) 134 (0,0)=os at s3 d3 ⊢
 generalize Hp.set h2 sp _=h3 at s3 d3 ⊢
 refine (Hw.pu (G:=G) (h:=h3)).mono ?_
 rintro _ _ ⟨hp,rfl,hhp,ghp,rfl⟩
 have s4:=s3.new (o := .cells #[.func (.func 64) #[] #[],.slice none 0 0,(0:Int)] 218 (0,0)) hhp
 have d4:=d3.set (o := .cells #[.func (.func 64) #[] #[],.slice none 0 0,(0:Int)] 218 (0,0)) ghp
 generalize hoh:Obj.cells #[.func (.func 64) #[] #[],.slice none 0 0,(0:Int)] 218 (0,0)=oh at s4 d4 ⊢
 generalize Hp.set h3 hp oh=h4 at s4 d4 ⊢
 try simp (disch:=first|decide|omega) only [bRtT,Nat.reduceAdd,Nat.reduceMul]
 have hs4:h4 sp=some os:=s4.at 1 rfl ag
 subst hos
 rw [dh sz132 rfl hs4 (by simp)]
 have s5:=(s4.pick 1 rfl rfl).put (o := .cells (ou C (.slice ab C.bl.length cb) (.slice ap C.po.length cp) (.slice ar C.ro.length cr) (.slice az C.st.length cs) (.pointer (some ⟨gb,0,none⟩)) kp tp rb ms mw mp mt hp).toArray 134 (0,0)) ag
 rw [set_set]at s5
 have d5:=d4.set (o := .cells (ou C (.slice ab C.bl.length cb) (.slice ap C.po.length cp) (.slice ar C.ro.length cr) (.slice az C.st.length cs) (.pointer (some ⟨gb,0,none⟩)) kp tp rb ms mw mp mt hp).toArray 134 (0,0)) (d4 _ _ hs4)
 simp only [List.set_cons_succ,List.set_cons_zero]
 generalize hos:Obj.cells (ou C (.slice ab C.bl.length cb) (.slice ap C.po.length cp) (.slice ar C.ro.length cr) (.slice az C.st.length cs) (.pointer (some ⟨gb,0,none⟩)) kp tp rb ms mw mp mt hp).toArray 134 (0,0)=os at s5 d5
 have hos':=hos
 simp only [ou]at hos'
 rw [hos']
 generalize Hp.set h4 sp _=h5 at s5 d5 ⊢
 have s6:=s5.none.none.sel [7,6,5,0,4,1,3,8,2,9,10] (by decide) rfl
 clear s1 s2 s3 s4 s5 d1 d2 d3 d4 hs4 cc cc1
 obtain ⟨a,s7,ta⟩:=HL.Sep.pack [noHp.set ms (.map #[] 0),noHp.set mw (.map #[] 0),noHp.set mp (.map #[] 0),noHp] s6
 obtain ⟨ae,s8,tae⟩:=HL.Sep.pack [noHp.set mt (.map #[] 0),noHp] (R:=[a,noHp.set hp oh,ak,noHp.set sp os,ga,B0]) (s7.sel [1,2,0,3,4,5,6,7] (by decide) rfl)
 obtain ⟨A,s9,tA⟩:=HL.Sep.pack [a,ae,noHp.set hp oh,ak] (R:=[noHp.set sp os,ga,B0]) (s8.sel [1,0,2,3,4,5,6] (by decide) rfl)
 obtain ⟨B,s10,tB⟩:=HL.Sep.pack [noHp.set sp os,ga,B0] (R:=[A]) (s9.sel [1,2,3,0] (by decide) rfl)
 have s11:HL.Sep [A,B] h5:=s10.swap
 have lB0:B0.le B:=tB.in 2 rfl
 have dB:Dis G B:=fun x o hx=>d5 x o (s10.in 0 rfl x o hx)
 have hsB:B sp=some os:=tB.at 0 rfl ag
 have bgA:∀A' h',HL.Sep [A',B] h'->Dis G h'->Bg (HL.under G h' A') q sp kp ms mw mp mt hp:=by
   intro A' h' s' d'
   subst hq
   refine Bg.of (tp:=tp) (gp:=gb) s' d' (ca.up lB0 dB) (fun j hj=>?_) ((go.le (tB.in 1 rfl)).gs) (ts.up lB0 dB) st gt fw
   rw [aj (ai (hsB.trans (by rw [<- hos])))]
 have cB:∀h',B.le h'->Dis G h'->BC G h' sp (.pointer (some ⟨gb,0,none⟩)) kp tp q.r ms mw mp mt hp:=by
   intro h' l' d'
   subst hq
   exact vh (C:=C) (vb := .slice ab C.bl.length cb) (vp := .slice ap C.po.length cp) (vr := .slice ar C.ro.length cr) (vz := .slice az C.st.length cs) fun j hj=>by
     rw [aj (ai ((l' _ _ hsB).trans (by rw [<- hos])))]
 have hC:q.C=C:=by rw [<- hq]
 have fz:Fz G B q sp kp ms mw mp mt hp xc xg gp any:=⟨bgA,⟨_,_,cB⟩,by rw [<- hq];exact gt,by rw [<- hq];exact fw,by rw [<- hq];exact go.w2,by rw [<- hq];exact go.k2,fun h' l' d'=>by rw [aj (ai (l' _ _ (lB0 _ _ bc))),hC];rfl,lB0 _ _ bgl⟩
 have c0:Ch q a ms mw mp ⟨[],[],[],noHp⟩:=⟨⟨_,_,_,⟨#[],0,rfl,rfl⟩,⟨#[],0,rfl,rfl⟩,⟨#[],0,rfl,rfl⟩,ta⟩,fun n v h=>by simp [mget]at h,fun n v h=>by simp [mget]at h,fun n v h=>by simp [mget]at h⟩
 have hpq:dg q.w q.k q.f p=true:=by rw [<- hq];exact hpf
 have cp5:∀k,af G h5 ⟨xp,k,none⟩=_:=fun k=>aj (ai ((s11.in 1 rfl) _ _ (lB0 _ _ bp)))
 try simp only [bRtT,g9,cp5]
 refine (Sep.on s11 (lv (G:=HL.under G h5 A) (R:=[ae,noHp.set hp oh,ak]) c0 (bgA A h5 s11 d5) tA hpq)).mono ?_
 rintro u h6 ⟨A6,⟨a6,c6,ch6,cl6,e2,hu,hu3,sA6,_⟩,s12,d6⟩
 have slu:=ch6.look1 hpq hu
 rw [g4]
 refine (Fv (t:=t) (slu.see (G:=G) (by decide) (ch6.pool.trans ((sA6.in 0 rfl).trans (s12.in 0 rfl)))) (by have:=Lp (q:=q) fz.gt fz.fw p;omega)).mono ?_
 rintro _ h6 ⟨rfl,rfl⟩
 try simp only [bRtT,g4]
 have hsp:q.E.spans p=lg q.w q.k q.T q.r p:=rfl
 cases hi:inside (lg q.w q.k q.T q.r p) t with
 |none=>
   have hw:W = .no 18:=by
     rw [<- hW]
     unfold find
     rw [hsp,hi]
   rw [show insI (lg q.w q.k q.T q.r p) t = -1 from by unfold insI;rw [hi]]
   rw [<- hKR]
   try simp (disch:=decide) only [bRtT]
   exact HQ _ _ ⟨noHp,_,by rw [hw];rfl,by rw [hw];exact Slc.nil,by rw [hw];simp [outL],((s12.drop).cut lB0).none,d6⟩
 |some i0=>
   rw [show insI (lg q.w q.k q.T q.r p) t=(i0:Int)from by unfold insI;rw [hi]]
   try simp only [bRtT,show decide ((i0:Int)<0)=false from decide_eq_false (by omega)]
   unfold aB9
   have cp6:∀k,af G h6 ⟨xp,k,none⟩=_:=fun k=>aj (ai ((s12.in 1 rfl) _ _ (lB0 _ _ bp)))
   try simp (disch:=decide) only [bRtT,g9,cp6,g4]
   have ss0:Srs q a6 ae (noHp.set hp oh) ms mw mp mt hp c6 [] [] 0:=
     { ch:=ch6,st:=⟨.map #[] 0,[],noHp,KMap.empty,tae,⟨rfl,List.nodup_nil,fun i e x h=>by simp at h⟩⟩,hp:=⟨none,_,ag.trans (by rw [<- hoh]),⟨rfl,rfl⟩⟩,
       ok:=fun j h1 h2=>absurd h2 (by simp),qi:=⟨(fun w hw=>nomatch hw),(fun x hx=>nomatch hx)⟩,kept:=(fun x hx=>nomatch hx),n0:=Int.le_refl _,ln:=Int.le_refl _ }
   have v0:Inv q.E p t zM t []:=⟨List.Pairwise.nil,(fun x hx=>nomatch hx),(fun x hx=>nomatch hx),(fun x hx=>nomatch hx),(fun x hx=>nomatch hx),(fun x hx=>nomatch hx)⟩
   have ok:p8 q.E:=ao7 (by rw [hC];exact mk) fz.gt
   have sA7:HL.Sep [a6,ae,noHp.set hp oh,ak] A6:=sA6
   have hr:=H4 (G:=HL.under G h6 A6) (R:=[ak]) (p:=p) (t:=t) (m:=zM) (b := -1) (lo:=t) (t0:=t) (p0:=p) (z:=zM) ss0 (bgA A6 h6 s12 d6) v0 (Int.le_refl _) hpq (by omega) (.inl (by decide)) sA7
   have hf:iu q.w q.k [] (-1)=(0,0):=by unfold iu;rw [if_pos (by decide)]
   rw [hf]at hr
   simp only [zM]at hr
   refine (Sep.on s12 hr).mono ?_
   rintro _ h7 ⟨A7,⟨a7,ae7,ah7,c7,L7,n7,ss7,_,_,m1,m2,sA8,_⟩,s13,d7⟩
   have v7:Inv q.E p t zM t (note q.E [] p t zM (-1)):=Ib v0 (Int.le_refl _) hpq (.inl ⟨rfl,rfl,rfl,rfl⟩)
   have hb:=mk.bu
   unfold ax at hb
   simp only [Bool.and_eq_true,decide_eq_true_eq]at hb
   try simp (disch:=first|decide|omega) only [bRtT,Nat.reduceAdd,Nat.reduceMul]
   subst hKR
   have hkq:KP ak kp q.C.un q.C.ac q.C.sp:=by rw [hC];exact kpk
   have ss7':Srs q a7 ae7 ah7 ms mw mp mt hp _ (note q.E [] p t zM (-1)) L7 n7:=ss7
   refine R0 (N:=C.bu.toNat) (t0:=t) fz ok ht0 (by rw [hC];omega) (by omega) (by omega) rfl ss7' hkq v7 (by omega) sA8 s13 d7 _ (by simp (disch:=decide) only [bRtT]) (by simp (disch:=omega) only [av,g6]) (by simp (disch:=omega) only [av,g11]) (by simp (disch:=decide) only [bRtT]) (by simp only [bRtT]) ?_
   intro u h' ho
   have hw:W=run q.E (mj gp any) C.bu.toNat (note q.E [] p t zM (-1)):=by
     rw [<- hW]
     unfold find
     rw [hsp,hi]
   have ho':OutR G B W u h':=by rw [hw];exact ho
   obtain ⟨ip,vs,e1,e2,e3,e4,e5⟩:=ho'
   exact HQ _ _ ⟨ip,vs,e1,e2,e3,(e4.swap.cut lB0).swap,e5⟩
def ic:=jq bC (jq (jq (jq (jq @Dq @vg) (jq @bne_self_eq_false.{0} (jq @cf26 @cf37))) (jq (jq @cf61 @cf62) (jq @eq34np (jq @eq34sp @Xp)))) (jq (jq (jq @Xm @tk) (jq @am0 (jq @al9 @ld26))) (jq (jq @ld28 (jq @ld30 @qw)) (jq @ld3p (jq @ld4 @jy)))))
def aimB (C:Conf) (gp:Pose) (any:Bool):Bool:=if any=true then oc (wC C) (kC C) (f3C C) (gp.x,gp.y)else dg (wC C) (kC C) (f3C C) gp
def jh (C:Conf) (To:Option Tb) (rb:Int) (p:Pose) (t:Int) (gp:Pose) (any:Bool):Res Move:=match To with
 |none => .no 1
 |some T=>if (T.length:Int)≠C.w*C.h\/rb<0\/t<0\/t>=FV\/dg (wC C) (kC C) (f3C C) p=false\/aimB C gp any=false then .no 1
   else find (envE C (wC C) (kC C) (f3C C) T rb) (mj gp any) p t zM C.bu.toNat
def FindR (G h:Hp) (C:Conf) (To:Option Tb) (rb:Int) (p:Pose) (t:Int) (gp:Pose) (any:Bool) (u:Value) (h':Hp):Prop:=
 ∃W,OutR G h W u h'/\((¬cj C/\W = .no 5)\/(cj C/\W=jh C To rb p t gp any))
def TabV (G h:Hp) (vt:Value):Option Tb->Prop
 |none=>vt = .pointer none
 |some T=>∃tp,vt = .pointer (some ⟨tp,0,none⟩)/\Rv.TSee G h tp T/\kc T/\Few T 100
theorem ac3 {G h:Hp} {C:Conf} {v vt:Value} {To:Option Tb} {p gp:Pose} {rb t:Int} {any:Bool} (hv:CV G h v C) (st:iq G) (hro:∀p∈C.ro,PB p) (hsl:C.st.length<=100000000000000) (hbu:cj C->C.bu<=4000)
   (tv:TabV G h vt To) (hp:PB p) (hgp:PB gp):
   al P_ G 27 #[v,vt,rb,ja p,t,.agg #[gp.x,gp.y,.bool gp.d,.bool any]] h (FindR G h C To rb p t gp any):=by
 obtain ⟨ab,cb,ap,cp,ar,cr,az,cs,rfl,ca⟩:=hv
 refine al.assume fun d=>enter27 (by simp) ?_
 unfold S27
 simp (disch:=decide) only [ic]
 intro xc hxc gxc xp hxp gxp xg hxg gxg
 have s1:=((HL.Sep.one (h:=h)).past (o := .cells #[C.w,C.h,C.ht,.slice ab C.bl.length cb,.slice ap C.po.length cp,.slice ar C.ro.length cr,.slice az C.st.length cs,C.un,C.ac,C.sp,C.tu,C.ho,C.qu,C.re,C.bu,.bool C.back] 26 (0,0)) hxc)
 generalize e1:Hp.set h xc _=h1 at*
 obtain ⟨l1,d1,bc1⟩:=boxed e1 hxc d gxc
 generalize e2:Hp.set h1 xp _=h2 at*
 obtain ⟨l2,d2,bp2⟩:=boxed e2 hxp d1 gxp
 generalize e3:Hp.set h2 xg _=h3 at*
 obtain ⟨l3,d3,bg3⟩:=boxed e3 hxg d2 gxg
 have bc3:=l3 _ _ (l2 _ _ bc1)
 have bp3:=l3 _ _ bp2
 have L:=l1.trans (l2.trans l3)
 have cc:∀j,af G h3 ⟨xc,j,none⟩=_:=fun j=>aj (ai bc3)
 have cg:∀j,af G h3 ⟨xg,j,none⟩=_:=fun j=>aj (ai bg3)
 clear s1
 try simp only [ic,cc]
 refine (pu (ca.up L d3).cv st hro hsl).mono ?_
 rintro _ h4 ⟨l4,d4,⟨mk,ga,gb,kb,rfl,go,s4⟩|⟨hno,rfl⟩⟩
 rotate_left
 . try simp only [ic]
   exact ⟨.no 5,⟨noHp,_,rfl,Slc.nil,by simp [outL],(HL.Sep.one.none.swap.cut (L.trans l4)).swap,d4⟩,.inl ⟨hno,rfl⟩⟩
 try simp only [ic]
 have gs:=go.gs (G:=G)
 have gs4:=gs.up (s4.in 0 rfl) d4
 have cg4:∀j,af G h4 ⟨xg,j,none⟩=_:=fun j=>aj (ai (s4.at 1 rfl bg3))
 unfold aC0
 try simp (disch:=decide) only [ic,cg4]
 have out1:jh C To rb p t gp any = .no 1->FindR G h C To rb p t gp any (.tuple #[.slice none 0 0,(1:Int)]) h4:=fun e=>
   ⟨.no 1,⟨noHp,_,rfl,Slc.nil,by simp [outL],(HL.Sep.one.none.swap.cut (L.trans l4)).swap,d4⟩,.inr ⟨mk,e.symm⟩⟩
 have cc4:∀j,af G h4 ⟨xc,j,none⟩=_:=fun j=>aj (ai (s4.at 1 rfl bc3))
 have cp4:∀j,af G h4 ⟨xp,j,none⟩=_:=fun j=>aj (ai (s4.at 1 rfl bp3))
 generalize hKR:retK P_ G [.tmp 12,.tmp 13] (FindR G h C To rb p t gp any)=KR
 suffices k2:∀r':Rg,r' 1=vt->r' 2 = .int .i64 rb->r' 4 = .int .i64 t->r' 6 = .pointer (some ⟨xc,0,none⟩)->r' 9 = .pointer (some ⟨xp,0,none⟩)->r' 11 = .pointer (some ⟨xg,0,none⟩)->r' 14 = .pointer (some ⟨gb,0,none⟩)->r' 16 = .bool (aimB C gp any)->Qj G KR r' h4 by
   refine (nw gs4 st hgp).mono ?_
   rintro _ h5 ⟨rfl,rfl⟩
   try simp only [ic,cg4]
   cases hany:any with
   |true=>
     try simp only [ic,cg4]
     refine (Ai (c:=(gp.x,gp.y)) gs4).mono ?_
     rintro _ h6 ⟨rfl,rfl⟩
     exact k2 _ (by simp (disch:=decide) only [ic]) (by simp (disch:=decide) only [ic]) (by simp (disch:=decide) only [ic]) (by simp (disch:=decide) only [ic]) (by simp (disch:=decide) only [ic]) (by simp (disch:=decide) only [ic]) (by simp (disch:=decide) only [ic]) (by simp only [ic];simp [aimB,hany])
   |false=>
     try simp only [ic]
     exact k2 _ (by simp (disch:=decide) only [ic]) (by simp (disch:=decide) only [ic]) (by simp (disch:=decide) only [ic]) (by simp (disch:=decide) only [ic]) (by simp (disch:=decide) only [ic]) (by simp (disch:=decide) only [ic]) (by simp (disch:=decide) only [ic]) (by simp (disch:=decide) only [ic];simp [aimB,hany])
 intro r1 f1 f2 f4 f6 f9 f11 f14 f16
 unfold Qj
 refine ⟨h4,Hp.le.refl _,?_⟩
 try simp only [ic,f1]
 cases To with
 |none=>
   rw [show vt = .pointer none from tv]
   try simp only [ic,fe]
   rw [<- hKR]
   try simp (disch:=decide) only [ic]
   exact out1 rfl
 |some T=>
   obtain ⟨tp,rfl,ts,gt,fw⟩:=tv
   try simp only [ic]
   refine (Rv.mq (ts.up (L.trans l4) d4)).mono ?_
   rintro _ h5 ⟨rfl,rfl⟩
   refine ⟨Hp.le.refl _,?_⟩
   try simp only [ic,f6,cc4]
   have hw:IntKind.i64.wrap (C.w*C.h)=C.w*C.h:=by
     have a1:=gs.w1
     have a2:=gs.w2
     have a3:=gs.k1
     have a4:=gs.k2
     unfold wC at a1 a2
     unfold kC at a3 a4
     have b1:0<=C.w*C.h:=Int.mul_nonneg (by omega) (by omega)
     have b2:C.w*C.h<=16*16:=Int.mul_le_mul (by omega) (by omega) (by omega) (by omega)
     exact kf (by omega) (by omega)
   rw [hw]
   by_cases q1:(T.length:Int)=C.w*C.h
   rotate_left
   . try simp only [ic,show ((T.length:Int) != C.w*C.h)=true from by simpa using q1,fe]
     rw [<- hKR]
     try simp (disch:=decide) only [ic]
     exact out1 (by unfold jh;exact if_pos (.inl q1))
   try simp only [ic,show ((T.length:Int) != C.w*C.h)=false from by simpa using q1,f2]
   by_cases q2:rb<0
   . try simp only [ic,gi q2,fe]
     rw [<- hKR]
     try simp (disch:=decide) only [ic]
     exact out1 (by unfold jh;exact if_pos (.inr (.inl q2)))
   try simp only [ic,ig q2,f4]
   by_cases q3:t<0
   . try simp only [ic,gi q3,fe]
     rw [<- hKR]
     try simp (disch:=decide) only [ic]
     exact out1 (by unfold jh;exact if_pos (.inr (.inr (.inl q3))))
   try simp only [ic,ig q3,f4]
   by_cases q4:t>=4611686018427387904
   . try simp only [ic,gi q4,fe]
     rw [<- hKR]
     try simp (disch:=decide) only [ic]
     exact out1 (by unfold jh;exact if_pos (.inr (.inr (.inr (.inl q4)))))
   try simp only [ic,ig q4,f14,f9,cp4]
   refine (nw gs4 st hp).mono ?_
   rintro _ h6 ⟨rfl,rfl⟩
   cases q5:dg (wC C) (kC C) (f3C C) p with
   |false=>
     try simp only [ic,fe]
     rw [<- hKR]
     try simp (disch:=decide) only [ic]
     exact out1 (by unfold jh;exact if_pos (.inr (.inr (.inr (.inr (.inl q5))))))
   |true=>
   try simp only [ic,f16]
   cases q6:aimB C gp any with
   |false=>
     try simp only [ic,q6]
     rw [<- hKR]
     try simp (disch:=decide) only [ic]
     exact out1 (by unfold jh;exact if_pos (.inr (.inr (.inr (.inr (.inr q6))))))
   |true=>
   try simp only [ic,q6]
   rw [<- hKR]
   have hfw:jh C (some T) rb p t gp any=find (envE C (wC C) (kC C) (f3C C) T rb) (mj gp any) p t zM C.bu.toNat:=by
     unfold jh
     refine if_neg ?_
     rintro (h|h|h|h|h|h)
     . exact h q1
     . exact q2 h
     . exact q3 h
     . exact q4 h
     . rw [q5]at h;cases h
     . rw [q6]at h;cases h
   refine find_k3 (T:=T) (rb:=rb) (p:=p) (gp:=gp) (any:=any) (t:=t) st mk (hbu mk) gt fw go (ca.up L d3) (ts.up L d3) q5 (by omega) (by unfold FV;omega) bc3 bp3 bg3 s4 d4 _ (by simp (disch:=omega) only [av,f1]) (by simp (disch:=omega) only [av,f2]) (by simp (disch:=omega) only [av,f4]) (by simp (disch:=omega) only [av,f6]) (by simp (disch:=omega) only [av,f9]) (by simp (disch:=omega) only [av,f11]) (by simp (disch:=omega) only [av,f14]) ?_
   rintro u h' ⟨ip,vs,e1,e2,e3,e4,e5⟩
   exact ⟨_,⟨ip,vs,e1,e2,e3,(e4.swap.cut L).swap,e5⟩,.inr ⟨mk,hfw.symm⟩⟩
end Go.Proofs.YtfflipnhffknnaaGreatDoor
end
section
namespace Go.Proofs.YtfflipnhffknnaaGreatDoor
open Go Go.HL
section
variable (G:Hp) (K:EK) (r:Rg) (h:Hp)
def S4_k4:Prop:=
 c_ G 23 #[] h fun v44 h44=>
 K .ret (u2 r 106 v44 12 v44) h44
def ay8:Prop:=
 o_ G (binOp .add 3 (r 19) (.int .i64 1)) h fun v47 h47=>
 K .normal (u3 r 84 (r 19) 85 v47 19 v47) h47
def ay9:Prop:=
 o_ G (Instr.indexAt 40 (r 15) (r 19)) h fun v48 h48=>o_ G (Instr.loadAt 48 v48) h48 fun v49 h49=>o_ G (Instr.alloc 48 true (.tuple #[])) h49 fun v50 h50=>
 opH P_ G (su (Instr.storeAt 48 v50 v49)) h50 fun v51 h51=>o_ G (Instr.fieldAt 48 v50 5) h51 fun v52 h52=>o_ G (Instr.loadAt 3 v52) h52 fun v53 h53=>o_ G (binOp .add 3 v53 (r 3)) h53 fun v54 h54=>o_ G (Instr.fieldAt 48 v50 5) h54 fun v55 h55=>
 opH P_ G (su (Instr.storeAt 3 v55 v54)) h55 fun v56 h56=>o_ G (Instr.fieldAt 48 v50 6) h56 fun v57 h57=>o_ G (Instr.loadAt 3 v57) h57 fun v58 h58=>o_ G (binOp .add 3 v58 (r 3)) h58 fun v59 h59=>o_ G (Instr.fieldAt 48 v50 6) h59 fun v60 h60=>
 opH P_ G (su (Instr.storeAt 3 v60 v59)) h60 fun v61 h61=>
 w_ G h61 (Instr.loadAt 48 v50) h61 fun v62 h62=>
 p_ (Instr.indexAt 40 (r 17) (r 19)) h62 fun v63 h63=>
 w_ G h61 (Instr.loadAt 48 v63) h63 fun v64 h64=>
 bm P_ G h61 (xEq .neq 48 (.tmp 0) (.tmp 0) v62 v64) h64 fun v65 h65=>
 (fun q=>cond v65
 (K .ret (upd q 12 (.bool false)) h65)
 (ay8 G K q h65))
 (upd (u10 (u10 r 86 (r 15) 87 (r 19) 88 v48 89 v49 20 v50 90 v52 91 v53 92 (r 3) 93 v54 94 v55) 95 v57 96 v58 97 (r 3) 98 v59 99 v60 100 v62 101 (r 17) 102 (r 19) 103 v63 104 v64) 105 v65)
def S4_l5 (r:Rg) (h:Hp) (K:EK):Prop:=
 o_ G (Builtin.len_ #[40] 3 #[(r 15)]) h fun v45 h45=>o_ G (binOp .lss 3 (r 19) v45) h45 fun v46 h46=>
 cond v46
 (ay9 G K (u4 r 80 (r 19) 81 (r 15) 82 v45 83 v46) h46)
 (K (.exit 0) (u4 r 80 (r 19) 81 (r 15) 82 v45 83 v46) h46)
def S4_k3:Prop:=
 dl (S4_l5 G) (upd r 19 (.int .i64 0)) h (bo 0 (ci (S4_k4 G K) K))
def S4_k2:Prop:=
 w_ G h (Instr.loadAt 26 (r 6)) h fun v20 h20=>
 c_ G 28 #[v20] h20 fun v21 h21=>h.le h21/\
 w_ G h (Instr.loadAt 30 (r 7)) h21 fun v22 h22=>
 w_ G h (Instr.loadAt 30 (r 10)) h22 fun v23 h23=>
 p_ (Instr.build 45 #[(0,v23),(1,(r 5))]) h23 fun v24 h24=>
 c_ G 27 #[v21,(r 13),(.int .i64 1),v22,(r 2),v24] h24 fun v25 h25=>
 p_ (Instr.extract v25 0) h25 fun v26 h26=>
 p_ (Instr.extract v25 1) h26 fun v27 h27=>
 w_ G h27 (Instr.loadAt 26 (r 6)) h27 fun v28 h28=>
 c_ G 28 #[v28] h28 fun v29 h29=>h27.le h29/\
 w_ G h27 (Instr.loadAt 30 (r 7)) h29 fun v30 h30=>
 p_ (binOp .add 3 (r 2) (r 3)) h30 fun v31 h31=>
 w_ G h27 (Instr.loadAt 30 (r 10)) h31 fun v32 h32=>
 p_ (Instr.build 45 #[(0,v32),(1,(r 5))]) h32 fun v33 h33=>
 c_ G 27 #[v29,(r 13),(.int .i64 1),v30,v31,v33] h33 fun v34 h34=>
 p_ (Instr.extract v34 0) h34 fun v35 h35=>
 p_ (Instr.extract v34 1) h35 fun v36 h36=>
 opH P_ G (xEq .neq 35 (.tmp 0) (.tmp 0) v27 v36) h36 fun v37 h37=>g_ v37 false (fun K1=>K1 v26 h37) h37 fun v38 h38=>g_ v37 false (o_ G (Builtin.len_ #[40] 3 #[v38]) h38) h38 fun v39 h39=>g_ v37 false (fun K1=>K1 v35 h39) h39 fun v40 h40=>g_ v37 false (o_ G (Builtin.len_ #[40] 3 #[v40]) h40) h40 fun v41 h41=>g_ v37 false (opH P_ G (xEq .neq 3 (.tmp 0) (.tmp 0) v39 v41) h41) h41 fun v42 h42=>
 opH P_ G (bj v37 (.bool true) v42) h42 fun v43 h43=>
 (fun q=>cond v43
 (K .ret (upd q 12 (.bool false)) h43)
 (S4_k3 G K q h43))
 (u10 (u10 (u10 (u10 r 45 v20 46 v21 47 (r 13) 48 v22 49 (r 2) 50 v23 51 (r 5) 52 v24 53 v25 44 v25) 54 v26 55 v27 15 v26 16 v27 57 v28 58 v29 59 (r 13) 60 v30 61 (r 2) 62 (r 3)) 63 v31 64 v32 65 (r 5) 66 v33 67 v34 56 v34 68 v35 69 v36 17 v35 18 v36) 70 v27 71 v36 72 v37 73 v37 74 v38 75 v39 76 v40 77 v41 78 v42 79 v43)
def S4_k1:Prop:=
 c_ G 25 #[(r 2),(.int .i64 1073741824)] h fun v6 h6=>
 c_ G 25 #[(r 3),(.int .i64 1073741824)] h6 fun v7 h7=>o_ G (Instr.fieldAt 26 (r 6) 0) h7 fun v8 h8=>o_ G (Instr.loadAt 3 v8) h8 fun v9 h9=>o_ G (Instr.fieldAt 26 (r 6) 1) h9 fun v10 h10=>o_ G (Instr.loadAt 3 v10) h10 fun v11 h11=>o_ G (binOp .mul 3 v9 v11) h11 fun v12 h12=>
 c_ G 24 #[v12] h12 fun v13 h13=>o_ G (Instr.extract v13 0) h13 fun v14 h14=>o_ G (Instr.extract v13 1) h14 fun v15 h15=>
 opH P_ G (xEq .neq 35 (.tmp 0) (.const .nilFunc) v15 (.int .i64 0)) h15 fun v16 h16=>g_ v16 false (fun K1=>K1 v14 h16) h16 fun v17 h17=>g_ v16 false (opH P_ G (xEq .eql 34 (.tmp 0) (.const .nilFunc) v17 (.pointer none)) h17) h17 fun v18 h18=>
 opH P_ G (bj v16 (.bool true) v18) h18 fun v19 h19=>
 (fun q=>cond v19
 (K .ret (upd q 12 (.bool false)) h19)
 (S4_k2 G K q h19))
 (u3 (u10 (u10 r 25 (r 2) 26 v6 2 v6 27 (r 3) 28 v7 3 v7 30 v8 31 v9 32 v10 33 v11) 34 v12 35 v13 29 v13 36 v14 37 v15 13 v14 14 v15 38 v15 39 v16 40 v16) 41 v17 42 v18 43 v19)
def S4:Prop:=
 o_ G (Instr.box 26 (r 0)) h fun v0 h0=>o_ G (Instr.box 30 (r 1)) h0 fun v1 h1=>o_ G (Instr.box 30 (r 4)) h1 fun v2 h2=>o_ G (Instr.loadAt 26 v0) h2 fun v3 h3=>
 c_ G 21 #[v3] h3 fun v4 h4=>o_ G (Op.unary .not v4) h4 fun v5 h5=>
 cond v5
 (c_ G 23 #[] h5 fun v66 h66=>
 K .ret (u9 r 6 v0 7 v1 10 v2 12 (.bool false) 21 v3 22 v4 23 v5 24 v66 12 v66) h66)
 (S4_k1 G K (u7 r 6 v0 7 v1 10 v2 12 (.bool false) 21 v3 22 v4 23 v5) h5)
end
end Go.Proofs.YtfflipnhffknnaaGreatDoor
end
section
namespace Go.Proofs.YtfflipnhffknnaaGreatDoor
open Go Go.HL Go.Proofs.Resv Go.Proofs.Srch
theorem jm {n:Nat}:kc (List.replicate n []):=fun L hL=>by rw [(List.mem_replicate.1 hL).2];exact Resv.Good.nil
theorem Iz {n b:Nat}:Few (List.replicate n []) b:=fun L hL=>by rw [(List.mem_replicate.1 hL).2];exact Nat.zero_le _
end Go.Proofs.YtfflipnhffknnaaGreatDoor
end

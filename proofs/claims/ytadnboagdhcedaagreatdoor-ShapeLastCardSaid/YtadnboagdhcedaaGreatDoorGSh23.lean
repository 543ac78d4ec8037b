/- ShapeReached: the sanity check. -/
import Derived.Test.YtadnboagdhcedaaGreatDoorGSh16

set_option linter.unusedSimpArgs false
set_option linter.unusedVariables false
namespace Go.Proofs.YtadnboagdhcedaaGreatDoor
section
open Go Go.RowKit Go.Ct
theorem Q2(w:World):Calls Tryz.prog 15 #[] w λ e w'=>∃q:Nat×AX×AX×Option Addr×Nat,e=.returned (.tuple #[.pointer (some ⟨q.1,0,none⟩),.agg ⟨[.int .i64 3,.bool false]⟩])/\True /\
  SF w [] [(q.1,mO (L4 q.2.1 q.2.2.1) [0,3,4] 1 0 q.2.2.1.pn q.2.2.1.cn q.2.2.2.1 q.2.2.2.2)] [] (aY (L4 q.2.1 q.2.2.1)) (mW (L4 q.2.1 q.2.2.1) [0,3,4] q.2.2.1.pn q.2.2.1.cn q.2.2.2.1 q.2.2.2.2) w':=by
 refine enter Tryz.func15 Tryz.ntmps15 rfl rfl (SF.s0 w) ?_
 simp only[cR]
 refine J0 ?_;refine nF (λ _=>?_);refine aP (λ x1=>?_);refine aI ?_;refine J0 ?_;refine aC (cj (Fc:=λ _=>[]) (hc:=λ w1 hw=>Zp w1)) (λ x3 h3=>?_);refine tZ ?_;refine aC (cM (hc:=λ w hs=>Xb hs)) (λ x6 h6=>?_);refine nF (λ _=>?_);refine J5 ?_
 refine bJ Tryz.results15 (λ w hw=>?_)
 exact⟨(x3.1,x6.1,x6.2.1,x6.2.2.1,x6.2.2.2),rfl,trivial,hw.z7⟩
section
variable{L:List aK}{N:List Nv}{cs:List Int}{pn pc:Option Addr}{cn cc:Nat}{w:World}
theorem Kn(hN:L.map aK.c=N)(als:Rw L)(hp:dX N cs 1)(hl:L.length<=100)(hc:cs.length<=100)(h:hY w L cs pn pc)(hT:Go.Ct.Cl w (some ⟨0,0,none⟩) (mR gY))(hcn:L.length<=cn){c:Int}(hi:c<=100){r:Int}{l:List Int}(hro:fA N cs c=some r)(hv:Ad N cs 12 r []=some l)(ht:Ss N cs 12 r){b:Bool}(hb:b=true↔Ul N cs 0 12 r [] 0) :
  Calls Tryz.prog 11 #[rF L cs 1 pn cn pc cc,.agg ⟨[.int .i64 c,.bool false]⟩,.int .u64 0] w λ e w'=>e=.returned (.int .i64 (if b=true then 0 else 8))/\St w [] [] w':=by
 subst hN
 have hp2:dH L cs 1:=hp.to rfl
 refine(Pt (m:=0) h hT (sg hp2 als.rz als.fit (by omega) als.hash) (m4 hp2) hp2 als.rz (by omega) hcn (by decide) c false (by omega) (by rw[pN hp2,hro];exact hv) hro ht).mono ?_
 rintro e w' ⟨q,e1,h1,h2⟩
 refine⟨?_,h2.done⟩
 rw[e1]
 have:q=b:=by rw[Bool.eq_iff_iff];exact h1.trans hb.symm
 rw[this]
theorem Xc(hN:L.map aK.c=N)(als:Rw L)(hp:dX N cs 1)(hl:L.length<=100)(hc:cs.length<=100)(h:hY w L cs pn pc)(hT:Go.Ct.Cl w (some ⟨0,0,none⟩) (mR gY))(hcn:L.length<=cn){c:Int}(hi:c<=100){r:Int}{l:List Int}(hro:fA N cs c=some r)(hv:Ad N cs 12 r []=some l)(ht:Ss N cs 12 r){d:Nat}(hd:M9 N cs 12 r=d) :
  Calls Tryz.prog 14 #[rF L cs 1 pn cn pc cc,.agg ⟨[.int .i64 c,.bool false]⟩] w λ e w'=>e=.returned (.int .i64 ((d:Nat):Int))/\St w [] [] w':=by
 subst hN hd
 have hp2:dH L cs 1:=hp.to rfl
 exact Lv h hT (sg hp2 als.rz als.fit (by omega) als.hash) (m4 hp2) hp2 als.rz (by omega) hcn c false (by omega) (by rw[pN hp2,hro];exact hv) hro ht
end
section
variable{x y:AX}{pn pc:Option Addr}{cn cc:Nat}{w:World}
theorem Th(h:hY w (L4 x y) [0,3,4] pn pc)(hT:Go.Ct.Cl w (some ⟨0,0,none⟩) (mR gY))(hcn:(L4 x y).length<=cn):Calls Tryz.prog 11 #[rF (L4 x y) [0,3,4] 1 pn cn pc cc,.agg ⟨[.int .i64 3,.bool false]⟩,.int .u64 0] w λ e w'=>e=.returned (.int .i64 0)/\St w [] [] w' :=
 Kn (b:=true) (nf x y) (Ho x y) Fb (by show 4<=100;decide) (by decide) h hT hcn (by decide) Pj Wx qs ⟨λ _=>uh 0,λ _=>rfl⟩
theorem Sc(h:hY w (L4 x y) [0,3,4] pn pc)(hcn:(L4 x y).length<=cn):Calls Tryz.prog 13 #[rF (L4 x y) [0,3,4] 1 pn cn pc cc,.agg ⟨[.int .i64 3,.bool false]⟩] w λ e w'=>e=.returned (.bool true)/\St w [] [] w':=by
 have hp2:dH (L4 x y) [0,3,4] 1:=Fb.to (nf x y)
 refine Vp (cz:=2) (l:=[4]) h (Ho x y).rz (by show 4<=274877906944;decide) (by decide) hcn false (by decide) (by show vD _ _ _ 3=_;rw[pN hp2,nf,Pj];exact Wx) (by decide) rfl λ j hj=>?_
 have:j=0:=by simp at hj;omega
 subst this
 exact⟨3,1,2,0,rfl,by show 3<4;decide,rfl,by decide,rfl,by show 2<4;decide,.inl rfl,rfl,by decide,rfl⟩
end
section
variable{x1 x2 x3 x4 x5:AX}{pn pc:Option Addr}{cn cc:Nat}{w:World}
theorem T1(h:hY w (Wg x1 x2 x3 x4 x5) S7 pn pc)(hT:Go.Ct.Cl w (some ⟨0,0,none⟩) (mR gY))(hcn:(Wg x1 x2 x3 x4 x5).length<=cn):Calls Tryz.prog 11 #[rF (Wg x1 x2 x3 x4 x5) S7 1 pn cn pc cc,.agg ⟨[.int .i64 5,.bool false]⟩,.int .u64 0] w λ e w'=>e=.returned (.int .i64 8)/\St w [] [] w' :=
 Kn (b:=false) (xe x1 x2 x3 x4 x5) (Ip x1 x2 x3 x4 x5) Gm (by show 7<=100;decide) (by decide) h hT hcn (by decide) Qi X3 Uy ⟨λ h=>(nomatch h),λ h=>absurd h (xf 0)⟩
theorem Tb(h:hY w (Wg x1 x2 x3 x4 x5) S7 pn pc)(hT:Go.Ct.Cl w (some ⟨0,0,none⟩) (mR gY))(hcn:(Wg x1 x2 x3 x4 x5).length<=cn):Calls Tryz.prog 14 #[rF (Wg x1 x2 x3 x4 x5) S7 1 pn cn pc cc,.agg ⟨[.int .i64 5,.bool false]⟩] w λ e w'=>e=.returned (.int .i64 1)/\St w [] [] w' :=
 Xc (d:=1) (xe x1 x2 x3 x4 x5) (Ip x1 x2 x3 x4 x5) Gm (by show 7<=100;decide) (by decide) h hT hcn (by decide) Qi X3 Uy wq
end
theorem Qg{x1 x2 x3 x4 x5:AX}{A F:Fr}{O:List Ow}(h1:∀f∈(jY jm [] [] 0 x1).fr,f∈F)(h2:∀f∈(jY Qa [3] [] 0 x2).fr,f∈F)(h3:∀f∈(jY (tB 1) [] [] 1 x3).fr,f∈F)(h4:∀f∈(jY Qa [5] [] 2 x4).fr,f∈F)(h5:∀f∈(jY (tB 1) [] [] 3 x5).fr,f∈F):∀f∈aY (Wg x1 x2 x3 x4 x5),Has A F O f:=λ f hf=>by
 obtain⟨v,hv,hf⟩:=kN.1 hf
 simp only[Wg,List.cons_append,List.nil_append,List.mem_cons,List.not_mem_nil,or_false] at hv
 rcases hv with rfl|rfl|rfl|rfl|rfl|rfl|rfl
 ·simp only[aK.fr,List.mem_cons,List.not_mem_nil,or_false] at hf;rcases hf with rfl|rfl<;>exact .inl rfl
 ·simp only[aK.fr,List.mem_cons,List.not_mem_nil,or_false] at hf;rcases hf with rfl|rfl<;>exact .inl rfl
 ·exact .inr (.inr (.inl (h1 f hf)))
 ·exact .inr (.inr (.inl (h2 f hf)))
 ·exact .inr (.inr (.inl (h3 f hf)))
 ·exact .inr (.inr (.inl (h4 f hf)))
 ·exact .inr (.inr (.inl (h5 f hf)))
set_option maxRecDepth 100000 in
theorem Se{w:World}(hT:Go.Ct.Cl w (some ⟨0,0,none⟩) (mR gY)):Calls Tryz.prog 10 #[] w λ e w'=>e=.returned (.bool true)/\St w [] [] w':=by
 refine enter Tryz.func10 Tryz.ntmps10 rfl rfl (SF.begin (A:=[(some ⟨0,0,none⟩,mR gY)]) (λ f hf=>by rw[List.mem_singleton.1 hf];exact hT)) ?_
 simp only[cR]
 refine cN ?_;refine J0 ?_;refine aC (cj (Fc:=λ q:Nat×AX×AX×Option Addr×Nat=>aY (L4 q.2.1 q.2.2.1)) (hc:=λ w1 hw=>Q2 w1)) (λ x10 h10=>?_);refine Cj ?_;refine aP (λ x2=>?_);refine nF (λ _=>?_);refine J5 ?_;refine J0 ?_;refine aC (cj (Fc:=λ _=>[]) (hc:=λ w1 hw=>Zp w1)) (λ x13 h13=>?_);refine Ka4 ?_;refine bD ?_;refine aC (cM (A0:=[(none,aG []),(none,cZ [])]) (hc:=λ w hs=>mB (L:=[cK,cK]) (cs:=[]) (n:=jm) (xs:=[]) (ys:=[]) 0 hs rfl rfl (by decide) (by decide) (show(2:Nat)<=274877906944 by decide) (by decide))) (λ x16 h16=>?_);refine tZ ?_;refine aR (Lq (λ _=>cS (cs:=aG [3]) kM L9 rfl rfl rfl rfl rfl)) (λ x19=>?_);refine bD ?_;refine aC (cM (A0:=[(some ⟨x19,0,none⟩,aG [3]),(none,cZ [])]) (hc:=λ w hs=>mB (L:=[cK,cK]++[jY jm [] [] 0 x16]) (cs:=[]) (n:={Qa with brA:=some ⟨x19,0,none⟩,brN:=1,brC:=1}) (xs:=[3]) (ys:=[]) 0 hs rfl rfl (by decide) (by decide) (show(3:Nat)<=274877906944 by decide) (by decide))) (λ x21 h21=>?_);refine J1 ?_;refine E0 ?_;refine wN ?_;refine J2 ?_;refine bD ?_;refine aB ?_;refine aC (cM (A0:=[(none,aG []),(none,cZ [])]) (hc:=λ w hs=>mB (L:=[cK,cK]++[jY jm [] [] 0 x16]++[jY Qa [3] [] 0 x21]) (cs:=[0]) (n:=tB 1) (xs:=[]) (ys:=[]) 4 hs rfl rfl (by decide) (by decide) (show(4:Nat)<=274877906944 by decide) (by decide))) (λ x29 h29=>?_);refine Ka4 ?_;refine bD ?_;refine nB ?_;refine aR (Lq (λ _=>cS (cs:=aG [5]) kM L9 rfl rfl rfl rfl rfl)) (λ x34=>?_);refine bD ?_;refine aC (cM (A0:=[(some ⟨x34,0,none⟩,aG [5]),(none,cZ [])]) (hc:=λ w hs=>mB (L:=[cK,cK]++[jY jm [] [] 0 x16]++[jY Qa [3] [] 0 x21]++[jY (tB 1) [] [] 1 x29]) (cs:=[0,4]) (n:={Qa with brA:=some ⟨x34,0,none⟩,brN:=1,brC:=1}) (xs:=[5]) (ys:=[]) 0 hs rfl rfl (by decide) (by decide) (show(5:Nat)<=274877906944 by decide) (by decide))) (λ x36 h36=>?_);refine aC (cM (A0:=[(none,aG []),(none,cZ [])]) (hc:=λ w hs=>mB (L:=[cK,cK]++[jY jm [] [] 0 x16]++[jY Qa [3] [] 0 x21]++[jY (tB 1) [] [] 1 x29]++[jY Qa [5] [] 2 x36]) (cs:=[0,4,0]) (n:=tB 1) (xs:=[]) (ys:=[]) 6 hs rfl rfl (by decide) (by decide) (show(6:Nat)<=274877906944 by decide) (by decide))) (λ x37 h37=>?_);refine tZ ?_;refine aC (cM (hc:=λ w hs=>iI (L:=Wg x16 x21 x29 x36 x37) (cs:=[0,4,0,6]) 7 hs (by decide))) (λ x40 h40=>?_);refine bD ?_;refine aP (λ x8=>?_);refine J5 ?_;refine aS ?_;refine gB [0,1,2,3,4,5,6,7,8,9,10,11,12,13,14,15,16,17,18,19,20,21,22,23,24,25,26,27,28,29,30,31,32,33] ?_;refine J9 ?_;refine bM (i:=3) (hq:=(aL (k:=3) rf fN gX (by simp only[List.drop_zero,List.take_succ_cons,List.take_zero];exact rfl) rfl)) (h:=?_);refine bN ?_;refine dG (i:=5) (hq:=(cV (v:=.int .i64 0) (hc:=λ w1 hw=>Th (hw.vS (.inr (.inr (.inr ⟨_,.tail _ (.tail _ (.head _)),rfl,rfl⟩))) (.inr (.inr (.inr ⟨_,.tail _ (.tail _ (.tail _ (.head _))),rfl,rfl⟩))) (λ f hf=>.inr (.inr (.inl (by repeat (first|exact hf|refine List.mem_append_right _ ?_|refine List.mem_cons_of_mem _ ?_))))) (Ho x10.2.1 x10.2.2.1).fit) (hw.cl (.bL (.head))) (hw.M4 (.tail (.tail .head)))))) (h:=λ x47=>?_);refine tG ?_;refine aT ?_
 (refine aT ?_)
 ((refine lH ?_));((refine aQ ?_));((refine bM (i:=11) (hq:=(aL (k:=3) rf fN gX (by simp only[List.drop_zero,List.take_succ_cons,List.take_zero];exact rfl) rfl)) (h:=?_)));((refine bN ?_));((refine dG (i:=13) (hq:=(cV (v:=.bool true) (hc:=λ w1 hw=>Sc (hw.vS (.inr (.inr (.inr ⟨_,.tail _ (.tail _ (.head _)),rfl,rfl⟩))) (.inr (.inr (.inr ⟨_,.tail _ (.tail _ (.tail _ (.head _))),rfl,rfl⟩))) (λ f hf=>.inr (.inr (.inl (by repeat (first|exact hf|refine List.mem_append_right _ ?_|refine List.mem_cons_of_mem _ ?_))))) (Ho x10.2.1 x10.2.2.1).fit) (hw.M4 (.tail (.tail .head)))))) (h:=λ x55=>?_)));refine iZ ?_;refine aT ?_
 (refine aT ?_)
 ((refine lH ?_));((refine aQ ?_));((refine bM (i:=19) (hq:=(aL (k:=3) rf fN gX (by simp only[List.drop_zero,List.take_succ_cons,List.take_zero];exact rfl) rfl)) (h:=?_)));((refine bN ?_));((refine dG (i:=21) (hq:=(cV (v:=.int .i64 8) (hc:=λ w1 hw=>T1 (hw.vS (.inr (.inr (.inr ⟨_,.head _,rfl,rfl⟩))) (.inr (.inr (.inr ⟨_,.tail _ (.head _),rfl,rfl⟩))) (Qg (λ f hf=>(by repeat (first|exact List.mem_append_left _ hf|refine List.mem_append_right _ ?_|refine List.mem_cons_of_mem _ ?_))) (λ f hf=>(by repeat (first|exact List.mem_append_left _ hf|refine List.mem_append_right _ ?_|refine List.mem_cons_of_mem _ ?_))) (λ f hf=>(by repeat (first|exact List.mem_append_left _ hf|refine List.mem_append_right _ ?_|refine List.mem_cons_of_mem _ ?_))) (λ f hf=>(by repeat (first|exact List.mem_append_left _ hf|refine List.mem_append_right _ ?_))) (λ f hf=>(by repeat (exact List.mem_append_left _ hf)))) (Ip x16 x21 x29 x36 x37).fit) (hw.cl (.bL (.head))) (hw.M4 .head)))) (h:=λ x63=>?_)));refine jy ?_;refine aT ?_
 (refine aT ?_)
 ((refine lH ?_));((refine aQ ?_));((refine bM (i:=28) (hq:=(aL (k:=3) rf fN gX (by simp only[List.drop_zero,List.take_succ_cons,List.take_zero];exact rfl) rfl)) (h:=?_)));((refine bN ?_));((refine dG (i:=30) (hq:=(cV (v:=.int .i64 1) (hc:=λ w1 hw=>Tb (hw.vS (.inr (.inr (.inr ⟨_,.head _,rfl,rfl⟩))) (.inr (.inr (.inr ⟨_,.tail _ (.head _),rfl,rfl⟩))) (Qg (λ f hf=>(by repeat (first|exact List.mem_append_left _ hf|refine List.mem_append_right _ ?_|refine List.mem_cons_of_mem _ ?_))) (λ f hf=>(by repeat (first|exact List.mem_append_left _ hf|refine List.mem_append_right _ ?_|refine List.mem_cons_of_mem _ ?_))) (λ f hf=>(by repeat (first|exact List.mem_append_left _ hf|refine List.mem_append_right _ ?_|refine List.mem_cons_of_mem _ ?_))) (λ f hf=>(by repeat (first|exact List.mem_append_left _ hf|refine List.mem_append_right _ ?_))) (λ f hf=>(by repeat (exact List.mem_append_left _ hf)))) (Ip x16 x21 x29 x36 x37).fit) (hw.cl (.bL (.head))) (hw.M4 .head)))) (h:=λ x72=>?_)));refine jy ?_;refine J7 ?_
 refine aN Tryz.results10 (λ w hw=>?_)
 exact⟨rfl,hw.done⟩
end

/- ShapeLast: the walk. -/
section
open Go Go.RowKit Go.Ct
def Yz:List ByteArray:=[ka,kb,ka]
def Ob:List Int:=[0,11,0]
theorem rv(v:Int){y:Nat}(h:y<2):(Rk 8 (Yz.getD y ⟨#[]⟩) v 0 8 (Bd v y)).1.live=false/\Bd v (y+1)=(Rk 8 (Yz.getD y ⟨#[]⟩) v 0 8 (Bd v y)).2/\Yz.getD y ⟨#[]⟩∈An:=by
 have:y=0∨y=1:=by omega
 rcases this with rfl|rfl
 ·exact⟨Up v,rfl,.head _⟩
 ·exact⟨Wf v,rfl,.tail _ (.head _)⟩
theorem w3(v:Int){y:Nat}(h:y<3):fA (Bd v (y+1)).nodes (Bd v (y+1)).cs 3=some 4/\((M9 (Bd v (y+1)).nodes (Bd v (y+1)).cs 12 4:Nat):Int)=Ob.getD y 0/\Ob.take (y+1)=Ob.take y++[Ob.getD y 0]:=by
 have:y=0∨y=1∨y=2:=by omega
 rcases this with rfl|rfl|rfl
 ·exact⟨Xq v,by rw[n7];rfl,rfl⟩
 ·exact⟨Xn v,by rw[rb];rfl,rfl⟩
 ·exact⟨Zn v,by rw[mu];rfl,rfl⟩
set_option maxRecDepth 100000 in
set_option maxHeartbeats 1000000 in
theorem Kk{v:Int}{w:World}(hT:Go.Ct.Cl w (some ⟨0,0,none⟩) (mR gY)) :
  Calls Tryz.prog 6 #[.int .u64 v] w λ e w'=>e=.returned (.bool true)/\St w [] [] w':=by
 refine enter Tryz.func6 Tryz.ntmps6 rfl rfl (SF.begin (A:=[(some ⟨0,0,none⟩,mR gY)]) (λ f hf=>by rw[List.mem_singleton.1 hf];exact hT)) ?_
 simp only[cR]
 refine cN ?_;refine J0 ?_;refine aC (cj (Fc:=λ q:Nat×AX×AX×Option Addr×Nat=>aY (L4 q.2.1 q.2.2.1)) (hc:=λ w1 hw=>Q2 w1)) (λ x9 h9=>?_);refine Cj ?_;refine aP (λ x4=>?_);refine nF (λ _=>?_);refine J5 ?_;refine J0 ?_;refine aR (Fi B1) (λ x12=>?_);refine gK ?_;refine J0 ?_;refine aR (Lq (λ _=>cS (cs:=wE Yz) W8 L9 rfl rfl rfl rfl rfl)) (λ x13=>?_);refine Kb8 ?_
 have h0:SL 0 8 (XS.new (L4 x9.2.1 x9.2.2.1) [0,3,4] 1 0 x9.2.2.1.pn x9.2.2.1.cn x9.2.2.2.1 x9.2.2.2.2) ri:=pj 0 _ _ _ _ _ _ _
 refine mP [2,5,6,7,15,16,17,18,19,20,21,22,23,24,25,26,27,28,29,30,31,32,33,34,35,36,37,38,39,40,41,42,43,44,45,46,47] (λ y:Nat×XS×Option Addr×Nat=>[(15,.int .i64 ((y.1:Nat):Int)),(5,.slice y.2.2.1 (Ob.take y.1).length y.2.2.2)]) (λ y=>y.1<=3/\SL 0 (8+20000*y.1) y.2.1 (Bd v y.1)) (λ y=>[(x4,.cells ⟨[.int .i64 3,.bool false]⟩ 29 (0,0)),(x9.1,xM y.2.1)]) (λ y=>(some ⟨x13,0,none⟩,wE Yz)::aY y.2.1.L) (λ y=>[⟨y.2.2.1,aG (Ob.take y.1),y.2.2.2,3,1⟩,⟨y.2.1.pn,jC y.2.1.L,y.2.1.cn,77,14⟩,⟨y.2.1.pc,aG y.2.1.cs,y.2.1.cc,62,1⟩]) (λ y=>3-y.1) ((0,XS.new (L4 x9.2.1 x9.2.2.1) [0,3,4] 1 0 x9.2.2.1.pn x9.2.2.1.cn x9.2.2.2.1 x9.2.2.2.2,some ⟨x12,0,none⟩,0)) (⟨Nat.zero_le _,h0⟩) (λ y f hx=>?_) (hw0:=λ w hw=>by rw[List.append_nil] at hw;exact hw.v1)
 dsimp only[gG,List.map,List.cons_append,List.nil_append]
 obtain⟨hy3,hz⟩:=hx
 have htl:(Ob.take y.1).length=y.1:=by rw[List.length_take];exact Nat.min_eq_left hy3
 refine Kb4 ?_
 refine aZ (λ c16=>?_) (λ c16=>?_)
 ·try (first|contradiction|(exfalso;omega))
  have hy2:y.1<3:=by omega
  obtain⟨d1,d2,d3⟩:=w3 v hy2
  refine oW ?_;refine J2 ?_;refine aE (Wh (lst:=Yz) (k:=y.1) rf rf fK fX (.new .head) (by omega) hy2) rfl ?_;refine aE (dh (lst:=Yz) (q:=y.1) rf fX (.new .head) hy2) rfl ?_;refine J8 ?_;refine aS ?_
  refine eL [20,21,22,23,24,25,26,27,28,29,30] (λ z:XS=>[]) (λ z=>SL 0 (8+20000*(y.1+1)) z (Bd v (y.1+1))) (λ z=>[(x4,.cells ⟨[.int .i64 3,.bool false]⟩ 29 (0,0)),(x9.1,xM z)]) (λ z=>(some ⟨x13,0,none⟩,wE Yz)::aY z.L) (λ z=>[⟨y.2.2.1,aG (Ob.take y.1),y.2.2.2,3,1⟩,⟨z.pn,jC z.L,z.cn,77,14⟩,⟨z.pc,aG z.cs,z.cc,62,1⟩]) (by decide) (λ _=>by exact rfl) ?_ (λ z f hx=>?_)
  ·refine aS ?_
   refine yB ?_;refine rR ?_
   refine aZ (λ c21=>?_) (λ c21=>?_)
   ·try (first|contradiction|(exfalso;omega))
    have hy1:y.1=2:=by omega
    refine yB ?_;refine bK ?_;refine aB ?_;refine aC (cT 1 1 (hs:=[(x9.1,xM y.2.1)]) (os:=[⟨y.2.1.pn,jC y.2.1.L,y.2.1.cn,77,14⟩,⟨y.2.1.pc,aG y.2.1.cs,y.2.1.cc,62,1⟩]) (A0:=aY y.2.1.L) (F1:=λ r:XS×List aK=>(some ⟨x13,0,none⟩,wE Yz)::aY r.1.L) (hc:=λ w hs=>cd (key:=Yz.getD y.1 ⟨#[]⟩) (Nf:=151) hz (by decide) (by rw[hy1];exact .head _) (by omega) (by decide) (by rw[hy1];exact Zg v) (λ f hf=>hf) hs) (hA:=bT.of λ f hf=>.inr (.inr (.inl (List.mem_cons_of_mem _ hf)))) (hF1:=λ x hx f hf=>.inr (ext_mem hx.2 f hf))) (λ x25 h25=>?_);refine aI ?_
    refine gA (x25.1) ?_ (hw1:=λ w hw=>hw.v1)
    ·exact⟨h25.1.mm.trans (by rw[hy1];rfl),h25.1.ok.mono (by omega) (Nat.le_refl _) (Nat.le_refl _)⟩
   ·try (first|contradiction|(exfalso;omega))
    obtain⟨p1,p2,p3⟩:=rv v (y:=y.1) (by omega)
    refine yB ?_;refine bK ?_;refine nB ?_;refine aC (cT 1 1 (hs:=[(x9.1,xM y.2.1)]) (os:=[⟨y.2.1.pn,jC y.2.1.L,y.2.1.cn,77,14⟩,⟨y.2.1.pc,aG y.2.1.cs,y.2.1.cc,62,1⟩]) (A0:=aY y.2.1.L) (F1:=λ r:XS×List aK=>(some ⟨x13,0,none⟩,wE Yz)::aY r.1.L) (hc:=λ w hs=>qp (Nf:=8) hz (by decide) p3 (by omega) (by decide) p1 (λ f hf=>hf) hs) (hA:=bT.of λ f hf=>.inr (.inr (.inl (List.mem_cons_of_mem _ hf)))) (hF1:=λ x hx f hf=>.inr (ext_mem hx.2 f hf))) (λ x30 h30=>?_);refine aI ?_
    refine gA (x30.1) ?_ (hw1:=λ w hw=>hw.v1)
    ·exact⟨h30.1.mm.trans p2.symm,h30.1.ok.mono (by omega) (Nat.le_refl _) (Nat.le_refl _)⟩
  dsimp only[gG,List.map,List.cons_append,List.nil_append]
  have hz1:=hx
  refine aS ?_;refine gB [0,1,2,3,4,5,6,7,8,9] ?_;refine aT ?_;refine J9 ?_;refine bM (i:=4) (hq:=(aL (k:=3) rf fN gX (by simp only[List.drop_zero,List.take_succ_cons,List.take_zero];exact rfl) rfl)) (h:=?_);refine bN ?_;refine dG (i:=6) (hq:=(cV (v:=.int .i64 (Ob.getD y.1 0)) (hc:=λ w1 hw=>by rw[<- d2];exact Sy hz1 (by omega) d1 rfl (hw.vS (.inr (.inr (.inr ⟨_,.tail _ (.head _),rfl,rfl⟩))) (.inr (.inr (.inr ⟨_,.tail _ (.tail _ (.head _)),rfl,rfl⟩))) (λ f hf=>.inr (.inr (.inl (by repeat (first|exact hf|refine List.mem_cons_of_mem _ ?_))))) hz1.ok.z.fit) (hw.cl (.bL .head)) (hw.M4 (.tail .head))))) (h:=λ x37=>?_);refine cQ (h:=λ x38=>?_);((refine tO (h:=λ x39=>?_);try (refine fP (λ h39=>?_))));refine J7 ?_;refine aS ?_;refine gB [0,1,2,3,4,5,6] ?_;refine J9 ?_;refine bM (i:=3) (hq:=(aL (k:=3) rf fN gX (by simp only[List.drop_zero,List.take_succ_cons,List.take_zero];exact rfl) rfl)) (h:=?_);refine bN ?_;refine dG (i:=5) (hq:=(cV (v:=.int .i64 0) (hc:=λ w1 hw=>Ts (m:=0) hz1 (by omega) (by decide) (hw.vS (.inr (.inr (.inr ⟨_,.tail _ (.head _),rfl,rfl⟩))) (.inr (.inr (.inr ⟨_,.tail _ (.tail _ (.head _)),rfl,rfl⟩))) (λ f hf=>.inr (.inr (.inl (by repeat (first|exact hf|refine List.mem_cons_of_mem _ ?_))))) hz1.ok.z.fit) (hw.cl (.bL .head)) (hw.M4 (.tail .head))))) (h:=λ x45=>?_);refine Cz ?_;refine dV ?_
  refine aZ (λ c46=>?_) (λ c46=>?_)
  ·exact nv c46
  ·try (first|contradiction|(exfalso;omega))
   refine Kc3 ?_
   refine sS ((y.1+1,z,x39)) ?_ ?_ (by repeat (first|(with_reducible exact Em.refl)|refine Em.cons (by exact rfl) ?_)) ?_ (λ w hw=>by rw[d3];exact hw.back (hF:=by exact aX.pD λ f hf=>(by repeat (first|exact hf|refine List.mem_cons_of_mem _ ?_))))
   ·omega
   ·repeat' (first|exact bB _|refine aW ?_ ?_)
    all_goals (first|exact rfl|(rw[d3,List.length_append];exact rfl))
   ·exact⟨by show y.1+1<=3;omega,hz1⟩
 ·try (first|contradiction|(exfalso;omega))
  obtain⟨y1,zz,pp,qq⟩:=y
  have hy4:y1<=3:=hy3
  have c17:¬((y1:Nat):Int)<3:=c16
  obtain rfl:y1=3:=by omega
  refine bG rfl ?_;refine J0 ?_;refine aR (cV (v:=.bool true) (hc:=λ w1 hw=>Se (hw.cl (.bL .head)))) (λ x48=>?_);refine aB ?_
  (refine Ka3 ?_)
  ((refine aF ?_;refine aE (bX (k:=0) (lst:=Ob) rf rf fK fX fin (Nat.le_of_ble_eq_true rfl) (Nat.le_of_ble_eq_true rfl)) rfl ?_));((refine aF ?_;refine aE (cP (q:=0) (lst:=Ob) rf fX fin (Nat.le_of_ble_eq_true rfl)) rfl ?_));refine wQ ?_;refine aB ?_
  (refine Ka3 ?_)
  ((refine aF ?_;refine aE (bX (k:=1) (lst:=Ob) rf rf fK fX fin (Nat.le_of_ble_eq_true rfl) (Nat.le_of_ble_eq_true rfl)) rfl ?_));((refine aF ?_;refine aE (cP (q:=1) (lst:=Ob) rf fX fin (Nat.le_of_ble_eq_true rfl)) rfl ?_));refine wQ ?_;refine aB ?_
  (refine Ka3 ?_)
  ((refine aF ?_;refine aE (bX (k:=2) (lst:=Ob) rf rf fK fX fin (Nat.le_of_ble_eq_true rfl) (Nat.le_of_ble_eq_true rfl)) rfl ?_));((refine aF ?_;refine aE (cP (q:=2) (lst:=Ob) rf fX fin (Nat.le_of_ble_eq_true rfl)) rfl ?_));refine wQ ?_;refine J1 ?_
  refine aN Tryz.results6 (λ w hw=>?_)
  exact⟨rfl,hw.done⟩
end

end Go.Proofs.YtadnboagdhcedaaGreatDoor

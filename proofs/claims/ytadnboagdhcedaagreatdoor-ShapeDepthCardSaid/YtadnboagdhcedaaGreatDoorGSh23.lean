/- ShapeReached: the sanity check. -/
import Derived.Test.YtadnboagdhcedaaGreatDoorGWo7
import Derived.Test.YtadnboagdhcedaaGreatDoorGSh15

set_option linter.unusedSimpArgs false
set_option linter.unusedVariables false
namespace Go.Proofs.YtadnboagdhcedaaGreatDoor
section
open Go Go.RowKit Go.Ct
theorem Q5(w:World):Calls Tryz.prog 15 #[] w λ e w'=>∃q:Nat×AX×AX×Option Addr×Nat,e=.returned (.tuple #[.pointer (some ⟨q.1,0,none⟩),.agg ⟨[.int .i64 3,.bool false]⟩])/\True /\
  SF w [] [(q.1,mO (L4 q.2.1 q.2.2.1) [0,3,4] 1 0 q.2.2.1.pn q.2.2.1.cn q.2.2.2.1 q.2.2.2.2)] [] (aV (L4 q.2.1 q.2.2.1)) (mW (L4 q.2.1 q.2.2.1) [0,3,4] q.2.2.1.pn q.2.2.1.cn q.2.2.2.1 q.2.2.2.2) w':=by
 refine enter Tryz.func15 Tryz.ntmps15 rfl rfl (SF.s0 w) ?_
 simp only[cP]
 refine J0 ?_;refine nY (λ _=>?_);refine aP (λ x1=>?_);refine aI ?_;refine J0 ?_;refine aC (V0 (Fc:=λ _=>[]) (hc:=λ w1 hw=>Oi w1)) (λ x3 h3=>?_);refine sV ?_;refine aC (cM (hc:=λ w hs=>K2 hs)) (λ x6 h6=>?_);refine nY (λ _=>?_);refine J5 ?_
 refine bK Tryz.results15 (λ w hw=>?_)
 exact⟨(x3.1,x6.1,x6.2.1,x6.2.2.1,x6.2.2.2),rfl,trivial,hw.v4⟩
section
variable{L:List aL}{N:List Nv}{cs:List Int}{pn pc:Option Addr}{cn cc:Nat}{w:World}
theorem Mh(hN:L.map aL.c=N)(als:Rz L)(hp:eD N cs 1)(hl:L.length<=100)(hc:cs.length<=100)(h:gS w L cs pn pc)(hT:Go.Ct.Cl w (some ⟨0,0,none⟩) (nG iB))(hcn:L.length<=cn){c:Int}(hi:c<=100){r:Int}{l:List Int}(hro:fN N cs c=some r)(hv:A7 N cs 12 r []=some l)(ht:Nt N cs 12 r){b:Bool}(hb:b=true↔Vw N cs 0 12 r [] 0) :
  Calls Tryz.prog 11 #[pW L cs 1 pn cn pc cc,.agg ⟨[.int .i64 c,.bool false]⟩,.int .u64 0] w λ e w'=>e=.returned (.int .i64 (if b=true then 0 else 8))/\St w [] [] w':=by
 subst hN
 have hp2:dM L cs 1:=hp.to rfl
 refine(Tj (m:=0) h hT (qk hp2 als.vb als.fit (by omega) als.hash) (s7 hp2) hp2 als.vb (by omega) hcn (by decide) c false (by omega) (by rw[qC hp2,hro];exact hv) hro ht).mono ?_
 rintro e w' ⟨q,e1,h1,h2⟩
 refine⟨?_,h2.done⟩
 rw[e1]
 have:q=b:=by rw[Bool.eq_iff_iff];exact h1.trans hb.symm
 rw[this]
theorem Xz(hN:L.map aL.c=N)(als:Rz L)(hp:eD N cs 1)(hl:L.length<=100)(hc:cs.length<=100)(h:gS w L cs pn pc)(hT:Go.Ct.Cl w (some ⟨0,0,none⟩) (nG iB))(hcn:L.length<=cn){c:Int}(hi:c<=100){r:Int}{l:List Int}(hro:fN N cs c=some r)(hv:A7 N cs 12 r []=some l)(ht:Nt N cs 12 r){d:Nat}(hd:Ns N cs 12 r=d) :
  Calls Tryz.prog 14 #[pW L cs 1 pn cn pc cc,.agg ⟨[.int .i64 c,.bool false]⟩] w λ e w'=>e=.returned (.int .i64 ((d:Nat):Int))/\St w [] [] w':=by
 subst hN hd
 have hp2:dM L cs 1:=hp.to rfl
 exact E6 h hT (qk hp2 als.vb als.fit (by omega) als.hash) (s7 hp2) hp2 als.vb (by omega) hcn c false (by omega) (by rw[qC hp2,hro];exact hv) hro ht
end
section
variable{x y:AX}{pn pc:Option Addr}{cn cc:Nat}{w:World}
theorem Us(h:gS w (L4 x y) [0,3,4] pn pc)(hT:Go.Ct.Cl w (some ⟨0,0,none⟩) (nG iB))(hcn:(L4 x y).length<=cn):Calls Tryz.prog 11 #[pW (L4 x y) [0,3,4] 1 pn cn pc cc,.agg ⟨[.int .i64 3,.bool false]⟩,.int .u64 0] w λ e w'=>e=.returned (.int .i64 0)/\St w [] [] w' :=
 Mh (b:=true) (tv x y) (Iy x y) Hi (by show 4<=100;decide) (by decide) h hT hcn (by decide) Ta Xn s8 ⟨λ _=>xg 0,λ _=>rfl⟩
theorem Tm(h:gS w (L4 x y) [0,3,4] pn pc)(hcn:(L4 x y).length<=cn):Calls Tryz.prog 13 #[pW (L4 x y) [0,3,4] 1 pn cn pc cc,.agg ⟨[.int .i64 3,.bool false]⟩] w λ e w'=>e=.returned (.bool true)/\St w [] [] w':=by
 have hp2:dM (L4 x y) [0,3,4] 1:=Hi.to (tv x y)
 refine K7 (cz:=2) (l:=[4]) h (Iy x y).vb (by show 4<=274877906944;decide) (by decide) hcn false (by decide) (by show wB _ _ _ 3=_;rw[qC hp2,tv,Ta];exact Xn) (by decide) rfl λ j hj=>?_
 have:j=0:=by simp at hj;omega
 subst this
 exact⟨3,1,2,0,rfl,by show 3<4;decide,rfl,by decide,rfl,by show 2<4;decide,.inl rfl,rfl,by decide,rfl⟩
end
section
variable{x1 x2 x3 x4 x5:AX}{pn pc:Option Addr}{cn cc:Nat}{w:World}
theorem Ut(h:gS w (Wt x1 x2 x3 x4 x5) Tp pn pc)(hT:Go.Ct.Cl w (some ⟨0,0,none⟩) (nG iB))(hcn:(Wt x1 x2 x3 x4 x5).length<=cn):Calls Tryz.prog 11 #[pW (Wt x1 x2 x3 x4 x5) Tp 1 pn cn pc cc,.agg ⟨[.int .i64 5,.bool false]⟩,.int .u64 0] w λ e w'=>e=.returned (.int .i64 8)/\St w [] [] w' :=
 Mh (b:=false) (y0 x1 x2 x3 x4 x5) (Ip x1 x2 x3 x4 x5) G7 (by show 7<=100;decide) (by decide) h hT hcn (by decide) Q3 Y0 Yh ⟨λ h=>(nomatch h),λ h=>absurd h (zv 0)⟩
theorem Vg(h:gS w (Wt x1 x2 x3 x4 x5) Tp pn pc)(hT:Go.Ct.Cl w (some ⟨0,0,none⟩) (nG iB))(hcn:(Wt x1 x2 x3 x4 x5).length<=cn):Calls Tryz.prog 14 #[pW (Wt x1 x2 x3 x4 x5) Tp 1 pn cn pc cc,.agg ⟨[.int .i64 5,.bool false]⟩] w λ e w'=>e=.returned (.int .i64 1)/\St w [] [] w' :=
 Xz (d:=1) (y0 x1 x2 x3 x4 x5) (Ip x1 x2 x3 x4 x5) G7 (by show 7<=100;decide) (by decide) h hT hcn (by decide) Q3 Y0 Yh zl
end
theorem Rv{x1 x2 x3 x4 x5:AX}{A F:Fr}{O:List Ow}(h1:∀f∈(kK kx [] [] 0 x1).fr,f∈F)(h2:∀f∈(kK Sj [3] [] 0 x2).fr,f∈F)(h3:∀f∈(kK (tB 1) [] [] 1 x3).fr,f∈F)(h4:∀f∈(kK Sj [5] [] 2 x4).fr,f∈F)(h5:∀f∈(kK (tB 1) [] [] 3 x5).fr,f∈F):∀f∈aV (Wt x1 x2 x3 x4 x5),Has A F O f:=λ f hf=>by
 obtain⟨v,hv,hf⟩:=kV.1 hf
 simp only[Wt,List.cons_append,List.nil_append,List.mem_cons,List.not_mem_nil,or_false] at hv
 rcases hv with rfl|rfl|rfl|rfl|rfl|rfl|rfl
 ·simp only[aL.fr,List.mem_cons,List.not_mem_nil,or_false] at hf;rcases hf with rfl|rfl<;>exact .inl rfl
 ·simp only[aL.fr,List.mem_cons,List.not_mem_nil,or_false] at hf;rcases hf with rfl|rfl<;>exact .inl rfl
 ·exact .inr (.inr (.inl (h1 f hf)))
 ·exact .inr (.inr (.inl (h2 f hf)))
 ·exact .inr (.inr (.inl (h3 f hf)))
 ·exact .inr (.inr (.inl (h4 f hf)))
 ·exact .inr (.inr (.inl (h5 f hf)))
set_option maxRecDepth 100000 in
theorem Tn{w:World}(hT:Go.Ct.Cl w (some ⟨0,0,none⟩) (nG iB)):Calls Tryz.prog 10 #[] w λ e w'=>e=.returned (.bool true)/\St w [] [] w':=by
 refine enter Tryz.func10 Tryz.ntmps10 rfl rfl (SF.begin (A:=[(some ⟨0,0,none⟩,nG iB)]) (λ f hf=>by rw[List.mem_singleton.1 hf];exact hT)) ?_
 simp only[cP]
 refine cQ ?_;refine J0 ?_;refine aC (V0 (Fc:=λ q:Nat×AX×AX×Option Addr×Nat=>aV (L4 q.2.1 q.2.2.1)) (hc:=λ w1 hw=>Q5 w1)) (λ x10 h10=>?_);refine Fi ?_;refine aP (λ x2=>?_);refine nY (λ _=>?_);refine J5 ?_;refine J0 ?_;refine aC (V0 (Fc:=λ _=>[]) (hc:=λ w1 hw=>Oi w1)) (λ x13 h13=>?_);refine Ka3 ?_;refine bD ?_;refine aC (cM (A0:=[(none,aG []),(none,dF [])]) (hc:=λ w hs=>mR (L:=[cN,cN]) (cs:=[]) (n:=kx) (xs:=[]) (ys:=[]) 0 hs rfl rfl (by decide) (by decide) (show(2:Nat)<=274877906944 by decide) (by decide))) (λ x16 h16=>?_);refine sV ?_;refine aU (B4 (λ _=>cC (cs:=aG [3]) lB Fp rfl rfl rfl rfl rfl)) (λ x19=>?_);refine bD ?_;refine aC (cM (A0:=[(some ⟨x19,0,none⟩,aG [3]),(none,dF [])]) (hc:=λ w hs=>mR (L:=[cN,cN]++[kK kx [] [] 0 x16]) (cs:=[]) (n:={Sj with brA:=some ⟨x19,0,none⟩,brN:=1,brC:=1}) (xs:=[3]) (ys:=[]) 0 hs rfl rfl (by decide) (by decide) (show(3:Nat)<=274877906944 by decide) (by decide))) (λ x21 h21=>?_);refine J1 ?_;refine Fo ?_;refine xC ?_;refine J2 ?_;refine bD ?_;refine aB ?_;refine aC (cM (A0:=[(none,aG []),(none,dF [])]) (hc:=λ w hs=>mR (L:=[cN,cN]++[kK kx [] [] 0 x16]++[kK Sj [3] [] 0 x21]) (cs:=[0]) (n:=tB 1) (xs:=[]) (ys:=[]) 4 hs rfl rfl (by decide) (by decide) (show(4:Nat)<=274877906944 by decide) (by decide))) (λ x29 h29=>?_);refine Ka3 ?_;refine bD ?_;refine nX ?_;refine aU (B4 (λ _=>cC (cs:=aG [5]) lB Fp rfl rfl rfl rfl rfl)) (λ x34=>?_);refine bD ?_;refine aC (cM (A0:=[(some ⟨x34,0,none⟩,aG [5]),(none,dF [])]) (hc:=λ w hs=>mR (L:=[cN,cN]++[kK kx [] [] 0 x16]++[kK Sj [3] [] 0 x21]++[kK (tB 1) [] [] 1 x29]) (cs:=[0,4]) (n:={Sj with brA:=some ⟨x34,0,none⟩,brN:=1,brC:=1}) (xs:=[5]) (ys:=[]) 0 hs rfl rfl (by decide) (by decide) (show(5:Nat)<=274877906944 by decide) (by decide))) (λ x36 h36=>?_);refine aC (cM (A0:=[(none,aG []),(none,dF [])]) (hc:=λ w hs=>mR (L:=[cN,cN]++[kK kx [] [] 0 x16]++[kK Sj [3] [] 0 x21]++[kK (tB 1) [] [] 1 x29]++[kK Sj [5] [] 2 x36]) (cs:=[0,4,0]) (n:=tB 1) (xs:=[]) (ys:=[]) 6 hs rfl rfl (by decide) (by decide) (show(6:Nat)<=274877906944 by decide) (by decide))) (λ x37 h37=>?_);refine sV ?_;refine aC (cM (hc:=λ w hs=>iY (L:=Wt x16 x21 x29 x36 x37) (cs:=[0,4,0,6]) 7 hs (by decide))) (λ x40 h40=>?_);refine bD ?_;refine aP (λ x8=>?_);refine J5 ?_;refine aR ?_;refine fK [0,1,2,3,4,5,6,7,8,9,10,11,12,13,14,15,16,17,18,19,20,21,22,23,24,25,26,27,28,29,30,31,32,33] ?_;refine J9 ?_;refine bH (i:=3) (hq:=(aK (k:=3) rf dU fX (by simp only[List.drop_zero,List.take_succ_cons,List.take_zero];exact rfl) rfl)) (h:=?_);refine bO ?_;refine cX (i:=5) (hq:=(cV (v:=.int .i64 0) (hc:=λ w1 hw=>Us (hw.tH (.inr (.inr (.inr ⟨_,.tail _ (.tail _ (.head _)),rfl,rfl⟩))) (.inr (.inr (.inr ⟨_,.tail _ (.tail _ (.tail _ (.head _))),rfl,rfl⟩))) (λ f hf=>.inr (.inr (.inl (by repeat (first|exact hf|refine List.mem_append_right _ ?_|refine List.mem_cons_of_mem _ ?_))))) (Iy x10.2.1 x10.2.2.1).fit) (hw.cl (.bM (.head))) (hw.Ij (.tail (.tail .head)))))) (h:=λ x47=>?_);refine mK ?_;refine aS ?_
 (refine aS ?_)
 ((refine hZ ?_));((refine aM ?_));((refine bH (i:=11) (hq:=(aK (k:=3) rf dU fX (by simp only[List.drop_zero,List.take_succ_cons,List.take_zero];exact rfl) rfl)) (h:=?_)));((refine bO ?_));((refine cX (i:=13) (hq:=(cV (v:=.bool true) (hc:=λ w1 hw=>Tm (hw.tH (.inr (.inr (.inr ⟨_,.tail _ (.tail _ (.head _)),rfl,rfl⟩))) (.inr (.inr (.inr ⟨_,.tail _ (.tail _ (.tail _ (.head _))),rfl,rfl⟩))) (λ f hf=>.inr (.inr (.inl (by repeat (first|exact hf|refine List.mem_append_right _ ?_|refine List.mem_cons_of_mem _ ?_))))) (Iy x10.2.1 x10.2.2.1).fit) (hw.Ij (.tail (.tail .head)))))) (h:=λ x55=>?_)));refine iU ?_;refine aS ?_
 (refine aS ?_)
 ((refine hZ ?_));((refine aM ?_));((refine bH (i:=19) (hq:=(aK (k:=3) rf dU fX (by simp only[List.drop_zero,List.take_succ_cons,List.take_zero];exact rfl) rfl)) (h:=?_)));((refine bO ?_));((refine cX (i:=21) (hq:=(cV (v:=.int .i64 8) (hc:=λ w1 hw=>Ut (hw.tH (.inr (.inr (.inr ⟨_,.head _,rfl,rfl⟩))) (.inr (.inr (.inr ⟨_,.tail _ (.head _),rfl,rfl⟩))) (Rv (λ f hf=>(by repeat (first|exact List.mem_append_left _ hf|refine List.mem_append_right _ ?_|refine List.mem_cons_of_mem _ ?_))) (λ f hf=>(by repeat (first|exact List.mem_append_left _ hf|refine List.mem_append_right _ ?_|refine List.mem_cons_of_mem _ ?_))) (λ f hf=>(by repeat (first|exact List.mem_append_left _ hf|refine List.mem_append_right _ ?_|refine List.mem_cons_of_mem _ ?_))) (λ f hf=>(by repeat (first|exact List.mem_append_left _ hf|refine List.mem_append_right _ ?_))) (λ f hf=>(by repeat (exact List.mem_append_left _ hf)))) (Ip x16 x21 x29 x36 x37).fit) (hw.cl (.bM (.head))) (hw.Ij .head)))) (h:=λ x63=>?_)));refine dt ?_;refine aS ?_
 (refine aS ?_)
 ((refine hZ ?_));((refine aM ?_));((refine bH (i:=28) (hq:=(aK (k:=3) rf dU fX (by simp only[List.drop_zero,List.take_succ_cons,List.take_zero];exact rfl) rfl)) (h:=?_)));((refine bO ?_));((refine cX (i:=30) (hq:=(cV (v:=.int .i64 1) (hc:=λ w1 hw=>Vg (hw.tH (.inr (.inr (.inr ⟨_,.head _,rfl,rfl⟩))) (.inr (.inr (.inr ⟨_,.tail _ (.head _),rfl,rfl⟩))) (Rv (λ f hf=>(by repeat (first|exact List.mem_append_left _ hf|refine List.mem_append_right _ ?_|refine List.mem_cons_of_mem _ ?_))) (λ f hf=>(by repeat (first|exact List.mem_append_left _ hf|refine List.mem_append_right _ ?_|refine List.mem_cons_of_mem _ ?_))) (λ f hf=>(by repeat (first|exact List.mem_append_left _ hf|refine List.mem_append_right _ ?_|refine List.mem_cons_of_mem _ ?_))) (λ f hf=>(by repeat (first|exact List.mem_append_left _ hf|refine List.mem_append_right _ ?_))) (λ f hf=>(by repeat (exact List.mem_append_left _ hf)))) (Ip x16 x21 x29 x36 x37).fit) (hw.cl (.bM (.head))) (hw.Ij .head)))) (h:=λ x72=>?_)));refine dt ?_;refine J7 ?_
 refine aQ Tryz.results10 (λ w hw=>?_)
 exact⟨rfl,hw.done⟩
end

/- ShapeDepth: the walk. -/
section
open Go Go.RowKit Go.Ct
theorem fg{N:List Nv}{cs:List Int}:∀(n:Nat) (i:Int),Nt N cs (n+1) i->Ns N cs (n+1) i<=n:=by
 have key:∀(n:Nat) (i:Int),Nt N cs n i->Ns N cs n i+1<=n:=λ n=>by
  induction n with
  | zero=>intro i h;exact h.elim
  | succ n ih =>
   rintro i ⟨r,hb,h⟩
   have h2:∀(xs:List Int) (acc:Nat),(∀b∈xs,(cA N b).kind=4∨((cA N b).kind=2/\Nt N cs n b))->acc<=n->Uj N (Ns N cs n) xs acc<=n:=by
    intro xs
    induction xs with
    | nil=>intro acc _ h;exact h
    | cons b xs ih2 =>
     intro acc hx ha
     simp only[Uj]
     refine ih2 _ (λ b hb=>hx b (List.mem_cons_of_mem _ hb)) ?_
     split
     ·rename_i k2
      rcases hx b (List.mem_cons_self ..) with h4|⟨_,h4⟩
      ·omega
      ·have:=ih b h4
       omega
     ·exact ha
   have h3:=h2 (cA N r).xs 0 h (Nat.zero_le _)
   simp only[Ns,hb,Option.getD_some]
   omega
 intro n i h
 have:=key (n+1) i h
 omega
def od:List ByteArray:=[ka,kb,kc]
theorem vq(v:Int){y:Nat}(h:y<3):(Vx 8 (od.getD y ⟨#[]⟩) v 63 8 (a9 v y)).1.live=false/\a9 v (y+1)=(Vx 8 (od.getD y ⟨#[]⟩) v 63 8 (a9 v y)).2/\od.getD y ⟨#[]⟩∈jI:=by
 have:y=0∨y=1∨y=2:=by omega
 rcases this with rfl|rfl|rfl
 ·exact⟨W1 v,rfl,.head _⟩
 ·exact⟨Xl v,rfl,.tail _ (.head _)⟩
 ·exact⟨Zi v,rfl,.tail _ (.tail _ (.head _))⟩
theorem Wf{m:Nat}{z:XS}{t:eA}{r:Int}{l:List Int}(k:yl m z t r l){pn pc:Option Addr}{cn cc:Nat}{w:World}(h:gS w z.L z.cs pn pc)(hT:Go.Ct.Cl w (some ⟨0,0,none⟩) (nG iB))(hr:uM z.L)(hc:z.cs.length<=274877906944)(hcn:z.L.length<=cn)(hi:t.root<=9223372036854775807) :
  Calls Tryz.prog 14 #[pW z.L z.cs z.gen pn cn pc cc,.agg ⟨[.int .i64 t.root,.bool t.ro]⟩] w λ e w'=>∃d:Nat,e=.returned (.int .i64 (d:Int))/\d<=11/\St w [] [] w' :=
 (E6 h hT k.sh k.mn k.pr hr hc hcn t.root t.ro hi k.trav k.root k.trb).mono λ _ _ ⟨e1,h1⟩=>⟨_,e1,fg 11 r k.trb,h1⟩
set_option maxRecDepth 100000 in
set_option maxHeartbeats 1600000 in
theorem Jv{l:List Int}{a:Option Addr}{c:Nat}{v:Int}{w:World}(h1:Go.Ct.Cl w a (aG l))(hl:l.length<=17592186043904)(hT:Go.Ct.Cl w (some ⟨0,0,none⟩) (nG iB)) :
  Calls Tryz.prog 5 #[.slice a l.length c,.int .u64 v] w λ e w'=>e=.returned (.bool true)/\St w [] [] w':=by
 refine enter Tryz.func5 Tryz.ntmps5 rfl rfl (SF.s2 h1 hT) ?_
 simp only[cP]
 refine cQ ?_;refine J2 ?_;refine aC (V0 (Hc:=λ q:Nat×Nat×Nat×Wd=>wH q.2.2.1 q.1 q.2.1 q.2.2.2) (H1:=λ q=>(q.1,nK q.2.1 (q.2.2.1:Int) q.2.2.2.pt q.2.2.2.ts.length q.2.2.2.kt q.2.2.2.pe (qT q.2.2.2.ex).length q.2.2.2.ke)::(q.2.1,xM q.2.2.2.z)::Cg q.2.1 q.2.2.2.ex) (Fc:=λ q=>aV q.2.2.2.z.L) (F1:=λ q=>aV q.2.2.2.z.L) (Oc:=λ q=>wO q.2.2.2) (O1:=λ q=>⟨q.2.2.2.pt,sN q.2.2.2.ts,q.2.2.2.kt,29,2⟩::⟨q.2.2.2.pe,xS (qT q.2.2.2.ex),q.2.2.2.ke,73,1⟩::⟨q.2.2.2.z.pn,gR q.2.2.2.z.L,q.2.2.2.z.cn,77,14⟩::⟨q.2.2.2.z.pc,aG q.2.2.2.z.cs,q.2.2.2.z.cc,62,1⟩::Ar q.2.2.2.ex) (hH1:=λ q=>List.append_nil _) (hF1:=λ q=>List.append_nil _) (hO1:=λ q=>List.append_nil _) (hc:=λ w1 hw=>dg (hw.cl (.bM .head)) hl)) (λ x14 h14=>?_)
 have hm:=h14.1
 have hW:=h14.2
 have htl:=hW.tl
 have s1:x14.2.2.2.z.L.length<=2415922570:=hW.sz.1
 have s2:x14.2.2.2.z.cs.length<=2415922570:=hW.sz.2.1
 refine gP ?_;refine nA ?_;refine Kb8 ?_
 refine lE [4,7,8,20,21,22,23,24,25,26,27,28,29,30,31,32,33,34,35,36,37,38,39] (λ y:Nat=>[(20,.int .i64 ((y:Nat):Int))]) (λ y=>y<=x14.2.2.2.ts.length) (λ _=>(x14.1,nK x14.2.1 (x14.2.2.1:Int) x14.2.2.2.pt x14.2.2.2.ts.length x14.2.2.2.kt x14.2.2.2.pe (qT x14.2.2.2.ex).length x14.2.2.2.ke)::(x14.2.1,xM x14.2.2.2.z)::Cg x14.2.1 x14.2.2.2.ex) (λ _=>aV x14.2.2.2.z.L) (λ _=>⟨x14.2.2.2.pt,sN x14.2.2.2.ts,x14.2.2.2.kt,29,2⟩::⟨x14.2.2.2.pe,xS (qT x14.2.2.2.ex),x14.2.2.2.ke,73,1⟩::⟨x14.2.2.2.z.pn,gR x14.2.2.2.z.L,x14.2.2.2.z.cn,77,14⟩::⟨x14.2.2.2.z.pc,aG x14.2.2.2.z.cs,x14.2.2.2.z.cc,62,1⟩::Ar x14.2.2.2.ex) (λ y=>x14.2.2.2.ts.length-y) (0) (Nat.zero_le _) (λ y f hx=>?_) (hw0:=λ w hw=>hw.v6)
 dsimp only[fY,List.map,List.cons_append,List.nil_append]
 refine Kb4 ?_
 refine aZ (λ c21=>?_) (λ c21=>?_)
 ·try (first|contradiction|(exfalso;omega))
  have htm:=Cv (ts:=x14.2.2.2.ts) (j:=y) (by omega)
  have hrt:=hW.root (by decide) htm
  obtain⟨r,il,hk⟩:=Mp hW htm (by omega)
  refine Kc9 ?_;refine aE (df (cs:=sN x14.2.2.2.ts) (k:=y) rf rf fE fX (.own .head) (by omega) (by rw[oW];omega)) rfl ?_;refine aE (Pu (ts:=x14.2.2.2.ts) (q:=y) rf fX (.own .head) (by omega)) rfl ?_;refine aP (λ x7=>?_);refine J5 ?_;refine aR ?_;refine fK [0,1,2,3,4,5,6,7,8,9] ?_;refine du ?_;refine J4 ?_;refine bH (i:=6) (hq:=(aK (k:=3) rf dU fX (by simp only[List.drop_zero,List.take_succ_cons,List.take_zero];exact rfl) rfl)) (h:=?_);refine bO ?_;refine bC (i:=8) (hq:=(c0 (V:=λ d:Nat=>.int .i64 (d:Int)) (hc:=λ w1 hw=>Wf hk (hw.tH (.inr (.inr (.inr ⟨_,.tail _ (.tail _ (.head _)),rfl,rfl⟩))) (.inr (.inr (.inr ⟨_,.tail _ (.tail _ (.tail _ (.head _))),rfl,rfl⟩))) (λ f hf=>.inr (.inr (.inl hf))) hW.z.fit) (hw.cl (.bM (.tail .head))) (yN hW.z) (by omega) (SF.aAQ hw) hrt))) (h:=λ x32 h32=>?_);refine J7 ?_;refine J2 ?_;refine Ec ?_
  (refine Ka4 ?_)
  refine Kb5 ?_
  refine aZ (λ c38=>?_) (λ c38=>?_)
  ·try ((exfalso;omega))
  ·try (first|contradiction|(exfalso;omega))
   refine Kc4 ?_
   refine gC (y+1) ?_ (hw1:=λ w hw=>hw.v6)
   ·(show y+1<=_;omega)
 ·try (first|contradiction|(exfalso;omega))
  refine bI rfl ?_;refine J0 ?_;refine aC (V0 (Fc:=λ q:Nat×AX×AX×Option Addr×Nat=>aV (L4 q.2.1 q.2.2.1)) (hc:=λ w1 hw=>Q5 w1)) (λ x41 h41=>?_);refine Fi ?_;refine aP (λ x10=>?_);refine nY (λ _=>?_);refine J5 ?_;refine aR ?_;refine J0 ?_;refine aU (B4 (λ _=>cC (cs:=D5 od) L5 Fp rfl rfl rfl rfl rfl)) (λ x44=>?_);refine Kb8 ?_
  have h0:SL 63 8 (XS.new (L4 x41.2.1 x41.2.2.1) [0,3,4] 1 0 x41.2.2.1.pn x41.2.2.1.cn x41.2.2.2.1 x41.2.2.2.2) vc:=sv 63 _ _ _ _ _ _ _
  refine lE [12,46,47,48,49,50,51,52,53,54,55] (λ y:Nat×XS=>[(46,.int .i64 ((y.1:Nat):Int))]) (λ y=>y.1<=3/\SL 63 (8+20000*y.1) y.2 (a9 v y.1)) (λ y=>[(x10,.cells ⟨[.int .i64 3,.bool false]⟩ 29 (0,0)),(x41.1,xM y.2)]) (λ y=>(some ⟨x44,0,none⟩,D5 od)::aV y.2.L) (λ y=>[⟨y.2.pn,gR y.2.L,y.2.cn,77,14⟩,⟨y.2.pc,aG y.2.cs,y.2.cc,62,1⟩]) (λ y=>3-y.1) ((0,XS.new (L4 x41.2.1 x41.2.2.1) [0,3,4] 1 0 x41.2.2.1.pn x41.2.2.1.cn x41.2.2.2.1 x41.2.2.2.2)) (⟨Nat.zero_le _,h0⟩) (λ y f hx=>?_) (hw0:=λ w hw=>hw.back (hH:=.cons_cons _ (.cons_cons _ (List.nil_sublist _))) (hF:=by exact aW.oP λ f hf=>(by repeat (exact List.mem_append_left _ hf))) (hO:=.cons_cons _ (.cons_cons _ (List.nil_sublist _))))
  dsimp only[fY,List.map,List.cons_append,List.nil_append]
  obtain⟨hy3,hz⟩:=hx
  refine Kb4 ?_
  refine aZ (λ c47=>?_) (λ c47=>?_)
  ·try (first|contradiction|(exfalso;omega))
   have hy2:y.1<3:=by omega
   obtain⟨p1,p2,p3⟩:=vq v hy2
   refine Kc9 ?_;refine aE (Nj (lst:=od) (k:=y.1) rf rf fE gA (.new .head) (by omega) hy2) rfl ?_;refine aE (R6 (lst:=od) (q:=y.1) rf gA (.new .head) hy2) rfl ?_;refine J1 ?_;refine wS ?_;refine bN ?_;refine nX ?_;refine aC (cT 1 0 (hs:=[(x41.1,xM y.2)]) (os:=[⟨y.2.pn,gR y.2.L,y.2.cn,77,14⟩,⟨y.2.pc,aG y.2.cs,y.2.cc,62,1⟩]) (A0:=aV y.2.L) (F1:=λ r:XS×List aL=>(some ⟨x44,0,none⟩,D5 od)::aV r.1.L) (hc:=λ w hs=>ve (Nf:=8) (m:=63) hz (by decide) p3 (by omega) (by decide) p1 (λ f hf=>hf) hs) (hA:=bQ.of λ f hf=>.inr (.inr (.inl (List.mem_cons_of_mem _ hf)))) (hF1:=λ x hx f hf=>.inr (ext_mem hx.2 f hf))) (λ x54 h54=>?_);refine aI ?_;refine eT ?_;refine Ka5 ?_
   refine gC ((y.1+1,x54.1)) ?_ (hw1:=λ w hw=>hw.v6)
   ·exact⟨by show y.1+1<=3;omega,h54.1.mm.trans p2.symm,h54.1.ok.mono (by show _<=8+20000*(y.1+1);omega) (Nat.le_refl _) (Nat.le_refl _)⟩
  ·try (first|contradiction|(exfalso;omega))
   obtain⟨y1,z⟩:=y
   have hy4:y1<=3:=hy3
   have c48:¬((y1:Nat):Int)<3:=c47
   obtain rfl:y1=3:=by omega
   refine bI rfl ?_;refine aR ?_;refine fK [0,1,2,3,4,5,6,7,8,9,10,11,12,13,14,15,16,17,18,19,20,21,22,23,24,25,26,27] ?_;refine cX (i:=0) (hq:=(cV (v:=.bool true) (hc:=λ w1 hw=>Tn (hw.cl (.bM (.tail .head)))))) (h:=λ x56=>?_);refine aS ?_
   (refine aS ?_)
   ((refine hZ ?_));((refine aM ?_));((refine bH (i:=5) (hq:=(aK (k:=3) rf dU fX (by simp only[List.drop_zero,List.take_succ_cons,List.take_zero];exact rfl) rfl)) (h:=?_)));((refine bO ?_));((refine cX (i:=7) (hq:=(cV (v:=.int .i64 0) (hc:=λ w1 hw=>U3 (d:=0) hz (by show 8+20000*3<=100000000000;decide) (dh v) (vw v) (hw.tH (.inr (.inr (.inr ⟨_,.head _,rfl,rfl⟩))) (.inr (.inr (.inr ⟨_,.tail _ (.head _),rfl,rfl⟩))) (λ f hf=>.inr (.inr (.inl (by repeat (first|exact hf|refine List.mem_cons_of_mem _ ?_))))) hz.ok.z.fit) (hw.cl (.bM (.tail .head))) (hw.Ij .head)))) (h:=λ x63=>?_)));refine dt ?_;refine aS ?_
   (refine aS ?_)
   ((refine hZ ?_));((refine aM ?_));((refine bH (i:=14) (hq:=(aK (k:=3) rf dU fX (by simp only[List.drop_zero,List.take_succ_cons,List.take_zero];exact rfl) rfl)) (h:=?_)));((refine bO ?_));((refine cX (i:=16) (hq:=(cV (v:=.bool true) (hc:=λ w1 hw=>Uu hz (by show 8+20000*3<=100000000000;decide) (hw.tH (.inr (.inr (.inr ⟨_,.head _,rfl,rfl⟩))) (.inr (.inr (.inr ⟨_,.tail _ (.head _),rfl,rfl⟩))) (λ f hf=>.inr (.inr (.inl (by repeat (first|exact hf|refine List.mem_cons_of_mem _ ?_))))) hz.ok.z.fit) (hw.Ij .head)))) (h:=λ x72=>?_)));refine iU ?_;refine aS ?_
   (refine aS ?_)
   ((refine hZ ?_));((refine aM ?_));((refine bH (i:=22) (hq:=(aK (k:=3) rf dU fX (by simp only[List.drop_zero,List.take_succ_cons,List.take_zero];exact rfl) rfl)) (h:=?_)));((refine bO ?_));((refine cX (i:=24) (hq:=(cV (v:=.int .i64 0) (hc:=λ w1 hw=>Vu (m:=63) hz (by show 8+20000*3<=100000000000;decide) (by decide) (hw.tH (.inr (.inr (.inr ⟨_,.head _,rfl,rfl⟩))) (.inr (.inr (.inr ⟨_,.tail _ (.head _),rfl,rfl⟩))) (λ f hf=>.inr (.inr (.inl (by repeat (first|exact hf|refine List.mem_cons_of_mem _ ?_))))) hz.ok.z.fit) (hw.cl (.bM (.tail .head))) (hw.Ij .head)))) (h:=λ x80=>?_)));refine dt ?_;refine J7 ?_
   refine aQ Tryz.results5 (λ w hw=>?_)
   exact⟨rfl,hw.done⟩
end

end Go.Proofs.YtadnboagdhcedaaGreatDoor

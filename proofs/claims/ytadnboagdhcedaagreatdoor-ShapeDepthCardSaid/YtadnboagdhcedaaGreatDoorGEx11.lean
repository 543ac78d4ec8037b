/- Executions of the reference: RENEW, CLEAN. -/
import Derived.Test.YtadnboagdhcedaaGreatDoorGEx9
import Derived.Test.YtadnboagdhcedaaGreatDoorGArS
import Derived.Test.YtadnboagdhcedaaGreatDoorGGa

set_option linter.unusedSimpArgs false
set_option linter.unusedVariables false
namespace Go.Proofs.YtadnboagdhcedaaGreatDoor
section
open Go Go.RowKit Go.Ct
theorem eH{h:Nat}(hh:h<18446744073709551616)(level:Int)(w:World):Calls Tryz.prog 79 #[.int .u64 (h:Int),.int .i64 level] w λ e w'=>e=.returned (.int .i64 (fT h level))/\St w [] [] w':=by
 by_cases hl:level<0∨10<level
 ·unfold fT
  rw[if_pos hl]
  refine enter Tryz.func79 Tryz.ntmps79 rfl rfl (SF.s0 w) ?_
  simp only[cP]
  refine Ka7 ?_;refine Ec ?_
  (refine eF 7 (λ g7=>?_) (λ g7=>?_)<;>refine Ka0 ?_)
  all_goals (refine Kb5 ?_)
  all_goals
  refine aZ (λ c10=>?_) (λ c10=>?_)
  ·all_goals try (exfalso;omega)
   all_goals refine cQ ?_
   all_goals
    refine aQ Tryz.results79 (λ w hw=>?_)
    exact⟨rfl,hw.done⟩
  ·try exact nv c10
   all_goals try (exfalso;omega)
 ·unfold fT
  rw[if_neg hl]
  exact Bv (l:=level.toNat) (by omega) hh (by omega) w
section
variable{m c:Nat}{o:Option (Nat×List Int)}{w:World}
abbrev coB(o:Option (Nat×List Int))(x:Option Addr×Nat)(level:Int)(s:Nd):Bool:=Qg (lG o x) (kO o) [] level s
abbrev Mf(o:Option (Nat×List Int))(x:Option Addr×Nat)(level:Int)(s:Nd):Nd:=ou (coB o x level s) (lG o x) s
abbrev Ud(o:Option (Nat×List Int))(x:Option Addr×Nat)(level:Int)(s:Nd):List Int:=di (coB o x level s) (kO o)
theorem mx{α:Type}(t:Bool):di t ([]:List α)=[]:=by unfold di;split<;>rfl
theorem M5(h:tK m o)(x:Option Addr×Nat):∃b:Nat,(lG o x).bm=(b:Int)/\b<18446744073709551616:=by
 cases o with
 | none=>exact⟨0,rfl,by decide⟩
 | some q=>exact⟨q.1,rfl,(h.out q rfl).1⟩
theorem Np(h:tK m o){x:Option Addr×Nat}(hc:Go.Ct.Cl w x.1 (aG (kO o))):qP w (lG o x) (kO o) []:=by
 refine⟨Cj _ _,Ci _ _,?_,?_,by have:=h.len;omega,by decide⟩
 ·cases o with
  | none=>exact Cl.nil _ _
  | some q=>exact hc
 ·exact Cl.nil _ _
theorem Sl(h:tK m o){x:Option Addr×Nat}(level:Int)(s:Nd)(hc:Go.Ct.Cl w x.1 (aG (kO o))):Calls Tryz.prog 119 #[(lG o x).v,.int .i64 level,s.v] w λ e w'=>e=.returned (Mf o x level s).v/\St w [] [] w':=by
 obtain⟨b,h1,h2⟩:=M5 h x
 exact Bw (n:=lG o x) level s h1 h2 (Np h hc)
theorem o9(x:Option Addr×Nat)(level:Int)(s:Nd):td (Fs o) level (s.c [] [])=(Mf o x level s).c (Ud o x level s) []:=by
 have:=(aAU (n:=lG o x) (s:=s) (xs:=kO o) (ys:=[]) level).symm
 rw[Em,mx] at this
 exact this
theorem Xh(x:Option Addr×Nat)(level:Int)(s:Nd):(Mf o x level s).brN=(Ud o x level s).length:=by
 unfold Mf ou Ud di
 split
 ·rfl
 ·exact Cj _ _
theorem Yt(x:Option Addr×Nat)(level:Int)(s:Nd):(Mf o x level s).prN=([]:List Pr).length:=by
 unfold Mf ou
 split
 ·rfl
 ·exact Ci _ _
theorem Tf(h:tK m o)(x:Option Addr×Nat)(level:Int)(s:Nd):(Ud o x level s).length<=274877906944:=by
 unfold Ud di
 split
 ·exact Nat.zero_le _
 ·exact h.len
theorem Rh(h:tK m o)(x:Option Addr×Nat)(level:Int){s:Nd}(hh:∃b:Nat,s.hash=(b:Int)/\b<18446744073709551616):nU m c {(Mf o x level s).c (Ud o x level s) [] with main:=0,prev:=0,status:=0}:=by
 unfold Mf ou Ud di
 split
 ·exact⟨bF _,bF _,bF _,(λ r hr=>nomatch hr),bF _,bF _,bF _,⟨0,rfl,by decide⟩,hh⟩
 ·exact h.nvB x
theorem qd{A F:Fr}{O:List Ow}{x:Option Addr×Nat}{level:Int}{s:Nd}:bQ A ((x.1,aG (kO o))::F) O [((Mf o x level s).brA,aG (Ud o x level s)),((Mf o x level s).prA,dF [])]:=by
 unfold Mf ou Ud di
 split
 ·exact .cons (.inl rfl) (.cons (.inl rfl) .nil)
 ·exact Qf
end
theorem Ww(n:Nd):(D3 n).brN=([]:List Int).length/\(D3 n).prN=([]:List Pr).length:=by unfold D3;split<;>exact⟨rfl,rfl⟩
theorem K3{n:Nd}(h:∃b:Nat,n.hash=(b:Int)/\b<18446744073709551616):∃b:Nat,(D3 n).hash=(b:Int)/\b<18446744073709551616:=by
 unfold D3
 split
 ·exact h
 ·exact⟨0,rfl,by decide⟩
theorem ss{n:Nd}{m c:Nat}(h:∃b:Nat,n.hash=(b:Int)/\b<18446744073709551616):nU m c {(D3 n).c [] [] with main:=0,prev:=0,status:=0}:=by
 have h2:=K3 h
 revert h2
 unfold D3
 split<;>exact λ h2=>⟨bF _,bF _,bF _,(λ r hr=>nomatch hr),bF _,bF _,bF _,⟨0,rfl,by decide⟩,h2⟩
theorem aAe{v:aL}{n c:Nat}(h:nU n c v.c){i r:Int}:P5 v.c i r=Fs (Ny v i r):=(z4 (eE h).1 i r).symm
theorem xv{v:aL}{n c:Nat}(h:nU n c v.c){i:Int}:Kn v.c i=Fs (Wm v i):=(yi (eE h).1 i).symm
theorem s9{o:Option Int}{c:Int}(h1:o.isSome=true)(h2:o.getD 0=c):o=some c:=by
 cases o with
 | none=>cases h1
 | some v=>exact congrArg some h2
theorem kz{o:Option Int}{c:Int}(h1:o.isSome=false):¬o=some c:=λ h=>by rw[h] at h1;cases h1
theorem mj{o:Option Int}{c:Int}(h1:o.getD 0≠c):¬o=some c:=λ h=>by rw[h] at h1;exact h1 rfl
section
variable{k:Cl}{bx bm:Nat}{x:XS}{dn:Bool}{rs:Rs}{D:List Nat}{A:Fr}{w:World}{g:Gx}
theorem ln(hg:g.Ok)(t:eA)(i c index:Int)(K:Int->Tr)(ht:t.root<=9223372036854775807)(hi:i<=x.L.length)(hc:c<=x.L.length)(hA:∀f∈aV x.L,f∈A)(go:fD g x (Ik t i c index K))(ok:x.Ok)(hs:SF w D (xH k bx bm x dn rs) A [] (xW x) w):Calls Tryz.prog 86 #[.pointer (some ⟨bx,0,none⟩),Ko t,.int .i64 i,.int .i64 c,.int .i64 index] w λ e w'=>∃q:Int×XS×List aL,e=.returned (.int .i64 q.1)/\Nx g x q.2.1 q.2.2 (K q.1) q.1/\SF w D (xH k bx bm q.2.1 dn rs) [] (aV q.2.2) (xW q.2.1) w':=by
 refine enter Tryz.func86 Tryz.ntmps86 rfl rfl (bX hs) ?_
 simp only[cP]
 simp only[Ko]
 refine J0 ?_;refine bP (λ x6=>?_);refine sV ?_;refine aC (cM (hs:=xH k bx bm x dn rs) (os:=xW x) (hc:=λ w hs=>cE c _ hc go ok hs)) (λ x18 h18=>?_);refine aB ?_;refine aU (cV (hc:=λ w1 hw=>Hk (v:=aA x.L c) (ok.nv c) index (ok.qQ hw hA c))) (λ x20=>?_);refine aB ?_;refine aE (bL rf rfl) rfl ?_;refine aE (bL rf rfl) rfl ?_;refine J8 ?_;refine Kb0 ?_;refine aB ?_;refine aC (cM (hs:=xH k bx bm x dn rs) (os:=xW x) (hc:=λ w hs=>nE hg t ((jT (aA x.L c).c index).getD 0) _ ht (oV (ok.nv c) index) h18.1 ok hs)) (λ x26 h26=>?_);refine sV ?_;refine aB ?_;refine aC (cM (hs:=xH k bx bm x26.2.1 dn rs) (os:=xW x26.2.1) (hc:=λ w hs=>cE i _ (by have:=h26.len;omega) h26.go h26.ok hs)) (λ x30 h30=>?_);refine cG ?_;refine bD ?_;refine aB ?_;refine aC (cM (hs:=xH k bx bm x26.2.1 dn rs) (os:=xW x26.2.1) (A0:=[(none,aG []),(none,dF [])]) (hc:=λ w hs=>fR hg (n:={Nd.zero with kind:=2,gen:=(aA x26.2.1.L i).nd.gen}) (xs:=[]) (ys:=[]) x26.1 _ rfl rfl (by decide) (Nat.zero_le _) qL h26.bd h30.1 h26.ok hs)) (λ x34 h34=>?_)
 have hch:=Ch.nx h34 ((Ch.base (F:=[])).nx h26)
 refine gP ?_;refine aR ?_;refine eG [(0,[]),(1,[]),(2,[]),(3,[]),(4,[]),(5,[]),(6,[]),(7,[]),(8,[1]),(9,[])] ?_;refine Kb6 ?_;refine gN ?_;refine gN ?_;refine gN ?_;refine bC (i:=8) (hq:=(cM (hs:=xH k bx bm x34.2.1 dn rs) (os:=xW x34.2.1) (A0:=aV x34.2.1.L) (hA:=Ch.all hch hA) (hc:=λ w hs=>Au hg c index x34.1 _ (by have:=h26.len;have:=h34.len;omega) h34.bd (λ f hf=>hf) h34.go h34.ok hs))) (h:=λ x43 h43=>?_);refine bC (i:=9) (hq:=(cM (hs:=xH k bx bm x43.2.1 dn rs) (os:=xW x43.2.1) (hc:=λ w hs=>rT hg t i c x43.1 _ ht (by have:=h26.len;have:=h34.len;have:=h43.len;omega) h43.bd h43.go h43.ok hs))) (h:=λ x44 h44=>?_)
 have hch2:=Ch.nx h44 (Ch.nx h43 hch)
 have hlc:x.cs.length<=x44.2.1.cs.length:=by have:=h26.lc;have:=h34.lc;have:=h43.lc;have:=h44.lc;omega
 refine dW ?_
 refine aZ (λ c44=>?_) (λ c44=>?_)
 ·refine Ka6 ?_
  refine aQ Tryz.results86 (λ w hw=>?_)
  obtain⟨N,hN,hf⟩:=hch2.to h44 (h44.go.to (t':=K x34.1) (λ _=>by rw[if_pos (by assumption)])) hlc (show x34.1<=_ by have:=h34.bd;have:=h43.len;have:=h44.len;omega)
  exact⟨(x34.1,x44.2.1,N),rfl,hN,(hw.eN hf).v4⟩
 ·refine bA ?_;refine cQ ?_
  refine aQ Tryz.results86 (λ w hw=>?_)
  obtain⟨N,hN,hf⟩:=hch2.to h44 (h44.go.to (t':=K 0) (λ _=>by rw[if_neg (by simp only[Bool.not_eq_true];assumption)])) hlc (show(0:Int)<=_ from bF _)
  exact⟨(0,x44.2.1,N),rfl,hN,(hw.eN hf).v4⟩
end
end

/- Executions of the reference: CLEAN. -/
section
open Go Go.RowKit Go.Ct
section
variable{k:Cl}{bx bm:Nat}{x:XS}{dn:Bool}{rs:Rs}{D:List Nat}{A:Fr}{w:World}{g:Gx}
theorem Jp(hg:g.Ok)(t:eA)(p c:Int){h:Nat}(hh:h<18446744073709551616)(level:Int)(K:Bool->Tr)(ht:t.root<=9223372036854775807)(hp:p<=x.L.length)(hc:c<=x.L.length)(hA:∀f∈aV x.L,f∈A)(go:fD g x (wV t p c h level K))(ok:x.Ok)(hs:SF w D (xH k bx bm x dn rs) A [] (xW x) w):Calls Tryz.prog 87 #[.pointer (some ⟨bx,0,none⟩),Ko t,.int .i64 p,.int .i64 c,.int .u64 (h:Int),.int .i64 level] w λ e w'=>∃q:Bool×XS×List aL,e=.returned (.bool q.1)/\Nx g x q.2.1 q.2.2 (K q.1) 0/\SF w D (xH k bx bm q.2.1 dn rs) [] (aV q.2.2) (xW q.2.1) w':=by
  refine enter Tryz.func87 Tryz.ntmps87 rfl rfl (bX hs) ?_
  simp only[cP]
  simp only[Ko]
  refine J0 ?_;refine bP (λ x7=>?_);refine Ka3 ?_;refine bN ?_;refine aB ?_;refine aC (cM (hs:=xH k bx bm x dn rs) (os:=xW x) (hc:=λ w hs=>nE hg t p _ ht hp go ok hs)) (λ x25 h25=>?_)
  have hch:=(Ch.base (F:=[])).nx h25
  have hl25:=h25.len
  refine sV ?_;refine aU (cV (hc:=λ w1 hw=>eH hh level w1)) (λ x28=>?_);refine gP ?_;refine iQ ?_;refine aC (cM (hs:=xH k bx bm x25.2.1 dn rs) (os:=xW x25.2.1) (hc:=λ w hs=>cE x25.1 _ h25.bd h25.go h25.ok hs)) (λ x32 h32=>?_);refine aB ?_;refine aU (cV (hc:=λ w1 hw=>Hk (v:=aA x25.2.1.L x25.1) h32.2 (fT h level) (hw.Z4 hch hA h25.ok x25.1))) (λ x34=>?_);refine aB ?_;refine aE (bL rf rfl) rfl ?_;refine aE (bL rf rfl) rfl ?_;refine J8 ?_;refine nA ?_;refine aB ?_
  (refine eF 41 (λ g41=>?_) (λ g41=>?_)<;>refine Ka0 ?_)
  all_goals (refine Rx ?_;refine aB ?_)
  all_goals (first|refine aH ?_|(refine eF 45 (λ g45=>?_) (λ g45=>?_)<;>refine Ka0 ?_))
  all_goals (refine Ka0 ?_;refine Ua ?_;refine aI ?_)
  all_goals
   refine aZ (λ c49=>?_) (λ c49=>?_)
   · all_goals refine cQ ?_
     all_goals
      refine aQ Tryz.results87 (λ w hw=>?_)
      obtain⟨N,hN,hf⟩:=hch.to (t':=K false) h25 (by first|exact h32.1.bR (by assumption)|exact h32.1.to (λ _=>if_neg (kz (by assumption)))|exact h32.1.to (λ _=>if_neg (mj (by assumption)))) h25.lc (bF _)
      exact⟨(false,x25.2.1,N),rfl,hN,(hw.eN hf).v4⟩
   · try exact nv c49
     all_goals
      have g1:=h32.1.to (λ _=>if_pos (s9 (by assumption) (by assumption)))
     all_goals (refine Ag ?_;refine bN ?_;refine aB ?_;refine aC (cM (hs:=xH k bx bm x25.2.1 dn rs) (os:=xW x25.2.1) (hc:=λ w hs=>nE hg t c _ ht (by omega) g1 h25.ok hs)) (λ x55 h55=>?_))
     all_goals
      have hch2:=Ch.nx h55 hch
      have hl55:=h55.len
     all_goals (refine aC (cM (hs:=xH k bx bm x55.2.1 dn rs) (os:=xW x55.2.1) (hc:=λ w hs=>cE x55.1 _ h55.bd h55.go h55.ok hs)) (λ x56 h56=>?_);refine aU (cV (hc:=λ w1 hw=>F0 (aA x55.2.1.L x55.1).nd w1)) (λ x57=>?_);refine aB ?_;refine aE (bL rf rfl) rfl ?_;refine aE (bL rf rfl) rfl ?_;refine aP (λ x17=>?_);refine lZ (λ _=>?_);refine gP ?_;refine nA ?_;refine aB ?_)
     all_goals ((refine eF 64 (λ g64=>?_) (λ g64=>?_)<;>refine Ka0 ?_))
     all_goals (refine Rx ?_;refine aI ?_)
     all_goals
      refine aZ (λ c67=>?_) (λ c67=>?_)
      · all_goals refine cQ ?_
        all_goals
         refine aQ Tryz.results87 (λ w hw=>?_)
         obtain⟨N,hN,hf⟩:=hch2.to (t':=K false) h55 (by first|exact h56.1.bR (by assumption)|exact h56.1.to (λ _=>if_neg (show ¬(aA x55.2.1.L x55.1).c.kind=5 from by assumption))) (by have:=h25.lc;have:=h55.lc;omega) (bF _)
         exact⟨(false,x55.2.1,N),rfl,hN,(hw.eN hf).v4⟩
      · try exact nv c67
        all_goals
         have g2:=h56.1.to (λ _=>if_pos (show(aA x55.2.1.L x55.1).c.kind=5 from by assumption))
        all_goals (refine bA ?_;refine Kb0 ?_;refine aC (cM (hs:=xH k bx bm x55.2.1 dn rs) (os:=xW x55.2.1) (A0:=[((D3 (aA x55.2.1.L x55.1).nd).brA,aG []),((D3 (aA x55.2.1.L x55.1).nd).prA,dF [])]) (hA:=.cons (.inl rfl) (.cons (.inl rfl) .nil)) (hc:=λ w hs=>fR hg (n:=D3 (aA x55.2.1.L x55.1).nd) (xs:=[]) (ys:=[]) 0 _ (Ww _).1 (Ww _).2 (by decide) (Nat.zero_le _) (ss h56.2.hash) (bF _) (by rw[xb (xs:=(aA x55.2.1.L x55.1).xs) (ys:=(aA x55.2.1.L x55.1).ys)];exact g2) h55.ok hs)) (λ x70 h70=>?_))
        all_goals
         have hch3:=Ch.nx h70 hch2
         have hl70:=h70.len
         have hb25:=h25.bd
        all_goals (refine sV ?_;refine aC (cM (hs:=xH k bx bm x70.2.1 dn rs) (os:=xW x70.2.1) (hc:=λ w hs=>cE x25.1 _ (by omega) h70.go h70.ok hs)) (λ x74 h74=>?_);refine nX ?_;refine aC (cF (hc:=λ w1 hw=>ov (v:=aA x70.2.1.L x25.1) h74.2 (fT h level) x70.1 (hw.Z4 hch3 hA h70.ok x25.1))) (λ x77 h77=>?_))
        all_goals
         have hB:=V9 h74.2 h70.bd (fT h level)
         have hch4:=hch3.cons (f:=(x77.1,aG (kO (Ny (aA x70.2.1.L x25.1) (fT h level) x70.1))))
        all_goals (refine aB ?_;refine aE (bL rf rfl) rfl ?_;refine aE (bL rf rfl) rfl ?_;refine aP (λ x20=>?_);refine lZ (λ _=>?_);refine gP ?_;refine eG [(0,[]),(1,[]),(2,[]),(3,[]),(4,[]),(5,[]),(6,[]),(7,[]),(9,[]),(8,[1]),(10,[1]),(11,[]),(12,[])] ?_;refine Kb6 ?_;refine gN ?_;refine Kb6 ?_;refine Kb6 ?_;refine aS ?_;refine cX (i:=8) (hq:=(cV (hc:=λ w1 hw=>Sl hB level (D3 (aA x55.2.1.L x55.1).nd) (hw.cl (.new .head))))) (h:=λ x88=>?_);refine bC (i:=10) (hq:=(cM (hs:=xH k bx bm x70.2.1 dn rs) (os:=xW x70.2.1) (A0:=[((Mf (Ny (aA x70.2.1.L x25.1) (fT h level) x70.1) x77 level (D3 (aA x55.2.1.L x55.1).nd)).brA,aG (Ud (Ny (aA x70.2.1.L x25.1) (fT h level) x70.1) x77 level (D3 (aA x55.2.1.L x55.1).nd))),((Mf (Ny (aA x70.2.1.L x25.1) (fT h level) x70.1) x77 level (D3 (aA x55.2.1.L x55.1).nd)).prA,dF [])]) (hA:=qd) (hc:=λ w hs=>fR hg (n:=Mf (Ny (aA x70.2.1.L x25.1) (fT h level) x70.1) x77 level (D3 (aA x55.2.1.L x55.1).nd)) (xs:=Ud (Ny (aA x70.2.1.L x25.1) (fT h level) x70.1) x77 level (D3 (aA x55.2.1.L x55.1).nd)) (ys:=[]) x25.1 _ (Xh _ _ _) (Yt _ _ _) (Tf hB _ _ _) (Nat.zero_le _) (Rh hB _ _ (K3 h56.2.hash)) (by omega) (by rw[<- o9,<- aAe h74.2,xb (xs:=(aA x55.2.1.L x55.1).xs) (ys:=(aA x55.2.1.L x55.1).ys)];exact h74.1) h70.ok hs))) (h:=λ x90 h90=>?_);refine bC (i:=11) (hq:=(cM (hs:=xH k bx bm x90.2.1 dn rs) (os:=xW x90.2.1) (hc:=λ w hs=>rT hg t p x25.1 x90.1 _ ht (by have:=h90.len;omega) (by have:=h90.bd;omega) h90.go h90.ok hs))) (h:=λ x91 h91=>?_))
        all_goals
         have hch5:=Ch.nx h91 (Ch.nx h90 hch4)
         have hlc:x.cs.length<=x91.2.1.cs.length:=by have:=h25.lc;have:=h55.lc;have:=h70.lc;have:=h90.lc;have:=h91.lc;omega
        all_goals refine J7 ?_
        all_goals
         refine aQ Tryz.results87 (λ w hw=>?_)
         obtain⟨N,hN,hf⟩:=hch5.to (t':=K x91.1) h91 h91.go hlc (bF _)
         exact⟨(x91.1,x91.2.1,N),rfl,hN,(hw.eN hf).v4⟩
end
end

/- Hash values of keys. -/
end Go.Proofs.YtadnboagdhcedaaGreatDoor
namespace Go.Ct
section
open Go Go.RowKit
def zq(s:ByteArray)(i:Nat):Nat:=(s.data.getD i 0).toNat
theorem Jb(s:ByteArray)(i:Nat):zq s i<256:=(s.data.getD i 0).toNat_lt
def wj(s:ByteArray):Nat->Nat
 | 0=>14695981039346656037
 | i+1=>((wj s i ^^^ zq s i)*1099511628211)%18446744073709551616
theorem Fb(s:ByteArray):∀i,wj s i<18446744073709551616
 | 0=>by show 14695981039346656037<18446744073709551616;decide
 | _+1=>Nat.mod_lt _ (by decide)
def kD(s:ByteArray)(m:Nat):Nat:=wj s s.size &&& m
theorem rJ(s:ByteArray)(m:Nat):kD s m<18446744073709551616:=Nat.lt_of_le_of_lt Nat.and_le_left (Fb s _)
section
variable{P:Program}{S:List (Nat×Value)}{G:World->Prop}{d:Nat}{ty t t':TypeId}{pos:String}{af:Array Edge}{gd:Option (Nat×Bool)}{x y:Operand}{a b i:Nat}{s:ByteArray}
theorem Zs(hx:ev S x=.string s)(hy:ev S y=.int .i64 (i:Int))(ht:P.underlying t=some .string)(h:i<s.size):aJ P S G ⟨some d,.index t x y,ty,pos,af,gd⟩ (.int .u8 (zq s i:Int)):=⟨λ w _=>by
 have e:(s[((i:Nat):Int).toNat]'(by simpa using h)).toNat=zq s i:=by
  unfold zq
  rw[Array.getD_eq_getD_getElem?,Array.getElem?_eq_getElem (by simpa using h)]
  rfl
 simp only[execOp,hx,hy,Sem.run_bind]
 rw[run_index_string w t s .i64 i ht,dif_pos ⟨bF _,by omega⟩,e]
 rfl⟩
theorem Wz(hx:ev S x=.int .u64 (a:Int))(hy:ev S y=.int .u64 (b:Int))(ha:a<18446744073709551616)(hb:b<18446744073709551616):aJ P S G ⟨some d,.binOp .xor t x y t',ty,pos,af,gd⟩ (.int .u64 ((a ^^^ b:Nat):Int)):=by
 have:=w9 (P:=P) (G:=G) (d:=d) (ty:=ty) (pos:=pos) (af:=af) (gd:=gd) (t:=t) (t':=t') hx hy
 rwa [Zh ha hb] at this
theorem Y4(hx:ev S x=.int .u64 (a:Int))(hy:ev S y=.int .u64 (b:Int)):aJ P S G ⟨some d,.binOp .mul t x y t',ty,pos,af,gd⟩ (.int .u64 ((a*b%18446744073709551616:Nat):Int)):=by
 have:=Y8 (P:=P) (G:=G) (d:=d) (ty:=ty) (pos:=pos) (af:=af) (gd:=gd) (t:=t) (t':=t') hx hy
 have e:IntKind.u64.wrap ((a:Int)*(b:Int))=((a*b%18446744073709551616:Nat):Int):=by
  rw[<- Int.natCast_mul,wrap_u64]
  generalize a*b=q
  omega
 rwa [e] at this
end
end
end Go.Ct
namespace Go.Proofs.YtadnboagdhcedaaGreatDoor
section
open Go Go.RowKit Go.Ct
theorem U6(key:ByteArray){m:Nat}(hm:m<18446744073709551616)(hk:key.size<=4611686018427387903)(w:World):Calls Tryz.prog 63 #[.string key,.int .u64 (m:Int)] w λ e w'=>e=.returned (.int .u64 ((kD key m:Nat):Int))/\St w [] [] w':=by
 refine enter Tryz.func63 Tryz.ntmps63 rfl rfl (SF.s0 w) ?_
 simp only[cP]
 refine cQ ?_;refine F2 ?_;refine Gh ?_
 refine eY [5,6,7,8,9,10,11,12,13,14,15,16,17,18,19] (λ y:Nat=>[(6,.int .i64 ((y:Nat):Int)),(5,.int .u64 ((wj key y:Nat):Int))]) (λ y=>y<=key.size) (λ y=>key.size-y) (0) (Nat.zero_le _) ?_ (λ y f hx=>?_)
 ·repeat (first|exact bB _|refine aY (by exact rfl) ?_)
 dsimp only[fY,List.map,List.cons_append,List.nil_append]
 refine Fz ?_;refine jO ?_;refine vV ?_
 refine aZ (λ c10=>?_) (λ c10=>?_)
 ·refine oE ?_;refine wS ?_;refine nX ?_;refine aU (fG (Zs (s:=key) (i:=y) rf rf (by kernel_rfl) (by omega))) (λ x16=>?_);refine aE (Jx (k2:=.u8) rf (by kernel_rfl) (by exact rC rfl) ⟨bF _,by have:=Jb key y;omega⟩) rfl ?_;refine aE (Wz rf rf (Fb _ _) (by have:=Jb key y;omega)) rfl ?_;refine aE (Y4 rf rf) rfl ?_;refine J1 ?_;refine Kd0 ?_
  refine dO (y+1) ?_ ?_ ?_
  ·omega
  ·repeat' (first|exact bB _|refine aY ?_ ?_)
   all_goals (exact rfl)
  ·omega
 ·refine bI rfl ?_;refine iQ ?_;refine aE (Qc rf rf (Fb _ _) hm) rfl ?_;refine J1 ?_
  refine aQ Tryz.results63 (λ w hw=>?_)
  have hy:y=key.size:=by omega
  subst hy
  exact⟨rfl,hw.done⟩
theorem mD(key:ByteArray)(w:World):Calls Tryz.prog 107 #[.string key] w λ e w'=>e=.returned (.bool (decide (key.size<=64)))/\St w [] [] w':=by
 refine enter Tryz.func107 Tryz.ntmps107 rfl rfl (SF.s0 w) ?_
 simp only[cP]
 refine cQ ?_;refine J2 ?_;refine jO ?_;refine Bs ?_;refine J1 ?_
 refine aQ Tryz.results107 (λ w hw=>?_)
 exact⟨by rw[show decide (key.size<=64)=decide ((key.size:Int)<=64) from decide_eq_decide.2 (by omega)];rfl,hw.done⟩
theorem fL(f:Bool)(v:Int)(w:World):Calls Tryz.prog 120 #[.bool f,.int .u64 v] w λ e w'=>e=.returned (.agg ⟨(Rs.mk 0 f v ⟨#[]⟩ 0 0 0 false).cells⟩)/\St w [] [] w':=by
 refine enter Tryz.func120 Tryz.ntmps120 rfl rfl (SF.s0 w) ?_
 simp only[cP]
 refine J0 ?_;refine aP (λ x4=>?_);refine aI ?_;refine iQ ?_;refine zO ?_
 refine bK Tryz.results120 (λ w hw=>?_)
 exact⟨rfl,hw.done⟩
end

/- Executions of the reference: FIND. -/
end Go.Proofs.YtadnboagdhcedaaGreatDoor
namespace Go.Ct
section
open Go Go.RowKit
theorem Nx.ch{g:Gx}{x X:XS}{N:List aL}{t:Tr}{b:Int}(h:Nx g x X N t b):Ch x X (aV N):=⟨N,h.ext,λ _ hf=>.inr hf⟩
theorem lS{a b:List aL}:∀f∈aV (a++b),f.2=[]∨f∈aV b++aV a:=λ f hf=>by
 rw[dB] at hf
 rcases List.mem_append.1 hf with h|h
 ·exact .inr (List.mem_append_right _ h)
 ·exact .inr (List.mem_append_left _ h)
theorem XS.Ok.ysl{x:XS}(h:x.Ok)(r:Int):(aA x.L r).ys.length<=1099511627775:=by
 have h1:=h.lL
 unfold aA
 split
 ·have:=h.ys _ (eV (L:=x.L) (k:=(r-1).toNat) (by omega));omega
 ·exact Nat.zero_le _
theorem rR{g:Gx}{x:XS}{o:Option Int}{T:Tr}{B:Int->Tr}(h:fD g x (match o with|none=>T|some b=>B b))(hs:o.isSome=true):fD g x (B (o.getD 0)):=by
 cases o with
 | none=>cases hs
 | some b=>exact h
theorem Ke{g:Gx}{x:XS}{o:Option Int}{T:Tr}{B:Int->Tr}(h:fD g x (match o with|none=>T|some b=>B b))(hs:o.isSome=false):fD g x T:=by
 cases o with
 | none=>exact h
 | some b=>cases hs
theorem fD.iW{g:Gx}{x:XS}{n:Nat}{T:Nat->Tr}(h:fD g x (T n))(hs:x.st=false)(h0:T 0=.stuck)(hg:g.Ok):∃f,n=f+1/\fD g x (T (f+1)):=by
 cases n with
 | zero=>rw[h0] at h;exact((h.run hs).Uk hg).elim
 | succ f=>exact⟨f,rfl,h⟩
end
end Go.Ct
namespace Go.Proofs.YtadnboagdhcedaaGreatDoor
section
open Go Go.RowKit Go.Ct
theorem lT{key:ByteArray}{mask:Int}{m:Nat}(e:mask=(m:Int))(hm:m<18446744073709551616)(hk:key.size<=64)(w:World):Calls Tryz.prog 63 #[.string key,.int .u64 mask] w λ e w'=>e=.returned (.int .u64 ((kD key m:Nat):Int))/\St w [] [] w':=by
 subst e
 exact U6 key hm (by omega) w
theorem Ji{v:aL}{n:Nat}{w:World}(k:ByteArray)(hr:qP w v.nd v.xs v.ys)(hy:v.ys.length<=1099511627775):Calls Tryz.prog 121 #[.slice v.nd.prA v.nd.prN v.nd.dF,.string k] w λ e w'=>e=.returned (.tuple #[.int .u64 ((dG v.c.ys k).getD 0),.bool (dG v.c.ys k).isSome])/\St w [] [] w':=by
 rw[hr.prN]
 exact Hr k hr.pr hy
section
variable{k:Cl}{bx bm:Nat}{x:XS}{dn:Bool}{rs:Rs}{D:List Nat}{A:Fr}{w:World}{g:Gx}
set_option maxRecDepth 100000 in
theorem qy(hg:g.Ok){m:Nat}(K:Rs->Tr)(n:Nat)(hn:n<=1073741824)(hm:m<18446744073709551616)(em:k.mask=(m:Int))(ek:k.key.size<=64)(ht:k.t.root<=9223372036854775807)(hA:∀f∈aV x.L,f∈A)(go:fD g x (rY k.t λ i=>Bl k.t (kD k.key m) k.key K n i 0))(ok:x.Ok)(hs:SF w D (xH k bx bm x dn rs) A [] (xW x) w):Calls Tryz.prog 88 #[.pointer (some ⟨bx,0,none⟩)] w λ e w'=>∃q:Rs×XS×List aL,e=.returned (.agg ⟨q.1.cells⟩)/\Nx g x q.2.1 q.2.2 (K q.1) 0/\SF w D (xH k bx bm q.2.1 dn rs) [] (aV q.2.2) (xW q.2.1) w':=by
 refine enter Tryz.func88 Tryz.ntmps88 rfl rfl (bX hs) ?_
 simp only[cP]
 refine J0 ?_;refine aP (λ x2=>?_);refine Ug ?_
 refine dV [3,4,13,14,15,16,17,18,19,20,21,22,23,24,25,26,27,28] (λ j:Nat=>[(3,.pointer (some ⟨j,0,none⟩)),(4,.int .u64 ((kD k.key m:Nat):Int))]) (λ _=>True) (λ j=>[(j,.cells ⟨[.int .i64 k.t.root,.bool k.t.ro]⟩ 29 (0,0)),(x2,.cells ⟨Rs.zero.cells⟩ 68 (0,0)),(bx,xO k bm x dn rs),(bm,xM x)]) (λ _=>[]) (λ _=>xW x) (by decide) (λ _=>by exact rfl) ?_ (λ j f hx=>?_)
 ·refine gK (.one 0 [] (.one 1 [] (.one 2 [] (.one 3 [] (.one 4 [] (.one 5 [] (.one 6 [] (.one 7 [] (.one 8 [] (.one 9 [] (.one 10 [] (.one 11 [] (.one 12 [] (.one 13 [] (.one 14 [] (.two 15 [4] (.one 16 [4,9,14] (.one 17 [] (.one 18 [] .nil))) 0 [] (.two 16 [4,9,14] (.one 15 [4] (.one 17 [] (.one 18 [] .nil))) 0 [] .nil))))))))))))))))) ?_
  refine J9 ?_;refine aM ?_;refine bH (i:=4) (hq:=(aK (k:=2) (vs:=[.int .i64 k.t.root,.bool k.t.ro]) rf dU fX rfl rfl)) (h:=?_);refine tQ ?_;refine tQ ?_
  refine gY (E:=[15,16]) (by decide +kernel) ((.cons ?_ (.cons ?_ .nil)))
  ·refine Ll (i:=15) (hq:=(cV (hc:=λ w1 hw=>lT em hm ek w1))) (hfire:=(λ _=>by(refine aN.cons (by exact eR (hq:=aK (k:=2) (vs:=[.int .i64 k.t.root,.bool k.t.ro]) rf dU fX rfl rfl)) ?_;exact aN.nil))) (h:=λ x28=>?_)
   refine fS (hfire:=(λ _=>by((repeat (first|exact aN.nil|refine aN.cons (by first|exact eR (hq:=aK (k:=2) (vs:=[.int .i64 k.t.root,.bool k.t.ro]) rf dU fX rfl rfl)|exact fB) ?_));done))) (h:=λ x3=>?_);refine Aa ?_
   refine eO (x3) ?_
   ·trivial
  ·refine gB (i:=16) (hfire:=(λ _=>by((repeat (first|exact aN.nil|refine aN.cons (by first|exact eR (hq:=aK (k:=2) (vs:=[.int .i64 k.t.root,.bool k.t.ro]) rf dU fX rfl rfl)|exact fB) ?_));done))) (h:=λ x3=>?_)
   refine cX (i:=15) (hq:=(cV (hc:=λ w1 hw=>lT em hm ek w1))) (hfire:=(λ _=>by(refine aN.cons (by exact eR (hq:=aK (k:=2) (vs:=[.int .i64 k.t.root,.bool k.t.ro]) rf dU fX rfl rfl)) ?_;exact aN.nil))) (h:=λ x28=>?_);refine Aa ?_
   refine eO (x3) ?_
   ·trivial
 dsimp only[fY,List.map,List.cons_append,List.nil_append]
 refine Kb0 ?_;refine aC (cM (hs:=xH k bx bm x dn rs) (os:=xW x) (hc:=λ w hs=>Aj hg k.t _ ht go ok hs)) (λ x31 h31=>?_);refine gP ?_;refine Gh ?_
 refine lE [5,6,7,8,9,10,11,12,32,33,34,35,36,37,38,39,40,41,42,43,44,45,46,47,48,49,50,51,52,53,54,55,56,57,58,59,60,61,62,63,64,65,66,67,68,69,70,71,72,73,74,75,76,77,78,79,80,81,82,83,84,85,86,87,88,89,90,91,92,93,94,95,96,97,98,99,100,101,102,103,104,105,106,107,108,109,110,111,112] (λ y:Nat×Int×XS×List aL=>[(5,.int .i64 y.2.1),(6,.int .i64 ((n-y.1:Nat):Int))]) (λ y=>y.1<=n/\Nx g x y.2.2.1 y.2.2.2 (Bl k.t (kD k.key m) k.key K y.1 y.2.1 ((n-y.1:Nat):Int)) y.2.1) (λ y=>[(j,.cells ⟨[.int .i64 k.t.root,.bool k.t.ro]⟩ 29 (0,0)),(x2,.cells ⟨Rs.zero.cells⟩ 68 (0,0)),(bx,xO k bm y.2.2.1 dn rs),(bm,xM y.2.2.1)]) (λ y=>aV y.2.2.2) (λ y=>xW y.2.2.1) (λ y=>y.1) ((n,x31.1,x31.2.1,x31.2.2)) (⟨Nat.le_refl n,by rw[Nat.sub_self];exact h31⟩) (λ y f hx=>?_) (hw0:=λ w hw=>by rw[List.append_nil] at hw;exact hw)
 dsimp only[fY,List.map,List.cons_append,List.nil_append]
 refine aR ?_;refine nA ?_;refine mS ?_
 refine aZ (λ c36=>?_) (λ c36=>?_)
 ·obtain⟨f,hf,gx⟩:=fD.iW (T:=λ z=>Bl k.t (kD k.key m) k.key K z y.2.1 ((n-y.1:Nat):Int)) hx.2.go (by simpa using c36) rfl hg
  have hyl:=hx.1
  refine oE ?_;refine iQ ?_;refine bN ?_;refine aB ?_;refine aC (cM (hs:=xH k bx bm y.2.2.1 dn rs) (os:=xW y.2.2.1) (hc:=λ w hs=>nE hg k.t y.2.1 _ ht hx.2.bd gx hx.2.ok hs)) (λ x43 h43=>?_)
  have hch:=Ch.nx h43 hx.2.ch
  have hlc:x.cs.length<=x43.2.1.cs.length:=by have:=h43.lc;have:=hx.2.lc;omega
  refine aC (cM (hs:=xH k bx bm x43.2.1 dn rs) (os:=xW x43.2.1) (hc:=λ w hs=>cE x43.1 _ h43.bd h43.go h43.ok hs)) (λ x44 h44=>?_);refine aP (λ x7=>?_);refine J5 ?_;refine An ?_;refine Kc3 ?_;refine jC ?_
  refine aZ (λ c47=>?_) (λ c47=>?_)
  ·have g1:=h44.1.to (λ _=>if_pos c47)
   refine aR ?_;refine aR ?_;refine fK [0,1,2,3,4,5,6,7] ?_;refine mB ?_;refine tQ ?_;refine o8 ?_;refine dW ?_
   refine aZ (λ c56=>?_) (λ c56=>?_)
   ·refine gU ?_;refine aU (cV (hc:=λ w1 hw=>fL _ _ w1)) (λ x59=>?_);refine J5 ?_
    refine bK Tryz.results88 (λ w hw=>?_)
    obtain⟨N,hN,hf⟩:=hch.to (t':=K (iK true (aA x43.2.1.L x43.1).nd.val)) h43 (g1.to (λ _=>if_pos (by assumption))) hlc (bF _)
    exact⟨(iK true (aA x43.2.1.L x43.1).nd.val,x43.2.1,N),rfl,hN,(hw.eN hf).v4⟩
   ·refine bA ?_;refine J0 ?_;refine aU (cV (hc:=λ w1 hw=>fL _ _ w1)) (λ x60=>?_);refine J5 ?_
    refine bK Tryz.results88 (λ w hw=>?_)
    obtain⟨N,hN,hf⟩:=hch.to (t':=K (iK false 0)) h43 (g1.to (λ _=>if_neg (by assumption))) hlc (bF _)
    exact⟨(iK false 0,x43.2.1,N),rfl,hN,(hw.eN hf).v4⟩
  ·have g1:=h44.1.to (λ _=>if_neg c47)
   refine jC ?_
   refine aZ (λ c61=>?_) (λ c61=>?_)
   ·have g2:=g1.to (λ _=>if_pos c61)
    refine aR ?_;refine fK [0,1,2,3,4,5,6,7,8,9,10,11,12] ?_;refine mB ?_;refine tQ ?_;refine cX (i:=7) (hq:=(cV (hc:=λ w1 hw=>Ji (v:=aA x43.2.1.L x43.1) (n:=0) k.key (hw.Z4 hch hA h43.ok x43.1) (h43.ok.ysl _)))) (h:=λ x71=>?_);refine aS ?_;refine cJ (i:=9) (hq:=(bL rf rfl)) (h:=?_);refine cJ (i:=10) (hq:=(bL rf rfl)) (h:=?_);refine j6 ?_;refine iQ ?_;refine aU (cV (hc:=λ w1 hw=>fL _ _ w1)) (λ x76=>?_);refine J5 ?_
    refine bK Tryz.results88 (λ w hw=>?_)
    obtain⟨N,hN,hf⟩:=hch.to (t':=K (iK (dG (aA x43.2.1.L x43.1).c.ys k.key).isSome ((dG (aA x43.2.1.L x43.1).c.ys k.key).getD 0))) h43 (g2) hlc (bF _)
    exact⟨(iK (dG (aA x43.2.1.L x43.1).c.ys k.key).isSome ((dG (aA x43.2.1.L x43.1).c.ys k.key).getD 0),x43.2.1,N),rfl,hN,(hw.eN hf).v4⟩
   ·have g2:=g1.to (λ _=>if_neg c61)
    refine lM ?_;refine aR ?_;refine eG [(0,[]),(1,[]),(2,[]),(3,[0]),(4,[]),(5,[]),(6,[]),(7,[]),(8,[]),(9,[])] ?_;refine bO ?_;refine gN ?_;refine cX (i:=3) (hq:=(cV (hc:=λ w1 hw=>eH (rJ k.key m) ((n-y.1:Nat):Int) w1))) (h:=λ x81=>?_);refine cX (i:=4) (hq:=(cV (hc:=λ w1 hw=>Hk (v:=aA x43.2.1.L x43.1) h44.2 (fT (kD k.key m) ((n-y.1:Nat):Int)) (hw.Z4 hch hA h43.ok x43.1)))) (h:=λ x82=>?_);refine aS ?_;refine cJ (i:=6) (hq:=(bL rf rfl)) (h:=?_);refine cJ (i:=7) (hq:=(bL rf rfl)) (h:=?_);refine j6 ?_;refine aR ?_;refine nA ?_;refine aB ?_
    (refine eF 89 (λ g89=>?_) (λ g89=>?_)<;>refine Ka0 ?_)
    all_goals (refine Rx ?_;refine aI ?_)
    all_goals
    refine aZ (λ c92=>?_) (λ c92=>?_)
    ·all_goals (refine J0 ?_;refine aU (cV (hc:=λ w1 hw=>fL _ _ w1)) (λ x93=>?_);refine J5 ?_)
     all_goals
      refine bK Tryz.results88 (λ w hw=>?_)
      obtain⟨N,hN,hf⟩:=hch.to (t':=K (iK false 0)) h43 (by first|exact g2.bR (by assumption)|exact Ke g2 (by assumption)) hlc (bF _)
      exact⟨(iK false 0,x43.2.1,N),rfl,hN,(hw.eN hf).v4⟩
    ·try exact nv c92
     all_goals (refine jM ?_;refine iQ ?_;refine aC (cM (hs:=xH k bx bm x43.2.1 dn rs) (os:=xW x43.2.1) (hc:=λ w hs=>cE ((jT (aA x43.2.1.L x43.1).c (fT (kD k.key m) ((n-y.1:Nat):Int))).getD 0) _ (oV h44.2 _) (rR g2 (by assumption)) h43.ok hs)) (λ x96 h96=>?_);refine aP (λ x12=>?_);refine J5 ?_;refine gU ?_;refine sX ?_)
     all_goals
      refine aZ (λ c99=>?_) (λ c99=>?_)
      ·refine aR ?_;refine aR ?_;refine fK [0,1,2,3,4,5,6,7] ?_;refine mB ?_;refine tQ ?_;refine o8 ?_;refine dW ?_
       refine aZ (λ c107=>?_) (λ c107=>?_)
       ·refine gU ?_;refine aU (cV (hc:=λ w1 hw=>fL _ _ w1)) (λ x110=>?_);refine J5 ?_
        refine bK Tryz.results88 (λ w hw=>?_)
        obtain⟨N,hN,hf⟩:=hch.to (t':=K (iK true (aA x43.2.1.L ((jT (aA x43.2.1.L x43.1).c (fT (kD k.key m) ((n-y.1:Nat):Int))).getD 0)).nd.val)) h43 ((h96.1.to (λ _=>if_pos c99)).to (λ _=>if_pos (by assumption))) hlc (bF _)
        exact⟨(iK true (aA x43.2.1.L ((jT (aA x43.2.1.L x43.1).c (fT (kD k.key m) ((n-y.1:Nat):Int))).getD 0)).nd.val,x43.2.1,N),rfl,hN,(hw.eN hf).v4⟩
       ·refine bA ?_;refine J0 ?_;refine aU (cV (hc:=λ w1 hw=>fL _ _ w1)) (λ x111=>?_);refine J5 ?_
        refine bK Tryz.results88 (λ w hw=>?_)
        obtain⟨N,hN,hf⟩:=hch.to (t':=K (iK false 0)) h43 ((h96.1.to (λ _=>if_pos c99)).to (λ _=>if_neg (by assumption))) hlc (bF _)
        exact⟨(iK false 0,x43.2.1,N),rfl,hN,(hw.eN hf).v4⟩
      ·refine bA ?_;refine wS ?_;refine J1 ?_;refine Kd0 ?_
       refine gC ((y.1-1,((jT (aA x43.2.1.L x43.1).c (fT (kD k.key m) ((n-y.1:Nat):Int))).getD 0),x43.2.1,y.2.2.2++x43.2.2)) ?_ (hw1:=λ w hw=>(hw.eN lS).v6)
       ·have e1:y.1-1=f:=by omega
        have e2:((n-y.1:Nat):Int)+1=((n-f:Nat):Int):=by omega
        refine⟨by show y.1-1<=n;omega,(hx.2.trans h43).cD ?_ (oV h44.2 _)⟩
        show fD g x43.2.1 (Bl k.t (kD k.key m) k.key K (y.1-1) ((jT (aA x43.2.1.L x43.1).c (fT (kD k.key m) ((n-y.1:Nat):Int))).getD 0) ((n-(y.1-1):Nat):Int))
        rw[e1,<- e2]
        exact h96.1.to (λ _=>if_neg c99)
 ·refine bI rfl ?_;refine J0 ?_;refine zO ?_
  refine bK Tryz.results88 (λ w hw=>?_)
  obtain⟨N,hN,hf⟩:=hx.2.ch.to (t':=K (Rs.zero)) hx.2 (hx.2.go.bR (by simpa using c36)) hx.2.lc (bF _)
  exact⟨(Rs.zero,y.2.2.1,N),rfl,hN,(hw.eN hf).v4⟩
end
end

end Go.Proofs.YtadnboagdhcedaaGreatDoor

/- Executions of the reference: RENEW, CLEAN. -/
import Derived.Test.YtbajmaoegmbfgaaGreatGEx9
import Derived.Test.YtbajmaoegmbfgaaGreatGGc5

set_option linter.unusedSimpArgs false
set_option linter.unusedVariables false
namespace Go.Proofs.YtbajmaoegmbfgaaGreat
section
open Go Go.RowKit Go.Ct
theorem eW{h:Nat}(hh:h<18446744073709551616)(level:Int)(w:World):Calls Tryz.prog 218 #[.int .u64 (h:Int),.int .i64 level] w λ e w'=>e=.returned (.int .i64 (eO h level))/\St w [] [] w':=by
 by_cases hl:level<0∨10<level
 ·unfold eO
  rw[if_pos hl]
  refine enter Tryz.func218 Tryz.ntmps218 rfl rfl (SF.s0 w) ?_
  simp only[bY]
  refine cR ?_;refine kM ?_;refine Fv ?_
  (refine eM 7 (λ g7=>?_) (λ g7=>?_)<;>(first|refine aJ ?_|(refine aF ?_;refine aA ?_)))
  all_goals (refine Iw ?_;refine aH ?_)
  all_goals
  refine bE (λ c10=>?_) (λ c10=>?_)
  ·all_goals try (exfalso;omega)
   all_goals refine cR ?_
   all_goals
    refine aT Tryz.results218 (λ w hw=>?_)
    exact⟨rfl,hw.done⟩
  ·try exact nv c10
   all_goals try (exfalso;omega)
 ·unfold eO
  rw[if_neg hl]
  exact C6 (l:=level.toNat) (by omega) hh (by omega) w
section
variable{m c:Nat}{o:Option (Nat×List Int)}{w:World}
noncomputable abbrev coB (o:Option (Nat×List Int)) (x:Option Addr×Nat) (level:Int) (s:Nd):Bool:=Sx (mM o x) (mF o) [] level s
noncomputable abbrev N9 (o:Option (Nat×List Int)) (x:Option Addr×Nat) (level:Int) (s:Nd):Nd:=vx (coB o x level s) (mM o x) s
noncomputable abbrev Xi (o:Option (Nat×List Int)) (x:Option Addr×Nat) (level:Int) (s:Nd):List Int:=nz (coB o x level s) (mF o)
theorem pu{α:Type}(t:Bool):nz t ([]:List α)=[]:=by unfold nz;split<;>rfl
theorem Qz(h:wM m o)(x:Option Addr×Nat):∃b:Nat,(mM o x).bm=(b:Int)/\b<18446744073709551616:=by
 cases o with
 | none=>exact⟨0,rfl,by decide⟩
 | some q=>exact⟨q.1,rfl,(h.out q rfl).1⟩
theorem Nq(h:wM m o){x:Option Addr×Nat}(hc:Go.Ct.Cl w x.1 (aG (mF o))):qS w (mM o x) (mF o) []:=by
 refine⟨Eu _ _,E1 _ _,?_,?_,by have:=h.len;omega,by decide⟩
 ·cases o with
  | none=>exact Cl.nil _ _
  | some q=>exact hc
 ·exact Cl.nil _ _
theorem V7(h:wM m o){x:Option Addr×Nat}(level:Int)(s:Nd)(hc:Go.Ct.Cl w x.1 (aG (mF o))):Calls Tryz.prog 221 #[(mM o x).v,.int .i64 level,s.v] w λ e w'=>e=.returned (N9 o x level s).v/\St w [] [] w':=by
 obtain⟨b,h1,h2⟩:=Qz h x
 exact D4 (n:=mM o x) level s h1 h2 (Nq h hc)
theorem wb(x:Option Addr×Nat)(level:Int)(s:Nd):coV (It o) level (s.c [] [])=(N9 o x level s).c (Xi o x level s) []:=by
 have:=(aCa (n:=mM o x) (s:=s) (xs:=mF o) (ys:=[]) level).symm
 rw[Hj,pu] at this
 exact this
theorem ap(x:Option Addr×Nat)(level:Int)(s:Nd):(N9 o x level s).brN=(Xi o x level s).length:=by
 unfold N9 vx Xi nz
 split
 ·rfl
 ·exact Eu _ _
theorem df(x:Option Addr×Nat)(level:Int)(s:Nd):(N9 o x level s).prN=([]:List Pr).length:=by
 unfold N9 vx
 split
 ·rfl
 ·exact E1 _ _
theorem Wc(h:wM m o)(x:Option Addr×Nat)(level:Int)(s:Nd):(Xi o x level s).length<=274877906944:=by
 unfold Xi nz
 split
 ·exact Nat.zero_le _
 ·exact h.len
theorem Ur(h:wM m o)(x:Option Addr×Nat)(level:Int){s:Nd}(hh:∃b:Nat,s.hash=(b:Int)/\b<18446744073709551616):mK m c {(N9 o x level s).c (Xi o x level s) [] with main:=0,prev:=0,status:=0}:=by
 unfold N9 vx Xi nz
 split
 ·exact⟨bH _,bH _,bH _,(λ r hr=>nomatch hr),bH _,bH _,bH _,⟨0,rfl,by decide⟩,hh⟩
 ·exact h.nvB x
theorem vr{A F:Fr}{O:List Ow}{x:Option Addr×Nat}{level:Int}{s:Nd}:aX A ((x.1,aG (mF o))::F) O [((N9 o x level s).brA,aG (Xi o x level s)),((N9 o x level s).prA,dH [])]:=by
 unfold N9 vx Xi nz
 split
 ·exact .cons (.inl rfl) (.cons (.inl rfl) .nil)
 ·exact Sq
end
theorem jn(n:Nd):(Ff n).brN=([]:List Int).length/\(Ff n).prN=([]:List Pr).length:=by unfold Ff;split<;>exact⟨rfl,rfl⟩
theorem Pv{n:Nd}(h:∃b:Nat,n.hash=(b:Int)/\b<18446744073709551616):∃b:Nat,(Ff n).hash=(b:Int)/\b<18446744073709551616:=by
 unfold Ff
 split
 ·exact h
 ·exact⟨0,rfl,by decide⟩
theorem zb{n:Nd}{m c:Nat}(h:∃b:Nat,n.hash=(b:Int)/\b<18446744073709551616):mK m c {(Ff n).c [] [] with main:=0,prev:=0,status:=0}:=by
 have h2:=Pv h
 revert h2
 unfold Ff
 split<;>exact λ h2=>⟨bH _,bH _,bH _,(λ r hr=>nomatch hr),bH _,bH _,bH _,⟨0,rfl,by decide⟩,h2⟩
theorem aBN{v:aZ}{n c:Nat}(h:mK n c v.c){i r:Int}:me v.c i r=It (Q8 v i r):=(aAN (eS h).1 i r).symm
theorem aBs{v:aZ}{n c:Nat}(h:mK n c v.c){i:Int}:Nb v.c i=It (cx v i):=(aBq (eS h).1 i).symm
theorem yc{o:Option Int}{c:Int}(h1:o.isSome=true)(h2:o.getD 0=c):o=some c:=by
 cases o with
 | none=>cases h1
 | some v=>exact congrArg some h2
theorem tg{o:Option Int}{c:Int}(h1:o.isSome=false):¬o=some c:=λ h=>by rw[h] at h1;cases h1
theorem tv{o:Option Int}{c:Int}(h1:o.getD 0≠c):¬o=some c:=λ h=>by rw[h] at h1;exact h1 rfl
section
variable{k:Cl}{bx bm:Nat}{x:XS}{dn:Bool}{rs:Rs}{D:List Nat}{A:Fr}{w:World}{g:Gx}
theorem qb(hg:g.Ok)(t:fL)(i c index:Int)(K:Int->Tr)(ht:t.root<=9223372036854775807)(hi:i<=x.L.length)(hc:c<=x.L.length)(hA:∀f∈aM x.L,f∈A)(go:fY g x (Lk t i c index K))(ok:x.Ok)(hs:SF w D (xH k bx bm x dn rs) A [] (xW x) w):Calls Tryz.prog 181 #[.pointer (some ⟨bx,0,none⟩),Nf t,.int .i64 i,.int .i64 c,.int .i64 index] w λ e w'=>∃q:Int×XS×List aZ,e=.returned (.int .i64 q.1)/\Nx g x q.2.1 q.2.2 (K q.1) q.1/\SF w D (xH k bx bm q.2.1 dn rs) [] (aM q.2.2) (xW q.2.1) w':=by
 refine enter Tryz.func181 Tryz.ntmps181 rfl rfl (bZ hs) ?_
 simp only[bY]
 simp only[Nf]
 refine J0 ?_;refine bO (λ x6=>?_);refine wJ ?_;refine aC (cM (hs:=xH k bx bm x dn rs) (os:=xW x) (hc:=λ w hs=>cJ c _ hc go ok hs)) (λ x18 h18=>?_);refine aA ?_;refine aR (cV (hc:=λ w1 hw=>Jk (v:=aD x.L c) (ok.nv c) index (ok.rG hw hA c))) (λ x20=>?_);refine aA ?_;refine aB (bL rf rfl) rfl ?_;refine aB (bL rf rfl) rfl ?_;refine J8 ?_;refine J2 ?_;refine bR ?_;refine aA ?_;refine aC (cM (hs:=xH k bx bm x dn rs) (os:=xW x) (hc:=λ w hs=>oM hg t ((iU (aD x.L c).c index).getD 0) _ ht (lH (ok.nv c) index) h18.1 ok hs)) (λ x26 h26=>?_);refine wJ ?_;refine aA ?_;refine aC (cM (hs:=xH k bx bm x26.2.1 dn rs) (os:=xW x26.2.1) (hc:=λ w hs=>cJ i _ (by have:=h26.len;omega) h26.go h26.ok hs)) (λ x30 h30=>?_);refine cY ?_;refine bJ ?_;refine aA ?_;refine aC (cM (hs:=xH k bx bm x26.2.1 dn rs) (os:=xW x26.2.1) (A0:=[(none,aG []),(none,dH [])]) (hc:=λ w hs=>gO hg (n:={Nd.zero with kind:=2,gen:=(aD x26.2.1.L i).nd.gen}) (xs:=[]) (ys:=[]) x26.1 _ rfl rfl (by decide) (Nat.zero_le _) rR h26.bd h30.1 h26.ok hs)) (λ x34 h34=>?_)
 have hch:=Ch.nx h34 ((Ch.base (F:=[])).nx h26)
 refine iZ ?_;refine aV ?_;refine dX [(0,[]),(1,[]),(2,[]),(3,[]),(4,[]),(5,[]),(6,[]),(7,[]),(8,[1]),(9,[])] ?_;refine aP ?_;refine bP ?_;refine hZ ?_;refine hZ ?_;refine hZ ?_;refine bC (i:=8) (hq:=(cM (hs:=xH k bx bm x34.2.1 dn rs) (os:=xW x34.2.1) (A0:=aM x34.2.1.L) (hA:=Ch.all hch hA) (hc:=λ w hs=>Cp hg c index x34.1 _ (by have:=h26.len;have:=h34.len;omega) h34.bd (λ f hf=>hf) h34.go h34.ok hs))) (h:=λ x43 h43=>?_);refine bC (i:=9) (hq:=(cM (hs:=xH k bx bm x43.2.1 dn rs) (os:=xW x43.2.1) (hc:=λ w hs=>sN hg t i c x43.1 _ ht (by have:=h26.len;have:=h34.len;have:=h43.len;omega) h43.bd h43.go h43.ok hs))) (h:=λ x44 h44=>?_)
 have hch2:=Ch.nx h44 (Ch.nx h43 hch)
 have hlc:x.cs.length<=x44.2.1.cs.length:=by have:=h26.lc;have:=h34.lc;have:=h43.lc;have:=h44.lc;omega
 refine eC ?_
 refine bE (λ c44=>?_) (λ c44=>?_)
 ·refine J2 ?_;refine J1 ?_
  refine aT Tryz.results181 (λ w hw=>?_)
  obtain⟨N,hN,hf⟩:=hch2.to h44 (h44.go.to (t':=K x34.1) (λ _=>by rw[if_pos (by assumption)])) hlc (show x34.1<=_ by have:=h34.bd;have:=h43.len;have:=h44.len;omega)
  exact⟨(x34.1,x44.2.1,N),rfl,hN,(hw.fE hf).aU (hF:=by exact aY.all)⟩
 ·refine bB ?_;refine cR ?_
  refine aT Tryz.results181 (λ w hw=>?_)
  obtain⟨N,hN,hf⟩:=hch2.to h44 (h44.go.to (t':=K 0) (λ _=>by rw[if_neg (by simp only[Bool.not_eq_true];assumption)])) hlc (show(0:Int)<=_ from bH _)
  exact⟨(0,x44.2.1,N),rfl,hN,(hw.fE hf).aU (hF:=by exact aY.all)⟩
end
end

/- Executions of the reference: CLEAN. -/
section
open Go Go.RowKit Go.Ct
section
variable{k:Cl}{bx bm:Nat}{x:XS}{dn:Bool}{rs:Rs}{D:List Nat}{A:Fr}{w:World}{g:Gx}
theorem Mr(hg:g.Ok)(t:fL)(p c:Int){h:Nat}(hh:h<18446744073709551616)(level:Int)(K:Bool->Tr)(ht:t.root<=9223372036854775807)(hp:p<=x.L.length)(hc:c<=x.L.length)(hA:∀f∈aM x.L,f∈A)(go:fY g x (uT t p c h level K))(ok:x.Ok)(hs:SF w D (xH k bx bm x dn rs) A [] (xW x) w):Calls Tryz.prog 182 #[.pointer (some ⟨bx,0,none⟩),Nf t,.int .i64 p,.int .i64 c,.int .u64 (h:Int),.int .i64 level] w λ e w'=>∃q:Bool×XS×List aZ,e=.returned (.bool q.1)/\Nx g x q.2.1 q.2.2 (K q.1) 0/\SF w D (xH k bx bm q.2.1 dn rs) [] (aM q.2.2) (xW q.2.1) w':=by
  refine enter Tryz.func182 Tryz.ntmps182 rfl rfl (bZ hs) ?_
  simp only[bY]
  simp only[Nf]
  refine J0 ?_;refine bO (λ x7=>?_);refine J1 ?_;refine J2 ?_;refine bR ?_;refine aA ?_;refine aC (cM (hs:=xH k bx bm x dn rs) (os:=xW x) (hc:=λ w hs=>oM hg t p _ ht hp go ok hs)) (λ x25 h25=>?_)
  have hch:=(Ch.base (F:=[])).nx h25
  have hl25:=h25.len
  refine wJ ?_;refine aR (cV (hc:=λ w1 hw=>eW hh level w1)) (λ x28=>?_);refine iZ ?_;refine iO ?_;refine aC (cM (hs:=xH k bx bm x25.2.1 dn rs) (os:=xW x25.2.1) (hc:=λ w hs=>cJ x25.1 _ h25.bd h25.go h25.ok hs)) (λ x32 h32=>?_);refine aA ?_;refine aR (cV (hc:=λ w1 hw=>Jk (v:=aD x25.2.1.L x25.1) h32.2 (eO h level) (hw.ck hch hA h25.ok x25.1))) (λ x34=>?_);refine aA ?_;refine aB (bL rf rfl) rfl ?_;refine aB (bL rf rfl) rfl ?_;refine J8 ?_;refine lR ?_;refine aA ?_
  (refine eM 41 (λ g41=>?_) (λ g41=>?_)<;>(first|refine aJ ?_|(refine aF ?_;refine aA ?_)))
  all_goals (refine Q6 ?_;refine aA ?_)
  all_goals (first|refine aJ ?_|(refine eM 45 (λ g45=>?_) (λ g45=>?_)<;>(first|refine aJ ?_|(refine aF ?_;refine aA ?_))))
  all_goals ((first|refine aJ ?_|(refine aF ?_;refine aA ?_));refine Ru ?_;refine aH ?_)
  all_goals
   refine bE (λ c49=>?_) (λ c49=>?_)
   · all_goals refine cR ?_
     all_goals
      refine aT Tryz.results182 (λ w hw=>?_)
      obtain⟨N,hN,hf⟩:=hch.to (t':=K false) h25 (by first|exact h32.1.bV (by assumption)|exact h32.1.to (λ _=>if_neg (tg (by assumption)))|exact h32.1.to (λ _=>if_neg (tv (by assumption)))) h25.lc (bH _)
      exact⟨(false,x25.2.1,N),rfl,hN,(hw.fE hf).aU (hF:=by exact aY.all)⟩
   · try exact nv c49
     all_goals
      have g1:=h32.1.to (λ _=>if_pos (yc (by assumption) (by assumption)))
     all_goals (refine yV ?_;refine bR ?_;refine aA ?_;refine aC (cM (hs:=xH k bx bm x25.2.1 dn rs) (os:=xW x25.2.1) (hc:=λ w hs=>oM hg t c _ ht (by omega) g1 h25.ok hs)) (λ x55 h55=>?_))
     all_goals
      have hch2:=Ch.nx h55 hch
      have hl55:=h55.len
     all_goals (refine aC (cM (hs:=xH k bx bm x55.2.1 dn rs) (os:=xW x55.2.1) (hc:=λ w hs=>cJ x55.1 _ h55.bd h55.go h55.ok hs)) (λ x56 h56=>?_);refine aR (cV (hc:=λ w1 hw=>Iv (aD x55.2.1.L x55.1).nd w1)) (λ x57=>?_);refine aA ?_;refine aB (bL rf rfl) rfl ?_;refine aB (bL rf rfl) rfl ?_;refine aI (λ x17=>?_);refine jP (λ _=>?_);refine iZ ?_;refine lR ?_;refine aA ?_)
     all_goals ((refine eM 64 (λ g64=>?_) (λ g64=>?_)<;>(first|refine aJ ?_|(refine aF ?_;refine aA ?_))))
     all_goals (refine Q6 ?_;refine aH ?_)
     all_goals
      refine bE (λ c67=>?_) (λ c67=>?_)
      · all_goals refine cR ?_
        all_goals
         refine aT Tryz.results182 (λ w hw=>?_)
         obtain⟨N,hN,hf⟩:=hch2.to (t':=K false) h55 (by first|exact h56.1.bV (by assumption)|exact h56.1.to (λ _=>if_neg (show ¬(aD x55.2.1.L x55.1).c.kind=5 from by assumption))) (by have:=h25.lc;have:=h55.lc;omega) (bH _)
         exact⟨(false,x55.2.1,N),rfl,hN,(hw.fE hf).aU (hF:=by exact aY.all)⟩
      · try exact nv c67
        all_goals
         have g2:=h56.1.to (λ _=>if_pos (show(aD x55.2.1.L x55.1).c.kind=5 from by assumption))
        all_goals (refine bB ?_;refine J2 ?_;refine bR ?_;refine aC (cM (hs:=xH k bx bm x55.2.1 dn rs) (os:=xW x55.2.1) (A0:=[((Ff (aD x55.2.1.L x55.1).nd).brA,aG []),((Ff (aD x55.2.1.L x55.1).nd).prA,dH [])]) (hA:=.cons (.inl rfl) (.cons (.inl rfl) .nil)) (hc:=λ w hs=>gO hg (n:=Ff (aD x55.2.1.L x55.1).nd) (xs:=[]) (ys:=[]) 0 _ (jn _).1 (jn _).2 (by decide) (Nat.zero_le _) (zb h56.2.hash) (bH _) (by rw[aB0 (xs:=(aD x55.2.1.L x55.1).xs) (ys:=(aD x55.2.1.L x55.1).ys)];exact g2) h55.ok hs)) (λ x70 h70=>?_))
        all_goals
         have hch3:=Ch.nx h70 hch2
         have hl70:=h70.len
         have hb25:=h25.bd
        all_goals (refine wJ ?_;refine aC (cM (hs:=xH k bx bm x70.2.1 dn rs) (os:=xW x70.2.1) (hc:=λ w hs=>cJ x25.1 _ (by omega) h70.go h70.ok hs)) (λ x74 h74=>?_);refine pY ?_;refine aC (cF (hc:=λ w1 hw=>vv (v:=aD x70.2.1.L x25.1) h74.2 (eO h level) x70.1 (hw.ck hch3 hA h70.ok x25.1))) (λ x77 h77=>?_))
        all_goals
         have hB:=db h74.2 h70.bd (eO h level)
         have hch4:=hch3.cons (f:=(x77.1,aG (mF (Q8 (aD x70.2.1.L x25.1) (eO h level) x70.1))))
        all_goals (refine aA ?_;refine aB (bL rf rfl) rfl ?_;refine aB (bL rf rfl) rfl ?_;refine aI (λ x20=>?_);refine jP (λ _=>?_);refine iZ ?_;refine dX [(0,[]),(1,[]),(2,[]),(3,[]),(4,[]),(5,[]),(6,[]),(7,[]),(9,[]),(8,[1]),(10,[1]),(11,[]),(12,[])] ?_;refine aP ?_;refine bP ?_;refine hZ ?_;refine aP ?_;refine bP ?_;refine aP ?_;refine bP ?_;refine aP ?_;refine cN (i:=8) (hq:=(cV (hc:=λ w1 hw=>V7 hB level (Ff (aD x55.2.1.L x55.1).nd) (hw.cl (.new .head))))) (h:=λ x88=>?_);refine bC (i:=10) (hq:=(cM (hs:=xH k bx bm x70.2.1 dn rs) (os:=xW x70.2.1) (A0:=[((N9 (Q8 (aD x70.2.1.L x25.1) (eO h level) x70.1) x77 level (Ff (aD x55.2.1.L x55.1).nd)).brA,aG (Xi (Q8 (aD x70.2.1.L x25.1) (eO h level) x70.1) x77 level (Ff (aD x55.2.1.L x55.1).nd))),((N9 (Q8 (aD x70.2.1.L x25.1) (eO h level) x70.1) x77 level (Ff (aD x55.2.1.L x55.1).nd)).prA,dH [])]) (hA:=vr) (hc:=λ w hs=>gO hg (n:=N9 (Q8 (aD x70.2.1.L x25.1) (eO h level) x70.1) x77 level (Ff (aD x55.2.1.L x55.1).nd)) (xs:=Xi (Q8 (aD x70.2.1.L x25.1) (eO h level) x70.1) x77 level (Ff (aD x55.2.1.L x55.1).nd)) (ys:=[]) x25.1 _ (ap _ _ _) (df _ _ _) (Wc hB _ _ _) (Nat.zero_le _) (Ur hB _ _ (Pv h56.2.hash)) (by omega) (by rw[<- wb,<- aBN h74.2,aB0 (xs:=(aD x55.2.1.L x55.1).xs) (ys:=(aD x55.2.1.L x55.1).ys)];exact h74.1) h70.ok hs))) (h:=λ x90 h90=>?_);refine bC (i:=11) (hq:=(cM (hs:=xH k bx bm x90.2.1 dn rs) (os:=xW x90.2.1) (hc:=λ w hs=>sN hg t p x25.1 x90.1 _ ht (by have:=h90.len;omega) (by have:=h90.bd;omega) h90.go h90.ok hs))) (h:=λ x91 h91=>?_))
        all_goals
         have hch5:=Ch.nx h91 (Ch.nx h90 hch4)
         have hlc:x.cs.length<=x91.2.1.cs.length:=by have:=h25.lc;have:=h55.lc;have:=h70.lc;have:=h90.lc;have:=h91.lc;omega
        all_goals refine J7 ?_
        all_goals
         refine aT Tryz.results182 (λ w hw=>?_)
         obtain⟨N,hN,hf⟩:=hch5.to (t':=K x91.1) h91 h91.go hlc (bH _)
         exact⟨(x91.1,x91.2.1,N),rfl,hN,(hw.fE hf).aU (hF:=by exact aY.all)⟩
end
end

/- Executions of the reference: FIND. -/
end Go.Proofs.YtbajmaoegmbfgaaGreat
namespace Go.Ct
section
open Go Go.RowKit
theorem Nx.ch{g:Gx}{x X:XS}{N:List aZ}{t:Tr}{b:Int}(h:Nx g x X N t b):Ch x X (aM N):=⟨N,h.ext,λ _ hf=>.inr hf⟩
theorem mV{a b:List aZ}:∀f∈aM (a++b),f.2=[]∨f∈aM b++aM a:=λ f hf=>by
 rw[cZ] at hf
 rcases List.mem_append.1 hf with h|h
 ·exact .inr (List.mem_append_right _ h)
 ·exact .inr (List.mem_append_left _ h)
theorem XS.Ok.ysl{x:XS}(h:x.Ok)(r:Int):(aD x.L r).ys.length<=1099511627775:=by
 have h1:=h.lL
 unfold aD
 split
 ·have:=h.ys _ (iL (L:=x.L) (k:=(r-1).toNat) (by omega));omega
 ·exact Nat.zero_le _
theorem tG{g:Gx}{x:XS}{o:Option Int}{T:Tr}{B:Int->Tr}(h:fY g x (match o with|none=>T|some b=>B b))(hs:o.isSome=true):fY g x (B (o.getD 0)):=by
 cases o with
 | none=>cases hs
 | some b=>exact h
theorem Kv{g:Gx}{x:XS}{o:Option Int}{T:Tr}{B:Int->Tr}(h:fY g x (match o with|none=>T|some b=>B b))(hs:o.isSome=false):fY g x T:=by
 cases o with
 | none=>exact h
 | some b=>cases hs
theorem fY.jY{g:Gx}{x:XS}{n:Nat}{T:Nat->Tr}(h:fY g x (T n))(hs:x.st=false)(h0:T 0=.stuck)(hg:g.Ok):∃f,n=f+1/\fY g x (T (f+1)):=by
 cases n with
 | zero=>rw[h0] at h;exact((h.run hs).W8 hg).elim
 | succ f=>exact⟨f,rfl,h⟩
end
end Go.Ct
namespace Go.Proofs.YtbajmaoegmbfgaaGreat
section
open Go Go.RowKit Go.Ct
theorem nE{key:ByteArray}{mask:Int}{m:Nat}(e:mask=(m:Int))(hm:m<18446744073709551616)(hk:key.size<=64)(w:World):Calls Tryz.prog 222 #[.string key,.int .u64 mask] w λ e w'=>e=.returned (.int .u64 ((jV key m:Nat):Int))/\St w [] [] w':=by
 subst e
 exact Yi key hm (by omega) w
theorem Lv{v:aZ}{n:Nat}{w:World}(k:ByteArray)(hr:qS w v.nd v.xs v.ys)(hy:v.ys.length<=1099511627775):Calls Tryz.prog 60 #[.slice v.nd.prA v.nd.prN v.nd.dH,.string k] w λ e w'=>e=.returned (.tuple #[.int .u64 ((cO v.c.ys k).getD 0),.bool (cO v.c.ys k).isSome])/\St w [] [] w':=by
 rw[hr.prN]
 exact Kd k hr.pr hy
section
variable{k:Cl}{bx bm:Nat}{x:XS}{dn:Bool}{rs:Rs}{D:List Nat}{A:Fr}{w:World}{g:Gx}
set_option maxRecDepth 100000 in
theorem xu(hg:g.Ok){m:Nat}(K:Rs->Tr)(n:Nat)(hn:n<=1073741824)(hm:m<18446744073709551616)(em:k.mask=(m:Int))(ek:k.key.size<=64)(ht:k.t.root<=9223372036854775807)(hA:∀f∈aM x.L,f∈A)(go:fY g x (kT k.t λ i=>qF k.t (jV k.key m) k.key K n i 0))(ok:x.Ok)(hs:SF w D (xH k bx bm x dn rs) A [] (xW x) w):Calls Tryz.prog 183 #[.pointer (some ⟨bx,0,none⟩)] w λ e w'=>∃q:Rs×XS×List aZ,e=.returned (.agg ⟨q.1.cells⟩)/\Nx g x q.2.1 q.2.2 (K q.1) 0/\SF w D (xH k bx bm q.2.1 dn rs) [] (aM q.2.2) (xW q.2.1) w':=by
 refine enter Tryz.func183 Tryz.ntmps183 rfl rfl (bZ hs) ?_
 simp only[bY]
 refine J0 ?_;refine aI (λ x2=>?_);refine Oq ?_
 refine eI [3,4,13,14,15,16,17,18,19,20,21,22,23,24,25,26,27,28] (λ j:Nat=>[(3,.pointer (some ⟨j,0,none⟩)),(4,.int .u64 ((jV k.key m:Nat):Int))]) (λ _=>True) (λ j=>[(j,.cells ⟨[.int .i64 k.t.root,.bool k.t.ro]⟩ 29 (0,0)),(x2,.cells ⟨Rs.zero.cells⟩ 64 (0,0)),(bx,xO k bm x dn rs),(bm,xM x)]) (λ _=>[]) (λ _=>xW x) (by decide) (λ _=>by exact rfl) ?_ (λ j f hx=>?_)
 ·refine iD (.one 0 [] (.one 1 [] (.one 2 [] (.one 3 [] (.one 4 [] (.one 5 [] (.one 6 [] (.one 7 [] (.one 8 [] (.one 9 [] (.one 10 [] (.one 11 [] (.one 12 [] (.one 13 [] (.one 14 [] (.two 15 [4] (.one 16 [4,9,14] (.one 17 [] (.one 18 [] .nil))) 0 [] (.two 16 [4,9,14] (.one 15 [4] (.one 17 [] (.one 18 [] .nil))) 0 [] .nil))))))))))))))))) ?_
  refine J9 ?_;refine aQ ?_;refine bT (i:=4) (hq:=(aN (k:=2) (vs:=[.int .i64 k.t.root,.bool k.t.ro]) rf cL dJ rfl rfl)) (h:=?_);refine xR ?_;refine xR ?_
  refine iK (E:=[15,16]) (by decide +kernel) ((.cons ?_ (.cons ?_ .nil)))
  ·refine Di (i:=15) (hq:=(cV (hc:=λ w1 hw=>nE em hm ek w1))) (hfire:=(λ _=>by(refine aW.cons (by exact iR (hq:=aN (k:=2) (vs:=[.int .i64 k.t.root,.bool k.t.ro]) rf cL dJ rfl rfl)) ?_;exact aW.nil))) (h:=λ x28=>?_)
   refine iE (hfire:=(λ _=>by((repeat (first|exact aW.nil|refine aW.cons (by first|exact iR (hq:=aN (k:=2) (vs:=[.int .i64 k.t.root,.bool k.t.ro]) rf cL dJ rfl rfl)|exact jK) ?_));done))) (h:=λ x3=>?_);refine Cf ?_
   refine fC (x3) ?_
   ·trivial
  ·refine iC (i:=16) (hfire:=(λ _=>by((repeat (first|exact aW.nil|refine aW.cons (by first|exact iR (hq:=aN (k:=2) (vs:=[.int .i64 k.t.root,.bool k.t.ro]) rf cL dJ rfl rfl)|exact jK) ?_));done))) (h:=λ x3=>?_)
   refine cN (i:=15) (hq:=(cV (hc:=λ w1 hw=>nE em hm ek w1))) (hfire:=(λ _=>by(refine aW.cons (by exact iR (hq:=aN (k:=2) (vs:=[.int .i64 k.t.root,.bool k.t.ro]) rf cL dJ rfl rfl)) ?_;exact aW.nil))) (h:=λ x28=>?_);refine Cf ?_
   refine fC (x3) ?_
   ·trivial
 dsimp only[gR,List.map,List.cons_append,List.nil_append]
 refine J2 ?_;refine bR ?_;refine aC (cM (hs:=xH k bx bm x dn rs) (os:=xW x) (hc:=λ w hs=>Bn hg k.t _ ht go ok hs)) (λ x31 h31=>?_);refine iZ ?_;refine Fs ?_
 refine nA [5,6,7,8,9,10,11,12,32,33,34,35,36,37,38,39,40,41,42,43,44,45,46,47,48,49,50,51,52,53,54,55,56,57,58,59,60,61,62,63,64,65,66,67,68,69,70,71,72,73,74,75,76,77,78,79,80,81,82,83,84,85,86,87,88,89,90,91,92,93,94,95,96,97,98,99,100,101,102,103,104,105,106,107,108,109,110,111,112] (λ y:Nat×Int×XS×List aZ=>[(5,.int .i64 y.2.1),(6,.int .i64 ((n-y.1:Nat):Int))]) (λ y=>y.1<=n/\Nx g x y.2.2.1 y.2.2.2 (qF k.t (jV k.key m) k.key K y.1 y.2.1 ((n-y.1:Nat):Int)) y.2.1) (λ y=>[(j,.cells ⟨[.int .i64 k.t.root,.bool k.t.ro]⟩ 29 (0,0)),(x2,.cells ⟨Rs.zero.cells⟩ 64 (0,0)),(bx,xO k bm y.2.2.1 dn rs),(bm,xM y.2.2.1)]) (λ y=>aM y.2.2.2) (λ y=>xW y.2.2.1) (λ y=>y.1) ((n,x31.1,x31.2.1,x31.2.2)) (⟨Nat.le_refl n,by rw[Nat.sub_self];exact h31⟩) (λ y f hx=>?_) (hw0:=λ w hw=>by rw[List.append_nil] at hw;exact hw)
 dsimp only[gR,List.map,List.cons_append,List.nil_append]
 refine aV ?_;refine lR ?_;refine oX ?_
 refine bE (λ c36=>?_) (λ c36=>?_)
 ·obtain⟨f,hf,gx⟩:=fY.jY (T:=λ z=>qF k.t (jV k.key m) k.key K z y.2.1 ((n-y.1:Nat):Int)) hx.2.go (by simpa using c36) rfl hg
  have hyl:=hx.1
  refine qI ?_;refine iO ?_;refine bR ?_;refine aA ?_;refine aC (cM (hs:=xH k bx bm y.2.2.1 dn rs) (os:=xW y.2.2.1) (hc:=λ w hs=>oM hg k.t y.2.1 _ ht hx.2.bd gx hx.2.ok hs)) (λ x43 h43=>?_)
  have hch:=Ch.nx h43 hx.2.ch
  have hlc:x.cs.length<=x43.2.1.cs.length:=by have:=h43.lc;have:=hx.2.lc;omega
  refine aC (cM (hs:=xH k bx bm x43.2.1 dn rs) (os:=xW x43.2.1) (hc:=λ w hs=>cJ x43.1 _ h43.bd h43.go h43.ok hs)) (λ x44 h44=>?_);refine aI (λ x7=>?_);refine J5 ?_;refine Du ?_;refine aH ?_;refine cI ?_;refine lF ?_
  refine bE (λ c47=>?_) (λ c47=>?_)
  ·have g1:=h44.1.to (λ _=>if_pos c47)
   refine aV ?_;refine aV ?_;refine gJ [0,1,2,3,4,5,6,7] ?_;refine lV ?_;refine xR ?_;refine kw ?_;refine eC ?_
   refine bE (λ c56=>?_) (λ c56=>?_)
   ·refine gZ ?_;refine aR (cV (hc:=λ w1 hw=>gK _ _ w1)) (λ x59=>?_);refine J5 ?_
    refine bD Tryz.results183 (λ w hw=>?_)
    obtain⟨N,hN,hf⟩:=hch.to (t':=K (dO true (aD x43.2.1.L x43.1).nd.val)) h43 (g1.to (λ _=>if_pos (by assumption))) hlc (bH _)
    exact⟨(dO true (aD x43.2.1.L x43.1).nd.val,x43.2.1,N),rfl,hN,(hw.fE hf).aU (hF:=by exact aY.all)⟩
   ·refine bB ?_;refine J0 ?_;refine aR (cV (hc:=λ w1 hw=>gK _ _ w1)) (λ x60=>?_);refine J5 ?_
    refine bD Tryz.results183 (λ w hw=>?_)
    obtain⟨N,hN,hf⟩:=hch.to (t':=K (dO false 0)) h43 (g1.to (λ _=>if_neg (by assumption))) hlc (bH _)
    exact⟨(dO false 0,x43.2.1,N),rfl,hN,(hw.fE hf).aU (hF:=by exact aY.all)⟩
  ·have g1:=h44.1.to (λ _=>if_neg c47)
   refine lF ?_
   refine bE (λ c61=>?_) (λ c61=>?_)
   ·have g2:=g1.to (λ _=>if_pos c61)
    refine aV ?_;refine gJ [0,1,2,3,4,5,6,7,8,9,10,11,12] ?_;refine lV ?_;refine xR ?_;refine cN (i:=7) (hq:=(cV (hc:=λ w1 hw=>Lv (v:=aD x43.2.1.L x43.1) (n:=0) k.key (hw.ck hch hA h43.ok x43.1) (h43.ok.ysl _)))) (h:=λ x71=>?_);refine aP ?_;refine cE (i:=9) (hq:=(bL rf rfl)) (h:=?_);refine cE (i:=10) (hq:=(bL rf rfl)) (h:=?_);refine Zh ?_;refine iO ?_;refine aR (cV (hc:=λ w1 hw=>gK _ _ w1)) (λ x76=>?_);refine J5 ?_
    refine bD Tryz.results183 (λ w hw=>?_)
    obtain⟨N,hN,hf⟩:=hch.to (t':=K (dO (cO (aD x43.2.1.L x43.1).c.ys k.key).isSome ((cO (aD x43.2.1.L x43.1).c.ys k.key).getD 0))) h43 (g2) hlc (bH _)
    exact⟨(dO (cO (aD x43.2.1.L x43.1).c.ys k.key).isSome ((cO (aD x43.2.1.L x43.1).c.ys k.key).getD 0),x43.2.1,N),rfl,hN,(hw.fE hf).aU (hF:=by exact aY.all)⟩
   ·have g2:=g1.to (λ _=>if_neg c61)
    refine oB ?_;refine aV ?_;refine dX [(0,[]),(1,[]),(2,[]),(3,[0]),(4,[]),(5,[]),(6,[]),(7,[]),(8,[]),(9,[])] ?_;refine bP ?_;refine hZ ?_;refine cN (i:=3) (hq:=(cV (hc:=λ w1 hw=>eW (oE k.key m) ((n-y.1:Nat):Int) w1))) (h:=λ x81=>?_);refine cN (i:=4) (hq:=(cV (hc:=λ w1 hw=>Jk (v:=aD x43.2.1.L x43.1) h44.2 (eO (jV k.key m) ((n-y.1:Nat):Int)) (hw.ck hch hA h43.ok x43.1)))) (h:=λ x82=>?_);refine aP ?_;refine cE (i:=6) (hq:=(bL rf rfl)) (h:=?_);refine cE (i:=7) (hq:=(bL rf rfl)) (h:=?_);refine Zh ?_;refine aV ?_;refine lR ?_;refine aA ?_
    (refine eM 89 (λ g89=>?_) (λ g89=>?_)<;>(first|refine aJ ?_|(refine aF ?_;refine aA ?_)))
    all_goals (refine Q6 ?_;refine aH ?_)
    all_goals
    refine bE (λ c92=>?_) (λ c92=>?_)
    ·all_goals (refine J0 ?_;refine aR (cV (hc:=λ w1 hw=>gK _ _ w1)) (λ x93=>?_);refine J5 ?_)
     all_goals
      refine bD Tryz.results183 (λ w hw=>?_)
      obtain⟨N,hN,hf⟩:=hch.to (t':=K (dO false 0)) h43 (by first|exact g2.bV (by assumption)|exact Kv g2 (by assumption)) hlc (bH _)
      exact⟨(dO false 0,x43.2.1,N),rfl,hN,(hw.fE hf).aU (hF:=by exact aY.all)⟩
    ·try exact nv c92
     all_goals (refine lA ?_;refine iO ?_;refine aC (cM (hs:=xH k bx bm x43.2.1 dn rs) (os:=xW x43.2.1) (hc:=λ w hs=>cJ ((iU (aD x43.2.1.L x43.1).c (eO (jV k.key m) ((n-y.1:Nat):Int))).getD 0) _ (lH h44.2 _) (tG g2 (by assumption)) h43.ok hs)) (λ x96 h96=>?_);refine aI (λ x12=>?_);refine J5 ?_;refine gZ ?_;refine uI ?_)
     all_goals
      refine bE (λ c99=>?_) (λ c99=>?_)
      ·refine aV ?_;refine aV ?_;refine gJ [0,1,2,3,4,5,6,7] ?_;refine lV ?_;refine xR ?_;refine kw ?_;refine eC ?_
       refine bE (λ c107=>?_) (λ c107=>?_)
       ·refine gZ ?_;refine aR (cV (hc:=λ w1 hw=>gK _ _ w1)) (λ x110=>?_);refine J5 ?_
        refine bD Tryz.results183 (λ w hw=>?_)
        obtain⟨N,hN,hf⟩:=hch.to (t':=K (dO true (aD x43.2.1.L ((iU (aD x43.2.1.L x43.1).c (eO (jV k.key m) ((n-y.1:Nat):Int))).getD 0)).nd.val)) h43 ((h96.1.to (λ _=>if_pos c99)).to (λ _=>if_pos (by assumption))) hlc (bH _)
        exact⟨(dO true (aD x43.2.1.L ((iU (aD x43.2.1.L x43.1).c (eO (jV k.key m) ((n-y.1:Nat):Int))).getD 0)).nd.val,x43.2.1,N),rfl,hN,(hw.fE hf).aU (hF:=by exact aY.all)⟩
       ·refine bB ?_;refine J0 ?_;refine aR (cV (hc:=λ w1 hw=>gK _ _ w1)) (λ x111=>?_);refine J5 ?_
        refine bD Tryz.results183 (λ w hw=>?_)
        obtain⟨N,hN,hf⟩:=hch.to (t':=K (dO false 0)) h43 ((h96.1.to (λ _=>if_pos c99)).to (λ _=>if_neg (by assumption))) hlc (bH _)
        exact⟨(dO false 0,x43.2.1,N),rfl,hN,(hw.fE hf).aU (hF:=by exact aY.all)⟩
      ·refine bB ?_;refine xZ ?_;refine J1 ?_;refine eP ?_;refine yH ?_
       refine iJ ((y.1-1,((iU (aD x43.2.1.L x43.1).c (eO (jV k.key m) ((n-y.1:Nat):Int))).getD 0),x43.2.1,y.2.2.2++x43.2.2)) ?_ (hw1:=λ w hw=>(hw.fE mV).back (hF:=by exact aY.all))
       ·have e1:y.1-1=f:=by omega
        have e2:((n-y.1:Nat):Int)+1=((n-f:Nat):Int):=by omega
        refine⟨by show y.1-1<=n;omega,(hx.2.trans h43).cK ?_ (lH h44.2 _)⟩
        show fY g x43.2.1 (qF k.t (jV k.key m) k.key K (y.1-1) ((iU (aD x43.2.1.L x43.1).c (eO (jV k.key m) ((n-y.1:Nat):Int))).getD 0) ((n-(y.1-1):Nat):Int))
        rw[e1,<- e2]
        exact h96.1.to (λ _=>if_neg c99)
 ·refine bM rfl ?_;refine J0 ?_;refine xS ?_
  refine bD Tryz.results183 (λ w hw=>?_)
  obtain⟨N,hN,hf⟩:=hx.2.ch.to (t':=K (Rs.zero)) hx.2 (hx.2.go.bV (by simpa using c36)) hx.2.lc (bH _)
  exact⟨(Rs.zero,y.2.2.1,N),rfl,hN,(hw.fE hf).aU (hF:=by exact aY.all)⟩
end
end

end Go.Proofs.YtbajmaoegmbfgaaGreat

/- Merged. -/
import Derived.Test.YtbajmaoegmbfgaaGreatGEx9
import Derived.Test.YtbajmaoegmbfgaaGreatGBr6
import Derived.Test.YtbajmaoegmbfgaaGreatGAr2
set_option linter.unusedSimpArgs false
set_option linter.unusedVariables false
namespace Go.Proofs.YtbajmaoegmbfgaaGreat
open Go Go.RowKit Go.Ct
section
theorem eY{h:Nat}(hh:h<18446744073709551616)(level:Int)(w:World):Calls Tryz.prog 218 #[.int .u64 (h:Int),.int .i64 level] w λ e w'=>e=.returned (.int .i64 (gJ h level))/\St w [] [] w':=by
 by_cases hl:level<0∨10<level
 ·unfold gJ
  rw[if_pos hl]
  refine enter Tryz.func218 Tryz.ntmps218 rfl rfl (SF.s0 w) ?_
  simp only[cE]
  refine cZ ?_;refine Kb3 ?_
  (refine eG 7 (λ g7=>?_) (λ g7=>?_)<;>refine Ka0 ?_)
  all_goals (refine Ka8 ?_)
  all_goals
  refine bE (λ c10=>?_) (λ c10=>?_)
  ·all_goals try (exfalso;omega)
   all_goals refine cZ ?_
   all_goals
    refine aN Tryz.results218 (λ w hw=>?_)
    exact⟨rfl,hw.done⟩
  ·try exact nv c10
   all_goals try (exfalso;omega)
 ·unfold gJ
  rw[if_neg hl]
  exact C6 (l:=level.toNat) (by omega) hh (by omega) w
section
variable{m c:Nat}{o:Option (Nat×List Int)}{w:World}
noncomputable abbrev coB (o:Option (Nat×List Int)) (x:Option Addr×Nat) (level:Int) (s:Nd):Bool:=Ta (mU o x) (mL o) [] level s
noncomputable abbrev P5 (o:Option (Nat×List Int)) (x:Option Addr×Nat) (level:Int) (s:Nd):Nd:=wy (coB o x level s) (mU o x) s
noncomputable abbrev Yo (o:Option (Nat×List Int)) (x:Option Addr×Nat) (level:Int) (s:Nd):List Int:=m4 (coB o x level s) (mL o)
theorem py{α:Type}(t:Bool):m4 t ([]:List α)=[]:=by unfold m4;split<;>rfl
theorem Po(h:vQ m o)(x:Option Addr×Nat):∃b:Nat,(mU o x).bm=(b:Int)/\b<18446744073709551616:=by
 cases o with
 | none=>exact⟨0,rfl,by decide⟩
 | some q=>exact⟨q.1,rfl,(h.out q rfl).1⟩
theorem P0(h:vQ m o){x:Option Addr×Nat}(hc:Go.Ct.Cl w x.1 (aH (mL o))):rV w (mU o x) (mL o) []:=by
 refine⟨Ei _ _,Ea _ _,?_,?_,by have:=h.len;omega,by decide⟩
 ·cases o with
  | none=>exact Cl.nil _ _
  | some q=>exact hc
 ·exact Cl.nil _ _
theorem Uv(h:vQ m o){x:Option Addr×Nat}(level:Int)(s:Nd)(hc:Go.Ct.Cl w x.1 (aH (mL o))):Calls Tryz.prog 221 #[(mU o x).v,.int .i64 level,s.v] w λ e w'=>e=.returned (P5 o x level s).v/\St w [] [] w':=by
 obtain⟨b,h1,h2⟩:=Po h x
 exact Dx (n:=mU o x) level s h1 h2 (P0 h hc)
theorem vb(x:Option Addr×Nat)(level:Int)(s:Nd):zq (Ig o) level (s.c [] [])=(P5 o x level s).c (Yo o x level s) []:=by
 have:=(aCK (n:=mU o x) (s:=s) (xs:=mL o) (ys:=[]) level).symm
 rw[Et,py] at this
 exact this
theorem Zw(x:Option Addr×Nat)(level:Int)(s:Nd):(P5 o x level s).brN=(Yo o x level s).length:=by
 unfold P5 wy Yo m4
 split
 ·rfl
 ·exact Ei _ _
theorem Zk(x:Option Addr×Nat)(level:Int)(s:Nd):(P5 o x level s).prN=([]:List Pr).length:=by
 unfold P5 wy
 split
 ·rfl
 ·exact Ea _ _
theorem Vm(h:vQ m o)(x:Option Addr×Nat)(level:Int)(s:Nd):(Yo o x level s).length<=274877906944:=by
 unfold Yo m4
 split
 ·exact Nat.zero_le _
 ·exact h.len
theorem Vp(h:vQ m o)(x:Option Addr×Nat)(level:Int){s:Nd}(hh:∃b:Nat,s.hash=(b:Int)/\b<18446744073709551616):lX m c {(P5 o x level s).c (Yo o x level s) [] with main:=0,prev:=0,status:=0}:=by
 unfold P5 wy Yo m4
 split
 ·exact⟨bH _,bH _,bH _,(λ r hr=>nomatch hr),bH _,bH _,bH _,⟨0,rfl,by decide⟩,hh⟩
 ·exact h.nvB x
theorem w4{A F:Fr}{O:List Ow}{x:Option Addr×Nat}{level:Int}{s:Nd}:bI A ((x.1,aH (mL o))::F) O [((P5 o x level s).brA,aH (Yo o x level s)),((P5 o x level s).prA,dE [])]:=by
 unfold P5 wy Yo m4
 split
 ·exact .cons (.inl rfl) (.cons (.inl rfl) .nil)
 ·exact Ss
end
theorem db(n:Nd):(E7 n).brN=([]:List Int).length/\(E7 n).prN=([]:List Pr).length:=by unfold E7;split<;>exact⟨rfl,rfl⟩
theorem Pd{n:Nd}(h:∃b:Nat,n.hash=(b:Int)/\b<18446744073709551616):∃b:Nat,(E7 n).hash=(b:Int)/\b<18446744073709551616:=by
 unfold E7
 split
 ·exact h
 ·exact⟨0,rfl,by decide⟩
theorem xc{n:Nd}{m c:Nat}(h:∃b:Nat,n.hash=(b:Int)/\b<18446744073709551616):lX m c {(E7 n).c [] [] with main:=0,prev:=0,status:=0}:=by
 have h2:=Pd h
 revert h2
 unfold E7
 split<;>exact λ h2=>⟨bH _,bH _,bH _,(λ r hr=>nomatch hr),bH _,bH _,bH _,⟨0,rfl,by decide⟩,h2⟩
theorem aBv{v:aU}{n c:Nat}(h:lX n c v.c){i r:Int}:Rl v.c i r=Ig (Qx v i r):=(aAE (eV h).1 i r).symm
theorem aBN{v:aU}{n c:Nat}(h:lX n c v.c){i:Int}:M9 v.c i=Ig (Za v i):=(aAX (eV h).1 i).symm
theorem aAl{o:Option Int}{c:Int}(h1:o.isSome=true)(h2:o.getD 0=c):o=some c:=by
 cases o with
 | none=>cases h1
 | some v=>exact congrArg some h2
theorem oy{o:Option Int}{c:Int}(h1:o.isSome=false):¬o=some c:=λ h=>by rw[h] at h1;cases h1
theorem pu{o:Option Int}{c:Int}(h1:o.getD 0≠c):¬o=some c:=λ h=>by rw[h] at h1;exact h1 rfl
section
variable{k:Cl}{bx bm:Nat}{x:XS}{dn:Bool}{rs:Rs}{D:List Nat}{A:Fr}{w:World}{g:Gx}
theorem ra(hg:g.Ok)(t:dO)(i c index:Int)(K:Int->Tr)(ht:t.root<=9223372036854775807)(hi:i<=x.L.length)(hc:c<=x.L.length)(hA:∀f∈aL x.L,f∈A)(go:fS g x (Me t i c index K))(ok:x.Ok)(hs:SF w D (xH k bx bm x dn rs) A [] (xW x) w):Calls Tryz.prog 181 #[.pointer (some ⟨bx,0,none⟩),M0 t,.int .i64 i,.int .i64 c,.int .i64 index] w λ e w'=>∃q:Int×XS×List aU,e=.returned (.int .i64 q.1)/\Nx g x q.2.1 q.2.2 (K q.1) q.1/\SF w D (xH k bx bm q.2.1 dn rs) [] (aL q.2.2) (xW q.2.1) w':=by
 refine enter Tryz.func181 Tryz.ntmps181 rfl rfl (cH hs) ?_
 simp only[cE]
 simp only[M0]
 refine J0 ?_;refine bN (λ x6=>?_);refine zM ?_;refine aC (cM (hs:=xH k bx bm x dn rs) (os:=xW x) (hc:=λ w hs=>cJ c _ hc go ok hs)) (λ x18 h18=>?_);refine aA ?_;refine aM (cV (hc:=λ w1 hw=>I1 (v:=aD x.L c) (ok.nv c) index (ok.sG hw hA c))) (λ x20=>?_);refine aA ?_;refine aB (bP rf rfl) rfl ?_;refine aB (bP rf rfl) rfl ?_;refine J8 ?_;refine Kb5 ?_;refine aA ?_;refine aC (cM (hs:=xH k bx bm x dn rs) (os:=xW x) (hc:=λ w hs=>oU hg t ((kU (aD x.L c).c index).getD 0) _ ht (qG (ok.nv c) index) h18.1 ok hs)) (λ x26 h26=>?_);refine zM ?_;refine aA ?_;refine aC (cM (hs:=xH k bx bm x26.2.1 dn rs) (os:=xW x26.2.1) (hc:=λ w hs=>cJ i _ (by have:=h26.len;omega) h26.go h26.ok hs)) (λ x30 h30=>?_);refine cC ?_;refine bK ?_;refine aA ?_;refine aC (cM (hs:=xH k bx bm x26.2.1 dn rs) (os:=xW x26.2.1) (A0:=[(none,aH []),(none,dE [])]) (hc:=λ w hs=>gI hg (n:={Nd.zero with kind:=2,gen:=(aD x26.2.1.L i).nd.gen}) (xs:=[]) (ys:=[]) x26.1 _ rfl rfl (by decide) (Nat.zero_le _) sP h26.bd h30.1 h26.ok hs)) (λ x34 h34=>?_)
 have hch:=Ch.nx h34 ((Ch.base (F:=[])).nx h26)
 refine iW ?_;refine aR ?_;refine eQ [(0,[]),(1,[]),(2,[]),(3,[]),(4,[]),(5,[]),(6,[]),(7,[]),(8,[1]),(9,[])] ?_;refine bC ?_;refine Ka9 ?_;refine hU ?_;refine hU ?_;refine bG (i:=8) (hq:=(cM (hs:=xH k bx bm x34.2.1 dn rs) (os:=xW x34.2.1) (A0:=aL x34.2.1.L) (hA:=Ch.all hch hA) (hc:=λ w hs=>Bl hg c index x34.1 _ (by have:=h26.len;have:=h34.len;omega) h34.bd (λ f hf=>hf) h34.go h34.ok hs))) (h:=λ x43 h43=>?_);refine bG (i:=9) (hq:=(cM (hs:=xH k bx bm x43.2.1 dn rs) (os:=xW x43.2.1) (hc:=λ w hs=>tE hg t i c x43.1 _ ht (by have:=h26.len;have:=h34.len;have:=h43.len;omega) h43.bd h43.go h43.ok hs))) (h:=λ x44 h44=>?_)
 have hch2:=Ch.nx h44 (Ch.nx h43 hch)
 have hlc:x.cs.length<=x44.2.1.cs.length:=by have:=h26.lc;have:=h34.lc;have:=h43.lc;have:=h44.lc;omega
 refine eO ?_
 refine bE (λ c44=>?_) (λ c44=>?_)
 ·refine Ka5 ?_
  refine aN Tryz.results181 (λ w hw=>?_)
  obtain⟨N,hN,hf⟩:=hch2.to h44 (h44.go.to (t':=K x34.1) (λ _=>by rw[if_pos (by assumption)])) hlc (show x34.1<=_ by have:=h34.bd;have:=h43.len;have:=h44.len;omega)
  exact⟨(x34.1,x44.2.1,N),rfl,hN,(hw.fG hf).v4⟩
 ·refine aS ?_;refine cZ ?_
  refine aN Tryz.results181 (λ w hw=>?_)
  obtain⟨N,hN,hf⟩:=hch2.to h44 (h44.go.to (t':=K 0) (λ _=>by rw[if_neg (by simp only[Bool.not_eq_true];assumption)])) hlc (show(0:Int)<=_ from bH _)
  exact⟨(0,x44.2.1,N),rfl,hN,(hw.fG hf).v4⟩
end
end
section
section
variable{k:Cl}{bx bm:Nat}{x:XS}{dn:Bool}{rs:Rs}{D:List Nat}{A:Fr}{w:World}{g:Gx}
theorem L5(hg:g.Ok)(t:dO)(p c:Int){h:Nat}(hh:h<18446744073709551616)(level:Int)(K:Bool->Tr)(ht:t.root<=9223372036854775807)(hp:p<=x.L.length)(hc:c<=x.L.length)(hA:∀f∈aL x.L,f∈A)(go:fS g x (yW t p c h level K))(ok:x.Ok)(hs:SF w D (xH k bx bm x dn rs) A [] (xW x) w):Calls Tryz.prog 182 #[.pointer (some ⟨bx,0,none⟩),M0 t,.int .i64 p,.int .i64 c,.int .u64 (h:Int),.int .i64 level] w λ e w'=>∃q:Bool×XS×List aU,e=.returned (.bool q.1)/\Nx g x q.2.1 q.2.2 (K q.1) 0/\SF w D (xH k bx bm q.2.1 dn rs) [] (aL q.2.2) (xW q.2.1) w':=by
  refine enter Tryz.func182 Tryz.ntmps182 rfl rfl (cH hs) ?_
  simp only[cE]
  simp only[M0]
  refine J0 ?_;refine bN (λ x7=>?_);refine Ka4 ?_;refine bO ?_;refine aA ?_;refine aC (cM (hs:=xH k bx bm x dn rs) (os:=xW x) (hc:=λ w hs=>oU hg t p _ ht hp go ok hs)) (λ x25 h25=>?_)
  have hch:=(Ch.base (F:=[])).nx h25
  have hl25:=h25.len
  refine zM ?_;refine aM (cV (hc:=λ w1 hw=>eY hh level w1)) (λ x28=>?_);refine iW ?_;refine jM ?_;refine aC (cM (hs:=xH k bx bm x25.2.1 dn rs) (os:=xW x25.2.1) (hc:=λ w hs=>cJ x25.1 _ h25.bd h25.go h25.ok hs)) (λ x32 h32=>?_);refine aA ?_;refine aM (cV (hc:=λ w1 hw=>I1 (v:=aD x25.2.1.L x25.1) h32.2 (gJ h level) (hw.ie hch hA h25.ok x25.1))) (λ x34=>?_);refine aA ?_;refine aB (bP rf rfl) rfl ?_;refine aB (bP rf rfl) rfl ?_;refine J8 ?_;refine lQ ?_;refine aA ?_
  (refine eG 41 (λ g41=>?_) (λ g41=>?_)<;>refine Ka0 ?_)
  all_goals (refine Ib ?_;refine aA ?_)
  all_goals (first|refine aI ?_|(refine eG 45 (λ g45=>?_) (λ g45=>?_)<;>refine Ka0 ?_))
  all_goals (refine Ka0 ?_;refine Tl ?_;refine aG ?_)
  all_goals
   refine bE (λ c49=>?_) (λ c49=>?_)
   · all_goals refine cZ ?_
     all_goals
      refine aN Tryz.results182 (λ w hw=>?_)
      obtain⟨N,hN,hf⟩:=hch.to (t':=K false) h25 (by first|exact h32.1.bV (by assumption)|exact h32.1.to (λ _=>if_neg (oy (by assumption)))|exact h32.1.to (λ _=>if_neg (pu (by assumption)))) h25.lc (bH _)
      exact⟨(false,x25.2.1,N),rfl,hN,(hw.fG hf).v4⟩
   · try exact nv c49
     all_goals
      have g1:=h32.1.to (λ _=>if_pos (aAl (by assumption) (by assumption)))
     all_goals (refine D1 ?_;refine bO ?_;refine aA ?_;refine aC (cM (hs:=xH k bx bm x25.2.1 dn rs) (os:=xW x25.2.1) (hc:=λ w hs=>oU hg t c _ ht (by omega) g1 h25.ok hs)) (λ x55 h55=>?_))
     all_goals
      have hch2:=Ch.nx h55 hch
      have hl55:=h55.len
     all_goals (refine aC (cM (hs:=xH k bx bm x55.2.1 dn rs) (os:=xW x55.2.1) (hc:=λ w hs=>cJ x55.1 _ h55.bd h55.go h55.ok hs)) (λ x56 h56=>?_);refine aM (cV (hc:=λ w1 hw=>Ij (aD x55.2.1.L x55.1).nd w1)) (λ x57=>?_);refine aA ?_;refine aB (bP rf rfl) rfl ?_;refine aB (bP rf rfl) rfl ?_;refine aJ (λ x17=>?_);refine lC (λ _=>?_);refine iW ?_;refine lQ ?_;refine aA ?_)
     all_goals ((refine eG 64 (λ g64=>?_) (λ g64=>?_)<;>refine Ka0 ?_))
     all_goals (refine Kb9 ?_)
     all_goals
      refine bE (λ c67=>?_) (λ c67=>?_)
      · all_goals refine cZ ?_
        all_goals
         refine aN Tryz.results182 (λ w hw=>?_)
         obtain⟨N,hN,hf⟩:=hch2.to (t':=K false) h55 (by first|exact h56.1.bV (by assumption)|exact h56.1.to (λ _=>if_neg (show ¬(aD x55.2.1.L x55.1).c.kind=5 from by assumption))) (by have:=h25.lc;have:=h55.lc;omega) (bH _)
         exact⟨(false,x55.2.1,N),rfl,hN,(hw.fG hf).v4⟩
      · try exact nv c67
        all_goals
         have g2:=h56.1.to (λ _=>if_pos (show(aD x55.2.1.L x55.1).c.kind=5 from by assumption))
        all_goals (refine aS ?_;refine Kb5 ?_;refine aC (cM (hs:=xH k bx bm x55.2.1 dn rs) (os:=xW x55.2.1) (A0:=[((E7 (aD x55.2.1.L x55.1).nd).brA,aH []),((E7 (aD x55.2.1.L x55.1).nd).prA,dE [])]) (hA:=.cons (.inl rfl) (.cons (.inl rfl) .nil)) (hc:=λ w hs=>gI hg (n:=E7 (aD x55.2.1.L x55.1).nd) (xs:=[]) (ys:=[]) 0 _ (db _).1 (db _).2 (by decide) (Nat.zero_le _) (xc h56.2.hash) (bH _) (by rw[aB3 (xs:=(aD x55.2.1.L x55.1).xs) (ys:=(aD x55.2.1.L x55.1).ys)];exact g2) h55.ok hs)) (λ x70 h70=>?_))
        all_goals
         have hch3:=Ch.nx h70 hch2
         have hl70:=h70.len
         have hb25:=h25.bd
        all_goals (refine zM ?_;refine aC (cM (hs:=xH k bx bm x70.2.1 dn rs) (os:=xW x70.2.1) (hc:=λ w hs=>cJ x25.1 _ (by omega) h70.go h70.ok hs)) (λ x74 h74=>?_);refine qJ ?_;refine aC (cF (hc:=λ w1 hw=>vh (v:=aD x70.2.1.L x25.1) h74.2 (gJ h level) x70.1 (hw.ie hch3 hA h70.ok x25.1))) (λ x77 h77=>?_))
        all_goals
         have hB:=lh h74.2 h70.bd (gJ h level)
         have hch4:=hch3.cons (f:=(x77.1,aH (mL (Qx (aD x70.2.1.L x25.1) (gJ h level) x70.1))))
        all_goals (refine aA ?_;refine aB (bP rf rfl) rfl ?_;refine aB (bP rf rfl) rfl ?_;refine aJ (λ x20=>?_);refine lC (λ _=>?_);refine iW ?_;refine eQ [(0,[]),(1,[]),(2,[]),(3,[]),(4,[]),(5,[]),(6,[]),(7,[]),(9,[]),(8,[1]),(10,[1]),(11,[]),(12,[])] ?_;refine bC ?_;refine Ka9 ?_;refine bC ?_;refine bX ?_;refine bC ?_;refine bX ?_;refine bC ?_;refine dC (i:=8) (hq:=(cV (hc:=λ w1 hw=>Uv hB level (E7 (aD x55.2.1.L x55.1).nd) (hw.cl (.new .head))))) (h:=λ x88=>?_);refine bG (i:=10) (hq:=(cM (hs:=xH k bx bm x70.2.1 dn rs) (os:=xW x70.2.1) (A0:=[((P5 (Qx (aD x70.2.1.L x25.1) (gJ h level) x70.1) x77 level (E7 (aD x55.2.1.L x55.1).nd)).brA,aH (Yo (Qx (aD x70.2.1.L x25.1) (gJ h level) x70.1) x77 level (E7 (aD x55.2.1.L x55.1).nd))),((P5 (Qx (aD x70.2.1.L x25.1) (gJ h level) x70.1) x77 level (E7 (aD x55.2.1.L x55.1).nd)).prA,dE [])]) (hA:=w4) (hc:=λ w hs=>gI hg (n:=P5 (Qx (aD x70.2.1.L x25.1) (gJ h level) x70.1) x77 level (E7 (aD x55.2.1.L x55.1).nd)) (xs:=Yo (Qx (aD x70.2.1.L x25.1) (gJ h level) x70.1) x77 level (E7 (aD x55.2.1.L x55.1).nd)) (ys:=[]) x25.1 _ (Zw _ _ _) (Zk _ _ _) (Vm hB _ _ _) (Nat.zero_le _) (Vp hB _ _ (Pd h56.2.hash)) (by omega) (by rw[<- vb,<- aBv h74.2,aB3 (xs:=(aD x55.2.1.L x55.1).xs) (ys:=(aD x55.2.1.L x55.1).ys)];exact h74.1) h70.ok hs))) (h:=λ x90 h90=>?_);refine bG (i:=11) (hq:=(cM (hs:=xH k bx bm x90.2.1 dn rs) (os:=xW x90.2.1) (hc:=λ w hs=>tE hg t p x25.1 x90.1 _ ht (by have:=h90.len;omega) (by have:=h90.bd;omega) h90.go h90.ok hs))) (h:=λ x91 h91=>?_))
        all_goals
         have hch5:=Ch.nx h91 (Ch.nx h90 hch4)
         have hlc:x.cs.length<=x91.2.1.cs.length:=by have:=h25.lc;have:=h55.lc;have:=h70.lc;have:=h90.lc;have:=h91.lc;omega
        all_goals refine J7 ?_
        all_goals
         refine aN Tryz.results182 (λ w hw=>?_)
         obtain⟨N,hN,hf⟩:=hch5.to (t':=K x91.1) h91 h91.go hlc (bH _)
         exact⟨(x91.1,x91.2.1,N),rfl,hN,(hw.fG hf).v4⟩
end
end
end Go.Proofs.YtbajmaoegmbfgaaGreat
namespace Go.Ct
open Go Go.RowKit
section
def byt(s:ByteArray)(i:Nat):Nat:=(s.data.getD i 0).toNat
theorem Z5(s:ByteArray)(i:Nat):byt s i<256:=(s.data.getD i 0).toNat_lt
def hsN(s:ByteArray):Nat->Nat
 | 0=>14695981039346656037
 | i+1=>((hsN s i ^^^ byt s i)*1099511628211)%18446744073709551616
theorem Tf(s:ByteArray):∀i,hsN s i<18446744073709551616
 | 0=>by show 14695981039346656037<18446744073709551616;decide
 | _+1=>Nat.mod_lt _ (by decide)
def mR(s:ByteArray)(m:Nat):Nat:=hsN s s.size &&& m
theorem tT(s:ByteArray)(m:Nat):mR s m<18446744073709551616:=Nat.lt_of_le_of_lt Nat.and_le_left (Tf s _)
section
variable{P:Program}{S:List (Nat×Value)}{G:World->Prop}{d:Nat}{ty t t':TypeId}{pos:String}{af:Array Edge}{gd:Option (Nat×Bool)}{x y:Operand}{a b i:Nat}{s:ByteArray}
theorem xf(hx:ev S x=.string s)(hy:ev S y=.int .i64 (i:Int))(ht:P.underlying t=some .string)(h:i<s.size):aK P S G ⟨some d,.index t x y,ty,pos,af,gd⟩ (.int .u8 (byt s i:Int)):=⟨λ w _=>by
 have e:(s[((i:Nat):Int).toNat]'(by simpa using h)).toNat=byt s i:=by
  unfold byt
  rw[Array.getD_eq_getD_getElem?,Array.getElem?_eq_getElem (by simpa using h)]
  rfl
 simp only[execOp,hx,hy,Sem.run_bind]
 rw[run_index_string w t s .i64 i ht,dif_pos ⟨bH _,by omega⟩,e]
 rfl⟩
theorem yy(hx:ev S x=.int .u64 (a:Int))(hy:ev S y=.int .u64 (b:Int))(ha:a<18446744073709551616)(hb:b<18446744073709551616):aK P S G ⟨some d,.binOp .xor t x y t',ty,pos,af,gd⟩ (.int .u64 ((a ^^^ b:Nat):Int)):=by
 have:=aBy (P:=P) (G:=G) (d:=d) (ty:=ty) (pos:=pos) (af:=af) (gd:=gd) (t:=t) (t':=t') hx hy
 rwa [a7 ha hb] at this
theorem yp(hx:ev S x=.int .u64 (a:Int))(hy:ev S y=.int .u64 (b:Int)):aK P S G ⟨some d,.binOp .mul t x y t',ty,pos,af,gd⟩ (.int .u64 ((a*b%18446744073709551616:Nat):Int)):=by
 have:=aBt (P:=P) (G:=G) (d:=d) (ty:=ty) (pos:=pos) (af:=af) (gd:=gd) (t:=t) (t':=t') hx hy
 have e:IntKind.u64.wrap ((a:Int)*(b:Int))=((a*b%18446744073709551616:Nat):Int):=by
  rw[<- Int.natCast_mul,wrap_u64]
  generalize a*b=q
  omega
 rwa [e] at this
end
end
end Go.Ct
namespace Go.Proofs.YtbajmaoegmbfgaaGreat
open Go Go.RowKit Go.Ct
section
theorem Xk(key:ByteArray){m:Nat}(hm:m<18446744073709551616)(hk:key.size<=4611686018427387903)(w:World):Calls Tryz.prog 222 #[.string key,.int .u64 (m:Int)] w λ e w'=>e=.returned (.int .u64 ((mR key m:Nat):Int))/\St w [] [] w':=by
 refine enter Tryz.func222 Tryz.ntmps222 rfl rfl (SF.s0 w) ?_
 simp only[cE]
 refine cZ ?_;refine Er ?_;refine Gp ?_
 refine gV [5,6,7,8,9,10,11,12,13,14,15,16,17,18,19] (λ y:Nat=>[(6,.int .i64 ((y:Nat):Int)),(5,.int .u64 ((hsN key y:Nat):Int))]) (λ y=>y<=key.size) (λ y=>key.size-y) (0) (Nat.zero_le _) ?_ (λ y f hx=>?_)
 ·repeat (first|exact bQ _|refine bJ (by exact rfl) ?_)
 dsimp only[iB,List.map,List.cons_append,List.nil_append]
 refine Da ?_;refine mN ?_;refine Bq ?_
 refine bE (λ c10=>?_) (λ c10=>?_)
 ·refine sA ?_;refine wZ ?_;refine qJ ?_;refine aM (gZ (xf (s:=key) (i:=y) rf rf (by kernel_rfl) (by omega))) (λ x16=>?_);refine aB (V0 (k2:=.u8) rf (by kernel_rfl) (by exact vT rfl) ⟨bH _,by have:=Z5 key y;omega⟩) rfl ?_;refine aB (yy rf rf (Tf _ _) (by have:=Z5 key y;omega)) rfl ?_;refine aB (yp rf rf) rfl ?_;refine J1 ?_;refine Kb2 ?_
  refine fE (y+1) ?_ ?_ ?_
  ·omega
  ·repeat' (first|exact bQ _|refine bJ ?_ ?_)
   all_goals (exact rfl)
  ·omega
 ·refine bR rfl ?_;refine jM ?_;refine aB (w8 rf rf (Tf _ _) hm) rfl ?_;refine J1 ?_
  refine aN Tryz.results222 (λ w hw=>?_)
  have hy:y=key.size:=by omega
  subst hy
  exact⟨rfl,hw.done⟩
theorem nP(key:ByteArray)(w:World):Calls Tryz.prog 208 #[.string key] w λ e w'=>e=.returned (.bool (decide (key.size<=64)))/\St w [] [] w':=by
 refine enter Tryz.func208 Tryz.ntmps208 rfl rfl (SF.s0 w) ?_
 simp only[cE]
 refine Kc3 ?_;refine mN ?_;refine Am ?_;refine J1 ?_
 refine aN Tryz.results208 (λ w hw=>?_)
 exact⟨by rw[show decide (key.size<=64)=decide ((key.size:Int)<=64) from decide_eq_decide.2 (by omega)];rfl,hw.done⟩
theorem gF(f:Bool)(v:Int)(w:World):Calls Tryz.prog 223 #[.bool f,.int .u64 v] w λ e w'=>e=.returned (.agg ⟨(Rs.mk 0 f v ⟨#[]⟩ 0 0 0 false).cells⟩)/\St w [] [] w':=by
 refine enter Tryz.func223 Tryz.ntmps223 rfl rfl (SF.s0 w) ?_
 simp only[cE]
 refine J0 ?_;refine aJ (λ x4=>?_);refine aG ?_;refine jM ?_;refine vG ?_
 refine bB Tryz.results223 (λ w hw=>?_)
 exact⟨rfl,hw.done⟩
end
end Go.Proofs.YtbajmaoegmbfgaaGreat
namespace Go.Ct
open Go Go.RowKit
section
theorem Nx.ch{g:Gx}{x X:XS}{N:List aU}{t:Tr}{b:Int}(h:Nx g x X N t b):Ch x X (aL N):=⟨N,h.ext,λ _ hf=>.inr hf⟩
theorem nC{a b:List aU}:∀f∈aL (a++b),f.2=[]∨f∈aL b++aL a:=λ f hf=>by
 rw[dF] at hf
 rcases List.mem_append.1 hf with h|h
 ·exact .inr (List.mem_append_right _ h)
 ·exact .inr (List.mem_append_left _ h)
theorem XS.Ok.ysl{x:XS}(h:x.Ok)(r:Int):(aD x.L r).ys.length<=1099511627775:=by
 have h1:=h.lL
 unfold aD
 split
 ·have:=h.ys _ (gE (L:=x.L) (k:=(r-1).toNat) (by omega));omega
 ·exact Nat.zero_le _
theorem tP{g:Gx}{x:XS}{o:Option Int}{T:Tr}{B:Int->Tr}(h:fS g x (match o with|none=>T|some b=>B b))(hs:o.isSome=true):fS g x (B (o.getD 0)):=by
 cases o with
 | none=>cases hs
 | some b=>exact h
theorem Lw{g:Gx}{x:XS}{o:Option Int}{T:Tr}{B:Int->Tr}(h:fS g x (match o with|none=>T|some b=>B b))(hs:o.isSome=false):fS g x T:=by
 cases o with
 | none=>exact h
 | some b=>cases hs
theorem fS.kD{g:Gx}{x:XS}{n:Nat}{T:Nat->Tr}(h:fS g x (T n))(hs:x.st=false)(h0:T 0=.stuck)(hg:g.Ok):∃f,n=f+1/\fS g x (T (f+1)):=by
 cases n with
 | zero=>rw[h0] at h;exact((h.run hs).Yk hg).elim
 | succ f=>exact⟨f,rfl,h⟩
end
end Go.Ct
namespace Go.Proofs.YtbajmaoegmbfgaaGreat
open Go Go.RowKit Go.Ct
section
theorem nA{key:ByteArray}{mask:Int}{m:Nat}(e:mask=(m:Int))(hm:m<18446744073709551616)(hk:key.size<=64)(w:World):Calls Tryz.prog 222 #[.string key,.int .u64 mask] w λ e w'=>e=.returned (.int .u64 ((mR key m:Nat):Int))/\St w [] [] w':=by
 subst e
 exact Xk key hm (by omega) w
theorem Kr{v:aU}{n:Nat}{w:World}(k:ByteArray)(hr:rV w v.nd v.xs v.ys)(hy:v.ys.length<=1099511627775):Calls Tryz.prog 60 #[.slice v.nd.prA v.nd.prN v.nd.dE,.string k] w λ e w'=>e=.returned (.tuple #[.int .u64 ((dV v.c.ys k).getD 0),.bool (dV v.c.ys k).isSome])/\St w [] [] w':=by
 rw[hr.prN]
 exact It k hr.pr hy
section
variable{k:Cl}{bx bm:Nat}{x:XS}{dn:Bool}{rs:Rs}{D:List Nat}{A:Fr}{w:World}{g:Gx}
set_option maxRecDepth 100000 in
theorem aAf(hg:g.Ok){m:Nat}(K:Rs->Tr)(n:Nat)(hn:n<=1073741824)(hm:m<18446744073709551616)(em:k.mask=(m:Int))(ek:k.key.size<=64)(ht:k.t.root<=9223372036854775807)(hA:∀f∈aL x.L,f∈A)(go:fS g x (kF k.t λ i=>Db k.t (mR k.key m) k.key K n i 0))(ok:x.Ok)(hs:SF w D (xH k bx bm x dn rs) A [] (xW x) w):Calls Tryz.prog 183 #[.pointer (some ⟨bx,0,none⟩)] w λ e w'=>∃q:Rs×XS×List aU,e=.returned (.agg ⟨q.1.cells⟩)/\Nx g x q.2.1 q.2.2 (K q.1) 0/\SF w D (xH k bx bm q.2.1 dn rs) [] (aL q.2.2) (xW q.2.1) w':=by
 refine enter Tryz.func183 Tryz.ntmps183 rfl rfl (cH hs) ?_
 simp only[cE]
 refine J0 ?_;refine aJ (λ x2=>?_);refine S3 ?_
 refine eJ [3,4,13,14,15,16,17,18,19,20,21,22,23,24,25,26,27,28] (λ j:Nat=>[(3,.pointer (some ⟨j,0,none⟩)),(4,.int .u64 ((mR k.key m:Nat):Int))]) (λ _=>True) (λ j=>[(j,.cells ⟨[.int .i64 k.t.root,.bool k.t.ro]⟩ 29 (0,0)),(x2,.cells ⟨Rs.zero.cells⟩ 64 (0,0)),(bx,xO k bm x dn rs),(bm,xM x)]) (λ _=>[]) (λ _=>xW x) (by decide) (λ _=>by exact rfl) ?_ (λ j f hx=>?_)
 ·refine iD (.one 0 [] (.one 1 [] (.one 2 [] (.one 3 [] (.one 4 [] (.one 5 [] (.one 6 [] (.one 7 [] (.one 8 [] (.one 9 [] (.one 10 [] (.one 11 [] (.one 12 [] (.one 13 [] (.one 14 [] (.two 15 [4] (.one 16 [4,9,14] (.one 17 [] (.one 18 [] .nil))) 0 [] (.two 16 [4,9,14] (.one 15 [4] (.one 17 [] (.one 18 [] .nil))) 0 [] .nil))))))))))))))))) ?_
  refine J9 ?_;refine aT ?_;refine bT (i:=4) (hq:=(aP (k:=2) (vs:=[.int .i64 k.t.root,.bool k.t.ro]) rf cR eE rfl rfl)) (h:=?_);refine yA ?_;refine yA ?_
  refine iK (E:=[15,16]) (by decide +kernel) ((.cons ?_ (.cons ?_ .nil)))
  ·refine C9 (i:=15) (hq:=(cV (hc:=λ w1 hw=>nA em hm ek w1))) (hfire:=(λ _=>by(refine aQ.cons (by exact iP (hq:=aP (k:=2) (vs:=[.int .i64 k.t.root,.bool k.t.ro]) rf cR eE rfl rfl)) ?_;exact aQ.nil))) (h:=λ x28=>?_)
   refine iE (hfire:=(λ _=>by((repeat (first|exact aQ.nil|refine aQ.cons (by first|exact iP (hq:=aP (k:=2) (vs:=[.int .i64 k.t.root,.bool k.t.ro]) rf cR eE rfl rfl)|exact iF) ?_));done))) (h:=λ x3=>?_);refine Ck ?_
   refine fF (x3) ?_
   ·trivial
  ·refine iC (i:=16) (hfire:=(λ _=>by((repeat (first|exact aQ.nil|refine aQ.cons (by first|exact iP (hq:=aP (k:=2) (vs:=[.int .i64 k.t.root,.bool k.t.ro]) rf cR eE rfl rfl)|exact iF) ?_));done))) (h:=λ x3=>?_)
   refine dC (i:=15) (hq:=(cV (hc:=λ w1 hw=>nA em hm ek w1))) (hfire:=(λ _=>by(refine aQ.cons (by exact iP (hq:=aP (k:=2) (vs:=[.int .i64 k.t.root,.bool k.t.ro]) rf cR eE rfl rfl)) ?_;exact aQ.nil))) (h:=λ x28=>?_);refine Ck ?_
   refine fF (x3) ?_
   ·trivial
 dsimp only[iB,List.map,List.cons_append,List.nil_append]
 refine Kb5 ?_;refine aC (cM (hs:=xH k bx bm x dn rs) (os:=xW x) (hc:=λ w hs=>Bs hg k.t _ ht go ok hs)) (λ x31 h31=>?_);refine iW ?_;refine Gp ?_
 refine nS [5,6,7,8,9,10,11,12,32,33,34,35,36,37,38,39,40,41,42,43,44,45,46,47,48,49,50,51,52,53,54,55,56,57,58,59,60,61,62,63,64,65,66,67,68,69,70,71,72,73,74,75,76,77,78,79,80,81,82,83,84,85,86,87,88,89,90,91,92,93,94,95,96,97,98,99,100,101,102,103,104,105,106,107,108,109,110,111,112] (λ y:Nat×Int×XS×List aU=>[(5,.int .i64 y.2.1),(6,.int .i64 ((n-y.1:Nat):Int))]) (λ y=>y.1<=n/\Nx g x y.2.2.1 y.2.2.2 (Db k.t (mR k.key m) k.key K y.1 y.2.1 ((n-y.1:Nat):Int)) y.2.1) (λ y=>[(j,.cells ⟨[.int .i64 k.t.root,.bool k.t.ro]⟩ 29 (0,0)),(x2,.cells ⟨Rs.zero.cells⟩ 64 (0,0)),(bx,xO k bm y.2.2.1 dn rs),(bm,xM y.2.2.1)]) (λ y=>aL y.2.2.2) (λ y=>xW y.2.2.1) (λ y=>y.1) ((n,x31.1,x31.2.1,x31.2.2)) (⟨Nat.le_refl n,by rw[Nat.sub_self];exact h31⟩) (λ y f hx=>?_) (hw0:=λ w hw=>by rw[List.append_nil] at hw;exact hw)
 dsimp only[iB,List.map,List.cons_append,List.nil_append]
 refine aR ?_;refine lQ ?_;refine pN ?_
 refine bE (λ c36=>?_) (λ c36=>?_)
 ·obtain⟨f,hf,gx⟩:=fS.kD (T:=λ z=>Db k.t (mR k.key m) k.key K z y.2.1 ((n-y.1:Nat):Int)) hx.2.go (by simpa using c36) rfl hg
  have hyl:=hx.1
  refine sA ?_;refine jM ?_;refine bO ?_;refine aA ?_;refine aC (cM (hs:=xH k bx bm y.2.2.1 dn rs) (os:=xW y.2.2.1) (hc:=λ w hs=>oU hg k.t y.2.1 _ ht hx.2.bd gx hx.2.ok hs)) (λ x43 h43=>?_)
  have hch:=Ch.nx h43 hx.2.ch
  have hlc:x.cs.length<=x43.2.1.cs.length:=by have:=h43.lc;have:=hx.2.lc;omega
  refine aC (cM (hs:=xH k bx bm x43.2.1 dn rs) (os:=xW x43.2.1) (hc:=λ w hs=>cJ x43.1 _ h43.bd h43.go h43.ok hs)) (λ x44 h44=>?_);refine aJ (λ x7=>?_);refine J5 ?_;refine D3 ?_;refine aG ?_;refine cY ?_;refine lO ?_
  refine bE (λ c47=>?_) (λ c47=>?_)
  ·have g1:=h44.1.to (λ _=>if_pos c47)
   refine aR ?_;refine aR ?_;refine gM [0,1,2,3,4,5,6,7] ?_;refine pG ?_;refine yA ?_;refine v8 ?_;refine eO ?_
   refine bE (λ c56=>?_) (λ c56=>?_)
   ·refine gY ?_;refine aM (cV (hc:=λ w1 hw=>gF _ _ w1)) (λ x59=>?_);refine J5 ?_
    refine bB Tryz.results183 (λ w hw=>?_)
    obtain⟨N,hN,hf⟩:=hch.to (t':=K (jL true (aD x43.2.1.L x43.1).nd.val)) h43 (g1.to (λ _=>if_pos (by assumption))) hlc (bH _)
    exact⟨(jL true (aD x43.2.1.L x43.1).nd.val,x43.2.1,N),rfl,hN,(hw.fG hf).v4⟩
   ·refine aS ?_;refine J0 ?_;refine aM (cV (hc:=λ w1 hw=>gF _ _ w1)) (λ x60=>?_);refine J5 ?_
    refine bB Tryz.results183 (λ w hw=>?_)
    obtain⟨N,hN,hf⟩:=hch.to (t':=K (jL false 0)) h43 (g1.to (λ _=>if_neg (by assumption))) hlc (bH _)
    exact⟨(jL false 0,x43.2.1,N),rfl,hN,(hw.fG hf).v4⟩
  ·have g1:=h44.1.to (λ _=>if_neg c47)
   refine lO ?_
   refine bE (λ c61=>?_) (λ c61=>?_)
   ·have g2:=g1.to (λ _=>if_pos c61)
    refine aR ?_;refine gM [0,1,2,3,4,5,6,7,8,9,10,11,12] ?_;refine pG ?_;refine yA ?_;refine dC (i:=7) (hq:=(cV (hc:=λ w1 hw=>Kr (v:=aD x43.2.1.L x43.1) (n:=0) k.key (hw.ie hch hA h43.ok x43.1) (h43.ok.ysl _)))) (h:=λ x71=>?_);refine bC ?_;refine cP (i:=9) (hq:=(bP rf rfl)) (h:=?_);refine cP (i:=10) (hq:=(bP rf rfl)) (h:=?_);refine ag ?_;refine jM ?_;refine aM (cV (hc:=λ w1 hw=>gF _ _ w1)) (λ x76=>?_);refine J5 ?_
    refine bB Tryz.results183 (λ w hw=>?_)
    obtain⟨N,hN,hf⟩:=hch.to (t':=K (jL (dV (aD x43.2.1.L x43.1).c.ys k.key).isSome ((dV (aD x43.2.1.L x43.1).c.ys k.key).getD 0))) h43 (g2) hlc (bH _)
    exact⟨(jL (dV (aD x43.2.1.L x43.1).c.ys k.key).isSome ((dV (aD x43.2.1.L x43.1).c.ys k.key).getD 0),x43.2.1,N),rfl,hN,(hw.fG hf).v4⟩
   ·have g2:=g1.to (λ _=>if_neg c61)
    refine pM ?_;refine aR ?_;refine eQ [(0,[]),(1,[]),(2,[]),(3,[0]),(4,[]),(5,[]),(6,[]),(7,[]),(8,[]),(9,[])] ?_;refine Ka9 ?_;refine dC (i:=3) (hq:=(cV (hc:=λ w1 hw=>eY (tT k.key m) ((n-y.1:Nat):Int) w1))) (h:=λ x81=>?_);refine dC (i:=4) (hq:=(cV (hc:=λ w1 hw=>I1 (v:=aD x43.2.1.L x43.1) h44.2 (gJ (mR k.key m) ((n-y.1:Nat):Int)) (hw.ie hch hA h43.ok x43.1)))) (h:=λ x82=>?_);refine bC ?_;refine cP (i:=6) (hq:=(bP rf rfl)) (h:=?_);refine cP (i:=7) (hq:=(bP rf rfl)) (h:=?_);refine ag ?_;refine aR ?_;refine lQ ?_;refine aA ?_
    (refine eG 89 (λ g89=>?_) (λ g89=>?_)<;>refine Ka0 ?_)
    all_goals (refine Kb9 ?_)
    all_goals
    refine bE (λ c92=>?_) (λ c92=>?_)
    ·all_goals (refine J0 ?_;refine aM (cV (hc:=λ w1 hw=>gF _ _ w1)) (λ x93=>?_);refine J5 ?_)
     all_goals
      refine bB Tryz.results183 (λ w hw=>?_)
      obtain⟨N,hN,hf⟩:=hch.to (t':=K (jL false 0)) h43 (by first|exact g2.bV (by assumption)|exact Lw g2 (by assumption)) hlc (bH _)
      exact⟨(jL false 0,x43.2.1,N),rfl,hN,(hw.fG hf).v4⟩
    ·try exact nv c92
     all_goals (refine lW ?_;refine jM ?_;refine aC (cM (hs:=xH k bx bm x43.2.1 dn rs) (os:=xW x43.2.1) (hc:=λ w hs=>cJ ((kU (aD x43.2.1.L x43.1).c (gJ (mR k.key m) ((n-y.1:Nat):Int))).getD 0) _ (qG h44.2 _) (tP g2 (by assumption)) h43.ok hs)) (λ x96 h96=>?_);refine aJ (λ x12=>?_);refine J5 ?_;refine gY ?_;refine uM ?_)
     all_goals
      refine bE (λ c99=>?_) (λ c99=>?_)
      ·refine aR ?_;refine aR ?_;refine gM [0,1,2,3,4,5,6,7] ?_;refine pG ?_;refine yA ?_;refine v8 ?_;refine eO ?_
       refine bE (λ c107=>?_) (λ c107=>?_)
       ·refine gY ?_;refine aM (cV (hc:=λ w1 hw=>gF _ _ w1)) (λ x110=>?_);refine J5 ?_
        refine bB Tryz.results183 (λ w hw=>?_)
        obtain⟨N,hN,hf⟩:=hch.to (t':=K (jL true (aD x43.2.1.L ((kU (aD x43.2.1.L x43.1).c (gJ (mR k.key m) ((n-y.1:Nat):Int))).getD 0)).nd.val)) h43 ((h96.1.to (λ _=>if_pos c99)).to (λ _=>if_pos (by assumption))) hlc (bH _)
        exact⟨(jL true (aD x43.2.1.L ((kU (aD x43.2.1.L x43.1).c (gJ (mR k.key m) ((n-y.1:Nat):Int))).getD 0)).nd.val,x43.2.1,N),rfl,hN,(hw.fG hf).v4⟩
       ·refine aS ?_;refine J0 ?_;refine aM (cV (hc:=λ w1 hw=>gF _ _ w1)) (λ x111=>?_);refine J5 ?_
        refine bB Tryz.results183 (λ w hw=>?_)
        obtain⟨N,hN,hf⟩:=hch.to (t':=K (jL false 0)) h43 ((h96.1.to (λ _=>if_pos c99)).to (λ _=>if_neg (by assumption))) hlc (bH _)
        exact⟨(jL false 0,x43.2.1,N),rfl,hN,(hw.fG hf).v4⟩
      ·refine aS ?_;refine wZ ?_;refine J1 ?_;refine Kb2 ?_
       refine gU ((y.1-1,((kU (aD x43.2.1.L x43.1).c (gJ (mR k.key m) ((n-y.1:Nat):Int))).getD 0),x43.2.1,y.2.2.2++x43.2.2)) ?_ (hw1:=λ w hw=>(hw.fG nC).v6)
       ·have e1:y.1-1=f:=by omega
        have e2:((n-y.1:Nat):Int)+1=((n-f:Nat):Int):=by omega
        refine⟨by show y.1-1<=n;omega,(hx.2.trans h43).cK ?_ (qG h44.2 _)⟩
        show fS g x43.2.1 (Db k.t (mR k.key m) k.key K (y.1-1) ((kU (aD x43.2.1.L x43.1).c (gJ (mR k.key m) ((n-y.1:Nat):Int))).getD 0) ((n-(y.1-1):Nat):Int))
        rw[e1,<- e2]
        exact h96.1.to (λ _=>if_neg c99)
 ·refine bR rfl ?_;refine Kb8 ?_
  refine bB Tryz.results183 (λ w hw=>?_)
  obtain⟨N,hN,hf⟩:=hx.2.ch.to (t':=K (Rs.zero)) hx.2 (hx.2.go.bV (by simpa using c36)) hx.2.lc (bH _)
  exact⟨(Rs.zero,y.2.2.1,N),rfl,hN,(hw.fG hf).v4⟩
end
end
end Go.Proofs.YtbajmaoegmbfgaaGreat

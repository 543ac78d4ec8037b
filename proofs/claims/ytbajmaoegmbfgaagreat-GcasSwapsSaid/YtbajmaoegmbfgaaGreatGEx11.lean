/- Executions of the reference: RENEW, CLEAN. -/
import Derived.Test.YtbajmaoegmbfgaaGreatGEx9
import Derived.Test.YtbajmaoegmbfgaaGreatGVw1
import Derived.Test.YtbajmaoegmbfgaaGreatGDfr

set_option linter.unusedSimpArgs false
set_option linter.unusedVariables false
namespace Go.Proofs.YtbajmaoegmbfgaaGreat
section
open Go Go.RowKit Go.Ct
theorem fG{h:Nat}(hh:h<18446744073709551616)(level:Int)(w:World):Calls Tryz.prog 218 #[.int .u64 (h:Int),.int .i64 level] w λ e w'=>e=.returned (.int .i64 (hJ h level))/\St w [] [] w':=by
 by_cases hl:level<0∨10<level
 ·unfold hJ
  rw[if_pos hl]
  refine enter Tryz.func218 Tryz.ntmps218 rfl rfl (SF.s0 w) ?_
  simp only[bX]
  refine cO ?_;refine jV ?_;refine Bq ?_
  (refine dZ 7 (λ g7=>?_) (λ g7=>?_)<;>(first|refine aI ?_|(refine aF ?_;refine aA ?_)))
  all_goals (refine Ae ?_;refine aH ?_)
  all_goals
  refine bB (λ c10=>?_) (λ c10=>?_)
  ·all_goals try (exfalso;omega)
   all_goals refine cO ?_
   all_goals
    refine aS Tryz.results218 (λ w hw=>?_)
    exact⟨rfl,hw.done⟩
  ·try exact nv c10
   all_goals try (exfalso;omega)
 ·unfold hJ
  rw[if_neg hl]
  exact Cy (l:=level.toNat) (by omega) hh (by omega) w
section
variable{m c:Nat}{o:Option (Nat×List Int)}{w:World}
noncomputable abbrev coB (o:Option (Nat×List Int)) (x:Option Addr×Nat) (level:Int) (s:Nd):Bool:=Sl (mM o x) (mC o) [] level s
noncomputable abbrev Pa (o:Option (Nat×List Int)) (x:Option Addr×Nat) (level:Int) (s:Nd):Nd:=u7 (coB o x level s) (mM o x) s
noncomputable abbrev Yq (o:Option (Nat×List Int)) (x:Option Addr×Nat) (level:Int) (s:Nd):List Int:=mu (coB o x level s) (mC o)
theorem p9{α:Type}(t:Bool):mu t ([]:List α)=[]:=by unfold mu;split<;>rfl
theorem Pz(h:vZ m o)(x:Option Addr×Nat):∃b:Nat,(mM o x).bm=(b:Int)/\b<18446744073709551616:=by
 cases o with
 | none=>exact⟨0,rfl,by decide⟩
 | some q=>exact⟨q.1,rfl,(h.out q rfl).1⟩
theorem On(h:vZ m o){x:Option Addr×Nat}(hc:Go.Ct.Cl w x.1 (aG (mC o))):rH w (mM o x) (mC o) []:=by
 refine⟨Ee _ _,Et _ _,?_,?_,by have:=h.len;omega,by decide⟩
 ·cases o with
  | none=>exact Cl.nil _ _
  | some q=>exact hc
 ·exact Cl.nil _ _
theorem Wj(h:vZ m o){x:Option Addr×Nat}(level:Int)(s:Nd)(hc:Go.Ct.Cl w x.1 (aG (mC o))):Calls Tryz.prog 221 #[(mM o x).v,.int .i64 level,s.v] w λ e w'=>e=.returned (Pa o x level s).v/\St w [] [] w':=by
 obtain⟨b,h1,h2⟩:=Pz h x
 exact Dt (n:=mM o x) level s h1 h2 (On h hc)
theorem ve(x:Option Addr×Nat)(level:Int)(s:Nd):wb (Iw o) level (s.c [] [])=(Pa o x level s).c (Yq o x level s) []:=by
 have:=(aBU (n:=mM o x) (s:=s) (xs:=mC o) (ys:=[]) level).symm
 rw[Hg,p9] at this
 exact this
theorem mb(x:Option Addr×Nat)(level:Int)(s:Nd):(Pa o x level s).brN=(Yq o x level s).length:=by
 unfold Pa u7 Yq mu
 split
 ·rfl
 ·exact Ee _ _
theorem ef(x:Option Addr×Nat)(level:Int)(s:Nd):(Pa o x level s).prN=([]:List Pr).length:=by
 unfold Pa u7
 split
 ·rfl
 ·exact Et _ _
theorem U4(h:vZ m o)(x:Option Addr×Nat)(level:Int)(s:Nd):(Yq o x level s).length<=274877906944:=by
 unfold Yq mu
 split
 ·exact Nat.zero_le _
 ·exact h.len
theorem Vt(h:vZ m o)(x:Option Addr×Nat)(level:Int){s:Nd}(hh:∃b:Nat,s.hash=(b:Int)/\b<18446744073709551616):kX m c {(Pa o x level s).c (Yq o x level s) [] with main:=0,prev:=0,status:=0}:=by
 unfold Pa u7 Yq mu
 split
 ·exact⟨bH _,bH _,bH _,(λ r hr=>nomatch hr),bH _,bH _,bH _,⟨0,rfl,by decide⟩,hh⟩
 ·exact h.nvB x
theorem vh{A F:Fr}{O:List Ow}{x:Option Addr×Nat}{level:Int}{s:Nd}:aY A ((x.1,aG (mC o))::F) O [((Pa o x level s).brA,aG (Yq o x level s)),((Pa o x level s).prA,cR [])]:=by
 unfold Pa u7 Yq mu
 split
 ·exact .cons (.inl rfl) (.cons (.inl rfl) .nil)
 ·exact Tn
end
theorem a9(n:Nd):(Gk n).brN=([]:List Int).length/\(Gk n).prN=([]:List Pr).length:=by unfold Gk;split<;>exact⟨rfl,rfl⟩
theorem P9{n:Nd}(h:∃b:Nat,n.hash=(b:Int)/\b<18446744073709551616):∃b:Nat,(Gk n).hash=(b:Int)/\b<18446744073709551616:=by
 unfold Gk
 split
 ·exact h
 ·exact⟨0,rfl,by decide⟩
theorem zx{n:Nd}{m c:Nat}(h:∃b:Nat,n.hash=(b:Int)/\b<18446744073709551616):kX m c {(Gk n).c [] [] with main:=0,prev:=0,status:=0}:=by
 have h2:=P9 h
 revert h2
 unfold Gk
 split<;>exact λ h2=>⟨bH _,bH _,bH _,(λ r hr=>nomatch hr),bH _,bH _,bH _,⟨0,rfl,by decide⟩,h2⟩
theorem aAM{v:aP}{n c:Nat}(h:kX n c v.c){i r:Int}:Z2 v.c i r=Iw (Q6 v i r):=(aAI (fE h).1 i r).symm
theorem aAR{v:aP}{n c:Nat}(h:kX n c v.c){i:Int}:Nh v.c i=Iw (cm v i):=(aAS (fE h).1 i).symm
theorem zk{o:Option Int}{c:Int}(h1:o.isSome=true)(h2:o.getD 0=c):o=some c:=by
 cases o with
 | none=>cases h1
 | some v=>exact congrArg some h2
theorem o9{o:Option Int}{c:Int}(h1:o.isSome=false):¬o=some c:=λ h=>by rw[h] at h1;cases h1
theorem su{o:Option Int}{c:Int}(h1:o.getD 0≠c):¬o=some c:=λ h=>by rw[h] at h1;exact h1 rfl
section
variable{k:Cl}{bx bm:Nat}{x:XS}{dn:Bool}{rs:Rs}{D:List Nat}{A:Fr}{w:World}{g:Gx}
theorem pj(hg:g.Ok)(t:gO)(i c index:Int)(K:Int->Tr)(ht:t.root<=9223372036854775807)(hi:i<=x.L.length)(hc:c<=x.L.length)(hA:∀f∈aM x.L,f∈A)(go:gC g x (Ml t i c index K))(ok:x.Ok)(hs:SF w D (xH k bx bm x dn rs) A [] (xW x) w):Calls Tryz.prog 181 #[.pointer (some ⟨bx,0,none⟩),Na t,.int .i64 i,.int .i64 c,.int .i64 index] w λ e w'=>∃q:Int×XS×List aP,e=.returned (.int .i64 q.1)/\Nx g x q.2.1 q.2.2 (K q.1) q.1/\SF w D (xH k bx bm q.2.1 dn rs) [] (aM q.2.2) (xW q.2.1) w':=by
 refine enter Tryz.func181 Tryz.ntmps181 rfl rfl (bW hs) ?_
 simp only[bX]
 simp only[Na]
 refine J0 ?_;refine bK (λ x6=>?_);refine yA ?_;refine aD (cM (hs:=xH k bx bm x dn rs) (os:=xW x) (hc:=λ w hs=>cG c _ hc go ok hs)) (λ x18 h18=>?_);refine aA ?_;refine aT (cV (hc:=λ w1 hw=>I9 (v:=aB x.L c) (ok.nv c) index (ok.rZ hw hA c))) (λ x20=>?_);refine aA ?_;refine aC (bO rf rfl) rfl ?_;refine aC (bO rf rfl) rfl ?_;refine J8 ?_;refine J2 ?_;refine bN ?_;refine aA ?_;refine aD (cM (hs:=xH k bx bm x dn rs) (os:=xW x) (hc:=λ w hs=>oJ hg t ((lZ (aB x.L c).c index).getD 0) _ ht (pQ (ok.nv c) index) h18.1 ok hs)) (λ x26 h26=>?_);refine yA ?_;refine aA ?_;refine aD (cM (hs:=xH k bx bm x26.2.1 dn rs) (os:=xW x26.2.1) (hc:=λ w hs=>cG i _ (by have:=h26.len;omega) h26.go h26.ok hs)) (λ x30 h30=>?_);refine cD ?_;refine bJ ?_;refine aA ?_;refine aD (cM (hs:=xH k bx bm x26.2.1 dn rs) (os:=xW x26.2.1) (A0:=[(none,aG []),(none,cR [])]) (hc:=λ w hs=>gY hg (n:={Nd.zero with kind:=2,gen:=(aB x26.2.1.L i).nd.gen}) (xs:=[]) (ys:=[]) x26.1 _ rfl rfl (by decide) (Nat.zero_le _) rY h26.bd h30.1 h26.ok hs)) (λ x34 h34=>?_)
 have hch:=Ch.nx h34 ((Ch.base (F:=[])).nx h26)
 refine hZ ?_;refine aV ?_;refine dI [(0,[]),(1,[]),(2,[]),(3,[]),(4,[]),(5,[]),(6,[]),(7,[]),(8,[1]),(9,[])] ?_;refine aN ?_;refine bG ?_;refine iH ?_;refine iH ?_;refine iH ?_;refine aZ (i:=8) (hq:=(cM (hs:=xH k bx bm x34.2.1 dn rs) (os:=xW x34.2.1) (A0:=aM x34.2.1.L) (hA:=Ch.all hch hA) (hc:=λ w hs=>Br hg c index x34.1 _ (by have:=h26.len;have:=h34.len;omega) h34.bd (λ f hf=>hf) h34.go h34.ok hs))) (h:=λ x43 h43=>?_);refine aZ (i:=9) (hq:=(cM (hs:=xH k bx bm x43.2.1 dn rs) (os:=xW x43.2.1) (hc:=λ w hs=>tR hg t i c x43.1 _ ht (by have:=h26.len;have:=h34.len;have:=h43.len;omega) h43.bd h43.go h43.ok hs))) (h:=λ x44 h44=>?_)
 have hch2:=Ch.nx h44 (Ch.nx h43 hch)
 have hlc:x.cs.length<=x44.2.1.cs.length:=by have:=h26.lc;have:=h34.lc;have:=h43.lc;have:=h44.lc;omega
 refine dW ?_
 refine bB (λ c44=>?_) (λ c44=>?_)
 ·refine J2 ?_;refine J1 ?_
  refine aS Tryz.results181 (λ w hw=>?_)
  obtain⟨N,hN,hf⟩:=hch2.to h44 (h44.go.to (t':=K x34.1) (λ _=>by rw[if_pos (by assumption)])) hlc (show x34.1<=_ by have:=h34.bd;have:=h43.len;have:=h44.len;omega)
  exact⟨(x34.1,x44.2.1,N),rfl,hN,(hw.eY hf).aU (hF:=by exact aX.all)⟩
 ·refine bA ?_;refine cO ?_
  refine aS Tryz.results181 (λ w hw=>?_)
  obtain⟨N,hN,hf⟩:=hch2.to h44 (h44.go.to (t':=K 0) (λ _=>by rw[if_neg (by simp only[Bool.not_eq_true];assumption)])) hlc (show(0:Int)<=_ from bH _)
  exact⟨(0,x44.2.1,N),rfl,hN,(hw.eY hf).aU (hF:=by exact aX.all)⟩
end
end

/- Executions of the reference: CLEAN. -/
section
open Go Go.RowKit Go.Ct
section
variable{k:Cl}{bx bm:Nat}{x:XS}{dn:Bool}{rs:Rs}{D:List Nat}{A:Fr}{w:World}{g:Gx}
theorem L6(hg:g.Ok)(t:gO)(p c:Int){h:Nat}(hh:h<18446744073709551616)(level:Int)(K:Bool->Tr)(ht:t.root<=9223372036854775807)(hp:p<=x.L.length)(hc:c<=x.L.length)(hA:∀f∈aM x.L,f∈A)(go:gC g x (zO t p c h level K))(ok:x.Ok)(hs:SF w D (xH k bx bm x dn rs) A [] (xW x) w):Calls Tryz.prog 182 #[.pointer (some ⟨bx,0,none⟩),Na t,.int .i64 p,.int .i64 c,.int .u64 (h:Int),.int .i64 level] w λ e w'=>∃q:Bool×XS×List aP,e=.returned (.bool q.1)/\Nx g x q.2.1 q.2.2 (K q.1) 0/\SF w D (xH k bx bm q.2.1 dn rs) [] (aM q.2.2) (xW q.2.1) w':=by
  refine enter Tryz.func182 Tryz.ntmps182 rfl rfl (bW hs) ?_
  simp only[bX]
  simp only[Na]
  refine J0 ?_;refine bK (λ x7=>?_);refine J1 ?_;refine J2 ?_;refine bN ?_;refine aA ?_;refine aD (cM (hs:=xH k bx bm x dn rs) (os:=xW x) (hc:=λ w hs=>oJ hg t p _ ht hp go ok hs)) (λ x25 h25=>?_)
  have hch:=(Ch.base (F:=[])).nx h25
  have hl25:=h25.len
  refine yA ?_;refine aT (cV (hc:=λ w1 hw=>fG hh level w1)) (λ x28=>?_);refine hZ ?_;refine iU ?_;refine aD (cM (hs:=xH k bx bm x25.2.1 dn rs) (os:=xW x25.2.1) (hc:=λ w hs=>cG x25.1 _ h25.bd h25.go h25.ok hs)) (λ x32 h32=>?_);refine aA ?_;refine aT (cV (hc:=λ w1 hw=>I9 (v:=aB x25.2.1.L x25.1) h32.2 (hJ h level) (hw.Zu hch hA h25.ok x25.1))) (λ x34=>?_);refine aA ?_;refine aC (bO rf rfl) rfl ?_;refine aC (bO rf rfl) rfl ?_;refine J8 ?_;refine lR ?_;refine aA ?_
  (refine dZ 41 (λ g41=>?_) (λ g41=>?_)<;>(first|refine aI ?_|(refine aF ?_;refine aA ?_)))
  all_goals (refine Nk ?_;refine aA ?_)
  all_goals (first|refine aI ?_|(refine dZ 45 (λ g45=>?_) (λ g45=>?_)<;>(first|refine aI ?_|(refine aF ?_;refine aA ?_))))
  all_goals ((first|refine aI ?_|(refine aF ?_;refine aA ?_));refine Q9 ?_;refine aH ?_)
  all_goals
   refine bB (λ c49=>?_) (λ c49=>?_)
   · all_goals refine cO ?_
     all_goals
      refine aS Tryz.results182 (λ w hw=>?_)
      obtain⟨N,hN,hf⟩:=hch.to (t':=K false) h25 (by first|exact h32.1.bS (by assumption)|exact h32.1.to (λ _=>if_neg (o9 (by assumption)))|exact h32.1.to (λ _=>if_neg (su (by assumption)))) h25.lc (bH _)
      exact⟨(false,x25.2.1,N),rfl,hN,(hw.eY hf).aU (hF:=by exact aX.all)⟩
   · try exact nv c49
     all_goals
      have g1:=h32.1.to (λ _=>if_pos (zk (by assumption) (by assumption)))
     all_goals (refine Af ?_;refine bN ?_;refine aA ?_;refine aD (cM (hs:=xH k bx bm x25.2.1 dn rs) (os:=xW x25.2.1) (hc:=λ w hs=>oJ hg t c _ ht (by omega) g1 h25.ok hs)) (λ x55 h55=>?_))
     all_goals
      have hch2:=Ch.nx h55 hch
      have hl55:=h55.len
     all_goals (refine aD (cM (hs:=xH k bx bm x55.2.1 dn rs) (os:=xW x55.2.1) (hc:=λ w hs=>cG x55.1 _ h55.bd h55.go h55.ok hs)) (λ x56 h56=>?_);refine aT (cV (hc:=λ w1 hw=>I3 (aB x55.2.1.L x55.1).nd w1)) (λ x57=>?_);refine aA ?_;refine aC (bO rf rfl) rfl ?_;refine aC (bO rf rfl) rfl ?_;refine aJ (λ x17=>?_);refine gW (λ _=>?_);refine hZ ?_;refine lR ?_;refine aA ?_)
     all_goals ((refine dZ 64 (λ g64=>?_) (λ g64=>?_)<;>(first|refine aI ?_|(refine aF ?_;refine aA ?_))))
     all_goals (refine Nk ?_;refine aH ?_)
     all_goals
      refine bB (λ c67=>?_) (λ c67=>?_)
      · all_goals refine cO ?_
        all_goals
         refine aS Tryz.results182 (λ w hw=>?_)
         obtain⟨N,hN,hf⟩:=hch2.to (t':=K false) h55 (by first|exact h56.1.bS (by assumption)|exact h56.1.to (λ _=>if_neg (show ¬(aB x55.2.1.L x55.1).c.kind=5 from by assumption))) (by have:=h25.lc;have:=h55.lc;omega) (bH _)
         exact⟨(false,x55.2.1,N),rfl,hN,(hw.eY hf).aU (hF:=by exact aX.all)⟩
      · try exact nv c67
        all_goals
         have g2:=h56.1.to (λ _=>if_pos (show(aB x55.2.1.L x55.1).c.kind=5 from by assumption))
        all_goals (refine bA ?_;refine J2 ?_;refine bN ?_;refine aD (cM (hs:=xH k bx bm x55.2.1 dn rs) (os:=xW x55.2.1) (A0:=[((Gk (aB x55.2.1.L x55.1).nd).brA,aG []),((Gk (aB x55.2.1.L x55.1).nd).prA,cR [])]) (hA:=.cons (.inl rfl) (.cons (.inl rfl) .nil)) (hc:=λ w hs=>gY hg (n:=Gk (aB x55.2.1.L x55.1).nd) (xs:=[]) (ys:=[]) 0 _ (a9 _).1 (a9 _).2 (by decide) (Nat.zero_le _) (zx h56.2.hash) (bH _) (by rw[aBy (xs:=(aB x55.2.1.L x55.1).xs) (ys:=(aB x55.2.1.L x55.1).ys)];exact g2) h55.ok hs)) (λ x70 h70=>?_))
        all_goals
         have hch3:=Ch.nx h70 hch2
         have hl70:=h70.len
         have hb25:=h25.bd
        all_goals (refine yA ?_;refine aD (cM (hs:=xH k bx bm x70.2.1 dn rs) (os:=xW x70.2.1) (hc:=λ w hs=>cG x25.1 _ (by omega) h70.go h70.ok hs)) (λ x74 h74=>?_);refine oZ ?_;refine aD (cF (hc:=λ w1 hw=>tf (v:=aB x70.2.1.L x25.1) h74.2 (hJ h level) x70.1 (hw.Zu hch3 hA h70.ok x25.1))) (λ x77 h77=>?_))
        all_goals
         have hB:=me h74.2 h70.bd (hJ h level)
         have hch4:=hch3.cons (f:=(x77.1,aG (mC (Q6 (aB x70.2.1.L x25.1) (hJ h level) x70.1))))
        all_goals (refine aA ?_;refine aC (bO rf rfl) rfl ?_;refine aC (bO rf rfl) rfl ?_;refine aJ (λ x20=>?_);refine gW (λ _=>?_);refine hZ ?_;refine dI [(0,[]),(1,[]),(2,[]),(3,[]),(4,[]),(5,[]),(6,[]),(7,[]),(9,[]),(8,[1]),(10,[1]),(11,[]),(12,[])] ?_;refine aN ?_;refine bG ?_;refine iH ?_;refine aN ?_;refine bG ?_;refine aN ?_;refine bG ?_;refine aN ?_;refine cH (i:=8) (hq:=(cV (hc:=λ w1 hw=>Wj hB level (Gk (aB x55.2.1.L x55.1).nd) (hw.cl (.new .head))))) (h:=λ x88=>?_);refine aZ (i:=10) (hq:=(cM (hs:=xH k bx bm x70.2.1 dn rs) (os:=xW x70.2.1) (A0:=[((Pa (Q6 (aB x70.2.1.L x25.1) (hJ h level) x70.1) x77 level (Gk (aB x55.2.1.L x55.1).nd)).brA,aG (Yq (Q6 (aB x70.2.1.L x25.1) (hJ h level) x70.1) x77 level (Gk (aB x55.2.1.L x55.1).nd))),((Pa (Q6 (aB x70.2.1.L x25.1) (hJ h level) x70.1) x77 level (Gk (aB x55.2.1.L x55.1).nd)).prA,cR [])]) (hA:=vh) (hc:=λ w hs=>gY hg (n:=Pa (Q6 (aB x70.2.1.L x25.1) (hJ h level) x70.1) x77 level (Gk (aB x55.2.1.L x55.1).nd)) (xs:=Yq (Q6 (aB x70.2.1.L x25.1) (hJ h level) x70.1) x77 level (Gk (aB x55.2.1.L x55.1).nd)) (ys:=[]) x25.1 _ (mb _ _ _) (ef _ _ _) (U4 hB _ _ _) (Nat.zero_le _) (Vt hB _ _ (P9 h56.2.hash)) (by omega) (by rw[<- ve,<- aAM h74.2,aBy (xs:=(aB x55.2.1.L x55.1).xs) (ys:=(aB x55.2.1.L x55.1).ys)];exact h74.1) h70.ok hs))) (h:=λ x90 h90=>?_);refine aZ (i:=11) (hq:=(cM (hs:=xH k bx bm x90.2.1 dn rs) (os:=xW x90.2.1) (hc:=λ w hs=>tR hg t p x25.1 x90.1 _ ht (by have:=h90.len;omega) (by have:=h90.bd;omega) h90.go h90.ok hs))) (h:=λ x91 h91=>?_))
        all_goals
         have hch5:=Ch.nx h91 (Ch.nx h90 hch4)
         have hlc:x.cs.length<=x91.2.1.cs.length:=by have:=h25.lc;have:=h55.lc;have:=h70.lc;have:=h90.lc;have:=h91.lc;omega
        all_goals refine J7 ?_
        all_goals
         refine aS Tryz.results182 (λ w hw=>?_)
         obtain⟨N,hN,hf⟩:=hch5.to (t':=K x91.1) h91 h91.go hlc (bH _)
         exact⟨(x91.1,x91.2.1,N),rfl,hN,(hw.eY hf).aU (hF:=by exact aX.all)⟩
end
end

/- Hash values of keys. -/
end Go.Proofs.YtbajmaoegmbfgaaGreat
namespace Go.Ct
section
open Go Go.RowKit
def byt(s:ByteArray)(i:Nat):Nat:=(s.data.getD i 0).toNat
theorem eb(s:ByteArray)(i:Nat):byt s i<256:=(s.data.getD i 0).toNat_lt
def hsN(s:ByteArray):Nat->Nat
 | 0=>14695981039346656037
 | i+1=>((hsN s i ^^^ byt s i)*1099511628211)%18446744073709551616
theorem Sn(s:ByteArray):∀i,hsN s i<18446744073709551616
 | 0=>by show 14695981039346656037<18446744073709551616;decide
 | _+1=>Nat.mod_lt _ (by decide)
def lY(s:ByteArray)(m:Nat):Nat:=hsN s s.size &&& m
theorem tF(s:ByteArray)(m:Nat):lY s m<18446744073709551616:=Nat.lt_of_le_of_lt Nat.and_le_left (Sn s _)
section
variable{P:Program}{S:List (Nat×Value)}{G:World->Prop}{d:Nat}{ty t t':TypeId}{pos:String}{af:Array Edge}{gd:Option (Nat×Bool)}{x y:Operand}{a b i:Nat}{s:ByteArray}
theorem ym(hx:ev S x=.string s)(hy:ev S y=.int .i64 (i:Int))(ht:P.underlying t=some .string)(h:i<s.size):aL P S G ⟨some d,.index t x y,ty,pos,af,gd⟩ (.int .u8 (byt s i:Int)):=⟨λ w _=>by
 have e:(s[((i:Nat):Int).toNat]'(by simpa using h)).toNat=byt s i:=by
  unfold byt
  rw[Array.getD_eq_getD_getElem?,Array.getElem?_eq_getElem (by simpa using h)]
  rfl
 simp only[execOp,hx,hy,Sem.run_bind]
 rw[run_index_string w t s .i64 i ht,dif_pos ⟨bH _,by omega⟩,e]
 rfl⟩
theorem xz(hx:ev S x=.int .u64 (a:Int))(hy:ev S y=.int .u64 (b:Int))(ha:a<18446744073709551616)(hb:b<18446744073709551616):aL P S G ⟨some d,.binOp .xor t x y t',ty,pos,af,gd⟩ (.int .u64 ((a ^^^ b:Nat):Int)):=by
 have:=aA6 (P:=P) (G:=G) (d:=d) (ty:=ty) (pos:=pos) (af:=af) (gd:=gd) (t:=t) (t':=t') hx hy
 rwa [ax ha hb] at this
theorem zt(hx:ev S x=.int .u64 (a:Int))(hy:ev S y=.int .u64 (b:Int)):aL P S G ⟨some d,.binOp .mul t x y t',ty,pos,af,gd⟩ (.int .u64 ((a*b%18446744073709551616:Nat):Int)):=by
 have:=aAz (P:=P) (G:=G) (d:=d) (ty:=ty) (pos:=pos) (af:=af) (gd:=gd) (t:=t) (t':=t') hx hy
 have e:IntKind.u64.wrap ((a:Int)*(b:Int))=((a*b%18446744073709551616:Nat):Int):=by
  rw[<- Int.natCast_mul,wrap_u64]
  generalize a*b=q
  omega
 rwa [e] at this
end
end
end Go.Ct
namespace Go.Proofs.YtbajmaoegmbfgaaGreat
section
open Go Go.RowKit Go.Ct
theorem Xb(key:ByteArray){m:Nat}(hm:m<18446744073709551616)(hk:key.size<=4611686018427387903)(w:World):Calls Tryz.prog 222 #[.string key,.int .u64 (m:Int)] w λ e w'=>e=.returned (.int .u64 ((lY key m:Nat):Int))/\St w [] [] w':=by
 refine enter Tryz.func222 Tryz.ntmps222 rfl rfl (SF.s0 w) ?_
 simp only[bX]
 refine cO ?_;refine Fu ?_;refine Dd ?_
 refine fV [5,6,7,8,9,10,11,12,13,14,15,16,17,18,19] (λ y:Nat=>[(6,.int .i64 ((y:Nat):Int)),(5,.int .u64 ((hsN key y:Nat):Int))]) (λ y=>y<=key.size) (λ y=>key.size-y) (0) (Nat.zero_le _) ?_ (λ y f hx=>?_)
 ·repeat (first|exact bD _|refine aW (by exact rfl) ?_)
 dsimp only[gX,List.map,List.cons_append,List.nil_append]
 refine Cz ?_;refine mD ?_;refine wT ?_
 refine bB (λ c10=>?_) (λ c10=>?_)
 ·refine qB ?_;refine Ak ?_;refine oZ ?_;refine aT (gM (ym (s:=key) (i:=y) rf rf (by kernel_rfl) (by omega))) (λ x16=>?_);refine aC (U0 (k2:=.u8) rf (by kernel_rfl) (by exact wA rfl) ⟨bH _,by have:=eb key y;omega⟩) rfl ?_;refine aC (xz rf rf (Sn _ _) (by have:=eb key y;omega)) rfl ?_;refine aC (zt rf rf) rfl ?_;refine J1 ?_;refine fH ?_;refine uJ ?_
  refine eI (y+1) ?_ ?_ ?_
  ·omega
  ·repeat' (first|exact bD _|refine aW ?_ ?_)
   all_goals (exact rfl)
  ·omega
 ·refine bM rfl ?_;refine iU ?_;refine aC (xk rf rf (Sn _ _) hm) rfl ?_;refine J1 ?_
  refine aS Tryz.results222 (λ w hw=>?_)
  have hy:y=key.size:=by omega
  subst hy
  exact⟨rfl,hw.done⟩
theorem nL(key:ByteArray)(w:World):Calls Tryz.prog 208 #[.string key] w λ e w'=>e=.returned (.bool (decide (key.size<=64)))/\St w [] [] w':=by
 refine enter Tryz.func208 Tryz.ntmps208 rfl rfl (SF.s0 w) ?_
 simp only[bX]
 refine cO ?_;refine J2 ?_;refine mD ?_;refine Ao ?_;refine J1 ?_
 refine aS Tryz.results208 (λ w hw=>?_)
 exact⟨by rw[show decide (key.size<=64)=decide ((key.size:Int)<=64) from decide_eq_decide.2 (by omega)];rfl,hw.done⟩
theorem gU(f:Bool)(v:Int)(w:World):Calls Tryz.prog 223 #[.bool f,.int .u64 v] w λ e w'=>e=.returned (.agg ⟨(Rs.mk 0 f v ⟨#[]⟩ 0 0 0 false).cells⟩)/\St w [] [] w':=by
 refine enter Tryz.func223 Tryz.ntmps223 rfl rfl (SF.s0 w) ?_
 simp only[bX]
 refine J0 ?_;refine aJ (λ x4=>?_);refine aH ?_;refine iU ?_;refine wG ?_
 refine bC Tryz.results223 (λ w hw=>?_)
 exact⟨rfl,hw.done⟩
end

/- Executions of the reference: FIND. -/
end Go.Proofs.YtbajmaoegmbfgaaGreat
namespace Go.Ct
section
open Go Go.RowKit
theorem Nx.ch{g:Gx}{x X:XS}{N:List aP}{t:Tr}{b:Int}(h:Nx g x X N t b):Ch x X (aM N):=⟨N,h.ext,λ _ hf=>.inr hf⟩
theorem mY{a b:List aP}:∀f∈aM (a++b),f.2=[]∨f∈aM b++aM a:=λ f hf=>by
 rw[dB] at hf
 rcases List.mem_append.1 hf with h|h
 ·exact .inr (List.mem_append_right _ h)
 ·exact .inr (List.mem_append_left _ h)
theorem XS.Ok.ysl{x:XS}(h:x.Ok)(r:Int):(aB x.L r).ys.length<=1099511627775:=by
 have h1:=h.lL
 unfold aB
 split
 ·have:=h.ys _ (eV (L:=x.L) (k:=(r-1).toNat) (by omega));omega
 ·exact Nat.zero_le _
theorem tP{g:Gx}{x:XS}{o:Option Int}{T:Tr}{B:Int->Tr}(h:gC g x (match o with|none=>T|some b=>B b))(hs:o.isSome=true):gC g x (B (o.getD 0)):=by
 cases o with
 | none=>cases hs
 | some b=>exact h
theorem Mo{g:Gx}{x:XS}{o:Option Int}{T:Tr}{B:Int->Tr}(h:gC g x (match o with|none=>T|some b=>B b))(hs:o.isSome=false):gC g x T:=by
 cases o with
 | none=>exact h
 | some b=>cases hs
theorem gC.jN{g:Gx}{x:XS}{n:Nat}{T:Nat->Tr}(h:gC g x (T n))(hs:x.st=false)(h0:T 0=.stuck)(hg:g.Ok):∃f,n=f+1/\gC g x (T (f+1)):=by
 cases n with
 | zero=>rw[h0] at h;exact((h.run hs).Ye hg).elim
 | succ f=>exact⟨f,rfl,h⟩
end
end Go.Ct
namespace Go.Proofs.YtbajmaoegmbfgaaGreat
section
open Go Go.RowKit Go.Ct
theorem nG{key:ByteArray}{mask:Int}{m:Nat}(e:mask=(m:Int))(hm:m<18446744073709551616)(hk:key.size<=64)(w:World):Calls Tryz.prog 222 #[.string key,.int .u64 mask] w λ e w'=>e=.returned (.int .u64 ((lY key m:Nat):Int))/\St w [] [] w':=by
 subst e
 exact Xb key hm (by omega) w
theorem Li{v:aP}{n:Nat}{w:World}(k:ByteArray)(hr:rH w v.nd v.xs v.ys)(hy:v.ys.length<=1099511627775):Calls Tryz.prog 60 #[.slice v.nd.prA v.nd.prN v.nd.cR,.string k] w λ e w'=>e=.returned (.tuple #[.int .u64 ((dO v.c.ys k).getD 0),.bool (dO v.c.ys k).isSome])/\St w [] [] w':=by
 rw[hr.prN]
 exact Jm k hr.pr hy
section
variable{k:Cl}{bx bm:Nat}{x:XS}{dn:Bool}{rs:Rs}{D:List Nat}{A:Fr}{w:World}{g:Gx}
set_option maxRecDepth 100000 in
theorem xg(hg:g.Ok){m:Nat}(K:Rs->Tr)(n:Nat)(hn:n<=1073741824)(hm:m<18446744073709551616)(em:k.mask=(m:Int))(ek:k.key.size<=64)(ht:k.t.root<=9223372036854775807)(hA:∀f∈aM x.L,f∈A)(go:gC g x (yS k.t λ i=>Cs k.t (lY k.key m) k.key K n i 0))(ok:x.Ok)(hs:SF w D (xH k bx bm x dn rs) A [] (xW x) w):Calls Tryz.prog 183 #[.pointer (some ⟨bx,0,none⟩)] w λ e w'=>∃q:Rs×XS×List aP,e=.returned (.agg ⟨q.1.cells⟩)/\Nx g x q.2.1 q.2.2 (K q.1) 0/\SF w D (xH k bx bm q.2.1 dn rs) [] (aM q.2.2) (xW q.2.1) w':=by
 refine enter Tryz.func183 Tryz.ntmps183 rfl rfl (bW hs) ?_
 simp only[bX]
 refine J0 ?_;refine aJ (λ x2=>?_);refine Ra ?_
 refine eF [3,4,13,14,15,16,17,18,19,20,21,22,23,24,25,26,27,28] (λ j:Nat=>[(3,.pointer (some ⟨j,0,none⟩)),(4,.int .u64 ((lY k.key m:Nat):Int))]) (λ _=>True) (λ j=>[(j,.cells ⟨[.int .i64 k.t.root,.bool k.t.ro]⟩ 29 (0,0)),(x2,.cells ⟨Rs.zero.cells⟩ 64 (0,0)),(bx,xO k bm x dn rs),(bm,xM x)]) (λ _=>[]) (λ _=>xW x) (by decide) (λ _=>by exact rfl) ?_ (λ j f hx=>?_)
 ·refine fW (.one 0 [] (.one 1 [] (.one 2 [] (.one 3 [] (.one 4 [] (.one 5 [] (.one 6 [] (.one 7 [] (.one 8 [] (.one 9 [] (.one 10 [] (.one 11 [] (.one 12 [] (.one 13 [] (.one 14 [] (.two 15 [4] (.one 16 [4,9,14] (.one 17 [] (.one 18 [] .nil))) 0 [] (.two 16 [4,9,14] (.one 15 [4] (.one 17 [] (.one 18 [] .nil))) 0 [] .nil))))))))))))))))) ?_
  refine J9 ?_;refine aR ?_;refine bQ (i:=4) (hq:=(aQ (k:=2) (vs:=[.int .i64 k.t.root,.bool k.t.ro]) rf cQ eA rfl rfl)) (h:=?_);refine xX ?_;refine xX ?_
  refine gK (E:=[15,16]) (by decide +kernel) ((.cons ?_ (.cons ?_ .nil)))
  ·refine Ke (i:=15) (hq:=(cV (hc:=λ w1 hw=>nG em hm ek w1))) (hfire:=(λ _=>by(refine aK.cons (by exact fI (hq:=aQ (k:=2) (vs:=[.int .i64 k.t.root,.bool k.t.ro]) rf cQ eA rfl rfl)) ?_;exact aK.nil))) (h:=λ x28=>?_)
   refine gI (hfire:=(λ _=>by((repeat (first|exact aK.nil|refine aK.cons (by first|exact fI (hq:=aQ (k:=2) (vs:=[.int .i64 k.t.root,.bool k.t.ro]) rf cQ eA rfl rfl)|exact eX) ?_));done))) (h:=λ x3=>?_);refine Bh ?_
   refine eW (x3) ?_
   ·trivial
  ·refine gG (i:=16) (hfire:=(λ _=>by((repeat (first|exact aK.nil|refine aK.cons (by first|exact fI (hq:=aQ (k:=2) (vs:=[.int .i64 k.t.root,.bool k.t.ro]) rf cQ eA rfl rfl)|exact eX) ?_));done))) (h:=λ x3=>?_)
   refine cH (i:=15) (hq:=(cV (hc:=λ w1 hw=>nG em hm ek w1))) (hfire:=(λ _=>by(refine aK.cons (by exact fI (hq:=aQ (k:=2) (vs:=[.int .i64 k.t.root,.bool k.t.ro]) rf cQ eA rfl rfl)) ?_;exact aK.nil))) (h:=λ x28=>?_);refine Bh ?_
   refine eW (x3) ?_
   ·trivial
 dsimp only[gX,List.map,List.cons_append,List.nil_append]
 refine J2 ?_;refine bN ?_;refine aD (cM (hs:=xH k bx bm x dn rs) (os:=xW x) (hc:=λ w hs=>Bp hg k.t _ ht go ok hs)) (λ x31 h31=>?_);refine hZ ?_;refine Dd ?_
 refine mV [5,6,7,8,9,10,11,12,32,33,34,35,36,37,38,39,40,41,42,43,44,45,46,47,48,49,50,51,52,53,54,55,56,57,58,59,60,61,62,63,64,65,66,67,68,69,70,71,72,73,74,75,76,77,78,79,80,81,82,83,84,85,86,87,88,89,90,91,92,93,94,95,96,97,98,99,100,101,102,103,104,105,106,107,108,109,110,111,112] (λ y:Nat×Int×XS×List aP=>[(5,.int .i64 y.2.1),(6,.int .i64 ((n-y.1:Nat):Int))]) (λ y=>y.1<=n/\Nx g x y.2.2.1 y.2.2.2 (Cs k.t (lY k.key m) k.key K y.1 y.2.1 ((n-y.1:Nat):Int)) y.2.1) (λ y=>[(j,.cells ⟨[.int .i64 k.t.root,.bool k.t.ro]⟩ 29 (0,0)),(x2,.cells ⟨Rs.zero.cells⟩ 64 (0,0)),(bx,xO k bm y.2.2.1 dn rs),(bm,xM y.2.2.1)]) (λ y=>aM y.2.2.2) (λ y=>xW y.2.2.1) (λ y=>y.1) ((n,x31.1,x31.2.1,x31.2.2)) (⟨Nat.le_refl n,by rw[Nat.sub_self];exact h31⟩) (λ y f hx=>?_) (hw0:=λ w hw=>by rw[List.append_nil] at hw;exact hw)
 dsimp only[gX,List.map,List.cons_append,List.nil_append]
 refine aV ?_;refine lR ?_;refine oE ?_
 refine bB (λ c36=>?_) (λ c36=>?_)
 ·obtain⟨f,hf,gx⟩:=gC.jN (T:=λ z=>Cs k.t (lY k.key m) k.key K z y.2.1 ((n-y.1:Nat):Int)) hx.2.go (by simpa using c36) rfl hg
  have hyl:=hx.1
  refine qB ?_;refine iU ?_;refine bN ?_;refine aA ?_;refine aD (cM (hs:=xH k bx bm y.2.2.1 dn rs) (os:=xW y.2.2.1) (hc:=λ w hs=>oJ hg k.t y.2.1 _ ht hx.2.bd gx hx.2.ok hs)) (λ x43 h43=>?_)
  have hch:=Ch.nx h43 hx.2.ch
  have hlc:x.cs.length<=x43.2.1.cs.length:=by have:=h43.lc;have:=hx.2.lc;omega
  refine aD (cM (hs:=xH k bx bm x43.2.1 dn rs) (os:=xW x43.2.1) (hc:=λ w hs=>cG x43.1 _ h43.bd h43.go h43.ok hs)) (λ x44 h44=>?_);refine aJ (λ x7=>?_);refine J5 ?_;refine Df ?_;refine aH ?_;refine cP ?_;refine lQ ?_
  refine bB (λ c47=>?_) (λ c47=>?_)
  ·have g1:=h44.1.to (λ _=>if_pos c47)
   refine aV ?_;refine aV ?_;refine gF [0,1,2,3,4,5,6,7] ?_;refine kJ ?_;refine xX ?_;refine ua ?_;refine dW ?_
   refine bB (λ c56=>?_) (λ c56=>?_)
   ·refine hX ?_;refine aT (cV (hc:=λ w1 hw=>gU _ _ w1)) (λ x59=>?_);refine J5 ?_
    refine bC Tryz.results183 (λ w hw=>?_)
    obtain⟨N,hN,hf⟩:=hch.to (t':=K (jI true (aB x43.2.1.L x43.1).nd.val)) h43 (g1.to (λ _=>if_pos (by assumption))) hlc (bH _)
    exact⟨(jI true (aB x43.2.1.L x43.1).nd.val,x43.2.1,N),rfl,hN,(hw.eY hf).aU (hF:=by exact aX.all)⟩
   ·refine bA ?_;refine J0 ?_;refine aT (cV (hc:=λ w1 hw=>gU _ _ w1)) (λ x60=>?_);refine J5 ?_
    refine bC Tryz.results183 (λ w hw=>?_)
    obtain⟨N,hN,hf⟩:=hch.to (t':=K (jI false 0)) h43 (g1.to (λ _=>if_neg (by assumption))) hlc (bH _)
    exact⟨(jI false 0,x43.2.1,N),rfl,hN,(hw.eY hf).aU (hF:=by exact aX.all)⟩
  ·have g1:=h44.1.to (λ _=>if_neg c47)
   refine lQ ?_
   refine bB (λ c61=>?_) (λ c61=>?_)
   ·have g2:=g1.to (λ _=>if_pos c61)
    refine aV ?_;refine gF [0,1,2,3,4,5,6,7,8,9,10,11,12] ?_;refine kJ ?_;refine xX ?_;refine cH (i:=7) (hq:=(cV (hc:=λ w1 hw=>Li (v:=aB x43.2.1.L x43.1) (n:=0) k.key (hw.Zu hch hA h43.ok x43.1) (h43.ok.ysl _)))) (h:=λ x71=>?_);refine aN ?_;refine cC (i:=9) (hq:=(bO rf rfl)) (h:=?_);refine cC (i:=10) (hq:=(bO rf rfl)) (h:=?_);refine Q5 ?_;refine iU ?_;refine aT (cV (hc:=λ w1 hw=>gU _ _ w1)) (λ x76=>?_);refine J5 ?_
    refine bC Tryz.results183 (λ w hw=>?_)
    obtain⟨N,hN,hf⟩:=hch.to (t':=K (jI (dO (aB x43.2.1.L x43.1).c.ys k.key).isSome ((dO (aB x43.2.1.L x43.1).c.ys k.key).getD 0))) h43 (g2) hlc (bH _)
    exact⟨(jI (dO (aB x43.2.1.L x43.1).c.ys k.key).isSome ((dO (aB x43.2.1.L x43.1).c.ys k.key).getD 0),x43.2.1,N),rfl,hN,(hw.eY hf).aU (hF:=by exact aX.all)⟩
   ·have g2:=g1.to (λ _=>if_neg c61)
    refine nT ?_;refine aV ?_;refine dI [(0,[]),(1,[]),(2,[]),(3,[0]),(4,[]),(5,[]),(6,[]),(7,[]),(8,[]),(9,[])] ?_;refine bG ?_;refine iH ?_;refine cH (i:=3) (hq:=(cV (hc:=λ w1 hw=>fG (tF k.key m) ((n-y.1:Nat):Int) w1))) (h:=λ x81=>?_);refine cH (i:=4) (hq:=(cV (hc:=λ w1 hw=>I9 (v:=aB x43.2.1.L x43.1) h44.2 (hJ (lY k.key m) ((n-y.1:Nat):Int)) (hw.Zu hch hA h43.ok x43.1)))) (h:=λ x82=>?_);refine aN ?_;refine cC (i:=6) (hq:=(bO rf rfl)) (h:=?_);refine cC (i:=7) (hq:=(bO rf rfl)) (h:=?_);refine Q5 ?_;refine aV ?_;refine lR ?_;refine aA ?_
    (refine dZ 89 (λ g89=>?_) (λ g89=>?_)<;>(first|refine aI ?_|(refine aF ?_;refine aA ?_)))
    all_goals (refine Nk ?_;refine aH ?_)
    all_goals
    refine bB (λ c92=>?_) (λ c92=>?_)
    ·all_goals (refine J0 ?_;refine aT (cV (hc:=λ w1 hw=>gU _ _ w1)) (λ x93=>?_);refine J5 ?_)
     all_goals
      refine bC Tryz.results183 (λ w hw=>?_)
      obtain⟨N,hN,hf⟩:=hch.to (t':=K (jI false 0)) h43 (by first|exact g2.bS (by assumption)|exact Mo g2 (by assumption)) hlc (bH _)
      exact⟨(jI false 0,x43.2.1,N),rfl,hN,(hw.eY hf).aU (hF:=by exact aX.all)⟩
    ·try exact nv c92
     all_goals (refine jY ?_;refine iU ?_;refine aD (cM (hs:=xH k bx bm x43.2.1 dn rs) (os:=xW x43.2.1) (hc:=λ w hs=>cG ((lZ (aB x43.2.1.L x43.1).c (hJ (lY k.key m) ((n-y.1:Nat):Int))).getD 0) _ (pQ h44.2 _) (tP g2 (by assumption)) h43.ok hs)) (λ x96 h96=>?_);refine aJ (λ x12=>?_);refine J5 ?_;refine hX ?_;refine uB ?_)
     all_goals
      refine bB (λ c99=>?_) (λ c99=>?_)
      ·refine aV ?_;refine aV ?_;refine gF [0,1,2,3,4,5,6,7] ?_;refine kJ ?_;refine xX ?_;refine ua ?_;refine dW ?_
       refine bB (λ c107=>?_) (λ c107=>?_)
       ·refine hX ?_;refine aT (cV (hc:=λ w1 hw=>gU _ _ w1)) (λ x110=>?_);refine J5 ?_
        refine bC Tryz.results183 (λ w hw=>?_)
        obtain⟨N,hN,hf⟩:=hch.to (t':=K (jI true (aB x43.2.1.L ((lZ (aB x43.2.1.L x43.1).c (hJ (lY k.key m) ((n-y.1:Nat):Int))).getD 0)).nd.val)) h43 ((h96.1.to (λ _=>if_pos c99)).to (λ _=>if_pos (by assumption))) hlc (bH _)
        exact⟨(jI true (aB x43.2.1.L ((lZ (aB x43.2.1.L x43.1).c (hJ (lY k.key m) ((n-y.1:Nat):Int))).getD 0)).nd.val,x43.2.1,N),rfl,hN,(hw.eY hf).aU (hF:=by exact aX.all)⟩
       ·refine bA ?_;refine J0 ?_;refine aT (cV (hc:=λ w1 hw=>gU _ _ w1)) (λ x111=>?_);refine J5 ?_
        refine bC Tryz.results183 (λ w hw=>?_)
        obtain⟨N,hN,hf⟩:=hch.to (t':=K (jI false 0)) h43 ((h96.1.to (λ _=>if_pos c99)).to (λ _=>if_neg (by assumption))) hlc (bH _)
        exact⟨(jI false 0,x43.2.1,N),rfl,hN,(hw.eY hf).aU (hF:=by exact aX.all)⟩
      ·refine bA ?_;refine Ak ?_;refine J1 ?_;refine fH ?_;refine uJ ?_
       refine iP ((y.1-1,((lZ (aB x43.2.1.L x43.1).c (hJ (lY k.key m) ((n-y.1:Nat):Int))).getD 0),x43.2.1,y.2.2.2++x43.2.2)) ?_ (hw1:=λ w hw=>(hw.eY mY).back (hF:=by exact aX.all))
       ·have e1:y.1-1=f:=by omega
        have e2:((n-y.1:Nat):Int)+1=((n-f:Nat):Int):=by omega
        refine⟨by show y.1-1<=n;omega,(hx.2.trans h43).cE ?_ (pQ h44.2 _)⟩
        show gC g x43.2.1 (Cs k.t (lY k.key m) k.key K (y.1-1) ((lZ (aB x43.2.1.L x43.1).c (hJ (lY k.key m) ((n-y.1:Nat):Int))).getD 0) ((n-(y.1-1):Nat):Int))
        rw[e1,<- e2]
        exact h96.1.to (λ _=>if_neg c99)
 ·refine bM rfl ?_;refine J0 ?_;refine wG ?_
  refine bC Tryz.results183 (λ w hw=>?_)
  obtain⟨N,hN,hf⟩:=hx.2.ch.to (t':=K (Rs.zero)) hx.2 (hx.2.go.bS (by simpa using c36)) hx.2.lc (bH _)
  exact⟨(Rs.zero,y.2.2.1,N),rfl,hN,(hw.eY hf).aU (hF:=by exact aX.all)⟩
end
end

end Go.Proofs.YtbajmaoegmbfgaaGreat

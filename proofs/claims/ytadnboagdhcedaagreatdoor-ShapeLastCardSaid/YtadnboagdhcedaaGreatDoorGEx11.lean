/- Executions of the reference: RENEW, CLEAN. -/
import Derived.Test.YtadnboagdhcedaaGreatDoorGEx9
import Derived.Test.YtadnboagdhcedaaGreatDoorGArS
import Derived.Test.YtadnboagdhcedaaGreatDoorGGa

set_option linter.unusedSimpArgs false
set_option linter.unusedVariables false
namespace Go.Proofs.YtadnboagdhcedaaGreatDoor
section
open Go Go.RowKit Go.Ct
theorem dZ{h:Nat}(hh:h<18446744073709551616)(level:Int)(w:World):Calls Tryz.prog 79 #[.int .u64 (h:Int),.int .i64 level] w λ e w'=>e=.returned (.int .i64 (fM h level))/\St w [] [] w':=by
 by_cases hl:level<0∨10<level
 ·unfold fM
  rw[if_pos hl]
  refine enter Tryz.func79 Tryz.ntmps79 rfl rfl (SF.s0 w) ?_
  simp only[cR]
  refine Ka7 ?_;refine Gq ?_
  (refine eR 7 (λ g7=>?_) (λ g7=>?_)<;>refine Ka1 ?_)
  all_goals (refine Kc1 ?_)
  all_goals
  refine aZ (λ c10=>?_) (λ c10=>?_)
  ·all_goals try (exfalso;omega)
   all_goals refine cN ?_
   all_goals
    refine aN Tryz.results79 (λ w hw=>?_)
    exact⟨rfl,hw.done⟩
  ·try exact nv c10
   all_goals try (exfalso;omega)
 ·unfold fM
  rw[if_neg hl]
  exact Av (l:=level.toNat) (by omega) hh (by omega) w
section
variable{m c:Nat}{o:Option (Nat×List Int)}{w:World}
abbrev z9(o:Option (Nat×List Int))(x:Option Addr×Nat)(level:Int)(s:Nd):Bool:=M5 (kW o x) (kE o) [] level s
abbrev Lc(o:Option (Nat×List Int))(x:Option Addr×Nat)(level:Int)(s:Nd):Nd:=j4 (z9 o x level s) (kW o x) s
abbrev Sb(o:Option (Nat×List Int))(x:Option Addr×Nat)(level:Int)(s:Nd):List Int:=Z2 (z9 o x level s) (kE o)
theorem bg{α:Type}(t:Bool):Z2 t ([]:List α)=[]:=by unfold Z2;split<;>rfl
theorem Jw(h:tR m o)(x:Option Addr×Nat):∃b:Nat,(kW o x).bm=(b:Int)/\b<18446744073709551616:=by
 cases o with
 | none=>exact⟨0,rfl,by decide⟩
 | some q=>exact⟨q.1,rfl,(h.out q rfl).1⟩
theorem Lg(h:tR m o){x:Option Addr×Nat}(hc:Go.Ct.Cl w x.1 (aG (kE o))):pT w (kW o x) (kE o) []:=by
 refine⟨Be _ _,Bn _ _,?_,?_,by have:=h.len;omega,by decide⟩
 ·cases o with
  | none=>exact Cl.nil _ _
  | some q=>exact hc
 ·exact Cl.nil _ _
theorem Py(h:tR m o){x:Option Addr×Nat}(level:Int)(s:Nd)(hc:Go.Ct.Cl w x.1 (aG (kE o))):Calls Tryz.prog 119 #[(kW o x).v,.int .i64 level,s.v] w λ e w'=>e=.returned (Lc o x level s).v/\St w [] [] w':=by
 obtain⟨b,h1,h2⟩:=Jw h x
 exact A7 (n:=kW o x) level s h1 h2 (Lg h hc)
theorem kx(x:Option Addr×Nat)(level:Int)(s:Nd):oy (Er o) level (s.c [] [])=(Lc o x level s).c (Sb o x level s) []:=by
 have:=(zg (n:=kW o x) (s:=s) (xs:=kE o) (ys:=[]) level).symm
 rw[Dd,bg] at this
 exact this
theorem W0(x:Option Addr×Nat)(level:Int)(s:Nd):(Lc o x level s).brN=(Sb o x level s).length:=by
 unfold Lc j4 Sb Z2
 split
 ·rfl
 ·exact Be _ _
theorem Vg(x:Option Addr×Nat)(level:Int)(s:Nd):(Lc o x level s).prN=([]:List Pr).length:=by
 unfold Lc j4
 split
 ·rfl
 ·exact Bn _ _
theorem Rv(h:tR m o)(x:Option Addr×Nat)(level:Int)(s:Nd):(Sb o x level s).length<=274877906944:=by
 unfold Sb Z2
 split
 ·exact Nat.zero_le _
 ·exact h.len
theorem Pa(h:tR m o)(x:Option Addr×Nat)(level:Int){s:Nd}(hh:∃b:Nat,s.hash=(b:Int)/\b<18446744073709551616):nE m c {(Lc o x level s).c (Sb o x level s) [] with main:=0,prev:=0,status:=0}:=by
 unfold Lc j4 Sb Z2
 split
 ·exact⟨bE _,bE _,bE _,(λ r hr=>nomatch hr),bE _,bE _,bE _,⟨0,rfl,by decide⟩,hh⟩
 ·exact h.ym x
theorem ko{A F:Fr}{O:List Ow}{x:Option Addr×Nat}{level:Int}{s:Nd}:bT A ((x.1,aG (kE o))::F) O [((Lc o x level s).brA,aG (Sb o x level s)),((Lc o x level s).prA,cZ [])]:=by
 unfold Lc j4 Sb Z2
 split
 ·exact .cons (.inl rfl) (.cons (.inl rfl) .nil)
 ·exact Od
end
theorem Uu(n:Nd):(Eb n).brN=([]:List Int).length/\(Eb n).prN=([]:List Pr).length:=by unfold Eb;split<;>exact⟨rfl,rfl⟩
theorem Jf{n:Nd}(h:∃b:Nat,n.hash=(b:Int)/\b<18446744073709551616):∃b:Nat,(Eb n).hash=(b:Int)/\b<18446744073709551616:=by
 unfold Eb
 split
 ·exact h
 ·exact⟨0,rfl,by decide⟩
theorem nq{n:Nd}{m c:Nat}(h:∃b:Nat,n.hash=(b:Int)/\b<18446744073709551616):nE m c {(Eb n).c [] [] with main:=0,prev:=0,status:=0}:=by
 have h2:=Jf h
 revert h2
 unfold Eb
 split<;>exact λ h2=>⟨bE _,bE _,bE _,(λ r hr=>nomatch hr),bE _,bE _,bE _,⟨0,rfl,by decide⟩,h2⟩
theorem ui{v:aK}{n c:Nat}(h:nE n c v.c){i r:Int}:Np v.c i r=Er (Me v i r):=(v5 (dW h).1 i r).symm
theorem wj{v:aK}{n c:Nat}(h:nE n c v.c){i:Int}:I9 v.c i=Er (Vz v i):=(uk (dW h).1 i).symm
theorem mw{o:Option Int}{c:Int}(h1:o.isSome=true)(h2:o.getD 0=c):o=some c:=by
 cases o with
 | none=>cases h1
 | some v=>exact congrArg some h2
theorem ew{o:Option Int}{c:Int}(h1:o.isSome=false):¬o=some c:=λ h=>by rw[h] at h1;cases h1
theorem Z4{o:Option Int}{c:Int}(h1:o.getD 0≠c):¬o=some c:=λ h=>by rw[h] at h1;exact h1 rfl
section
variable{k:Cl}{bx bm:Nat}{x:XS}{dn:Bool}{rs:Rs}{D:List Nat}{A:Fr}{w:World}{g:Gx}
theorem dj(hg:g.Ok)(t:eQ)(i c index:Int)(K:Int->Tr)(ht:t.root<=9223372036854775807)(hi:i<=x.L.length)(hc:c<=x.L.length)(hA:∀f∈aY x.L,f∈A)(go:eU g x (Gw t i c index K))(ok:x.Ok)(hs:SF w D (xH k bx bm x dn rs) A [] (xW x) w):Calls Tryz.prog 86 #[.pointer (some ⟨bx,0,none⟩),Jc t,.int .i64 i,.int .i64 c,.int .i64 index] w λ e w'=>∃q:Int×XS×List aK,e=.returned (.int .i64 q.1)/\Nx g x q.2.1 q.2.2 (K q.1) q.1/\SF w D (xH k bx bm q.2.1 dn rs) [] (aY q.2.2) (xW q.2.1) w':=by
 refine enter Tryz.func86 Tryz.ntmps86 rfl rfl (cA hs) ?_
 simp only[cR]
 simp only[Jc]
 refine J0 ?_;refine bP (λ x6=>?_);refine tZ ?_;refine aC (cM (hs:=xH k bx bm x dn rs) (os:=xW x) (hc:=λ w hs=>cB c _ hc go ok hs)) (λ x18 h18=>?_);refine aB ?_;refine aR (cV (hc:=λ w1 hw=>F2 (v:=aA x.L c) (ok.nv c) index (ok.pU hw hA c))) (λ x20=>?_);refine aB ?_;refine aE (bI rf rfl) rfl ?_;refine aE (bI rf rfl) rfl ?_;refine J8 ?_;refine Ka9 ?_;refine aB ?_;refine aC (cM (hs:=xH k bx bm x dn rs) (os:=xW x) (hc:=λ w hs=>mQ hg t ((jF (aA x.L c).c index).getD 0) _ ht (oB (ok.nv c) index) h18.1 ok hs)) (λ x26 h26=>?_);refine tZ ?_;refine aB ?_;refine aC (cM (hs:=xH k bx bm x26.2.1 dn rs) (os:=xW x26.2.1) (hc:=λ w hs=>cB i _ (by have:=h26.len;omega) h26.go h26.ok hs)) (λ x30 h30=>?_);refine cE ?_;refine bD ?_;refine aB ?_;refine aC (cM (hs:=xH k bx bm x26.2.1 dn rs) (os:=xW x26.2.1) (A0:=[(none,aG []),(none,cZ [])]) (hc:=λ w hs=>fJ hg (n:={Nd.zero with kind:=2,gen:=(aA x26.2.1.L i).nd.gen}) (xs:=[]) (ys:=[]) x26.1 _ rfl rfl (by decide) (Nat.zero_le _) pC h26.bd h30.1 h26.ok hs)) (λ x34 h34=>?_)
 have hch:=Ch.nx h34 ((Ch.base (F:=[])).nx h26)
 refine gK ?_;refine aS ?_;refine eD [(0,[]),(1,[]),(2,[]),(3,[]),(4,[]),(5,[]),(6,[]),(7,[]),(8,[1]),(9,[])] ?_;refine Kb5 ?_;refine gM ?_;refine gM ?_;refine gM ?_;refine bS (i:=8) (hq:=(cM (hs:=xH k bx bm x34.2.1 dn rs) (os:=xW x34.2.1) (A0:=aY x34.2.1.L) (hA:=Ch.all hch hA) (hc:=λ w hs=>yS hg c index x34.1 _ (by have:=h26.len;have:=h34.len;omega) h34.bd (λ f hf=>hf) h34.go h34.ok hs))) (h:=λ x43 h43=>?_);refine bS (i:=9) (hq:=(cM (hs:=xH k bx bm x43.2.1 dn rs) (os:=xW x43.2.1) (hc:=λ w hs=>rC hg t i c x43.1 _ ht (by have:=h26.len;have:=h34.len;have:=h43.len;omega) h43.bd h43.go h43.ok hs))) (h:=λ x44 h44=>?_)
 have hch2:=Ch.nx h44 (Ch.nx h43 hch)
 have hlc:x.cs.length<=x44.2.1.cs.length:=by have:=h26.lc;have:=h34.lc;have:=h43.lc;have:=h44.lc;omega
 refine dV ?_
 refine aZ (λ c44=>?_) (λ c44=>?_)
 ·refine Ka6 ?_
  refine aN Tryz.results86 (λ w hw=>?_)
  obtain⟨N,hN,hf⟩:=hch2.to h44 (h44.go.to (t':=K x34.1) (λ _=>by rw[if_pos (by assumption)])) hlc (show x34.1<=_ by have:=h34.bd;have:=h43.len;have:=h44.len;omega)
  exact⟨(x34.1,x44.2.1,N),rfl,hN,(hw.eG hf).z7⟩
 ·refine bA ?_;refine cN ?_
  refine aN Tryz.results86 (λ w hw=>?_)
  obtain⟨N,hN,hf⟩:=hch2.to h44 (h44.go.to (t':=K 0) (λ _=>by rw[if_neg (by simp only[Bool.not_eq_true];assumption)])) hlc (show(0:Int)<=_ from bE _)
  exact⟨(0,x44.2.1,N),rfl,hN,(hw.eG hf).z7⟩
end
end

/- Executions of the reference: CLEAN. -/
section
open Go Go.RowKit Go.Ct
section
variable{k:Cl}{bx bm:Nat}{x:XS}{dn:Bool}{rs:Rs}{D:List Nat}{A:Fr}{w:World}{g:Gx}
theorem Is(hg:g.Ok)(t:eQ)(p c:Int){h:Nat}(hh:h<18446744073709551616)(level:Int)(K:Bool->Tr)(ht:t.root<=9223372036854775807)(hp:p<=x.L.length)(hc:c<=x.L.length)(hA:∀f∈aY x.L,f∈A)(go:eU g x (vP t p c h level K))(ok:x.Ok)(hs:SF w D (xH k bx bm x dn rs) A [] (xW x) w):Calls Tryz.prog 87 #[.pointer (some ⟨bx,0,none⟩),Jc t,.int .i64 p,.int .i64 c,.int .u64 (h:Int),.int .i64 level] w λ e w'=>∃q:Bool×XS×List aK,e=.returned (.bool q.1)/\Nx g x q.2.1 q.2.2 (K q.1) 0/\SF w D (xH k bx bm q.2.1 dn rs) [] (aY q.2.2) (xW q.2.1) w':=by
  refine enter Tryz.func87 Tryz.ntmps87 rfl rfl (cA hs) ?_
  simp only[cR]
  simp only[Jc]
  refine J0 ?_;refine bP (λ x7=>?_);refine Ka4 ?_;refine bK ?_;refine aB ?_;refine aC (cM (hs:=xH k bx bm x dn rs) (os:=xW x) (hc:=λ w hs=>mQ hg t p _ ht hp go ok hs)) (λ x25 h25=>?_)
  have hch:=(Ch.base (F:=[])).nx h25
  have hl25:=h25.len
  refine tZ ?_;refine aR (cV (hc:=λ w1 hw=>dZ hh level w1)) (λ x28=>?_);refine gK ?_;refine iF ?_;refine aC (cM (hs:=xH k bx bm x25.2.1 dn rs) (os:=xW x25.2.1) (hc:=λ w hs=>cB x25.1 _ h25.bd h25.go h25.ok hs)) (λ x32 h32=>?_);refine aB ?_;refine aR (cV (hc:=λ w1 hw=>F2 (v:=aA x25.2.1.L x25.1) h32.2 (fM h level) (hw.Yh hch hA h25.ok x25.1))) (λ x34=>?_);refine aB ?_;refine aE (bI rf rfl) rfl ?_;refine aE (bI rf rfl) rfl ?_;refine J8 ?_;refine mV ?_;refine aB ?_
  (refine eR 41 (λ g41=>?_) (λ g41=>?_)<;>refine Ka1 ?_)
  all_goals (refine Qx ?_;refine aB ?_)
  all_goals (first|refine aH ?_|(refine eR 45 (λ g45=>?_) (λ g45=>?_)<;>refine Ka1 ?_))
  all_goals (refine Ka1 ?_;refine S8 ?_;refine aI ?_)
  all_goals
   refine aZ (λ c49=>?_) (λ c49=>?_)
   · all_goals refine cN ?_
     all_goals
      refine aN Tryz.results87 (λ w hw=>?_)
      obtain⟨N,hN,hf⟩:=hch.to (t':=K false) h25 (by first|exact h32.1.bO (by assumption)|exact h32.1.to (λ _=>if_neg (ew (by assumption)))|exact h32.1.to (λ _=>if_neg (Z4 (by assumption)))) h25.lc (bE _)
      exact⟨(false,x25.2.1,N),rfl,hN,(hw.eG hf).z7⟩
   · try exact nv c49
     all_goals
      have g1:=h32.1.to (λ _=>if_pos (mw (by assumption) (by assumption)))
     all_goals (refine yT ?_;refine bK ?_;refine aB ?_;refine aC (cM (hs:=xH k bx bm x25.2.1 dn rs) (os:=xW x25.2.1) (hc:=λ w hs=>mQ hg t c _ ht (by omega) g1 h25.ok hs)) (λ x55 h55=>?_))
     all_goals
      have hch2:=Ch.nx h55 hch
      have hl55:=h55.len
     all_goals (refine aC (cM (hs:=xH k bx bm x55.2.1 dn rs) (os:=xW x55.2.1) (hc:=λ w hs=>cB x55.1 _ h55.bd h55.go h55.ok hs)) (λ x56 h56=>?_);refine aR (cV (hc:=λ w1 hw=>Ev (aA x55.2.1.L x55.1).nd w1)) (λ x57=>?_);refine aB ?_;refine aE (bI rf rfl) rfl ?_;refine aE (bI rf rfl) rfl ?_;refine aP (λ x17=>?_);refine lN (λ _=>?_);refine gK ?_;refine mV ?_;refine aB ?_)
     all_goals ((refine eR 64 (λ g64=>?_) (λ g64=>?_)<;>refine Ka1 ?_))
     all_goals (refine Qx ?_;refine aI ?_)
     all_goals
      refine aZ (λ c67=>?_) (λ c67=>?_)
      · all_goals refine cN ?_
        all_goals
         refine aN Tryz.results87 (λ w hw=>?_)
         obtain⟨N,hN,hf⟩:=hch2.to (t':=K false) h55 (by first|exact h56.1.bO (by assumption)|exact h56.1.to (λ _=>if_neg (show ¬(aA x55.2.1.L x55.1).c.kind=5 from by assumption))) (by have:=h25.lc;have:=h55.lc;omega) (bE _)
         exact⟨(false,x55.2.1,N),rfl,hN,(hw.eG hf).z7⟩
      · try exact nv c67
        all_goals
         have g2:=h56.1.to (λ _=>if_pos (show(aA x55.2.1.L x55.1).c.kind=5 from by assumption))
        all_goals (refine bA ?_;refine Ka9 ?_;refine aC (cM (hs:=xH k bx bm x55.2.1 dn rs) (os:=xW x55.2.1) (A0:=[((Eb (aA x55.2.1.L x55.1).nd).brA,aG []),((Eb (aA x55.2.1.L x55.1).nd).prA,cZ [])]) (hA:=.cons (.inl rfl) (.cons (.inl rfl) .nil)) (hc:=λ w hs=>fJ hg (n:=Eb (aA x55.2.1.L x55.1).nd) (xs:=[]) (ys:=[]) 0 _ (Uu _).1 (Uu _).2 (by decide) (Nat.zero_le _) (nq h56.2.hash) (bE _) (by rw[wi (xs:=(aA x55.2.1.L x55.1).xs) (ys:=(aA x55.2.1.L x55.1).ys)];exact g2) h55.ok hs)) (λ x70 h70=>?_))
        all_goals
         have hch3:=Ch.nx h70 hch2
         have hl70:=h70.len
         have hb25:=h25.bd
        all_goals (refine tZ ?_;refine aC (cM (hs:=xH k bx bm x70.2.1 dn rs) (os:=xW x70.2.1) (hc:=λ w hs=>cB x25.1 _ (by omega) h70.go h70.ok hs)) (λ x74 h74=>?_);refine nB ?_;refine aC (cF (hc:=λ w1 hw=>lh (v:=aA x70.2.1.L x25.1) h74.2 (fM h level) x70.1 (hw.Yh hch3 hA h70.ok x25.1))) (λ x77 h77=>?_))
        all_goals
         have hB:=X5 h74.2 h70.bd (fM h level)
         have hch4:=hch3.cons (f:=(x77.1,aG (kE (Me (aA x70.2.1.L x25.1) (fM h level) x70.1))))
        all_goals (refine aB ?_;refine aE (bI rf rfl) rfl ?_;refine aE (bI rf rfl) rfl ?_;refine aP (λ x20=>?_);refine lN (λ _=>?_);refine gK ?_;refine eD [(0,[]),(1,[]),(2,[]),(3,[]),(4,[]),(5,[]),(6,[]),(7,[]),(9,[]),(8,[1]),(10,[1]),(11,[]),(12,[])] ?_;refine Kb5 ?_;refine gM ?_;refine Kb5 ?_;refine Kb5 ?_;refine aT ?_;refine dG (i:=8) (hq:=(cV (hc:=λ w1 hw=>Py hB level (Eb (aA x55.2.1.L x55.1).nd) (hw.cl (.new .head))))) (h:=λ x88=>?_);refine bS (i:=10) (hq:=(cM (hs:=xH k bx bm x70.2.1 dn rs) (os:=xW x70.2.1) (A0:=[((Lc (Me (aA x70.2.1.L x25.1) (fM h level) x70.1) x77 level (Eb (aA x55.2.1.L x55.1).nd)).brA,aG (Sb (Me (aA x70.2.1.L x25.1) (fM h level) x70.1) x77 level (Eb (aA x55.2.1.L x55.1).nd))),((Lc (Me (aA x70.2.1.L x25.1) (fM h level) x70.1) x77 level (Eb (aA x55.2.1.L x55.1).nd)).prA,cZ [])]) (hA:=ko) (hc:=λ w hs=>fJ hg (n:=Lc (Me (aA x70.2.1.L x25.1) (fM h level) x70.1) x77 level (Eb (aA x55.2.1.L x55.1).nd)) (xs:=Sb (Me (aA x70.2.1.L x25.1) (fM h level) x70.1) x77 level (Eb (aA x55.2.1.L x55.1).nd)) (ys:=[]) x25.1 _ (W0 _ _ _) (Vg _ _ _) (Rv hB _ _ _) (Nat.zero_le _) (Pa hB _ _ (Jf h56.2.hash)) (by omega) (by rw[<- kx,<- ui h74.2,wi (xs:=(aA x55.2.1.L x55.1).xs) (ys:=(aA x55.2.1.L x55.1).ys)];exact h74.1) h70.ok hs))) (h:=λ x90 h90=>?_);refine bS (i:=11) (hq:=(cM (hs:=xH k bx bm x90.2.1 dn rs) (os:=xW x90.2.1) (hc:=λ w hs=>rC hg t p x25.1 x90.1 _ ht (by have:=h90.len;omega) (by have:=h90.bd;omega) h90.go h90.ok hs))) (h:=λ x91 h91=>?_))
        all_goals
         have hch5:=Ch.nx h91 (Ch.nx h90 hch4)
         have hlc:x.cs.length<=x91.2.1.cs.length:=by have:=h25.lc;have:=h55.lc;have:=h70.lc;have:=h90.lc;have:=h91.lc;omega
        all_goals refine J7 ?_
        all_goals
         refine aN Tryz.results87 (λ w hw=>?_)
         obtain⟨N,hN,hf⟩:=hch5.to (t':=K x91.1) h91 h91.go hlc (bE _)
         exact⟨(x91.1,x91.2.1,N),rfl,hN,(hw.eG hf).z7⟩
end
end

/- Hash values of keys. -/
end Go.Proofs.YtadnboagdhcedaaGreatDoor
namespace Go.Ct
section
open Go Go.RowKit
def we(s:ByteArray)(i:Nat):Nat:=(s.data.getD i 0).toNat
theorem Hb(s:ByteArray)(i:Nat):we s i<256:=(s.data.getD i 0).toNat_lt
def vl(s:ByteArray):Nat->Nat
 | 0=>14695981039346656037
 | i+1=>((vl s i ^^^ we s i)*1099511628211)%18446744073709551616
theorem D9(s:ByteArray):∀i,vl s i<18446744073709551616
 | 0=>by show 14695981039346656037<18446744073709551616;decide
 | _+1=>Nat.mod_lt _ (by decide)
def jP(s:ByteArray)(m:Nat):Nat:=vl s s.size &&& m
theorem pV(s:ByteArray)(m:Nat):jP s m<18446744073709551616:=Nat.lt_of_le_of_lt Nat.and_le_left (D9 s _)
section
variable{P:Program}{S:List (Nat×Value)}{G:World->Prop}{d:Nat}{ty t t':TypeId}{pos:String}{af:Array Edge}{gd:Option (Nat×Bool)}{x y:Operand}{a b i:Nat}{s:ByteArray}
theorem Yj(hx:ev S x=.string s)(hy:ev S y=.int .i64 (i:Int))(ht:P.underlying t=some .string)(h:i<s.size):aJ P S G ⟨some d,.index t x y,ty,pos,af,gd⟩ (.int .u8 (we s i:Int)):=⟨λ w _=>by
 have e:(s[((i:Nat):Int).toNat]'(by simpa using h)).toNat=we s i:=by
  unfold we
  rw[Array.getD_eq_getD_getElem?,Array.getElem?_eq_getElem (by simpa using h)]
  rfl
 simp only[execOp,hx,hy,Sem.run_bind]
 rw[run_index_string w t s .i64 i ht,dif_pos ⟨bE _,by omega⟩,e]
 rfl⟩
theorem Uo(hx:ev S x=.int .u64 (a:Int))(hy:ev S y=.int .u64 (b:Int))(ha:a<18446744073709551616)(hb:b<18446744073709551616):aJ P S G ⟨some d,.binOp .xor t x y t',ty,pos,af,gd⟩ (.int .u64 ((a ^^^ b:Nat):Int)):=by
 have:=ue (P:=P) (G:=G) (d:=d) (ty:=ty) (pos:=pos) (af:=af) (gd:=gd) (t:=t) (t':=t') hx hy
 rwa [Zq ha hb] at this
theorem Xh(hx:ev S x=.int .u64 (a:Int))(hy:ev S y=.int .u64 (b:Int)):aJ P S G ⟨some d,.binOp .mul t x y t',ty,pos,af,gd⟩ (.int .u64 ((a*b%18446744073709551616:Nat):Int)):=by
 have:=W6 (P:=P) (G:=G) (d:=d) (ty:=ty) (pos:=pos) (af:=af) (gd:=gd) (t:=t) (t':=t') hx hy
 have e:IntKind.u64.wrap ((a:Int)*(b:Int))=((a*b%18446744073709551616:Nat):Int):=by
  rw[<- Int.natCast_mul,wrap_u64]
  generalize a*b=q
  omega
 rwa [e] at this
end
end
end Go.Ct
namespace Go.Proofs.YtadnboagdhcedaaGreatDoor
section
open Go Go.RowKit Go.Ct
theorem Tw(key:ByteArray){m:Nat}(hm:m<18446744073709551616)(hk:key.size<=4611686018427387903)(w:World):Calls Tryz.prog 63 #[.string key,.int .u64 (m:Int)] w λ e w'=>e=.returned (.int .u64 ((jP key m:Nat):Int))/\St w [] [] w':=by
 refine enter Tryz.func63 Tryz.ntmps63 rfl rfl (SF.s0 w) ?_
 simp only[cR]
 refine cN ?_;refine Jb ?_;refine K5 ?_
 refine eS [5,6,7,8,9,10,11,12,13,14,15,16,17,18,19] (λ y:Nat=>[(6,.int .i64 ((y:Nat):Int)),(5,.int .u64 ((vl key y:Nat):Int))]) (λ y=>y<=key.size) (λ y=>key.size-y) (0) (Nat.zero_le _) ?_ (λ y f hx=>?_)
 ·repeat (first|exact bB _|refine aW (by exact rfl) ?_)
 dsimp only[gG,List.map,List.cons_append,List.nil_append]
 refine Gi ?_;refine jJ ?_;refine vR ?_
 refine aZ (λ c10=>?_) (λ c10=>?_)
 ·refine oW ?_;refine yB ?_;refine nB ?_;refine aR (eY (Yj (s:=key) (i:=y) rf rf (by kernel_rfl) (by omega))) (λ x16=>?_);refine aE (Hg (k2:=.u8) rf (by kernel_rfl) (by exact qC rfl) ⟨bE _,by have:=Hb key y;omega⟩) rfl ?_;refine aE (Uo rf rf (D9 _ _) (by have:=Hb key y;omega)) rfl ?_;refine aE (Xh rf rf) rfl ?_;refine J1 ?_;refine eV ?_;refine Ba ?_
  refine dJ (y+1) ?_ ?_ ?_
  ·omega
  ·repeat' (first|exact bB _|refine aW ?_ ?_)
   all_goals (exact rfl)
  ·omega
 ·refine bG rfl ?_;refine iF ?_;refine aE (My rf rf (D9 _ _) hm) rfl ?_;refine J1 ?_
  refine aN Tryz.results63 (λ w hw=>?_)
  have hy:y=key.size:=by omega
  subst hy
  exact⟨rfl,hw.done⟩
theorem lT(key:ByteArray)(w:World):Calls Tryz.prog 107 #[.string key] w λ e w'=>e=.returned (.bool (decide (key.size<=64)))/\St w [] [] w':=by
 refine enter Tryz.func107 Tryz.ntmps107 rfl rfl (SF.s0 w) ?_
 simp only[cR]
 refine cN ?_;refine J2 ?_;refine jJ ?_;refine Ao ?_;refine J1 ?_
 refine aN Tryz.results107 (λ w hw=>?_)
 exact⟨by rw[show decide (key.size<=64)=decide ((key.size:Int)<=64) from decide_eq_decide.2 (by omega)];rfl,hw.done⟩
theorem fF(f:Bool)(v:Int)(w:World):Calls Tryz.prog 120 #[.bool f,.int .u64 v] w λ e w'=>e=.returned (.agg ⟨(Rs.mk 0 f v ⟨#[]⟩ 0 0 0 false).cells⟩)/\St w [] [] w':=by
 refine enter Tryz.func120 Tryz.ntmps120 rfl rfl (SF.s0 w) ?_
 simp only[cR]
 refine J0 ?_;refine aP (λ x4=>?_);refine aI ?_;refine iF ?_;refine yH ?_
 refine bJ Tryz.results120 (λ w hw=>?_)
 exact⟨rfl,hw.done⟩
end

/- Executions of the reference: FIND. -/
end Go.Proofs.YtadnboagdhcedaaGreatDoor
namespace Go.Ct
section
open Go Go.RowKit
theorem Nx.ch{g:Gx}{x X:XS}{N:List aK}{t:Tr}{b:Int}(h:Nx g x X N t b):Ch x X (aY N):=⟨N,h.ext,λ _ hf=>.inr hf⟩
theorem lB{a b:List aK}:∀f∈aY (a++b),f.2=[]∨f∈aY b++aY a:=λ f hf=>by
 rw[dL] at hf
 rcases List.mem_append.1 hf with h|h
 ·exact .inr (List.mem_append_right _ h)
 ·exact .inr (List.mem_append_left _ h)
theorem XS.Ok.zp{x:XS}(h:x.Ok)(r:Int):(aA x.L r).ys.length<=1099511627775:=by
 have h1:=h.lL
 unfold aA
 split
 ·have:=h.ys _ (eN (L:=x.L) (k:=(r-1).toNat) (by omega));omega
 ·exact Nat.zero_le _
theorem qU{g:Gx}{x:XS}{o:Option Int}{T:Tr}{B:Int->Tr}(h:eU g x (match o with|none=>T|some b=>B b))(hs:o.isSome=true):eU g x (B (o.getD 0)):=by
 cases o with
 | none=>cases hs
 | some b=>exact h
theorem I5{g:Gx}{x:XS}{o:Option Int}{T:Tr}{B:Int->Tr}(h:eU g x (match o with|none=>T|some b=>B b))(hs:o.isSome=false):eU g x T:=by
 cases o with
 | none=>exact h
 | some b=>cases hs
theorem eU.iN{g:Gx}{x:XS}{n:Nat}{T:Nat->Tr}(h:eU g x (T n))(hs:x.st=false)(h0:T 0=.stuck)(hg:g.Ok):∃f,n=f+1/\eU g x (T (f+1)):=by
 cases n with
 | zero=>rw[h0] at h;exact((h.run hs).Sa hg).elim
 | succ f=>exact⟨f,rfl,h⟩
end
end Go.Ct
namespace Go.Proofs.YtadnboagdhcedaaGreatDoor
section
open Go Go.RowKit Go.Ct
theorem lK{key:ByteArray}{mask:Int}{m:Nat}(e:mask=(m:Int))(hm:m<18446744073709551616)(hk:key.size<=64)(w:World):Calls Tryz.prog 63 #[.string key,.int .u64 mask] w λ e w'=>e=.returned (.int .u64 ((jP key m:Nat):Int))/\St w [] [] w':=by
 subst e
 exact Tw key hm (by omega) w
theorem Hw{v:aK}{n:Nat}{w:World}(k:ByteArray)(hr:pT w v.nd v.xs v.ys)(hy:v.ys.length<=1099511627775):Calls Tryz.prog 121 #[.slice v.nd.prA v.nd.prN v.nd.cZ,.string k] w λ e w'=>e=.returned (.tuple #[.int .u64 ((dA v.c.ys k).getD 0),.bool (dA v.c.ys k).isSome])/\St w [] [] w':=by
 rw[hr.prN]
 exact Fv k hr.pr hy
section
variable{k:Cl}{bx bm:Nat}{x:XS}{dn:Bool}{rs:Rs}{D:List Nat}{A:Fr}{w:World}{g:Gx}
set_option maxRecDepth 100000 in
theorem sm(hg:g.Ok){m:Nat}(K:Rs->Tr)(n:Nat)(hn:n<=1073741824)(hm:m<18446744073709551616)(em:k.mask=(m:Int))(ek:k.key.size<=64)(ht:k.t.root<=9223372036854775807)(hA:∀f∈aY x.L,f∈A)(go:eU g x (rH k.t λ i=>Ae k.t (jP k.key m) k.key K n i 0))(ok:x.Ok)(hs:SF w D (xH k bx bm x dn rs) A [] (xW x) w):Calls Tryz.prog 88 #[.pointer (some ⟨bx,0,none⟩)] w λ e w'=>∃q:Rs×XS×List aK,e=.returned (.agg ⟨q.1.cells⟩)/\Nx g x q.2.1 q.2.2 (K q.1) 0/\SF w D (xH k bx bm q.2.1 dn rs) [] (aY q.2.2) (xW q.2.1) w':=by
 refine enter Tryz.func88 Tryz.ntmps88 rfl rfl (cA hs) ?_
 simp only[cR]
 refine J0 ?_;refine aP (λ x2=>?_);refine Xs ?_
 refine eL [3,4,13,14,15,16,17,18,19,20,21,22,23,24,25,26,27,28] (λ j:Nat=>[(3,.pointer (some ⟨j,0,none⟩)),(4,.int .u64 ((jP k.key m:Nat):Int))]) (λ _=>True) (λ j=>[(j,.cells ⟨[.int .i64 k.t.root,.bool k.t.ro]⟩ 29 (0,0)),(x2,.cells ⟨Rs.zero.cells⟩ 68 (0,0)),(bx,xO k bm x dn rs),(bm,xM x)]) (λ _=>[]) (λ _=>xW x) (by decide) (λ _=>by exact rfl) ?_ (λ j f hx=>?_)
 ·refine gV (.one 0 [] (.one 1 [] (.one 2 [] (.one 3 [] (.one 4 [] (.one 5 [] (.one 6 [] (.one 7 [] (.one 8 [] (.one 9 [] (.one 10 [] (.one 11 [] (.one 12 [] (.one 13 [] (.one 14 [] (.two 15 [4] (.one 16 [4,9,14] (.one 17 [] (.one 18 [] .nil))) 0 [] (.two 16 [4,9,14] (.one 15 [4] (.one 17 [] (.one 18 [] .nil))) 0 [] .nil))))))))))))))))) ?_
  refine J9 ?_;refine aQ ?_;refine bM (i:=4) (hq:=(aL (k:=2) (vs:=[.int .i64 k.t.root,.bool k.t.ro]) rf fN gX rfl rfl)) (h:=?_);refine tA ?_;refine tA ?_
  refine kH (E:=[15,16]) (by decide +kernel) ((.cons ?_ (.cons ?_ .nil)))
  ·refine Lk (i:=15) (hq:=(cV (hc:=λ w1 hw=>lK em hm ek w1))) (hfire:=(λ _=>by(refine aM.cons (by exact eI (hq:=aL (k:=2) (vs:=[.int .i64 k.t.root,.bool k.t.ro]) rf fN gX rfl rfl)) ?_;exact aM.nil))) (h:=λ x28=>?_)
   refine fS (hfire:=(λ _=>by((repeat (first|exact aM.nil|refine aM.cons (by first|exact eI (hq:=aL (k:=2) (vs:=[.int .i64 k.t.root,.bool k.t.ro]) rf fN gX rfl rfl)|exact eT) ?_));done))) (h:=λ x3=>?_);refine zF ?_
   refine gA (x3) ?_
   ·trivial
  ·refine jL (i:=16) (hfire:=(λ _=>by((repeat (first|exact aM.nil|refine aM.cons (by first|exact eI (hq:=aL (k:=2) (vs:=[.int .i64 k.t.root,.bool k.t.ro]) rf fN gX rfl rfl)|exact eT) ?_));done))) (h:=λ x3=>?_)
   refine dG (i:=15) (hq:=(cV (hc:=λ w1 hw=>lK em hm ek w1))) (hfire:=(λ _=>by(refine aM.cons (by exact eI (hq:=aL (k:=2) (vs:=[.int .i64 k.t.root,.bool k.t.ro]) rf fN gX rfl rfl)) ?_;exact aM.nil))) (h:=λ x28=>?_);refine zF ?_
   refine gA (x3) ?_
   ·trivial
 dsimp only[gG,List.map,List.cons_append,List.nil_append]
 refine Ka9 ?_;refine aC (cM (hs:=xH k bx bm x dn rs) (os:=xW x) (hc:=λ w hs=>zN hg k.t _ ht go ok hs)) (λ x31 h31=>?_);refine gK ?_;refine K5 ?_
 refine mP [5,6,7,8,9,10,11,12,32,33,34,35,36,37,38,39,40,41,42,43,44,45,46,47,48,49,50,51,52,53,54,55,56,57,58,59,60,61,62,63,64,65,66,67,68,69,70,71,72,73,74,75,76,77,78,79,80,81,82,83,84,85,86,87,88,89,90,91,92,93,94,95,96,97,98,99,100,101,102,103,104,105,106,107,108,109,110,111,112] (λ y:Nat×Int×XS×List aK=>[(5,.int .i64 y.2.1),(6,.int .i64 ((n-y.1:Nat):Int))]) (λ y=>y.1<=n/\Nx g x y.2.2.1 y.2.2.2 (Ae k.t (jP k.key m) k.key K y.1 y.2.1 ((n-y.1:Nat):Int)) y.2.1) (λ y=>[(j,.cells ⟨[.int .i64 k.t.root,.bool k.t.ro]⟩ 29 (0,0)),(x2,.cells ⟨Rs.zero.cells⟩ 68 (0,0)),(bx,xO k bm y.2.2.1 dn rs),(bm,xM y.2.2.1)]) (λ y=>aY y.2.2.2) (λ y=>xW y.2.2.1) (λ y=>y.1) ((n,x31.1,x31.2.1,x31.2.2)) (⟨Nat.le_refl n,by rw[Nat.sub_self];exact h31⟩) (λ y f hx=>?_) (hw0:=λ w hw=>by rw[List.append_nil] at hw;exact hw)
 dsimp only[gG,List.map,List.cons_append,List.nil_append]
 refine aS ?_;refine mV ?_;refine lX ?_
 refine aZ (λ c36=>?_) (λ c36=>?_)
 ·obtain⟨f,hf,gx⟩:=eU.iN (T:=λ z=>Ae k.t (jP k.key m) k.key K z y.2.1 ((n-y.1:Nat):Int)) hx.2.go (by simpa using c36) rfl hg
  have hyl:=hx.1
  refine oW ?_;refine iF ?_;refine bK ?_;refine aB ?_;refine aC (cM (hs:=xH k bx bm y.2.2.1 dn rs) (os:=xW y.2.2.1) (hc:=λ w hs=>mQ hg k.t y.2.1 _ ht hx.2.bd gx hx.2.ok hs)) (λ x43 h43=>?_)
  have hch:=Ch.nx h43 hx.2.ch
  have hlc:x.cs.length<=x43.2.1.cs.length:=by have:=h43.lc;have:=hx.2.lc;omega
  refine aC (cM (hs:=xH k bx bm x43.2.1 dn rs) (os:=xW x43.2.1) (hc:=λ w hs=>cB x43.1 _ h43.bd h43.go h43.ok hs)) (λ x44 h44=>?_);refine aP (λ x7=>?_);refine J5 ?_;refine yU ?_;refine Kc2 ?_;refine iT ?_
  refine aZ (λ c47=>?_) (λ c47=>?_)
  ·have g1:=h44.1.to (λ _=>if_pos c47)
   refine aS ?_;refine aS ?_;refine gB [0,1,2,3,4,5,6,7] ?_;refine lR ?_;refine tA ?_;refine j9 ?_;refine dV ?_
   refine aZ (λ c56=>?_) (λ c56=>?_)
   ·refine gN ?_;refine aR (cV (hc:=λ w1 hw=>fF _ _ w1)) (λ x59=>?_);refine J5 ?_
    refine bJ Tryz.results88 (λ w hw=>?_)
    obtain⟨N,hN,hf⟩:=hch.to (t':=K (hZ true (aA x43.2.1.L x43.1).nd.val)) h43 (g1.to (λ _=>if_pos (by assumption))) hlc (bE _)
    exact⟨(hZ true (aA x43.2.1.L x43.1).nd.val,x43.2.1,N),rfl,hN,(hw.eG hf).z7⟩
   ·refine bA ?_;refine J0 ?_;refine aR (cV (hc:=λ w1 hw=>fF _ _ w1)) (λ x60=>?_);refine J5 ?_
    refine bJ Tryz.results88 (λ w hw=>?_)
    obtain⟨N,hN,hf⟩:=hch.to (t':=K (hZ false 0)) h43 (g1.to (λ _=>if_neg (by assumption))) hlc (bE _)
    exact⟨(hZ false 0,x43.2.1,N),rfl,hN,(hw.eG hf).z7⟩
  ·have g1:=h44.1.to (λ _=>if_neg c47)
   refine iT ?_
   refine aZ (λ c61=>?_) (λ c61=>?_)
   ·have g2:=g1.to (λ _=>if_pos c61)
    refine aS ?_;refine gB [0,1,2,3,4,5,6,7,8,9,10,11,12] ?_;refine lR ?_;refine tA ?_;refine dG (i:=7) (hq:=(cV (hc:=λ w1 hw=>Hw (v:=aA x43.2.1.L x43.1) (n:=0) k.key (hw.Yh hch hA h43.ok x43.1) (h43.ok.zp _)))) (h:=λ x71=>?_);refine aT ?_;refine cJ (i:=9) (hq:=(bI rf rfl)) (h:=?_);refine cJ (i:=10) (hq:=(bI rf rfl)) (h:=?_);refine de ?_;refine iF ?_;refine aR (cV (hc:=λ w1 hw=>fF _ _ w1)) (λ x76=>?_);refine J5 ?_
    refine bJ Tryz.results88 (λ w hw=>?_)
    obtain⟨N,hN,hf⟩:=hch.to (t':=K (hZ (dA (aA x43.2.1.L x43.1).c.ys k.key).isSome ((dA (aA x43.2.1.L x43.1).c.ys k.key).getD 0))) h43 (g2) hlc (bE _)
    exact⟨(hZ (dA (aA x43.2.1.L x43.1).c.ys k.key).isSome ((dA (aA x43.2.1.L x43.1).c.ys k.key).getD 0),x43.2.1,N),rfl,hN,(hw.eG hf).z7⟩
   ·have g2:=g1.to (λ _=>if_neg c61)
    refine lC ?_;refine aS ?_;refine eD [(0,[]),(1,[]),(2,[]),(3,[0]),(4,[]),(5,[]),(6,[]),(7,[]),(8,[]),(9,[])] ?_;refine bN ?_;refine gM ?_;refine dG (i:=3) (hq:=(cV (hc:=λ w1 hw=>dZ (pV k.key m) ((n-y.1:Nat):Int) w1))) (h:=λ x81=>?_);refine dG (i:=4) (hq:=(cV (hc:=λ w1 hw=>F2 (v:=aA x43.2.1.L x43.1) h44.2 (fM (jP k.key m) ((n-y.1:Nat):Int)) (hw.Yh hch hA h43.ok x43.1)))) (h:=λ x82=>?_);refine aT ?_;refine cJ (i:=6) (hq:=(bI rf rfl)) (h:=?_);refine cJ (i:=7) (hq:=(bI rf rfl)) (h:=?_);refine de ?_;refine aS ?_;refine mV ?_;refine aB ?_
    (refine eR 89 (λ g89=>?_) (λ g89=>?_)<;>refine Ka1 ?_)
    all_goals (refine Qx ?_;refine aI ?_)
    all_goals
    refine aZ (λ c92=>?_) (λ c92=>?_)
    ·all_goals (refine J0 ?_;refine aR (cV (hc:=λ w1 hw=>fF _ _ w1)) (λ x93=>?_);refine J5 ?_)
     all_goals
      refine bJ Tryz.results88 (λ w hw=>?_)
      obtain⟨N,hN,hf⟩:=hch.to (t':=K (hZ false 0)) h43 (by first|exact g2.bO (by assumption)|exact I5 g2 (by assumption)) hlc (bE _)
      exact⟨(hZ false 0,x43.2.1,N),rfl,hN,(hw.eG hf).z7⟩
    ·try exact nv c92
     all_goals (refine jD ?_;refine iF ?_;refine aC (cM (hs:=xH k bx bm x43.2.1 dn rs) (os:=xW x43.2.1) (hc:=λ w hs=>cB ((jF (aA x43.2.1.L x43.1).c (fM (jP k.key m) ((n-y.1:Nat):Int))).getD 0) _ (oB h44.2 _) (qU g2 (by assumption)) h43.ok hs)) (λ x96 h96=>?_);refine aP (λ x12=>?_);refine J5 ?_;refine gN ?_;refine rR ?_)
     all_goals
      refine aZ (λ c99=>?_) (λ c99=>?_)
      ·refine aS ?_;refine aS ?_;refine gB [0,1,2,3,4,5,6,7] ?_;refine lR ?_;refine tA ?_;refine j9 ?_;refine dV ?_
       refine aZ (λ c107=>?_) (λ c107=>?_)
       ·refine gN ?_;refine aR (cV (hc:=λ w1 hw=>fF _ _ w1)) (λ x110=>?_);refine J5 ?_
        refine bJ Tryz.results88 (λ w hw=>?_)
        obtain⟨N,hN,hf⟩:=hch.to (t':=K (hZ true (aA x43.2.1.L ((jF (aA x43.2.1.L x43.1).c (fM (jP k.key m) ((n-y.1:Nat):Int))).getD 0)).nd.val)) h43 ((h96.1.to (λ _=>if_pos c99)).to (λ _=>if_pos (by assumption))) hlc (bE _)
        exact⟨(hZ true (aA x43.2.1.L ((jF (aA x43.2.1.L x43.1).c (fM (jP k.key m) ((n-y.1:Nat):Int))).getD 0)).nd.val,x43.2.1,N),rfl,hN,(hw.eG hf).z7⟩
       ·refine bA ?_;refine J0 ?_;refine aR (cV (hc:=λ w1 hw=>fF _ _ w1)) (λ x111=>?_);refine J5 ?_
        refine bJ Tryz.results88 (λ w hw=>?_)
        obtain⟨N,hN,hf⟩:=hch.to (t':=K (hZ false 0)) h43 ((h96.1.to (λ _=>if_pos c99)).to (λ _=>if_neg (by assumption))) hlc (bE _)
        exact⟨(hZ false 0,x43.2.1,N),rfl,hN,(hw.eG hf).z7⟩
      ·refine bA ?_;refine yB ?_;refine J1 ?_;refine eV ?_;refine Ba ?_
       refine gI ((y.1-1,((jF (aA x43.2.1.L x43.1).c (fM (jP k.key m) ((n-y.1:Nat):Int))).getD 0),x43.2.1,y.2.2.2++x43.2.2)) ?_ (hw1:=λ w hw=>(hw.eG lB).v1)
       ·have e1:y.1-1=f:=by omega
        have e2:((n-y.1:Nat):Int)+1=((n-f:Nat):Int):=by omega
        refine⟨by show y.1-1<=n;omega,(hx.2.trans h43).cC ?_ (oB h44.2 _)⟩
        show eU g x43.2.1 (Ae k.t (jP k.key m) k.key K (y.1-1) ((jF (aA x43.2.1.L x43.1).c (fM (jP k.key m) ((n-y.1:Nat):Int))).getD 0) ((n-(y.1-1):Nat):Int))
        rw[e1,<- e2]
        exact h96.1.to (λ _=>if_neg c99)
 ·refine bG rfl ?_;refine J0 ?_;refine yH ?_
  refine bJ Tryz.results88 (λ w hw=>?_)
  obtain⟨N,hN,hf⟩:=hx.2.ch.to (t':=K (Rs.zero)) hx.2 (hx.2.go.bO (by simpa using c36)) hx.2.lc (bE _)
  exact⟨(Rs.zero,y.2.2.1,N),rfl,hN,(hw.eG hf).z7⟩
end
end

end Go.Proofs.YtadnboagdhcedaaGreatDoor

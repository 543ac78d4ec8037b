/- Executions of the reference: CLEAN. -/
import Derived.Test.YtadnboagdhcedaaGreatDoorGEx10
import Derived.Test.YtadnboagdhcedaaGreatDoorGHs

set_option linter.unusedSimpArgs false
set_option linter.unusedVariables false
namespace Go.Proofs.YtadnboagdhcedaaGreatDoor
section
open Go Go.RowKit Go.Ct
section
variable{k:Cl}{bx bm:Nat}{x:XS}{dn:Bool}{rs:Rs}{D:List Nat}{A:Fr}{w:World}{g:Gx}
theorem M1(hg:g.Ok)(t:iS)(p c:Int){h:Nat}(hh:h<18446744073709551616)(level:Int)(K:Bool->Tr)(ht:t.root<=9223372036854775807)(hp:p<=x.L.length)(hc:c<=x.L.length)(hA:∀f∈bD x.L,f∈A)(go:gS g x (zZ t p c h level K))(ok:x.Ok)(hs:SF w D (xH k bx bm x dn rs) A [] (xW x) w):Calls Tryz.prog 87 #[.pointer (some ⟨bx,0,none⟩),N3 t,.int .i64 p,.int .i64 c,.int .u64 (h:Int),.int .i64 level] w λ e w'=>∃q:Bool×XS×List aI,e=.returned (.bool q.1)/\Nx g x q.2.1 q.2.2 (K q.1) 0/\SF w D (xH k bx bm q.2.1 dn rs) [] (bD q.2.2) (xW q.2.1) w':=by
  refine enter Tryz.func87 Tryz.ntmps87 rfl rfl (cL hs) ?_;simp only[cP]
  simp only[N3]
  refine J0 ?_;refine bF (λ x7=>?_);refine Ka6 ?_;refine bI ?_;refine aB ?_;refine aD (cM (hs:=xH k bx bm x dn rs) (os:=xW x) (hc:=λ w hs=>oU hg t p _ ht hp go ok hs)) (λ x25 h25=>?_);have hch:=(Ch.base (F:=[])).nx h25;have hl25:=h25.len;refine vE ?_;refine aS (cV (hc:=λ w1 hw=>fF hh level w1)) (λ x28=>?_);refine gX ?_;refine jJ ?_;refine aD (cM (hs:=xH k bx bm x25.2.1 dn rs) (os:=xW x25.2.1) (hc:=λ w hs=>cW x25.1 _ h25.bd h25.go h25.ok hs)) (λ x32 h32=>?_);refine aB ?_;refine aS (cV (hc:=λ w1 hw=>I5 (v:=aA x25.2.1.L x25.1) h32.2 (iE h level) (hw.fp hch hA h25.ok x25.1))) (λ x34=>?_);refine K0d ?_;refine J8 ?_;refine oR ?_;refine aB ?_;(refine eM 41 (λ g41=>?_) (λ g41=>?_)<;>refine Ka0 ?_);all_goals (refine Nq ?_;refine aB ?_)
  all_goals (first|refine aJ ?_|(refine eM 45 (λ g45=>?_) (λ g45=>?_)<;>refine Ka0 ?_))
  all_goals (refine Ka0 ?_;refine Rq ?_;refine aK ?_)
  all_goals
   refine bA (λ c49=>?_) (λ c49=>?_)
   · all_goals refine cR ?_
     all_goals
      refine aR Tryz.results87 (λ w hw=>?_);obtain⟨N,hN,hf⟩:=hch.to (t':=K false) h25 (by first|exact h32.1.cB (by assumption)|exact h32.1.to (λ _=>if_neg (oh (by assumption)))|exact h32.1.to (λ _=>if_neg (se (by assumption)))) h25.lc (bT _)
      exact⟨(false,x25.2.1,N),rfl,hN,(hw.fN hf).zA0⟩
   · try exact nv c49
     all_goals
      have g1:=h32.1.to (λ _=>if_pos (zy (by assumption) (by assumption)))
     all_goals (refine Cg ?_;refine bI ?_;refine aB ?_;refine aD (cM (hs:=xH k bx bm x25.2.1 dn rs) (os:=xW x25.2.1) (hc:=λ w hs=>oU hg t c _ ht (by omega) g1 h25.ok hs)) (λ x55 h55=>?_))
     all_goals
      have hch2:=Ch.nx h55 hch;have hl55:=h55.len
     all_goals (refine aD (cM (hs:=xH k bx bm x55.2.1 dn rs) (os:=xW x55.2.1) (hc:=λ w hs=>cW x55.1 _ h55.bd h55.go h55.ok hs)) (λ x56 h56=>?_);refine aS (cV (hc:=λ w1 hw=>Io (aA x55.2.1.L x55.1).nd w1)) (λ x57=>?_);refine aB ?_;refine aE (bW rf rfl) rfl ?_;refine aE (bW rf rfl) rfl ?_;refine aT (λ x17=>?_);refine nY (λ _=>?_);refine gX ?_;refine oR ?_;refine aB ?_)
     all_goals ((refine eM 64 (λ g64=>?_) (λ g64=>?_)<;>refine Ka0 ?_))
     all_goals (refine Kd5 ?_)
     all_goals
      refine bA (λ c67=>?_) (λ c67=>?_)
      · all_goals refine cR ?_
        all_goals
         refine aR Tryz.results87 (λ w hw=>?_);obtain⟨N,hN,hf⟩:=hch2.to (t':=K false) h55 (by first|exact h56.1.cB (by assumption)|exact h56.1.to (λ _=>if_neg (show ¬(aA x55.2.1.L x55.1).c.kind=5 from by assumption))) (by have:=h25.lc;have:=h55.lc;omega) (bT _)
         exact⟨(false,x55.2.1,N),rfl,hN,(hw.fN hf).zA0⟩
      · try exact nv c67
        all_goals
         have g2:=h56.1.to (λ _=>if_pos (show(aA x55.2.1.L x55.1).c.kind=5 from by assumption))
        all_goals (refine Kb3 ?_;refine bI ?_;refine aD (cM (hs:=xH k bx bm x55.2.1 dn rs) (os:=xW x55.2.1) (A0:=[((Ft (aA x55.2.1.L x55.1).nd).brA,aH []),((Ft (aA x55.2.1.L x55.1).nd).prA,dK [])]) (hA:=.cons (.inl rfl) (.cons (.inl rfl) .nil)) (hc:=λ w hs=>iD hg (n:=Ft (aA x55.2.1.L x55.1).nd) (xs:=[]) (ys:=[]) 0 _ (lu _).1 (lu _).2 (by decide) (Nat.zero_le _) (z9 h56.2.hash) (bT _) (by rw[aA7 (xs:=(aA x55.2.1.L x55.1).xs) (ys:=(aA x55.2.1.L x55.1).ys)];exact g2) h55.ok hs)) (λ x70 h70=>?_))
        all_goals
         have hch3:=Ch.nx h70 hch2;have hl70:=h70.len;have hb25:=h25.bd
        all_goals (refine vE ?_;refine aD (cM (hs:=xH k bx bm x70.2.1 dn rs) (os:=xW x70.2.1) (hc:=λ w hs=>cW x25.1 _ (by omega) h70.go h70.ok hs)) (λ x74 h74=>?_);refine pK ?_;refine aD (cF (hc:=λ w1 hw=>ux (v:=aA x70.2.1.L x25.1) h74.2 (iE h level) x70.1 (hw.fp hch3 hA h70.ok x25.1))) (λ x77 h77=>?_))
        all_goals
         have hB:=mi h74.2 h70.bd (iE h level);have hch4:=hch3.cons (f:=(x77.1,aH (mK (Rn (aA x70.2.1.L x25.1) (iE h level) x70.1))))
        all_goals (refine aB ?_;refine aE (bW rf rfl) rfl ?_;refine aE (bW rf rfl) rfl ?_;refine aT (λ x20=>?_);refine nY (λ _=>?_);refine gX ?_;refine dZ [(0,[]),(1,[]),(2,[]),(3,[]),(4,[]),(5,[]),(6,[]),(7,[]),(9,[]),(8,[1]),(10,[1]),(11,[]),(12,[])] ?_;refine Kb7 ?_;refine iJ ?_;refine Kb7 ?_;refine Kb7 ?_;refine aL ?_;refine cA (i:=8) (hq:=(cV (hc:=λ w1 hw=>Vx hB level (Ft (aA x55.2.1.L x55.1).nd) (hw.cl (.new .head))))) (h:=λ x88=>?_);refine bL (i:=10) (hq:=(cM (hs:=xH k bx bm x70.2.1 dn rs) (os:=xW x70.2.1) (A0:=[((Of (Rn (aA x70.2.1.L x25.1) (iE h level) x70.1) x77 level (Ft (aA x55.2.1.L x55.1).nd)).brA,aH (Zh (Rn (aA x70.2.1.L x25.1) (iE h level) x70.1) x77 level (Ft (aA x55.2.1.L x55.1).nd))),((Of (Rn (aA x70.2.1.L x25.1) (iE h level) x70.1) x77 level (Ft (aA x55.2.1.L x55.1).nd)).prA,dK [])]) (hA:=u6) (hc:=λ w hs=>iD hg (n:=Of (Rn (aA x70.2.1.L x25.1) (iE h level) x70.1) x77 level (Ft (aA x55.2.1.L x55.1).nd)) (xs:=Zh (Rn (aA x70.2.1.L x25.1) (iE h level) x70.1) x77 level (Ft (aA x55.2.1.L x55.1).nd)) (ys:=[]) x25.1 _ (j7 _ _ _) (ah _ _ _) (U5 hB _ _ _) (Nat.zero_le _) (Wi hB _ _ (Qt h56.2.hash)) (by omega) (by rw[<- uq,<- aBV h74.2,aA7 (xs:=(aA x55.2.1.L x55.1).xs) (ys:=(aA x55.2.1.L x55.1).ys)];exact h74.1) h70.ok hs))) (h:=λ x90 h90=>?_);refine bL (i:=11) (hq:=(cM (hs:=xH k bx bm x90.2.1 dn rs) (os:=xW x90.2.1) (hc:=λ w hs=>tX hg t p x25.1 x90.1 _ ht (by have:=h90.len;omega) (by have:=h90.bd;omega) h90.go h90.ok hs))) (h:=λ x91 h91=>?_))
        all_goals
         have hch5:=Ch.nx h91 (Ch.nx h90 hch4);have hlc:x.cs.length<=x91.2.1.cs.length:=by have:=h25.lc;have:=h55.lc;have:=h70.lc;have:=h90.lc;have:=h91.lc;omega
        all_goals refine J7 ?_
        all_goals
         refine aR Tryz.results87 (λ w hw=>?_);obtain⟨N,hN,hf⟩:=hch5.to (t':=K x91.1) h91 h91.go hlc (bT _)
         exact⟨(x91.1,x91.2.1,N),rfl,hN,(hw.fN hf).zA0⟩
end
end

/- Executions of the reference: FIND. -/
end Go.Proofs.YtadnboagdhcedaaGreatDoor
namespace Go.Ct
section
open Go Go.RowKit
theorem Nx.ch{g:Gx}{x X:XS}{N:List aI}{t:Tr}{b:Int}(h:Nx g x X N t b):Ch x X (bD N):=⟨N,h.ext,λ _ hf=>.inr hf⟩
theorem nS{a b:List aI}:∀f∈bD (a++b),f.2=[]∨f∈bD b++bD a:=λ f hf=>by
 rw[fH] at hf
 rcases List.mem_append.1 hf with h|h
 ·exact .inr (List.mem_append_right _ h)
 ·exact .inr (List.mem_append_left _ h)
theorem XS.Ok.ysl{x:XS}(h:x.Ok)(r:Int):(aA x.L r).ys.length<=1099511627775:=by
 have h1:=h.lL;unfold aA;split
 ·have:=h.ys _ (eE (L:=x.L) (k:=(r-1).toNat) (by omega));omega
 ·exact Nat.zero_le _
theorem tT{g:Gx}{x:XS}{o:Option Int}{T:Tr}{B:Int->Tr}(h:gS g x (match o with|none=>T|some b=>B b))(hs:o.isSome=true):gS g x (B (o.getD 0)):=by
 cases o with
 | none=>cases hs
 | some b=>exact h
theorem K8{g:Gx}{x:XS}{o:Option Int}{T:Tr}{B:Int->Tr}(h:gS g x (match o with|none=>T|some b=>B b))(hs:o.isSome=false):gS g x T:=by
 cases o with
 | none=>exact h
 | some b=>cases hs
theorem gS.jY{g:Gx}{x:XS}{n:Nat}{T:Nat->Tr}(h:gS g x (T n))(hs:x.st=false)(h0:T 0=.stuck)(hg:g.Ok):∃f,n=f+1/\gS g x (T (f+1)):=by
 cases n with
 | zero=>rw[h0] at h;exact((h.run hs).Y2 hg).elim
 | succ f=>exact⟨f,rfl,h⟩
end
end Go.Ct
namespace Go.Proofs.YtadnboagdhcedaaGreatDoor
section
open Go Go.RowKit Go.Ct
theorem nU{key:ByteArray}{mask:Int}{m:Nat}(e:mask=(m:Int))(hm:m<18446744073709551616)(hk:key.size<=64)(w:World):Calls Tryz.prog 63 #[.string key,.int .u64 mask] w λ e w'=>e=.returned (.int .u64 ((jW key m:Nat):Int))/\St w [] [] w':=by
 subst e
 exact pM key hm (by omega) w
theorem Ni{v:aI}{n:Nat}{w:World}(k:ByteArray)(hr:qR w v.nd v.xs v.ys)(hy:v.ys.length<=1099511627775):Calls Tryz.prog 121 #[.slice v.nd.prA v.nd.prN v.nd.dK,.string k] w λ e w'=>e=.returned (.tuple #[.int .u64 ((eK v.c.ys k).getD 0),.bool (eK v.c.ys k).isSome])/\St w [] [] w':=by
 rw[hr.prN]
 exact Jf k hr.pr hy
section
variable{k:Cl}{bx bm:Nat}{x:XS}{dn:Bool}{rs:Rs}{D:List Nat}{A:Fr}{w:World}{g:Gx}
set_option maxRecDepth 100000 in
theorem yi(hg:g.Ok){m:Nat}(K:Rs->Tr)(n:Nat)(hn:n<=1073741824)(hm:m<18446744073709551616)(em:k.mask=(m:Int))(ek:k.key.size<=64)(ht:k.t.root<=9223372036854775807)(hA:∀f∈bD x.L,f∈A)(go:gS g x (zQ k.t λ i=>Dj k.t (jW k.key m) k.key K n i 0))(ok:x.Ok)(hs:SF w D (xH k bx bm x dn rs) A [] (xW x) w):Calls Tryz.prog 88 #[.pointer (some ⟨bx,0,none⟩)] w λ e w'=>∃q:Rs×XS×List aI,e=.returned (.agg ⟨q.1.cells⟩)/\Nx g x q.2.1 q.2.2 (K q.1) 0/\SF w D (xH k bx bm q.2.1 dn rs) [] (bD q.2.2) (xW q.2.1) w':=by
 refine enter Tryz.func88 Tryz.ntmps88 rfl rfl (cL hs) ?_;simp only[cP]
 refine J0 ?_;refine aT (λ x2=>?_);refine Vy ?_;refine eN [3,4,13,14,15,16,17,18,19,20,21,22,23,24,25,26,27,28] (λ j:Nat=>[(3,.pointer (some ⟨j,0,none⟩)),(4,.int .u64 ((jW k.key m:Nat):Int))]) (λ _=>True) (λ j=>[(j,.cells ⟨[.int .i64 k.t.root,.bool k.t.ro]⟩ 29 (0,0)),(x2,.cells ⟨Rs.zero.cells⟩ 68 (0,0)),(bx,xO k bm x dn rs),(bm,xM x)]) (λ _=>[]) (λ _=>xW x) (by decide) (λ _=>by exact rfl) ?_ (λ j f hx=>?_)
 ·refine K0k ?_;refine K0e ?_;refine fV (E:=[15,16]) (by decide +kernel) ((.cons ?_ (.cons ?_ .nil)))
  ·refine Ga (i:=15) (hq:=(cV (hc:=λ w1 hw=>nU em hm ek w1))) (hfire:=(λ _=>by(refine aG.cons (by exact cG (hq:=aW (k:=2) (vs:=[.int .i64 k.t.root,.bool k.t.ro]) rf dI dR rfl rfl)) ?_;exact aG.nil))) (h:=λ x28=>?_);refine gG (hfire:=(λ _=>by((repeat (first|exact aG.nil|refine aG.cons (by first|exact cG (hq:=aW (k:=2) (vs:=[.int .i64 k.t.root,.bool k.t.ro]) rf dI dR rfl rfl)|exact bY) ?_));done))) (h:=λ x3=>?_);refine Cv ?_;refine eQ (x3) ?_
   ·trivial
  ·refine gW (i:=16) (hfire:=(λ _=>by((repeat (first|exact aG.nil|refine aG.cons (by first|exact cG (hq:=aW (k:=2) (vs:=[.int .i64 k.t.root,.bool k.t.ro]) rf dI dR rfl rfl)|exact bY) ?_));done))) (h:=λ x3=>?_);refine cA (i:=15) (hq:=(cV (hc:=λ w1 hw=>nU em hm ek w1))) (hfire:=(λ _=>by(refine aG.cons (by exact cG (hq:=aW (k:=2) (vs:=[.int .i64 k.t.root,.bool k.t.ro]) rf dI dR rfl rfl)) ?_;exact aG.nil))) (h:=λ x28=>?_);refine Cv ?_;refine eQ (x3) ?_
   ·trivial
 refine K0a ?_;refine Kd2 ?_;refine aD (cM (hs:=xH k bx bm x dn rs) (os:=xW x) (hc:=λ w hs=>Cz hg k.t _ ht go ok hs)) (λ x31 h31=>?_);refine gX ?_;refine zR ?_;refine kK [5,6,7,8,9,10,11,12,32,33,34,35,36,37,38,39,40,41,42,43,44,45,46,47,48,49,50,51,52,53,54,55,56,57,58,59,60,61,62,63,64,65,66,67,68,69,70,71,72,73,74,75,76,77,78,79,80,81,82,83,84,85,86,87,88,89,90,91,92,93,94,95,96,97,98,99,100,101,102,103,104,105,106,107,108,109,110,111,112] (λ y:Nat×Int×XS×List aI=>[(5,.int .i64 y.2.1),(6,.int .i64 ((n-y.1:Nat):Int))]) (λ y=>y.1<=n/\Nx g x y.2.2.1 y.2.2.2 (Dj k.t (jW k.key m) k.key K y.1 y.2.1 ((n-y.1:Nat):Int)) y.2.1) (λ y=>[(j,.cells ⟨[.int .i64 k.t.root,.bool k.t.ro]⟩ 29 (0,0)),(x2,.cells ⟨Rs.zero.cells⟩ 68 (0,0)),(bx,xO k bm y.2.2.1 dn rs),(bm,xM y.2.2.1)]) (λ y=>bD y.2.2.2) (λ y=>xW y.2.2.1) (λ y=>y.1) ((n,x31.1,x31.2.1,x31.2.2)) (⟨Nat.le_refl n,by rw[Nat.sub_self];exact h31⟩) (λ y f hx=>?_) (hw0:=λ w hw=>by rw[List.append_nil] at hw;exact hw);refine K0a ?_;refine K2j ?_;refine bA (λ c36=>?_) (λ c36=>?_)
 ·obtain⟨f,hf,gx⟩:=gS.jY (T:=λ z=>Dj k.t (jW k.key m) k.key K z y.2.1 ((n-y.1:Nat):Int)) hx.2.go (by simpa using c36) rfl hg
  have hyl:=hx.1;refine mZ ?_;refine jJ ?_;refine bI ?_;refine aB ?_;refine aD (cM (hs:=xH k bx bm y.2.2.1 dn rs) (os:=xW y.2.2.1) (hc:=λ w hs=>oU hg k.t y.2.1 _ ht hx.2.bd gx hx.2.ok hs)) (λ x43 h43=>?_);have hch:=Ch.nx h43 hx.2.ch;have hlc:x.cs.length<=x43.2.1.cs.length:=by have:=h43.lc;have:=hx.2.lc;omega
  refine aD (cM (hs:=xH k bx bm x43.2.1 dn rs) (os:=xW x43.2.1) (hc:=λ w hs=>cW x43.1 _ h43.bd h43.go h43.ok hs)) (λ x44 h44=>?_);refine aT (λ x7=>?_);refine Ke6 ?_;refine Kd4 ?_;refine bA (λ c47=>?_) (λ c47=>?_)
  ·have g1:=h44.1.to (λ _=>if_pos c47);refine aV ?_;refine aV ?_;refine gP [0,1,2,3,4,5,6,7] ?_;refine iT ?_;refine wC ?_;refine uj ?_;refine dJ ?_;refine bA (λ c56=>?_) (λ c56=>?_)
   ·refine gH ?_;refine aS (cV (hc:=λ w1 hw=>hY _ _ w1)) (λ x59=>?_);refine J5 ?_;refine bK Tryz.results88 (λ w hw=>?_);obtain⟨N,hN,hf⟩:=hch.to (t':=K (jV true (aA x43.2.1.L x43.1).nd.val)) h43 (g1.to (λ _=>if_pos (by assumption))) hlc (bT _)
    exact⟨(jV true (aA x43.2.1.L x43.1).nd.val,x43.2.1,N),rfl,hN,(hw.fN hf).zA0⟩
   ·refine bB ?_;refine J0 ?_;refine aS (cV (hc:=λ w1 hw=>hY _ _ w1)) (λ x60=>?_);refine J5 ?_;refine bK Tryz.results88 (λ w hw=>?_);obtain⟨N,hN,hf⟩:=hch.to (t':=K (jV false 0)) h43 (g1.to (λ _=>if_neg (by assumption))) hlc (bT _)
    exact⟨(jV false 0,x43.2.1,N),rfl,hN,(hw.fN hf).zA0⟩
  ·have g1:=h44.1.to (λ _=>if_neg c47);refine jM ?_;refine bA (λ c61=>?_) (λ c61=>?_)
   ·have g2:=g1.to (λ _=>if_pos c61);refine aV ?_;refine gP [0,1,2,3,4,5,6,7,8,9,10,11,12] ?_;refine iT ?_;refine wC ?_;refine cA (i:=7) (hq:=(cV (hc:=λ w1 hw=>Ni (v:=aA x43.2.1.L x43.1) (n:=0) k.key (hw.fp hch hA h43.ok x43.1) (h43.ok.ysl _)))) (h:=λ x71=>?_);refine aL ?_;refine cS (i:=9) (hq:=(bW rf rfl)) (h:=?_);refine cS (i:=10) (hq:=(bW rf rfl)) (h:=?_);refine Sq ?_;refine jJ ?_;refine aS (cV (hc:=λ w1 hw=>hY _ _ w1)) (λ x76=>?_);refine J5 ?_;refine bK Tryz.results88 (λ w hw=>?_);obtain⟨N,hN,hf⟩:=hch.to (t':=K (jV (eK (aA x43.2.1.L x43.1).c.ys k.key).isSome ((eK (aA x43.2.1.L x43.1).c.ys k.key).getD 0))) h43 (g2) hlc (bT _)
    exact⟨(jV (eK (aA x43.2.1.L x43.1).c.ys k.key).isSome ((eK (aA x43.2.1.L x43.1).c.ys k.key).getD 0),x43.2.1,N),rfl,hN,(hw.fN hf).zA0⟩
   ·have g2:=g1.to (λ _=>if_neg c61);refine kN ?_;refine aV ?_;refine dZ [(0,[]),(1,[]),(2,[]),(3,[0]),(4,[]),(5,[]),(6,[]),(7,[]),(8,[]),(9,[])] ?_;refine aZ ?_;refine iJ ?_;refine cA (i:=3) (hq:=(cV (hc:=λ w1 hw=>fF (tK k.key m) ((n-y.1:Nat):Int) w1))) (h:=λ x81=>?_);refine cA (i:=4) (hq:=(cV (hc:=λ w1 hw=>I5 (v:=aA x43.2.1.L x43.1) h44.2 (iE (jW k.key m) ((n-y.1:Nat):Int)) (hw.fp hch hA h43.ok x43.1)))) (h:=λ x82=>?_);refine aL ?_;refine cS (i:=6) (hq:=(bW rf rfl)) (h:=?_);refine cS (i:=7) (hq:=(bW rf rfl)) (h:=?_);refine Sq ?_;refine aV ?_;refine oR ?_;refine aB ?_;(refine eM 89 (λ g89=>?_) (λ g89=>?_)<;>refine Ka0 ?_);all_goals (refine Kd5 ?_)
    all_goals
    refine bA (λ c92=>?_) (λ c92=>?_)
    ·all_goals (refine J0 ?_;refine aS (cV (hc:=λ w1 hw=>hY _ _ w1)) (λ x93=>?_);refine J5 ?_)
     all_goals
      refine bK Tryz.results88 (λ w hw=>?_);obtain⟨N,hN,hf⟩:=hch.to (t':=K (jV false 0)) h43 (by first|exact g2.cB (by assumption)|exact K8 g2 (by assumption)) hlc (bT _)
      exact⟨(jV false 0,x43.2.1,N),rfl,hN,(hw.fN hf).zA0⟩
    ·try exact nv c92
     all_goals (refine jH ?_;refine jJ ?_;refine aD (cM (hs:=xH k bx bm x43.2.1 dn rs) (os:=xW x43.2.1) (hc:=λ w hs=>cW ((mU (aA x43.2.1.L x43.1).c (iE (jW k.key m) ((n-y.1:Nat):Int))).getD 0) _ (qL h44.2 _) (tT g2 (by assumption)) h43.ok hs)) (λ x96 h96=>?_);refine aT (λ x12=>?_);refine J5 ?_;refine gH ?_;refine rW ?_)
     all_goals
      refine bA (λ c99=>?_) (λ c99=>?_)
      ·refine aV ?_;refine aV ?_;refine gP [0,1,2,3,4,5,6,7] ?_;refine iT ?_;refine wC ?_;refine uj ?_;refine dJ ?_;refine bA (λ c107=>?_) (λ c107=>?_)
       ·refine gH ?_;refine aS (cV (hc:=λ w1 hw=>hY _ _ w1)) (λ x110=>?_);refine J5 ?_;refine bK Tryz.results88 (λ w hw=>?_);obtain⟨N,hN,hf⟩:=hch.to (t':=K (jV true (aA x43.2.1.L ((mU (aA x43.2.1.L x43.1).c (iE (jW k.key m) ((n-y.1:Nat):Int))).getD 0)).nd.val)) h43 ((h96.1.to (λ _=>if_pos c99)).to (λ _=>if_pos (by assumption))) hlc (bT _)
        exact⟨(jV true (aA x43.2.1.L ((mU (aA x43.2.1.L x43.1).c (iE (jW k.key m) ((n-y.1:Nat):Int))).getD 0)).nd.val,x43.2.1,N),rfl,hN,(hw.fN hf).zA0⟩
       ·refine bB ?_;refine J0 ?_;refine aS (cV (hc:=λ w1 hw=>hY _ _ w1)) (λ x111=>?_);refine J5 ?_;refine bK Tryz.results88 (λ w hw=>?_);obtain⟨N,hN,hf⟩:=hch.to (t':=K (jV false 0)) h43 ((h96.1.to (λ _=>if_pos c99)).to (λ _=>if_neg (by assumption))) hlc (bT _)
        exact⟨(jV false 0,x43.2.1,N),rfl,hN,(hw.fN hf).zA0⟩
      ·refine bB ?_;refine zT ?_;refine J1 ?_;refine Kc2 ?_;refine gT ((y.1-1,((mU (aA x43.2.1.L x43.1).c (iE (jW k.key m) ((n-y.1:Nat):Int))).getD 0),x43.2.1,y.2.2.2++x43.2.2)) ?_ (hw1:=λ w hw=>(hw.fN nS).zA1)
       ·have e1:y.1-1=f:=by omega
        have e2:((n-y.1:Nat):Int)+1=((n-f:Nat):Int):=by omega
        refine⟨by show y.1-1<=n;omega,(hx.2.trans h43).cU ?_ (qL h44.2 _)⟩
        show gS g x43.2.1 (Dj k.t (jW k.key m) k.key K (y.1-1) ((mU (aA x43.2.1.L x43.1).c (iE (jW k.key m) ((n-y.1:Nat):Int))).getD 0) ((n-(y.1-1):Nat):Int))
        rw[e1,<- e2]
        exact h96.1.to (λ _=>if_neg c99)
 ·refine bM rfl ?_;refine Ke0 ?_;refine bK Tryz.results88 (λ w hw=>?_);obtain⟨N,hN,hf⟩:=hx.2.ch.to (t':=K (Rs.zero)) hx.2 (hx.2.go.cB (by simpa using c36)) hx.2.lc (bT _)
  exact⟨(Rs.zero,y.2.2.1,N),rfl,hN,(hw.fN hf).zA0⟩
end
end

/- Executions of the reference: DUAL. -/
section
open Go Go.RowKit Go.Ct
section
variable{x:Int}{h0 h:Nat}{p0:Pr}{k:ByteArray}{u gen:Int}{f f':Nat}
theorem Rk:∀n lvl,dN x h0 h p0 k u gen f n lvl≠[]
 | 0,lvl=>by unfold dN;split<;>exact List.cons_ne_nil _ _
 | n+1,lvl=>by rw[dN];exact λ h=>Rk n (lvl+1) (List.append_eq_nil_iff.1 h).1
theorem Wg:∀n lvl,(dN x h0 h p0 k u gen f n lvl).headD NI.no=(dN x h0 h p0 k u gen f' n lvl).headD NI.no
 | 0,lvl=>by unfold dN;split<;>rfl
 | n+1,lvl=>by
  have:=Wg n (lvl+1);rw[dN,dN];have h1:=Rk (x:=x) (h0:=h0) (h:=h) (p0:=p0) (k:=k) (u:=u) (gen:=gen) (f:=f) n (lvl+1);have h2:=Rk (x:=x) (h0:=h0) (h:=h) (p0:=p0) (k:=k) (u:=u) (gen:=gen) (f:=f') n (lvl+1);revert this h1 h2;cases dN x h0 h p0 k u gen f n (lvl+1) with
  | nil=>exact λ _ h1=>absurd rfl h1
  | cons a l =>
   cases dN x h0 h p0 k u gen f' n (lvl+1) with
   | nil=>exact λ _ _ h2=>absurd rfl h2
   | cons b l'=>exact λ this _ _=>this
structure NiB(m c:Nat)(a:NI):Prop where
 nv:pJ m c {a.c0 with main:=0,prev:=0,status:=0}
 init:a.init<=m
 ys:a.ys.length<=2
theorem niB{a:NI}{m c:Nat}(h1:∀r∈a.xs,r<=m)(h2:∃b:Nat,a.n.bm=(b:Int)/\b<18446744073709551616)(h3:∃b:Nat,a.n.hash=(b:Int)/\b<18446744073709551616)(h4:a.n.bO=0/\a.n.exp=0/\a.n.new=0)(h5:a.init<=m)(h6:a.ys.length<=2):NiB m c a :=
 ⟨⟨by show a.n.bO<=m;omega,by show a.n.exp<=m;omega,by show a.n.new<=m;omega,h1,bT _,bT _,bT _,h2,h3⟩,h5,h6⟩
theorem ti{i k:Nat}{a b r:Int}(h:r∈two i k a b):r=a∨r=b:=by
 unfold two at h
 split at h
 ·simpa using h
 ·have:=h;simp at this;exact this.symm
theorem Xj{m c:Nat}{g i:Int}(h:i<=m):NiB m c (qZ g i):=niB (λ r hr=>(List.not_mem_nil hr).elim) ⟨0,rfl,by decide⟩ ⟨0,rfl,by decide⟩ ⟨rfl,rfl,rfl⟩ h (Nat.zero_le _)
theorem u5{m c b:Nat}{xs:List Int}(hb:b<18446744073709551616)(h:∀r∈xs,r<=m):NiB m c (bj b xs):=niB h ⟨b,rfl,hb⟩ ⟨0,rfl,by decide⟩ ⟨rfl,rfl,rfl⟩ (bT _) (Nat.zero_le _)
theorem aBE{m c:Nat}(hh:h<18446744073709551616)(hf:1<=f)(hx:x<=m):∀n lvl i a,(dN x h0 h p0 k u gen f n lvl)[i]?=some a->f+i<=m+1->NiB m c a
 | 0,lvl,i,a=>by
  unfold dN
  split
  ·intro h1 _
   cases i with
   | zero=>cases h1;exact niB (λ r hr=>(List.not_mem_nil hr).elim) ⟨0,rfl,by decide⟩ ⟨h,rfl,hh⟩ ⟨rfl,rfl,rfl⟩ (bT _) (Nat.le_trans (Uz _) (Nat.le_refl 2))
   | succ i=>simp at h1
  ·intro h1 h2
   match i,h1,h2 with
   | 0,h1,_=>cases h1;exact niB (λ r hr=>(List.not_mem_nil hr).elim) ⟨0,rfl,by decide⟩ ⟨h,rfl,hh⟩ ⟨rfl,rfl,rfl⟩ (bT _) (Nat.zero_le _)
   | 1,h1,h2=>cases h1;exact u5 (A1 (A1 (by decide) _) _) (λ r hr=>(ti hr).elim (λ e=>by omega) (λ e=>by omega))
   | _+2,h1,_=>simp at h1
 | n+1,lvl,i,a=>by
  have ih:=aBE (c:=c) hh hf hx n (lvl+1) i a;rw[dN];intro h1 h2
  generalize hl:dN x h0 h p0 k u gen f n (lvl+1)=l at ih h1
  rw[List.getElem?_append] at h1
  split at h1
  ·exact ih h1 h2
  ·rename_i h3
   match hi:i-l.length,h1 with
   | 0,h1=>cases h1;exact Xj (by omega)
   | 1,h1=>cases h1;exact u5 (A1 (by decide) _) (λ r hr=>by rw[List.mem_singleton.1 hr];omega)
   | _+2,h1=>simp at h1
end
structure DI(g:Gx)(x:XS)(K:Int->Tr)(l:List NI)(fi:Nat)(y:Nat×Int×XS×List aI):Prop where
 le:y.1<=l.length
 st:y.2.2.1.st=false
 ok:y.2.2.1.Ok
 zero:y.1=0->y=(0,0,x,[])
 pos:y.1≠0->Nx g x y.2.2.1 y.2.2.2 (Bp (l.drop y.1) y.2.1 K) y.2.1/\1<=y.2.2.1.m/\y.2.2.1.made.getD (y.2.2.1.m-1) 0=y.2.1/\((fi+y.1:Nat):Int)<=y.2.1+1
theorem DI.next{g:Gx}{x:XS}{K:Int->Tr}{l:List NI}{fi:Nat}{y:Nat×Int×XS×List aI}(h:DI g x K l fi y){lf:Nat->List NI}(hlf:l=lf fi)(hh0:∀f f',(lf f).headD NI.no=(lf f').headD NI.no)(hne:lf fi≠[])(go:gS g x (.alloc ((lf 0).headD NI.no).c0 ((lf 0).headD NI.no).init λ f=>Bp (lf f.toNat).tail f K))(hfi:(fi:Int)=if x.m=x.made.length then((x.L.length+1:Nat):Int) else x.made.getD x.m 0)(hi:y.1<l.length) :
  ∃a K',l[y.1]?=some a/\gS g y.2.2.1 (.alloc a.c0 a.init K')/\(fi+y.1:Nat)<=y.2.2.1.L.length+1/\Ch x y.2.2.1 (bD y.2.2.2)/\x.L.length<=y.2.2.1.L.length/\∀q X' N',Nx g y.2.2.1 X' N' (K' q) q->AlS y.2.2.1 q X'->DI g x K l fi (y.1+1,q,X',y.2.2.2++N'):=by
 obtain⟨i,r,X,N⟩:=y
 have hst:X.st=false:=h.st;have hok:X.Ok:=h.ok;by_cases h0:i=0
 ·have e:=h.zero h0;simp only[Prod.mk.injEq] at e
  obtain⟨rfl,rfl,rfl,rfl⟩:=e
  have hl:∃a t,lf fi=a::t:=by
   cases hq:lf fi with
   | nil=>exact absurd hq hne
   | cons a t=>exact⟨a,t,rfl⟩
  obtain⟨a,t,ha⟩:=hl
  have hd:(lf 0).headD NI.no=a:=by rw[hh0 0 fi,ha];rfl
  rw[hd] at go
  refine⟨a,_,by rw[hlf,ha];rfl,go,?_,⟨[],by simp,λ f hf=>by simp[bD] at hf⟩,Nat.le_refl _,λ q X' N' hn (ha':AlS X q X')=>?_⟩
  ·show fi+0<=X.L.length+1
   split at hfi
   ·omega
   ·have:=nV hok.made X.m;omega
  ·obtain⟨a1,a2,a3,a4,a5⟩:=ha' hst
   have hq:q=(fi:Int):=by rw[hfi];exact a5
   refine⟨hi,a1,hn.ok,λ h=>absurd h (Nat.succ_ne_zero _),λ _=>⟨?_,?_,?_,?_⟩⟩
   ·have h2:=hn.go;rw[hq] at h2;rw[List.nil_append];refine⟨?_,hn.ok,hn.ext,hn.lc,hn.bd⟩;show gS g X' (Bp (l.drop 1) q K)
    rw[hq,hlf,ha]
    rw[show((fi:Nat):Int).toNat=fi from by omega,ha] at h2
    exact h2
   ·show 1<=X'.m;omega
   ·show X'.made.getD (X'.m-1) 0=q
    rw[a2];exact a3
   ·show((fi+1:Nat):Int)<=q+1;omega
 ·obtain⟨p1,p2,p3,p4⟩:=h.pos h0
  have p1':Nx g x X N (Bp (l.drop i) r K) r:=p1;have p2':1<=X.m:=p2;have p3':X.made.getD (X.m-1) 0=r:=p3;have p4':((fi+i:Nat):Int)<=r+1:=p4;have hi':i<l.length:=hi;have hd:l.drop i=l[i]::l.drop (i+1):=List.drop_eq_getElem_cons hi';have g1:=p1'.go;rw[hd] at g1;refine⟨l[i],_,List.getElem?_eq_getElem hi',g1,?_,p1'.ch,p1'.len,λ q X' N' hn (ha':AlS X q X')=>?_⟩
  ·show fi+i<=X.L.length+1
   have:=p1'.bd;omega
  ·obtain⟨a1,a2,a3,a4,a5⟩:=ha' hst
   refine⟨hi,a1,hn.ok,λ h=>absurd h (Nat.succ_ne_zero _),λ _=>⟨p1'.trans hn,?_,?_,?_⟩⟩
   ·show 1<=X'.m;omega
   ·show X'.made.getD (X'.m-1) 0=q
    rw[a2];exact a3
   ·show((fi+(i+1):Nat):Int)<=q+1
    have hb:r<q:=by
     rw[a5]
     split
     ·have:=p1'.bd;omega
     ·have h3:=hok.lm;rw[<- p3'];exact hok.ms _ _ (by omega) (by omega)
    omega
theorem DI.done{g:Gx}{x:XS}{K:Int->Tr}{l:List NI}{fi:Nat}{y:Nat×Int×XS×List aI}(h:DI g x K l fi y)(hne:l≠[])(hi:¬y.1<l.length):Nx g x y.2.2.1 y.2.2.2 (K y.2.1) y.2.1:=by
 have h1:=h.le;have h2:0<l.length:=List.length_pos_iff.2 hne;have h3:=(h.pos (by omega)).1;rw[show y.1=l.length by omega,List.drop_length] at h3;exact h3
end

/- Executions of the reference: DUAL, the walk. -/
section
open Go Go.RowKit Go.Ct
theorem Sa{l:List NI}{i:Nat}{a:NI}(h:l[i]?=some a):(F3 l).getD i 0=a.init:=by
 unfold F3
 rw[gF,List.getElem?_map,h]
 rfl
section
variable{k:Cl}{bx bm:Nat}{x:XS}{dn:Bool}{rs:Rs}{D:List Nat}{A:Fr}{w:World}{g:Gx}
set_option maxRecDepth 100000 in
theorem zb(hg:g.Ok)(b:Int){h:Nat}(hh:h<18446744073709551616)(level:Nat)(gen:Int)(K:Int->Tr)(hb:b<=x.L.length)(go:gS g x (W3 k b h level gen K))(ok:x.Ok)(hs:SF w D (xH k bx bm x dn rs) A [] (xW x) w):Calls Tryz.prog 154 #[.pointer (some ⟨bx,0,none⟩),.int .i64 b,.int .u64 (h:Int),.int .i64 (level:Int),.int .i64 gen] w λ e w'=>∃q:Int×XS×List aI,e=.returned (.int .i64 q.1)/\Nx g x q.2.1 q.2.2 (K q.1) q.1/\SF w D (xH k bx bm q.2.1 dn rs) [] (bD q.2.2) (xW q.2.1) w':=by
 have hlL:=ok.lL;have hlm:=ok.lm;have hm1:x.m<x.made.length->1<=x.made.getD x.m 0/\x.made.getD x.m 0<=x.L.length:=λ h=>⟨ok.m1 _ (by rw[gF,List.getElem?_eq_getElem h];exact List.getElem_mem h),nV ok.made _⟩;obtain⟨h0,hv0,hh0⟩:=(ok.nv b).hash
 have hv:(aA x.L b).nd.hash=(h0:Int):=hv0;refine enter Tryz.func154 Tryz.ntmps154 rfl rfl (cL hs) ?_;simp only[cP]
 refine cR ?_;refine cR ?_;refine oR ?_;refine Ns ?_;refine I3 ?_;refine He ?_;refine gX ?_;refine eN [12,26,27,28,29,30,31,32,33,34,35,36,37,38,39,40,41,42,43,44,45] (λ q:Nat=>[(12,.int .i64 (q:Int))]) (λ q=>1<=q/\q<=x.L.length+1/\(q:Int)=if x.m=x.made.length then((x.L.length+1:Nat):Int) else x.made.getD x.m 0) (λ q=>xH k bx bm x dn rs) (λ q=>[]) (λ q=>xW x) (by decide) (λ _=>by exact rfl) ?_ (λ q f hx=>?_)
 ·refine aV ?_;refine gP [0,1,2,3,4,5,6,7,8,9] ?_;refine Er ?_;refine iW ?_;refine Dr ?_;refine dJ ?_;refine bA (λ c35=>?_) (λ c35=>?_)
  ·have hm2:=hm1 (by omega);refine gP [0,1,2,3,4,5,6,7,8,9,10] ?_;refine Er ?_;refine Tc ?_;refine J7 ?_;refine eQ ((x.made.getD x.m 0).toNat) ?_
   ·exact⟨by omega,by omega,by rw[if_neg (by omega)];omega⟩
  ·refine bB ?_;refine eQ (x.L.length+1) ?_
   ·exact⟨by omega,by omega,by rw[if_pos (by omega)]⟩
 refine K0a ?_;obtain⟨hq1,hq2,hq3⟩:=hx
 refine aV ?_;refine Kd8 ?_;refine bA (λ c49=>?_) (λ c49=>?_)
 ·refine cR ?_;refine aR Tryz.results154 (λ w hw=>?_);exact⟨(0,x,[]),rfl,Nx.st (by assumption) go ok,hw.aQ (hF:=by exact aP.nil)⟩
 ·refine jH ?_;refine dZ [(0,[]),(1,[]),(3,[]),(4,[]),(5,[]),(6,[]),(7,[]),(8,[]),(9,[]),(10,[]),(11,[]),(12,[]),(13,[]),(14,[]),(15,[]),(16,[]),(17,[]),(2,[9,14]),(18,[]),(19,[]),(20,[]),(21,[]),(22,[]),(23,[])] ?_;refine iJ ?_;refine iJ ?_;refine wC ?_;refine wC ?_;refine iJ ?_;refine aL ?_;refine bL (i:=2) (hq:=(cM (hs:=xH k bx bm x dn rs) (os:=xW x) (hc:=λ w hs=>cW b _ hb go ok hs))) (h:=λ x53 h53=>?_);have e0:(aA x.L b).c.hash.toNat=h0:=by rw[hv0];simp
  have go2:=h53.1;rw[e0] at go2;refine bL (i:=18) (hq:=(cF (hc:=λ w1 hw=>jq (v:=aA x.L b) (at':=b) (h0:=h0) (h:=h) (fi:=q) (lvl:=level) hv hh0 hh hq1 (by omega) w1))) (h:=λ x69 h69=>?_);refine aL ?_;refine cS (i:=20) (hq:=(bW rf rfl)) (h:=?_);refine cS (i:=21) (hq:=(bW rf rfl)) (h:=?_);refine Sq ?_;refine aV ?_;refine zR ?_;refine kK [11,15,72,73,74,75,76,77,78,79,80,81,82,83,84,85,86,87] (λ y:Nat×Int×XS×List aI=>[(15,.int .i64 (y.1:Int)),(11,.int .i64 y.2.1)]) (λ y=>DI g x K (dQ b h0 h (aA x.L b) k.key k.val gen q (lN h0 h-level)) q y) (λ y=>xH k bx bm y.2.2.1 dn rs) (λ y=>(x69.pn,fX x69.L)::(x69.pc,aH x69.ini)::(bD x69.L++bD y.2.2.2)) (λ y=>xW y.2.2.1) (λ y=>x69.L.length-y.1) ((0,0,x,[])) (⟨Nat.zero_le _,by assumption,ok,λ _=>rfl,λ h=>absurd rfl h⟩) (λ y f hx=>?_) (hw0:=λ w hw=>hw.sub (List.Sublist.refl _) (aP.kJ λ f hf=>by simpa[bD] using hf) (List.Sublist.refl _));refine K0a ?_;have hy:=hx;refine Kd7 ?_;refine bA (λ c75=>?_) (λ c75=>?_)
  ·obtain⟨hd,hd1,hd2⟩:=h69
   have hle:=hd.len;have hlt:y.1<x69.L.length:=by omega
   obtain⟨a,K',ha,ga,hfb,hch,hln,hnx⟩:=hy.next (lf:=λ f=>dQ b h0 h (aA x.L b) k.key k.val gen f (lN h0 h-level)) rfl (λ f f'=>Wg _ _) (Rk _ _) go2 hq3 (by omega)
   obtain⟨a',ha',hma⟩:=hd.m.at hlt
   have haa:a'=a:=Option.some.inj (ha'.symm.trans ha);subst haa;have hini:x69.ini.getD y.1 0=a'.init:=by rw[hd.ini];exact Sa ha
   have hB:=aBE (c:=y.2.2.1.cs.length) hh hq1 (show b<=y.2.2.1.L.length by omega) _ _ _ _ ha (by omega);have hsx:=hma.sx;have htw:=hy.ok.two;have hcl:=An h0 h;have hdl:(dQ b h0 h (aA x.L b) k.key k.val gen q (lN h0 h-level)).length<=2+2*(lN h0 h-level):=Ue _ _;have hyy:=hB.ys;rw[<- hma.ys] at hyy;have hc0:(x69.L.getD y.1 aI.zero).nd.c (x69.L.getD y.1 aI.zero).xs (x69.L.getD y.1 aI.zero).ys=a'.c0:=hma.c0;refine mZ ?_;refine gP [0,1,2,3,4,5,6,7,8,9,10] ?_;refine iJ ?_;refine aL ?_;refine Tc ?_;refine iJ ?_;refine Tc ?_;refine bL (i:=9) (hq:=(cM (hs:=xH k bx bm y.2.2.1 dn rs) (os:=xW y.2.2.1) (A0:=[((x69.L.getD y.1 aI.zero).nd.brA,aH (x69.L.getD y.1 aI.zero).xs),((x69.L.getD y.1 aI.zero).nd.prA,dK (x69.L.getD y.1 aI.zero).ys)]) (hA:=bU.of λ f hf=>.inr (.inr (.inl (by simp only[List.mem_cons,List.not_mem_nil,or_false] at hf;rcases hf with rfl|rfl;exact .tail _ (.tail _ (List.mem_append_left _ (Ku hlt)));exact .tail _ (.tail _ (List.mem_append_left _ (Nk hlt))))))) (hc:=λ w hs=>Ui hg (n:=(x69.L.getD y.1 aI.zero).nd) (xs:=(x69.L.getD y.1 aI.zero).xs) (ys:=(x69.L.getD y.1 aI.zero).ys) (x69.ini.getD y.1 0) K' hma.fit.brN hma.fit.prN (by omega) (by omega) (by rw[hc0];exact hB.nv) (by rw[hini];exact hB.init) (by rw[hc0,hini];exact ga) hy.ok hs))) (h:=λ x87 h87=>?_);refine J7 ?_;refine Kc2 ?_;refine gT ((y.1+1,x87.1,x87.2.1,y.2.2.2++x87.2.2)) ?_ (hw1:=λ w hw=>hw.sub (List.Sublist.refl _) (aP.kJ λ f hf=>by simp only[fH,List.mem_append,List.mem_cons] at hf ⊢;rcases hf with hf|hf|hf|hf|hf;exact .inr (.inl hf);exact .inr (.inr (.inl hf));exact .inr (.inr (.inr (.inl hf)));exact .inr (.inr (.inr (.inr hf)));exact .inl hf) (List.Sublist.refl _))
   ·exact hnx _ _ _ h87.1 h87.2
  ·refine bM rfl ?_;refine Ka5 ?_;refine aR Tryz.results154 (λ w hw=>?_);exact⟨(y.2.1,y.2.2.1,y.2.2.2),rfl,hy.done (Rk _ _) (by have:=h69.1.len;omega),(hw.fN λ f hf=>.inr (.tail _ (.tail _ (List.mem_append_right _ hf)))).zA0⟩
end
end

/- Executions of the reference: PERMITS, BELOW; pairs in nodes. -/
section
open Go Go.RowKit Go.Ct
section
variable{v:aI}{n c m:Nat}{w:World}
theorem aBj(h:pJ n c v.c)(k:ByteArray)(u:Int)(hr:qR w v.nd v.xs v.ys)(hy:v.ys.length<=150000000000):Calls Tryz.prog 151 #[v.nd.v,.string k,.int .u64 u] w (aCc w (lH v.nd v.xs v.ys k u) v.nd.hash):=Sm (n:=v.nd) k u (fS h).1 (fS h).2 hr hy
theorem aBe(h:pJ n c v.c)(k:ByteArray)(hr:qR w v.nd v.xs v.ys)(hy:v.ys.length<=150000000000):Calls Tryz.prog 155 #[v.nd.v,.string k] w (aBH w (pZ v.nd v.xs v.ys k) v.nd.hash):=Pc (n:=v.nd) k (fS h).1 (fS h).2 hr hy
theorem av(o:Option (List Pr))(h:Int)(x:Option Addr×Nat):(lx o h x).brN=([]:List Int).length/\(lx o h x).prN=(Zy o).length:=by cases o<;>exact⟨rfl,rfl⟩
theorem C8(q:List Pr)(h:Int)(x:Option Addr×Nat):(Nz (some q) h x={Nd.zero with kind:=5,hash:=h,key:=(q.getD 0 (⟨#[]⟩,0)).1,val:=(q.getD 0 (⟨#[]⟩,0)).2}/\Ie (some q)=[])∨(Nz (some q) h x={Nd.zero with kind:=6,hash:=h,prA:=x.1,prN:=q.length,dK:=x.2}/\Ie (some q)=q):=by
 by_cases hq:q.length=1
 ·exact .inl ⟨if_pos hq,if_pos hq⟩
 ·exact .inr ⟨if_neg hq,if_neg hq⟩
theorem jz(o:Option (List Pr))(h:Int)(x:Option Addr×Nat):(Nz o h x).brN=([]:List Int).length/\(Nz o h x).prN=(Ie o).length:=by
 cases o with
 | none=>exact⟨rfl,rfl⟩
 | some l=>rcases C8 l h x with⟨e1,e2⟩|⟨e1,e2⟩<;>rw[e1,e2]<;>exact⟨rfl,rfl⟩
theorem aBC{A F:Fr}{O:List Ow}{o:Option (List Pr)}{h:Int}{x:Option Addr×Nat}:bU A ((x.1,dK (Zy o))::F) O [((lx o h x).brA,aH []),((lx o h x).prA,dK (Zy o))]:=by
 cases o with
 | none=>exact .cons (.inl rfl) (.cons (.inl rfl) .nil)
 | some q=>exact .cons (.inl rfl) (.cons (.inr (.inr (.inl (.head _)))) .nil)
theorem aB0{A F:Fr}{O:List Ow}{o:Option (List Pr)}{h:Int}{x:Option Addr×Nat}:bU A ((x.1,dK (Ie o))::F) O [((Nz o h x).brA,aH []),((Nz o h x).prA,dK (Ie o))]:=by
 cases o with
 | none=>exact .cons (.inl rfl) (.cons (.inl rfl) .nil)
 | some q =>
  rcases C8 q h x with⟨e1,e2⟩|⟨e1,e2⟩<;>rw[e1,e2]
  ·exact .cons (.inl rfl) (.cons (.inl rfl) .nil)
  ·exact .cons (.inl rfl) (.cons (.inr (.inr (.inl (.head _)))) .nil)
theorem aAN{o:Option (List Pr)}{h:Int}(x:Option Addr×Nat)(hh:∃b:Nat,h=(b:Int)/\b<18446744073709551616):pJ m c {(lx o h x).c [] (Zy o) with main:=0,prev:=0,status:=0}:=by
 cases o with
 | none=>exact⟨bT _,bT _,bT _,(λ r hr=>nomatch hr),bT _,bT _,bT _,⟨0,rfl,by decide⟩,⟨0,rfl,by decide⟩⟩
 | some q=>exact⟨bT _,bT _,bT _,(λ r hr=>nomatch hr),bT _,bT _,bT _,⟨0,rfl,by decide⟩,hh⟩
theorem zw{o:Option (List Pr)}{h:Int}(x:Option Addr×Nat)(hh:∃b:Nat,h=(b:Int)/\b<18446744073709551616):pJ m c {(Nz o h x).c [] (Ie o) with main:=0,prev:=0,status:=0}:=by
 cases o with
 | none=>exact⟨bT _,bT _,bT _,(λ r hr=>nomatch hr),bT _,bT _,bT _,⟨0,rfl,by decide⟩,⟨0,rfl,by decide⟩⟩
 | some q =>
  rcases C8 q h x with⟨e1,e2⟩|⟨e1,e2⟩<;>rw[e1,e2]<;>exact⟨bT _,bT _,bT _,(λ r hr=>nomatch hr),bT _,bT _,bT _,⟨0,rfl,by decide⟩,hh⟩
theorem yb(l:List Int)(ys:List Pr)(d:Nd)(k:ByteArray)(u:Int):(Zy (lH d l ys k u)).length<=ys.length+1:=by
 have:=s5 ys k u;unfold lH;split
 ·exact this
 ·exact Nat.zero_le _
theorem aAf(l:List Int)(ys:List Pr)(d:Nd)(k:ByteArray):(Ie (pZ d l ys k)).length<=ys.length:=by
 have:=jc ys k;unfold pZ;split
 ·simp only[Ie];split
  ·exact Nat.zero_le _
  ·exact this
 ·exact Nat.zero_le _
theorem rN{x:XS}(h:x.Ok)(r:Int):(aA x.L r).ys.length<=x.L.length:=by
 unfold aA
 split
 ·exact h.ys _ (eE (L:=x.L) (k:=(r-1).toNat) (by omega))
 ·exact Nat.zero_le _
end
theorem Hg{n c h:Nat}{k:ByteArray}{u:Int}(hh:h<18446744073709551616):pJ n c {(({Nd.zero with kind:=4,hash:=(h:Int),key:=k,val:=u}:Nd).c [] []) with main:=0,prev:=0,status:=0}:=⟨bT _,bT _,bT _,(λ r hr=>nomatch hr),bT _,bT _,bT _,⟨0,rfl,by decide⟩,⟨h,rfl,hh⟩⟩
theorem pT(p:Value)(o f:Bool)(v:Int)(w:World):Calls Tryz.prog 152 #[p,.bool o,.bool f,.int .u64 v] w λ e w'=>e=.returned (.tuple #[.agg ⟨(rU f v).cells⟩,.int .i64 (if o=true then 1 else 0)])/\St w [] [] w':=by
 refine enter Tryz.func152 Tryz.ntmps152 rfl rfl (SF.s0 w) ?_;simp only[cP]
 refine J0 ?_;refine aT (λ x8=>?_);refine vE ?_;refine aS (cV (hc:=λ w1 hw=>hY f v w1)) (λ x13=>?_);refine aT (λ x10=>?_);refine J5 ?_;refine J0 ?_;refine zV ?_;refine jL ?_;refine lA ?_;refine bA (λ c16=>?_) (λ c16=>?_)
 ·refine iH ?_;refine El ?_;refine bK Tryz.results152 (λ w hw=>?_);rw[if_neg (by simp_all)];exact⟨rfl,hw.done⟩
 ·refine bB ?_;refine iH ?_;refine El ?_;refine bK Tryz.results152 (λ w hw=>?_);rw[if_pos (by simp_all)];exact⟨rfl,hw.done⟩
section
variable{k:Cl}{bx bm:Nat}{x:XS}{dn:Bool}{rs:Rs}{D:List Nat}{A:Fr}{w:World}{g:Gx}
theorem yD(f:Bool)(v:Int)(hs:SF w D (xH k bx bm x dn rs) A [] (xW x) w):Calls Tryz.prog 150 #[.pointer (some ⟨bx,0,none⟩),.bool f,.int .u64 v] w λ e w'=>∃q:Unit,e=.returned (.bool (oA k f v))/\True/\SF w D (xH k bx bm x dn rs) [] [] (xW x) w':=by
 refine enter Tryz.func150 Tryz.ntmps150 rfl rfl (cL hs) ?_;simp only[cP]
 refine D6 ?_;refine Ii ?_;refine J3 ?_;refine Kd4 ?_;refine bA (λ c12=>?_) (λ c12=>?_)
 ·refine J2 ?_;refine zA ?_;refine J1 ?_;refine aR Tryz.results150 (λ w hw=>?_);rw[show oA k f v=!f from if_pos (by assumption)];exact⟨(),rfl,trivial,hw.aQ⟩
 ·refine jM ?_;refine bA (λ c16=>?_) (λ c16=>?_)
  ·refine Ka5 ?_;refine aR Tryz.results150 (λ w hw=>?_);rw[show oA k f v=f from(if_neg (by assumption)).trans (if_pos (by assumption))];exact⟨(),rfl,trivial,hw.aQ⟩
  ·refine jM ?_;refine bA (λ c19=>?_) (λ c19=>?_)
   ·refine jJ ?_;(refine eM 22 (λ g22=>?_) (λ g22=>?_)<;>refine Ka0 ?_);all_goals (refine y6 ?_;refine J6 ?_;refine zC ?_;refine J1 ?_)
    all_goals
    refine aR Tryz.results150 (λ w hw=>?_);have e:oA k f v=(f&&v==k.exp):=(if_neg (by assumption)).trans ((if_neg (by assumption)).trans (if_pos (by assumption)));rw[e];exact⟨(),by simp_all<;>rfl,trivial,hw.aQ⟩
   ·refine Kb6 ?_;refine aR Tryz.results150 (λ w hw=>?_);rw[show oA k f v=true from(if_neg (by assumption)).trans ((if_neg (by assumption)).trans (if_neg (by assumption)))];exact⟨(),rfl,trivial,hw.aQ⟩
theorem Ve(hg:g.Ok)(i m index gen:Int)(K:Int->Tr)(ht:k.t.root<=9223372036854775807)(hi:i<=x.L.length)(hm:m<=x.L.length)(hA:∀f∈bD x.L,f∈A)(go:gS g x (Fk k i m index gen K))(ok:x.Ok)(hs:SF w D (xH k bx bm x dn rs) A [] (xW x) w):Calls Tryz.prog 123 #[.pointer (some ⟨bx,0,none⟩),.int .i64 i,.int .i64 m,.int .i64 index,.int .i64 gen] w λ e w'=>∃q:Int×XS×List aI,e=.returned (.int .i64 q.1)/\Nx g x q.2.1 q.2.2 (K q.1) q.1/\SF w D (xH k bx bm q.2.1 dn rs) [] (bD q.2.2) (xW q.2.1) w':=by
 refine enter Tryz.func123 Tryz.ntmps123 rfl rfl (cL hs) ?_;simp only[cP]
 refine cR ?_;refine jJ ?_;refine aD (cM (hs:=xH k bx bm x dn rs) (os:=xW x) (hc:=λ w hs=>cW m _ hm go ok hs)) (λ x16 h16=>?_);refine aB ?_;refine aS (cV (hc:=λ w1 hw=>I5 (v:=aA x.L m) (ok.nv m) index (ok.sR hw hA m))) (λ x18=>?_);refine K0d ?_;refine Kd6 ?_;refine oR ?_;refine aB ?_;(refine eM 25 (λ g25=>?_) (λ g25=>?_)<;>refine Ka0 ?_);all_goals (refine Ka0 ?_;(first|refine aJ ?_|(refine aF ?_;refine aD (cM (hs:=xH k bx bm x dn rs) (os:=xW x) (hc:=λ w hs=>cW ((mU (aA x.L m).c index).getD 0) _ (qL (ok.nv m) index) h16.1 ok hs)) (λ x28 h28=>?_)));refine J81 ?_;refine zC ?_;refine aK ?_)
 all_goals
 refine bA (λ c32=>?_) (λ c32=>?_)
 ·all_goals (refine Ka5 ?_)
  all_goals
   refine aR Tryz.results123 (λ w hw=>?_);exact⟨((mU (aA x.L m).c index).getD 0,x,[]),rfl,⟨by first|exact h28.1.to (λ _=>if_pos (by assumption))|exact go.cB (by assumption),ok,by simp,Nat.le_refl _,qL (ok.nv m) index⟩,hw.aQ (hF:=by exact aP.nil)⟩
 ·try exact nv c32
  all_goals (refine Cg ?_;refine Ns ?_;refine aC ?_;refine aE (aW (k:=2) (vs:=[.int .i64 k.t.root,.bool k.t.ro]) rf dI dR rfl rfl) rfl ?_;refine pK ?_;refine aB ?_;refine aD (cM (hs:=xH k bx bm x dn rs) (os:=xW x) (A0:=bD x.L) (hA:=bU.of λ f hf=>.inr (.inl (hA f hf))) (hc:=λ w hs=>n8 hg k.t i m index _ ht hi hm (λ f hf=>hf) (h28.1.to (λ _=>if_neg (by assumption))) ok hs)) (λ x43 h43=>?_);refine J1 ?_)
  all_goals
   refine aR Tryz.results123 (λ w hw=>?_);exact⟨x43,rfl,h43,by rw[List.append_nil] at hw;exact hw.zA0⟩
end
end

end Go.Proofs.YtadnboagdhcedaaGreatDoor

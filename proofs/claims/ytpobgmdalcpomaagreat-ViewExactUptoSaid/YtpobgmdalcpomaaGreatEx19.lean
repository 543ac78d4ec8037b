/- Executions of the reference: one attempt of DROP at a leaf. -/
import Derived.Test.YtpobgmdalcpomaaGreatGEx18
set_option linter.unusedSimpArgs false
set_option linter.unusedVariables false
namespace Go.Ct
open Go Go.RowKit
theorem oQ{g:Gx}{x:XS}{r:Int}{K:Nv->Tr}(h:gC g x (.node r K))(hr:r<=x.L.length):gC g x (K (aD x.L r).c):=by
 have:=h.node hr
 rwa [show cG x.nodes r=(aD x.L r).c from(K5 x.L r).symm] at this
section
variable{P:Program}{S:List (Nat×Value)}{G:World->Prop}{d:Nat}{ty t t':TypeId}{pos:String}{af:Array Edge}{gd:Option (Nat×Bool)}{x y:Operand}{a b:ByteArray}
theorem ig(hx:ev S x=.string a)(hy:ev S y=.string b)(h:¬a=b):aS P S G ⟨some d,.binOp .neq t x y t',ty,pos,af,gd⟩ (.bool true):=by
 have:=Gf (P:=P) (G:=G) (d:=d) (ty:=ty) (pos:=pos) (af:=af) (gd:=gd) (t:=t) (t':=t') hx hy
 rwa [bne,ny h] at this
theorem de(hx:ev S x=.string a)(hy:ev S y=.string b)(h:a=b):aS P S G ⟨some d,.binOp .neq t x y t',ty,pos,af,gd⟩ (.bool false):=by
 have:=Gf (P:=P) (G:=G) (d:=d) (ty:=ty) (pos:=pos) (af:=af) (gd:=gd) (t:=t) (t':=t') hx hy
 rwa [bne,mg h] at this
end
end Go.Ct
namespace Go.Proofs.YtpobgmdalcpomaaGreat
open Go Go.RowKit Go.Ct
theorem dz{m:Nat}{o:Option (Nat×List Int)}{w:World}(h:uV m o){x:Option Addr×Nat}{r:Nv}(e:r=(mF o x).c (lU o) [])(hc:Go.Ct.Cl w x.1 (aJ (lU o))):Calls Tryz.prog 136 #[(mF o x).v] w λ e w'=>e=.returned (.tuple #[.int .i64 ((K6 r).getD 0),.bool (K6 r).isSome])/\St w [] [] w':=by
 obtain⟨b,h1,h2⟩:=Lm h x
 have:=Ho (n:=mF o x) h1 h2 (N8 h hc)
 rw[oq,<- e] at this
 exact this
theorem u7{m:Nat}{o:Option (Nat×List Int)}(h:uV m o){x:Option Addr×Nat}{r:Nv}(e:r=(mF o x).c (lU o) []):(K6 r).getD 0<=m:=by
 rw[e,<- oq]
 unfold Zx
 split
 ·refine mX (λ v hv=>?_) 0
  cases o with
  | none=>exact(List.not_mem_nil hv).elim
  | some q=>exact(h.out q rfl).2.2 v hv
 ·exact bS _
section
variable{k:Cl}{bx bm:Nat}{x:XS}{dn:Bool}{rs:Rs}{D:List Nat}{A:Fr}{w:World}{g:Gx}
set_option maxRecDepth 100000 in
theorem Q7(hg:g.Ok)(i m:Int){h:Nat}(hh:h<18446744073709551616)(level:Nat)(hlv:level<=1073741824)(K:Rs->Int->Tr)(ht:k.t.root<=9223372036854775807)(hi:i<=x.L.length)(hm:m<=x.L.length)(hA:∀f∈bG x.L,f∈A)(hk:(aD x.L m).nd.kind=6)(go:gC g x (kF k i m h level K))(ok:x.Ok)(hs:SF w D (xH k bx bm x dn rs) A [] (xW x) w):Calls Tryz.prog 119 #[.pointer (some ⟨bx,0,none⟩),.int .i64 i,.int .i64 m,.int .u64 (h:Int),.int .i64 (level:Int)] w (We g x K bx bm k dn rs D w):=by
  have hyl:=qG ok m
  have hlL:=ok.lL
  have h48:gC g x _/\oM x.L.length x.cs.length (aD x.L m).c:=⟨oQ go hm,ok.nv m⟩
  refine enter Tryz.func119 Tryz.ntmps119 rfl rfl (cN hs) ?_
  simp only[dB]
  all_goals (refine J0 ?_;refine aY (λ x10=>?_);refine iI ?_)
  all_goals
   refine fH [12,13,26,27,28,29,30,31,32,33] (λ j:Nat=>[(12,.pointer (some ⟨j,0,none⟩)),(13,.string k.key)]) (λ _=>True) (λ j=>[(j,.cells ⟨(aD x.L m).nd.cells⟩ 59 (0,0)),(x10,.cells ⟨Rs.zero.cells⟩ 81 (0,0)),(bx,xO k bm x dn rs),(bm,xM x)]) (λ _=>[]) (λ _=>xW x) (by decide) (λ _=>by exact rfl) ?_ (λ j f hx=>?_)
   · refine gU (.one 0 [] (.one 1 [] (.one 3 [] (.one 4 [] (.one 5 [] (.one 6 [] (.one 7 [] (.two 2 [7] (.one 8 [7] (.one 9 [7] (.one 10 [] .nil))) 0 [] (.two 8 [7] (.one 2 [7] (.one 9 [7] (.one 10 [] .nil))) 0 [] .nil))))))))) ?_
     all_goals (refine gD ?_;refine tO ?_)
     all_goals
      refine gS (E:=[2,8]) (by decide +kernel) ((.cons ?_ (.cons ?_ .nil)))
      · (refine mI (i:=2) (hq:=(cM (hs:=xH k bx bm x dn rs) (os:=xW x) (hc:=λ w hs=>fK m (by omega) ok hs))) (h:=λ x28=>?_);try (refine aK (λ h28=>?_)))
        all_goals (refine iM (h:=λ x12=>?_);refine Bp ?_)
        all_goals
         refine fM (x12) ?_
         · trivial
      · refine iL (i:=8) (h:=λ x12=>?_)
        all_goals (((refine bA (i:=2) (hq:=(cM (hs:=xH k bx bm x dn rs) (os:=xW x) (hc:=λ w hs=>fK m (by omega) ok hs))) (h:=λ x28=>?_);try (refine aK (λ h28=>?_))));refine Bp ?_)
        all_goals
         refine fM (x12) ?_
         · trivial
   dsimp only[gW,List.map,List.cons_append,List.nil_append]
  all_goals (refine Aj ?_;refine tE ?_)
  all_goals
   refine bF (λ c36=>?_) (λ c36=>?_)
   · try exact nv c36
     all_goals
      have g1:=h48.1.to (λ _=>if_pos hk)
     all_goals (refine gR ?_;refine aA ?_;(refine aF (cV (hc:=λ w1 hw=>Iu (v:=(aD x.L m)) (n:=0) k.key (ok.rJ hw hA m) (ok.zi m))) (λ x41=>?_);try (refine aB (λ h41=>?_)));refine aA ?_;refine aH (bX rf rfl) rfl ?_;refine aH (bX rf rfl) rfl ?_;refine J8 ?_;refine jS ?_;refine As ?_)
     all_goals (first|refine aG ?_|refine fE ?_|(refine aC ?_;refine aA ?_)|(refine dG 46 (λ g46=>?_) (λ g46=>?_)<;>(first|refine aG ?_|refine fE ?_|(refine aC ?_;refine aA ?_))))
     all_goals ((first|refine aG ?_|refine fE ?_|(refine aC ?_;refine eF ?_));(first|refine aG ?_|refine fE ?_|(refine aC ?_;refine aE ?_));(first|refine aG ?_|refine fE ?_|(refine aC ?_;refine aE ?_));(first|refine aG ?_|refine fE ?_|(refine aC ?_;refine bJ ?_));(first|refine aG ?_|refine fE ?_|(refine aC ?_;refine aA ?_)))
     all_goals (first|refine aG ?_|refine fE ?_|(refine aC ?_;refine aA ?_)|(refine dG 52 (λ g52=>?_) (λ g52=>?_)<;>(first|refine aG ?_|refine fE ?_|(refine aC ?_;refine aA ?_))))
     all_goals ((first|refine aG ?_|refine fE ?_|(refine aC ?_;refine aA ?_));(first|refine aG ?_|refine fE ?_|(refine aC ?_;refine eF ?_));(first|refine aG ?_|refine fE ?_|(refine aC ?_;refine aE ?_));(first|refine aG ?_|refine fE ?_|(refine aC ?_;refine aE ?_));(first|refine aG ?_|refine fE ?_|(refine aC ?_;refine bJ ?_));(first|refine aG ?_|refine fE ?_|(refine aC ?_;refine lY ?_));(first|refine aG ?_|refine fE ?_|(refine aC ?_;refine cH ?_));refine cH ?_;refine aN ?_)
     all_goals
      refine bF (λ c61=>?_) (λ c61=>?_)
      · try exact nv c61
        all_goals
         have g2:=g1.to (λ _=>if_pos (show((eI (aD x.L m).c.ys k.key).isSome=false∨(k.only=true/\(eI (aD x.L m).c.ys k.key).getD 0≠k.exp)) from by first|exact Or.inl (by assumption)|exact Or.inl (by simpa using g46)|exact Or.inr ⟨by assumption,by assumption⟩))
        all_goals (refine jE ?_;(refine aF (cV (hc:=λ w1 hw=>gM _ _ w1)) (λ x64=>?_);try (refine aB (λ h64=>?_)));refine Cw ?_)
        all_goals
         refine bH Tryz.results119 (λ w hw=>?_)
         exact⟨(jR (eI (aD x.L m).c.ys k.key).isSome ((eI (aD x.L m).c.ys k.key).getD 0),1,x,[]),rfl,⟨g2,ok,by simp,Nat.le_refl _,bS _⟩,hw.aV (hF:=by exact aW.nil)⟩
      · try exact nv c61
        all_goals
         have g2:=g1.to (λ _=>if_neg (show ¬((eI (aD x.L m).c.ys k.key).isSome=false∨(k.only=true/\(eI (aD x.L m).c.ys k.key).getD 0≠k.exp)) from by rintro (h|⟨h,h'⟩)<;>simp_all))
        all_goals (refine aZ ?_;refine rK ?_;(refine aF (cF (hc:=λ w1 hw=>we (v:=(aD x.L m)) h48.2 k.key (ok.rJ hw hA m) (by omega))) (λ x68=>?_);try (refine aB (λ h68=>?_)));refine aA ?_;refine aH (bX rf rfl) rfl ?_;refine aH (bX rf rfl) rfl ?_;refine aY (λ x16=>?_);refine nA (λ _=>?_);refine iI ?_;refine dL [(0,[]),(1,[]),(2,[]),(3,[]),(4,[]),(5,[]),(6,[]),(7,[]),(8,[]),(9,[]),(10,[]),(11,[]),(14,[]),(12,[6]),(13,[]),(15,[]),(16,[]),(17,[]),(18,[]),(19,[])] ?_;refine gD ?_;refine J9 ?_;refine aX ?_;refine bP (i:=6) (hq:=(aM (k:=2) (vs:=[.int .i64 k.t.root,.bool k.t.ro]) rf cQ dS rfl rfl)) (h:=?_);refine gD ?_;refine aL ?_;refine bT ?_;refine gD ?_;((refine bA (i:=12) (hq:=(cM (hs:=xH k bx bm x dn rs) (os:=xW x) (A0:=[((Lg (oZ (aD x.L m).nd (aD x.L m).xs (aD x.L m).ys k.key) (aD x.L m).nd.hash x68).brA,aJ []),((Lg (oZ (aD x.L m).nd (aD x.L m).xs (aD x.L m).ys k.key) (aD x.L m).nd.hash x68).prA,dI (Gk (oZ (aD x.L m).nd (aD x.L m).xs (aD x.L m).ys k.key)))]) (hA:=ux) (hc:=λ w hs=>gT hg (n:=Lg (oZ (aD x.L m).nd (aD x.L m).xs (aD x.L m).ys k.key) (aD x.L m).nd.hash x68) (xs:=[]) (ys:=Gk (oZ (aD x.L m).nd (aD x.L m).xs (aD x.L m).ys k.key)) m _ (Zd _ _ _).1 (Zd _ _ _).2 (by decide) (by have:=s9 (aD x.L m).xs (aD x.L m).ys (aD x.L m).nd k.key;omega) (rz _ h48.2.hash) hm (by rw[ym];exact g2) ok hs))) (hfire:=(λ _=>by first|(refine aI.cons (by first|exact dC (hq:=aM (k:=2) (vs:=[.int .i64 k.t.root,.bool k.t.ro]) rf cQ dS rfl rfl)|exact a_un) ?_;exact aI.nil)|(refine bK ?_;refine aI.cons (by first|exact dC (hq:=aM (k:=2) (vs:=[.int .i64 k.t.root,.bool k.t.ro]) rf cQ dS rfl rfl)|exact a_un) ?_;exact aI.nil))) (h:=λ x83=>?_);try (refine aK (λ h83=>?_))));((refine bA (i:=13) (hq:=(cM (hs:=xH k bx bm x83.2.1 dn rs) (os:=xW x83.2.1) (hc:=λ w hs=>sY hg k.t i m x83.1 _ ht (by have:=h83.len;omega) h83.bd h83.go h83.ok hs))) (h:=λ x84=>?_);try (refine aK (λ h84=>?_)))))
        all_goals
         have hch:=Ch.nx h84 (Ch.nx h83 ((Ch.base (F:=[])).cons (f:=(x68.1,dI (Gk (oZ (aD x.L m).nd (aD x.L m).xs (aD x.L m).ys k.key))))))
         have hlc:x.cs.length<=x84.2.1.cs.length:=by have:=h83.lc;have:=h84.lc;omega
        all_goals (((refine bA (i:=15) (hq:=(cV (hc:=λ w1 hw=>oU _ _ _ _ w1))) (h:=λ x86=>?_);try (refine aK (λ h86=>?_))));refine cI (i:=16) (hq:=(bX rf rfl)) (h:=?_);refine cI (i:=17) (hq:=(bX rf rfl)) (h:=?_);refine Bp ?_)
        all_goals
         refine bH Tryz.results119 (λ w hw=>?_)
         obtain⟨N,hN,hf⟩:=hch.to (t':=K (qY true ((eI (aD x.L m).c.ys k.key).getD 0)) (if x84.1=true then 1 else 0)) h84 (h84.go) hlc (bS _)
         exact⟨(qY true ((eI (aD x.L m).c.ys k.key).getD 0),(if x84.1=true then 1 else 0),x84.2.1,N),rfl,hN,(hw.dO hf).aV (hF:=by exact aW.all)⟩
   · try exact nv c36
     all_goals
      exact absurd hk c36
set_option maxRecDepth 100000 in
theorem Px(hg:g.Ok)(i m:Int){h:Nat}(hh:h<18446744073709551616)(level:Nat)(hlv:level<=1073741824)(K:Rs->Int->Tr)(ht:k.t.root<=9223372036854775807)(hi:i<=x.L.length)(hm:m<=x.L.length)(hA:∀f∈bG x.L,f∈A)(hk:¬(aD x.L m).nd.kind=6)(hl:mB (aD x.L m).c (gZ h (level:Int))=none)(go:gC g x (kF k i m h level K))(ok:x.Ok)(hs:SF w D (xH k bx bm x dn rs) A [] (xW x) w):Calls Tryz.prog 119 #[.pointer (some ⟨bx,0,none⟩),.int .i64 i,.int .i64 m,.int .u64 (h:Int),.int .i64 (level:Int)] w (We g x K bx bm k dn rs D w):=by
  have hyl:=qG ok m
  have hlL:=ok.lL
  have h48:gC g x _/\oM x.L.length x.cs.length (aD x.L m).c:=⟨oQ go hm,ok.nv m⟩
  refine enter Tryz.func119 Tryz.ntmps119 rfl rfl (cN hs) ?_
  simp only[dB]
  all_goals (refine J0 ?_;refine aY (λ x10=>?_);refine iI ?_)
  all_goals
   refine fH [12,13,26,27,28,29,30,31,32,33] (λ j:Nat=>[(12,.pointer (some ⟨j,0,none⟩)),(13,.string k.key)]) (λ _=>True) (λ j=>[(j,.cells ⟨(aD x.L m).nd.cells⟩ 59 (0,0)),(x10,.cells ⟨Rs.zero.cells⟩ 81 (0,0)),(bx,xO k bm x dn rs),(bm,xM x)]) (λ _=>[]) (λ _=>xW x) (by decide) (λ _=>by exact rfl) ?_ (λ j f hx=>?_)
   · refine gU (.one 0 [] (.one 1 [] (.one 3 [] (.one 4 [] (.one 5 [] (.one 6 [] (.one 7 [] (.two 2 [7] (.one 8 [7] (.one 9 [7] (.one 10 [] .nil))) 0 [] (.two 8 [7] (.one 2 [7] (.one 9 [7] (.one 10 [] .nil))) 0 [] .nil))))))))) ?_
     all_goals (refine gD ?_;refine tO ?_)
     all_goals
      refine gS (E:=[2,8]) (by decide +kernel) ((.cons ?_ (.cons ?_ .nil)))
      · (refine mI (i:=2) (hq:=(cM (hs:=xH k bx bm x dn rs) (os:=xW x) (hc:=λ w hs=>fK m (by omega) ok hs))) (h:=λ x28=>?_);try (refine aK (λ h28=>?_)))
        all_goals (refine iM (h:=λ x12=>?_);refine Bp ?_)
        all_goals
         refine fM (x12) ?_
         · trivial
      · refine iL (i:=8) (h:=λ x12=>?_)
        all_goals (((refine bA (i:=2) (hq:=(cM (hs:=xH k bx bm x dn rs) (os:=xW x) (hc:=λ w hs=>fK m (by omega) ok hs))) (h:=λ x28=>?_);try (refine aK (λ h28=>?_))));refine Bp ?_)
        all_goals
         refine fM (x12) ?_
         · trivial
   dsimp only[gW,List.map,List.cons_append,List.nil_append]
  all_goals (refine Aj ?_;refine tE ?_)
  all_goals
   refine bF (λ c36=>?_) (λ c36=>?_)
   · try exact nv c36
     all_goals
      exact absurd c36 hk
   · try exact nv c36
     all_goals
      have g0:=h48.1.to (λ _=>if_neg hk)
      have g1:=Ke g0 (by rw[hl];rfl)
     all_goals (refine Ak ?_;(refine aF (cV (hc:=λ w1 hw=>fN hh (level:Int) w1)) (λ x91=>?_);try (refine aB (λ h91=>?_)));refine J1 ?_;refine rK ?_;(refine aF (cV (hc:=λ w1 hw=>lq (v:=(aD x.L m)) h48.2 hl (ok.rJ hw hA m))) (λ x95=>?_);try (refine aB (λ h95=>?_)));refine aA ?_;refine aH (bX rf rfl) rfl ?_;refine aH (bX rf rfl) rfl ?_;refine J8 ?_;refine jE ?_;(refine aF (cM (hs:=xH k bx bm x dn rs) (os:=xW x) (hc:=λ w hs=>fK 0 (by decide) ok hs)) (λ x100=>?_);try (refine aB (λ h100=>?_)));refine aY (λ x21=>?_);refine J5 ?_;refine C6 ?_;refine jE ?_)
     all_goals (first|refine aG ?_|(refine aC ?_;refine aE ?_)|(refine dG 103 (λ g103=>?_) (λ g103=>?_)<;>(first|refine aG ?_|(refine aC ?_;refine aE ?_))))
     all_goals (refine q9 ?_;refine J1 ?_)
     all_goals
      refine bF (λ c101=>?_) (λ c101=>?_)
      · try exact nv c101
      · try exact nv c101
        all_goals (refine J2 ?_;refine As ?_)
        all_goals (first|refine aG ?_|(refine aC ?_;refine aE ?_)|(refine dG 112 (λ g112=>?_) (λ g112=>?_)<;>(first|refine aG ?_|(refine aC ?_;refine aE ?_))))
        all_goals (refine cq ?_;(first|refine aG ?_|(refine aC ?_;refine Z4 ?_));refine cH ?_;refine J1 ?_)
        all_goals
         refine bF (λ c109=>?_) (λ c109=>?_)
         · try exact nv c109
           all_goals (refine J0 ?_;(refine aF (cV (hc:=λ w1 hw=>gM _ _ w1)) (λ x118=>?_);try (refine aB (λ h118=>?_)));refine Cw ?_)
           all_goals
            refine bH Tryz.results119 (λ w hw=>?_)
            exact⟨(jR false 0,1,x,[]),rfl,⟨g1,ok,by simp,Nat.le_refl _,bS _⟩,hw.aV (hF:=by exact aW.nil)⟩
         · try exact nv c109
set_option maxRecDepth 100000 in
theorem Qs(hg:g.Ok)(i m:Int){h:Nat}(hh:h<18446744073709551616)(level:Nat)(hlv:level<=1073741824)(K:Rs->Int->Tr)(ht:k.t.root<=9223372036854775807)(hi:i<=x.L.length)(hm:m<=x.L.length)(hA:∀f∈bG x.L,f∈A)(hk:¬(aD x.L m).nd.kind=6){b:Int}(hl:mB (aD x.L m).c (gZ h (level:Int))=some b)(hi2:(aD x.L b).nd.kind=2)(go:gC g x (kF k i m h level K))(ok:x.Ok)(hs:SF w D (xH k bx bm x dn rs) A [] (xW x) w):Calls Tryz.prog 119 #[.pointer (some ⟨bx,0,none⟩),.int .i64 i,.int .i64 m,.int .u64 (h:Int),.int .i64 (level:Int)] w (We g x K bx bm k dn rs D w):=by
  have hyl:=qG ok m
  have hlL:=ok.lL
  have h48:gC g x _/\oM x.L.length x.cs.length (aD x.L m).c:=⟨oQ go hm,ok.nv m⟩
  have hb:b<=x.L.length:=by have:=pB (ok.nv m) (gZ h (level:Int));rw[hl] at this;exact this
  refine enter Tryz.func119 Tryz.ntmps119 rfl rfl (cN hs) ?_
  simp only[dB]
  all_goals (refine J0 ?_;refine aY (λ x10=>?_);refine iI ?_)
  all_goals
   refine fH [12,13,26,27,28,29,30,31,32,33] (λ j:Nat=>[(12,.pointer (some ⟨j,0,none⟩)),(13,.string k.key)]) (λ _=>True) (λ j=>[(j,.cells ⟨(aD x.L m).nd.cells⟩ 59 (0,0)),(x10,.cells ⟨Rs.zero.cells⟩ 81 (0,0)),(bx,xO k bm x dn rs),(bm,xM x)]) (λ _=>[]) (λ _=>xW x) (by decide) (λ _=>by exact rfl) ?_ (λ j f hx=>?_)
   · refine gU (.one 0 [] (.one 1 [] (.one 3 [] (.one 4 [] (.one 5 [] (.one 6 [] (.one 7 [] (.two 2 [7] (.one 8 [7] (.one 9 [7] (.one 10 [] .nil))) 0 [] (.two 8 [7] (.one 2 [7] (.one 9 [7] (.one 10 [] .nil))) 0 [] .nil))))))))) ?_
     all_goals (refine gD ?_;refine tO ?_)
     all_goals
      refine gS (E:=[2,8]) (by decide +kernel) ((.cons ?_ (.cons ?_ .nil)))
      · (refine mI (i:=2) (hq:=(cM (hs:=xH k bx bm x dn rs) (os:=xW x) (hc:=λ w hs=>fK m (by omega) ok hs))) (h:=λ x28=>?_);try (refine aK (λ h28=>?_)))
        all_goals (refine iM (h:=λ x12=>?_);refine Bp ?_)
        all_goals
         refine fM (x12) ?_
         · trivial
      · refine iL (i:=8) (h:=λ x12=>?_)
        all_goals (((refine bA (i:=2) (hq:=(cM (hs:=xH k bx bm x dn rs) (os:=xW x) (hc:=λ w hs=>fK m (by omega) ok hs))) (h:=λ x28=>?_);try (refine aK (λ h28=>?_))));refine Bp ?_)
        all_goals
         refine fM (x12) ?_
         · trivial
   dsimp only[gW,List.map,List.cons_append,List.nil_append]
  all_goals (refine Aj ?_;refine tE ?_)
  all_goals
   refine bF (λ c36=>?_) (λ c36=>?_)
   · try exact nv c36
     all_goals
      exact absurd c36 hk
   · try exact nv c36
     all_goals
      have g0:=h48.1.to (λ _=>if_neg hk)
      have g1:=sV g0 (by rw[hl];rfl)
      rw[hl] at g1
      have g2:=oQ g1 hb
     all_goals (refine Ak ?_;(refine aF (cV (hc:=λ w1 hw=>fN hh (level:Int) w1)) (λ x91=>?_);try (refine aB (λ h91=>?_)));refine J1 ?_;refine rK ?_;(refine aF (cV (hc:=λ w1 hw=>Is (v:=(aD x.L m)) h48.2 hl (ok.rJ hw hA m))) (λ x95=>?_);try (refine aB (λ h95=>?_)));refine aA ?_;refine aH (bX rf rfl) rfl ?_;refine aH (bX rf rfl) rfl ?_;refine J8 ?_;refine jE ?_;(refine aF (cM (hs:=xH k bx bm x dn rs) (os:=xW x) (hc:=λ w hs=>fK b (by omega) ok hs)) (λ x100=>?_);try (refine aB (λ h100=>?_)));refine aY (λ x21=>?_);refine J5 ?_;refine C6 ?_;refine jE ?_)
     all_goals (first|refine aG ?_|(refine aC ?_;refine aE ?_)|(refine dG 103 (λ g103=>?_) (λ g103=>?_)<;>(first|refine aG ?_|(refine aC ?_;refine aE ?_))))
     all_goals (refine q9 ?_;refine J1 ?_)
     all_goals
      refine bF (λ c101=>?_) (λ c101=>?_)
      · try exact nv c101
        all_goals
         have g3:=g2.to (λ _=>if_pos hi2)
        all_goals (refine J0 ?_;refine bV ?_;refine Cw ?_)
        all_goals
         refine bH Tryz.results119 (λ w hw=>?_)
         exact⟨(Rs.zero,2,x,[]),rfl,⟨g3,ok,by simp,Nat.le_refl _,bS _⟩,hw.aV (hF:=by exact aW.nil)⟩
      · try exact nv c101
        all_goals
         exact absurd hi2 c101
set_option maxRecDepth 100000 in
theorem Qa(hg:g.Ok)(i m:Int){h:Nat}(hh:h<18446744073709551616)(level:Nat)(hlv:level<=1073741824)(K:Rs->Int->Tr)(ht:k.t.root<=9223372036854775807)(hi:i<=x.L.length)(hm:m<=x.L.length)(hA:∀f∈bG x.L,f∈A)(hk:¬(aD x.L m).nd.kind=6){b:Int}(hl:mB (aD x.L m).c (gZ h (level:Int))=some b)(hi2:¬(aD x.L b).nd.kind=2)(he:¬(aD x.L b).nd.key=k.key)(go:gC g x (kF k i m h level K))(ok:x.Ok)(hs:SF w D (xH k bx bm x dn rs) A [] (xW x) w):Calls Tryz.prog 119 #[.pointer (some ⟨bx,0,none⟩),.int .i64 i,.int .i64 m,.int .u64 (h:Int),.int .i64 (level:Int)] w (We g x K bx bm k dn rs D w):=by
  have hyl:=qG ok m
  have hlL:=ok.lL
  have h48:gC g x _/\oM x.L.length x.cs.length (aD x.L m).c:=⟨oQ go hm,ok.nv m⟩
  have hb:b<=x.L.length:=by have:=pB (ok.nv m) (gZ h (level:Int));rw[hl] at this;exact this
  refine enter Tryz.func119 Tryz.ntmps119 rfl rfl (cN hs) ?_
  simp only[dB]
  all_goals (refine J0 ?_;refine aY (λ x10=>?_);refine iI ?_)
  all_goals
   refine fH [12,13,26,27,28,29,30,31,32,33] (λ j:Nat=>[(12,.pointer (some ⟨j,0,none⟩)),(13,.string k.key)]) (λ _=>True) (λ j=>[(j,.cells ⟨(aD x.L m).nd.cells⟩ 59 (0,0)),(x10,.cells ⟨Rs.zero.cells⟩ 81 (0,0)),(bx,xO k bm x dn rs),(bm,xM x)]) (λ _=>[]) (λ _=>xW x) (by decide) (λ _=>by exact rfl) ?_ (λ j f hx=>?_)
   · refine gU (.one 0 [] (.one 1 [] (.one 3 [] (.one 4 [] (.one 5 [] (.one 6 [] (.one 7 [] (.two 2 [7] (.one 8 [7] (.one 9 [7] (.one 10 [] .nil))) 0 [] (.two 8 [7] (.one 2 [7] (.one 9 [7] (.one 10 [] .nil))) 0 [] .nil))))))))) ?_
     all_goals (refine gD ?_;refine tO ?_)
     all_goals
      refine gS (E:=[2,8]) (by decide +kernel) ((.cons ?_ (.cons ?_ .nil)))
      · (refine mI (i:=2) (hq:=(cM (hs:=xH k bx bm x dn rs) (os:=xW x) (hc:=λ w hs=>fK m (by omega) ok hs))) (h:=λ x28=>?_);try (refine aK (λ h28=>?_)))
        all_goals (refine iM (h:=λ x12=>?_);refine Bp ?_)
        all_goals
         refine fM (x12) ?_
         · trivial
      · refine iL (i:=8) (h:=λ x12=>?_)
        all_goals (((refine bA (i:=2) (hq:=(cM (hs:=xH k bx bm x dn rs) (os:=xW x) (hc:=λ w hs=>fK m (by omega) ok hs))) (h:=λ x28=>?_);try (refine aK (λ h28=>?_))));refine Bp ?_)
        all_goals
         refine fM (x12) ?_
         · trivial
   dsimp only[gW,List.map,List.cons_append,List.nil_append]
  all_goals (refine Aj ?_;refine tE ?_)
  all_goals
   refine bF (λ c36=>?_) (λ c36=>?_)
   · try exact nv c36
     all_goals
      exact absurd c36 hk
   · try exact nv c36
     all_goals
      have g0:=h48.1.to (λ _=>if_neg hk)
      have g1:=sV g0 (by rw[hl];rfl)
      rw[hl] at g1
      have g2:=oQ g1 hb
     all_goals (refine Ak ?_;(refine aF (cV (hc:=λ w1 hw=>fN hh (level:Int) w1)) (λ x91=>?_);try (refine aB (λ h91=>?_)));refine J1 ?_;refine rK ?_;(refine aF (cV (hc:=λ w1 hw=>Is (v:=(aD x.L m)) h48.2 hl (ok.rJ hw hA m))) (λ x95=>?_);try (refine aB (λ h95=>?_)));refine aA ?_;refine aH (bX rf rfl) rfl ?_;refine aH (bX rf rfl) rfl ?_;refine J8 ?_;refine jE ?_;(refine aF (cM (hs:=xH k bx bm x dn rs) (os:=xW x) (hc:=λ w hs=>fK b (by omega) ok hs)) (λ x100=>?_);try (refine aB (λ h100=>?_)));refine aY (λ x21=>?_);refine J5 ?_;refine C6 ?_;refine jE ?_)
     all_goals (first|refine aG ?_|(refine aC ?_;refine aE ?_)|(refine dG 103 (λ g103=>?_) (λ g103=>?_)<;>(first|refine aG ?_|(refine aC ?_;refine aE ?_))))
     all_goals (refine q9 ?_;refine J1 ?_)
     all_goals
      refine bF (λ c101=>?_) (λ c101=>?_)
      · try exact nv c101
        all_goals
         exact absurd c101 hi2
      · try exact nv c101
        all_goals
         have g3:=(g2.to (λ _=>if_neg hi2)).to (λ _=>if_pos he)
        all_goals (refine J2 ?_;refine As ?_)
        all_goals (first|refine aG ?_|(refine aC ?_;refine aE ?_)|(refine dG 112 (λ g112=>?_) (λ g112=>?_)<;>(first|refine aG ?_|(refine aC ?_;refine aE ?_))))
        all_goals (refine cq ?_;(first|refine aG ?_|(refine aC ?_;refine aH (ig rf rf he) rfl ?_));refine cH ?_;refine J1 ?_)
        all_goals
         refine bF (λ c109=>?_) (λ c109=>?_)
         · try exact nv c109
           all_goals (refine J0 ?_;(refine aF (cV (hc:=λ w1 hw=>gM _ _ w1)) (λ x118=>?_);try (refine aB (λ h118=>?_)));refine Cw ?_)
           all_goals
            refine bH Tryz.results119 (λ w hw=>?_)
            exact⟨(jR false 0,1,x,[]),rfl,⟨g3,ok,by simp,Nat.le_refl _,bS _⟩,hw.aV (hF:=by exact aW.nil)⟩
         · try exact nv c109
set_option maxRecDepth 100000 in
theorem Pq(hg:g.Ok)(i m:Int){h:Nat}(hh:h<18446744073709551616)(level:Nat)(hlv:level<=1073741824)(K:Rs->Int->Tr)(ht:k.t.root<=9223372036854775807)(hi:i<=x.L.length)(hm:m<=x.L.length)(hA:∀f∈bG x.L,f∈A)(hk:¬(aD x.L m).nd.kind=6){b:Int}(hl:mB (aD x.L m).c (gZ h (level:Int))=some b)(hi2:¬(aD x.L b).nd.kind=2)(he:(aD x.L b).nd.key=k.key)(go:gC g x (kF k i m h level K))(ok:x.Ok)(hs:SF w D (xH k bx bm x dn rs) A [] (xW x) w):Calls Tryz.prog 119 #[.pointer (some ⟨bx,0,none⟩),.int .i64 i,.int .i64 m,.int .u64 (h:Int),.int .i64 (level:Int)] w (We g x K bx bm k dn rs D w):=by
  have hyl:=qG ok m
  have hlL:=ok.lL
  have h48:gC g x _/\oM x.L.length x.cs.length (aD x.L m).c:=⟨oQ go hm,ok.nv m⟩
  have hb:b<=x.L.length:=by have:=pB (ok.nv m) (gZ h (level:Int));rw[hl] at this;exact this
  refine enter Tryz.func119 Tryz.ntmps119 rfl rfl (cN hs) ?_
  simp only[dB]
  all_goals (refine J0 ?_;refine aY (λ x10=>?_);refine iI ?_)
  all_goals
   refine fH [12,13,26,27,28,29,30,31,32,33] (λ j:Nat=>[(12,.pointer (some ⟨j,0,none⟩)),(13,.string k.key)]) (λ _=>True) (λ j=>[(j,.cells ⟨(aD x.L m).nd.cells⟩ 59 (0,0)),(x10,.cells ⟨Rs.zero.cells⟩ 81 (0,0)),(bx,xO k bm x dn rs),(bm,xM x)]) (λ _=>[]) (λ _=>xW x) (by decide) (λ _=>by exact rfl) ?_ (λ j f hx=>?_)
   · refine gU (.one 0 [] (.one 1 [] (.one 3 [] (.one 4 [] (.one 5 [] (.one 6 [] (.one 7 [] (.two 2 [7] (.one 8 [7] (.one 9 [7] (.one 10 [] .nil))) 0 [] (.two 8 [7] (.one 2 [7] (.one 9 [7] (.one 10 [] .nil))) 0 [] .nil))))))))) ?_
     all_goals (refine gD ?_;refine tO ?_)
     all_goals
      refine gS (E:=[2,8]) (by decide +kernel) ((.cons ?_ (.cons ?_ .nil)))
      · (refine mI (i:=2) (hq:=(cM (hs:=xH k bx bm x dn rs) (os:=xW x) (hc:=λ w hs=>fK m (by omega) ok hs))) (h:=λ x28=>?_);try (refine aK (λ h28=>?_)))
        all_goals (refine iM (h:=λ x12=>?_);refine Bp ?_)
        all_goals
         refine fM (x12) ?_
         · trivial
      · refine iL (i:=8) (h:=λ x12=>?_)
        all_goals (((refine bA (i:=2) (hq:=(cM (hs:=xH k bx bm x dn rs) (os:=xW x) (hc:=λ w hs=>fK m (by omega) ok hs))) (h:=λ x28=>?_);try (refine aK (λ h28=>?_))));refine Bp ?_)
        all_goals
         refine fM (x12) ?_
         · trivial
   dsimp only[gW,List.map,List.cons_append,List.nil_append]
  all_goals (refine Aj ?_;refine tE ?_)
  all_goals
   refine bF (λ c36=>?_) (λ c36=>?_)
   · try exact nv c36
     all_goals
      exact absurd c36 hk
   · try exact nv c36
     all_goals
      have g0:=h48.1.to (λ _=>if_neg hk)
      have g1:=sV g0 (by rw[hl];rfl)
      rw[hl] at g1
      have g2:=oQ g1 hb
     all_goals (refine Ak ?_;(refine aF (cV (hc:=λ w1 hw=>fN hh (level:Int) w1)) (λ x91=>?_);try (refine aB (λ h91=>?_)));refine J1 ?_;refine rK ?_;(refine aF (cV (hc:=λ w1 hw=>Is (v:=(aD x.L m)) h48.2 hl (ok.rJ hw hA m))) (λ x95=>?_);try (refine aB (λ h95=>?_)));refine aA ?_;refine aH (bX rf rfl) rfl ?_;refine aH (bX rf rfl) rfl ?_;refine J8 ?_;refine jE ?_;(refine aF (cM (hs:=xH k bx bm x dn rs) (os:=xW x) (hc:=λ w hs=>fK b (by omega) ok hs)) (λ x100=>?_);try (refine aB (λ h100=>?_)));refine aY (λ x21=>?_);refine J5 ?_;refine C6 ?_;refine jE ?_)
     all_goals (first|refine aG ?_|(refine aC ?_;refine aE ?_)|(refine dG 103 (λ g103=>?_) (λ g103=>?_)<;>(first|refine aG ?_|(refine aC ?_;refine aE ?_))))
     all_goals (refine q9 ?_;refine J1 ?_)
     all_goals
      refine bF (λ c101=>?_) (λ c101=>?_)
      · try exact nv c101
        all_goals
         exact absurd c101 hi2
      · try exact nv c101
        all_goals
         have g3:=(g2.to (λ _=>if_neg hi2)).to (λ _=>if_neg (λ h:¬(aD x.L b).nd.key=k.key=>h he))
        all_goals (refine J2 ?_;refine As ?_)
        all_goals (first|refine aG ?_|(refine aC ?_;refine aE ?_)|(refine dG 112 (λ g112=>?_) (λ g112=>?_)<;>(first|refine aG ?_|(refine aC ?_;refine aE ?_))))
        all_goals (refine cq ?_;(first|refine aG ?_|(refine aC ?_;refine aH (de rf rf he) rfl ?_));refine cH ?_;refine J1 ?_)
        all_goals
         refine bF (λ c109=>?_) (λ c109=>?_)
         · try exact nv c109
         · try exact nv c109
           all_goals (refine aT ?_;refine eE [0,1,2,3,4,5,6,7,8,9,10,11,12,13,14,15] ?_;refine tO ?_;refine aL ?_)
           all_goals (first|refine cB ?_|(refine aX ?_)|(refine wT 125 (λ g125=>?_) (λ g125=>?_)<;>(first|refine cB ?_|(refine aX ?_))))
           all_goals ((first|refine cB ?_|(refine bT ?_));(first|refine cB ?_|(refine aL ?_));(first|refine cB ?_|(refine yG ?_));(first|refine cB ?_|(refine aX ?_));refine xl ?_;(first|refine cB ?_|(refine Zw ?_));refine hU ?_;refine J7 ?_)
           all_goals
            refine bF (λ c119=>?_) (λ c119=>?_)
            · try exact nv c119
              all_goals
               have g4:=g3.to (λ _=>if_pos (show(k.only=true/\(aD x.L b).nd.val≠k.exp) from⟨by assumption,by assumption⟩))
              all_goals (refine gR ?_;(refine aF (cV (hc:=λ w1 hw=>gM _ _ w1)) (λ x137=>?_);try (refine aB (λ h137=>?_)));refine Cw ?_)
              all_goals
               refine bH Tryz.results119 (λ w hw=>?_)
               exact⟨(jR true (aD x.L b).nd.val,1,x,[]),rfl,⟨g4,ok,by simp,Nat.le_refl _,bS _⟩,hw.aV (hF:=by exact aW.nil)⟩
            · try exact nv c119
              all_goals
               have g4:=g3.to (λ _=>if_neg (show ¬(k.only=true/\(aD x.L b).nd.val≠k.exp) from by rintro ⟨h,h'⟩;simp_all))
              all_goals (refine mN ?_;refine rK ?_;(refine aF (cF (hc:=λ w1 hw=>uj (v:=(aD x.L m)) h48.2 (gZ h (level:Int)) (ok.rJ hw hA m))) (λ x141=>?_);try (refine aB (λ h141=>?_))))
              all_goals
               have hB:=u5 h48.2 (v:=(aD x.L m)) (gZ h (level:Int))
              all_goals (refine aA ?_;refine aH (bX rf rfl) rfl ?_;refine aH (bX rf rfl) rfl ?_;refine aY (λ x22=>?_);refine Cw ?_;refine iU ?_;(refine aF (cV (hc:=λ w1 hw=>dz hB (k9 h48.2 (gZ h (level:Int)) x141) (hw.cl (.new .head)))) (λ x146=>?_);try (refine aB (λ h146=>?_))))
              all_goals
               have hso:((K6 (Lk (aD x.L m).c (gZ h (level:Int)))).getD 0)<=x.L.length:=u7 hB (k9 h48.2 (gZ h (level:Int)) x141)
               have g5:=oQ g4 hso
              all_goals (refine aA ?_;refine aH (bX rf rfl) rfl ?_;refine aH (bX rf rfl) rfl ?_;refine J8 ?_;refine aT ?_;refine dL [(0,[]),(1,[]),(2,[]),(3,[]),(4,[]),(5,[]),(6,[]),(7,[]),(8,[]),(9,[]),(10,[]),(11,[]),(12,[]),(13,[]),(16,[]),(19,[]),(20,[]),(14,[6,10,20]),(15,[6,20]),(17,[6,20]),(18,[20]),(21,[]),(22,[]),(23,[]),(24,[]),(25,[])] ?_;refine gD ?_;refine J9 ?_;refine aX ?_;refine bP (i:=6) (hq:=(aM (k:=2) (vs:=[.int .i64 k.t.root,.bool k.t.ro]) rf cQ dS rfl rfl)) (h:=?_);refine gD ?_;refine aL ?_;refine bT ?_;refine gD ?_;refine gD ?_;refine jP ?_;((refine bA (i:=14) (hq:=(cM (hs:=xH k bx bm x dn rs) (os:=xW x) (hc:=λ w hs=>fK ((K6 (Lk (aD x.L m).c (gZ h (level:Int)))).getD 0) (by omega) ok hs))) (hfire:=(λ _=>by first|((repeat (first|exact aI.nil|refine aI.cons (by first|exact dC (hq:=aM (k:=2) (vs:=[.int .i64 k.t.root,.bool k.t.ro]) rf cQ dS rfl rfl)|exact cL|exact a_un) ?_));done)|(refine bK ?_;(repeat (first|exact aI.nil|refine aI.cons (by first|exact dC (hq:=aM (k:=2) (vs:=[.int .i64 k.t.root,.bool k.t.ro]) rf cQ dS rfl rfl)|exact cL|exact a_un) ?_));done))) (h:=λ x163=>?_);try (refine aK (λ h163=>?_))));((refine bA (i:=15) (hq:=(cV (hc:=λ w1 hw=>R7 hB (level:Int) (aD x.L ((K6 (Lk (aD x.L m).c (gZ h (level:Int)))).getD 0)).nd (hw.cl (.new .head))))) (hfire:=(λ _=>by first|((repeat (first|exact aI.nil|refine aI.cons (by first|exact dC (hq:=aM (k:=2) (vs:=[.int .i64 k.t.root,.bool k.t.ro]) rf cQ dS rfl rfl)|exact cL|exact a_un) ?_));done)|(refine bK ?_;(repeat (first|exact aI.nil|refine aI.cons (by first|exact dC (hq:=aM (k:=2) (vs:=[.int .i64 k.t.root,.bool k.t.ro]) rf cQ dS rfl rfl)|exact cL|exact a_un) ?_));done))) (h:=λ x164=>?_);try (refine aK (λ h164=>?_))));((refine bA (i:=17) (hq:=(cM (hs:=xH k bx bm x dn rs) (os:=xW x) (A0:=[((Oj (Ws (aD x.L m) (gZ h (level:Int))) x141 (level:Int) (aD x.L ((K6 (Lk (aD x.L m).c (gZ h (level:Int)))).getD 0)).nd).brA,aJ (V2 (Ws (aD x.L m) (gZ h (level:Int))) x141 (level:Int) (aD x.L ((K6 (Lk (aD x.L m).c (gZ h (level:Int)))).getD 0)).nd)),((Oj (Ws (aD x.L m) (gZ h (level:Int))) x141 (level:Int) (aD x.L ((K6 (Lk (aD x.L m).c (gZ h (level:Int)))).getD 0)).nd).prA,dI [])]) (hA:=kz) (hc:=λ w hs=>gT hg (n:=(Oj (Ws (aD x.L m) (gZ h (level:Int))) x141 (level:Int) (aD x.L ((K6 (Lk (aD x.L m).c (gZ h (level:Int)))).getD 0)).nd)) (xs:=(V2 (Ws (aD x.L m) (gZ h (level:Int))) x141 (level:Int) (aD x.L ((K6 (Lk (aD x.L m).c (gZ h (level:Int)))).getD 0)).nd)) (ys:=[]) m _ (Zg _ _ _) (Z8 _ _ _) (Sa hB _ _ _) (Nat.zero_le _) (Rw hB _ _ (ok.nv ((K6 (Lk (aD x.L m).c (gZ h (level:Int)))).getD 0)).hash) hm (by rw[<- mn,<- wz h48.2];exact g5) ok hs))) (hfire:=(λ _=>by first|((repeat (first|exact aI.nil|refine aI.cons (by first|exact dC (hq:=aM (k:=2) (vs:=[.int .i64 k.t.root,.bool k.t.ro]) rf cQ dS rfl rfl)|exact cL|exact a_un) ?_));done)|(refine bK ?_;(repeat (first|exact aI.nil|refine aI.cons (by first|exact dC (hq:=aM (k:=2) (vs:=[.int .i64 k.t.root,.bool k.t.ro]) rf cQ dS rfl rfl)|exact cL|exact a_un) ?_));done))) (h:=λ x166=>?_);try (refine aK (λ h166=>?_))));((refine bA (i:=18) (hq:=(cM (hs:=xH k bx bm x166.2.1 dn rs) (os:=xW x166.2.1) (hc:=λ w hs=>sY hg k.t i m x166.1 _ ht (by have:=h166.len;omega) h166.bd h166.go h166.ok hs))) (h:=λ x167=>?_);try (refine aK (λ h167=>?_)))))
              all_goals
               have hch:=Ch.nx h167 (Ch.nx h166 ((Ch.base (F:=[])).cons (f:=(x141.1,aJ (lU (Ws (aD x.L m) (gZ h (level:Int))))))))
               have hlc:x.cs.length<=x167.2.1.cs.length:=by have:=h166.lc;have:=h167.lc;omega
              all_goals (((refine bA (i:=21) (hq:=(cV (hc:=λ w1 hw=>oU _ _ _ _ w1))) (h:=λ x170=>?_);try (refine aK (λ h170=>?_))));refine cI (i:=22) (hq:=(bX rf rfl)) (h:=?_);refine cI (i:=23) (hq:=(bX rf rfl)) (h:=?_);refine Bp ?_)
              all_goals
               refine bH Tryz.results119 (λ w hw=>?_)
               obtain⟨N,hN,hf⟩:=hch.to (t':=K (qY true (aD x.L b).nd.val) (if x167.1=true then 1 else 0)) h167 (h167.go) hlc (bS _)
               exact⟨(qY true (aD x.L b).nd.val,(if x167.1=true then 1 else 0),x167.2.1,N),rfl,hN,(hw.dO hf).aV (hF:=by exact aW.all)⟩
theorem Qz(hg:g.Ok)(i m:Int){h:Nat}(hh:h<18446744073709551616)(level:Nat)(hlv:level<=1073741824)(K:Rs->Int->Tr)(ht:k.t.root<=9223372036854775807)(hi:i<=x.L.length)(hm:m<=x.L.length)(hA:∀f∈bG x.L,f∈A)(go:gC g x (kF k i m h level K))(ok:x.Ok)(hs:SF w D (xH k bx bm x dn rs) A [] (xW x) w):Calls Tryz.prog 119 #[.pointer (some ⟨bx,0,none⟩),.int .i64 i,.int .i64 m,.int .u64 (h:Int),.int .i64 (level:Int)] w (We g x K bx bm k dn rs D w):=by
 by_cases hk:(aD x.L m).nd.kind=6
 ·exact Q7 hg i m hh level hlv K ht hi hm hA hk go ok hs
 ·cases hl:mB (aD x.L m).c (gZ h (level:Int)) with
  | none=>exact Px hg i m hh level hlv K ht hi hm hA hk hl go ok hs
  | some b =>
   by_cases hi2:(aD x.L b).nd.kind=2
   ·exact Qs hg i m hh level hlv K ht hi hm hA hk hl hi2 go ok hs
   ·by_cases he:(aD x.L b).nd.key=k.key
    ·exact Pq hg i m hh level hlv K ht hi hm hA hk hl hi2 he go ok hs
    ·exact Qa hg i m hh level hlv K ht hi hm hA hk hl hi2 he go ok hs
end
end Go.Proofs.YtpobgmdalcpomaaGreat

/- Executions of the reference: one attempt of DROP at a leaf. -/
import Derived.Test.YtbajmaoegmbfgaaGreatGEx18
set_option linter.unusedSimpArgs false
set_option linter.unusedVariables false
namespace Go.Ct
open Go Go.RowKit
theorem oR{g:Gx}{x:XS}{r:Int}{K:Nv->Tr}(h:fN g x (.node r K))(hr:r<=x.L.length):fN g x (K (aC x.L r).c):=by
 have:=h.node hr
 rwa [show bF x.nodes r=(aC x.L r).c from(D4 x.L r).symm] at this
section
variable{P:Program}{S:List (Nat×Value)}{G:World->Prop}{d:Nat}{ty t t':TypeId}{pos:String}{af:Array Edge}{gd:Option (Nat×Bool)}{x y:Operand}{a b:ByteArray}
theorem rq(hx:ev S x=.string a)(hy:ev S y=.string b)(h:¬a=b):aK P S G ⟨some d,.binOp .neq t x y t',ty,pos,af,gd⟩ (.bool true):=by
 have:=G8 (P:=P) (G:=G) (d:=d) (ty:=ty) (pos:=pos) (af:=af) (gd:=gd) (t:=t) (t':=t') hx hy
 rwa [bne,su h] at this
theorem ml(hx:ev S x=.string a)(hy:ev S y=.string b)(h:a=b):aK P S G ⟨some d,.binOp .neq t x y t',ty,pos,af,gd⟩ (.bool false):=by
 have:=G8 (P:=P) (G:=G) (d:=d) (ty:=ty) (pos:=pos) (af:=af) (gd:=gd) (t:=t) (t':=t') hx hy
 rwa [bne,td h] at this
end
end Go.Ct
namespace Go.Proofs.YtbajmaoegmbfgaaGreat
open Go Go.RowKit Go.Ct
theorem p8{m:Nat}{o:Option (Nat×List Int)}{w:World}(h:wM m o){x:Option Addr×Nat}{r:Nv}(e:r=(mG o x).c (lS o) [])(hc:Go.Ct.Cl w x.1 (aH (lS o))):Calls Tryz.prog 245 #[(mG o x).v] w λ e w'=>e=.returned (.tuple #[.int .i64 ((Mc r).getD 0),.bool (Mc r).isSome])/\St w [] [] w':=by
 obtain⟨b,h1,h2⟩:=Nm h x
 have:=Ix (n:=mG o x) h1 h2 (Nw h hc)
 rw[vb,<- e] at this
 exact this
theorem aA5{m:Nat}{o:Option (Nat×List Int)}(h:wM m o){x:Option Addr×Nat}{r:Nv}(e:r=(mG o x).c (lS o) []):(Mc r).getD 0<=m:=by
 rw[e,<- vb]
 unfold Yj
 split
 ·refine lX (λ v hv=>?_) 0
  cases o with
  | none=>exact(List.not_mem_nil hv).elim
  | some q=>exact(h.out q rfl).2.2 v hv
 ·exact bH _
section
variable{k:Cl}{bx bm:Nat}{x:XS}{dn:Bool}{rs:Rs}{D:List Nat}{A:Fr}{w:World}{g:Gx}
set_option maxRecDepth 100000 in
theorem S6(hg:g.Ok)(i m:Int){h:Nat}(hh:h<18446744073709551616)(level:Nat)(hlv:level<=1073741824)(K:Rs->Int->Tr)(ht:k.t.root<=9223372036854775807)(hi:i<=x.L.length)(hm:m<=x.L.length)(hA:∀f∈aL x.L,f∈A)(hk:(aC x.L m).nd.kind=6)(go:fN g x (jY k i m h level K))(ok:x.Ok)(hs:SF w D (xH k bx bm x dn rs) A [] (xW x) w):Calls Tryz.prog 226 #[.pointer (some ⟨bx,0,none⟩),.int .i64 i,.int .i64 m,.int .u64 (h:Int),.int .i64 (level:Int)] w (X1 g x K bx bm k dn rs D w):=by
 have hyl:=qV ok m
 have hlL:=ok.lL
 have h48:fN g x _/\lJ x.L.length x.cs.length (aC x.L m).c:=⟨oR go hm,ok.nv m⟩
 refine enter Tryz.func226 Tryz.ntmps226 rfl rfl (cB hs) ?_
 simp only[cD]
 refine J0 ?_;refine aJ (λ x10=>?_);refine iW ?_
 refine eE [12,13,26,27,28,29,30,31,32,33] (λ j:Nat=>[(12,.pointer (some ⟨j,0,none⟩)),(13,.string k.key)]) (λ _=>True) (λ j=>[(j,.cells ⟨(aC x.L m).nd.cells⟩ 47 (0,0)),(x10,.cells ⟨Rs.zero.cells⟩ 64 (0,0)),(bx,xO k bm x dn rs),(bm,xM x)]) (λ _=>[]) (λ _=>xW x) (by decide) (λ _=>by exact rfl) ?_ (λ j f hx=>?_)
 ·refine gX (.one 0 [] (.one 1 [] (.one 3 [] (.one 4 [] (.one 5 [] (.one 6 [] (.one 7 [] (.two 2 [7] (.one 8 [7] (.one 9 [7] (.one 10 [] .nil))) 0 [] (.two 8 [7] (.one 2 [7] (.one 9 [7] (.one 10 [] .nil))) 0 [] .nil))))))))) ?_
  refine gU ?_;refine xP ?_
  refine iB (E:=[2,8]) (by decide +kernel) ((.cons ?_ (.cons ?_ .nil)))
  ·refine lP (i:=2) (hq:=(cM (hs:=xH k bx bm x dn rs) (os:=xW x) (hc:=λ w hs=>fE m (by omega) ok hs))) (h:=λ x28 h28=>?_)
   refine gW (h:=λ x12=>?_);refine Bp ?_
   refine eY (x12) ?_
   ·trivial
  ·refine gV (i:=8) (h:=λ x12=>?_)
   refine bG (i:=2) (hq:=(cM (hs:=xH k bx bm x dn rs) (os:=xW x) (hc:=λ w hs=>fE m (by omega) ok hs))) (h:=λ x28 h28=>?_);refine Bp ?_
   refine eY (x12) ?_
   ·trivial
 dsimp only[gZ,List.map,List.cons_append,List.nil_append]
 refine Ds ?_;refine tS ?_
 refine bC (λ c36=>?_) (λ c36=>?_)
 ·have g1:=h48.1.to (λ _=>if_pos hk)
  refine Kc3 ?_;refine aM (cV (hc:=λ w1 hw=>Me (v:=(aC x.L m)) (n:=0) k.key (ok.rD hw hA m) (ok.ysl m))) (λ x41=>?_);refine aA ?_;refine aB (bN rf rfl) rfl ?_;refine aB (bN rf rfl) rfl ?_;refine Kc5 ?_;refine Et ?_
  (refine eC 46 (λ g46=>?_) (λ g46=>?_)<;>refine Ka0 ?_)
  all_goals (refine Kb3 ?_;refine Ka1 ?_;refine Ka1 ?_;refine Ka2 ?_;refine Ka0 ?_)
  all_goals (first|refine zT ?_|(refine eC 52 (λ g52=>?_) (λ g52=>?_)<;>refine Ka0 ?_))
  all_goals ((first|refine aI ?_|refine zT ?_|(refine Ka3 ?_));(first|refine aI ?_|refine zT ?_|(refine aF ?_;refine cZ ?_));(first|refine aI ?_|refine zT ?_|(refine aF ?_;refine aE ?_));(first|refine aI ?_|refine zT ?_|(refine aF ?_;refine aE ?_));(first|refine aI ?_|refine zT ?_|(refine aF ?_;refine bP ?_));(first|refine aI ?_|refine zT ?_|(refine aF ?_;refine mH ?_));(first|refine aI ?_|(refine aF ?_;refine bZ ?_));refine bZ ?_;refine aG ?_)
  all_goals
  refine bC (λ c61=>?_) (λ c61=>?_)
  ·try exact nv c61
   all_goals
    have g2:=g1.to (λ _=>if_pos (show((dR (aC x.L m).c.ys k.key).isSome=false∨(k.only=true/\(dR (aC x.L m).c.ys k.key).getD 0≠k.exp)) from by first|exact Or.inl (by assumption)|exact Or.inr ⟨by assumption,by assumption⟩))
   all_goals (refine iX ?_;refine aM (cV (hc:=λ w1 hw=>fZ _ _ w1)) (λ x64=>?_);refine Dr ?_)
   all_goals
    refine bA Tryz.results226 (λ w hw=>?_)
    exact⟨(jC (dR (aC x.L m).c.ys k.key).isSome ((dR (aC x.L m).c.ys k.key).getD 0),1,x,[]),rfl,⟨g2,ok,by simp,Nat.le_refl _,bH _⟩,hw.aW (hF:=by exact aY.nil)⟩
  ·try exact nv c61
   all_goals
    have g2:=g1.to (λ _=>if_neg (show ¬((dR (aC x.L m).c.ys k.key).isSome=false∨(k.only=true/\(dR (aC x.L m).c.ys k.key).getD 0≠k.exp)) from by rintro (h|⟨h,h'⟩)<;>simp_all))
   all_goals (refine aV ?_;refine Dd ?_;refine aD (cF (hc:=λ w1 hw=>aAc (v:=(aC x.L m)) h48.2 k.key (ok.rD hw hA m) (by omega))) (λ x68 h68=>?_);refine aA ?_;refine aB (bN rf rfl) rfl ?_;refine aB (bN rf rfl) rfl ?_;refine aJ (λ x16=>?_);refine kO (λ _=>?_);refine iW ?_;refine eM [(0,[]),(1,[]),(2,[]),(3,[]),(4,[]),(5,[]),(6,[]),(7,[]),(8,[]),(9,[]),(10,[]),(11,[]),(14,[]),(12,[6]),(13,[]),(15,[]),(16,[]),(17,[]),(18,[]),(19,[])] ?_;refine gU ?_;refine J9 ?_;refine aS ?_;refine bW (i:=6) (hq:=(aP (k:=2) (vs:=[.int .i64 k.t.root,.bool k.t.ro]) rf cX eH rfl rfl)) (h:=?_);refine gU ?_;refine bB ?_;refine Kb1 ?_;refine bG (i:=12) (hq:=(cM (hs:=xH k bx bm x dn rs) (os:=xW x) (A0:=[((Mn (pJ (aC x.L m).nd (aC x.L m).xs (aC x.L m).ys k.key) (aC x.L m).nd.hash x68).brA,aH []),((Mn (pJ (aC x.L m).nd (aC x.L m).xs (aC x.L m).ys k.key) (aC x.L m).nd.hash x68).prA,dD (Hs (pJ (aC x.L m).nd (aC x.L m).xs (aC x.L m).ys k.key)))]) (hA:=aAQ) (hc:=λ w hs=>gB hg (n:=Mn (pJ (aC x.L m).nd (aC x.L m).xs (aC x.L m).ys k.key) (aC x.L m).nd.hash x68) (xs:=[]) (ys:=Hs (pJ (aC x.L m).nd (aC x.L m).xs (aC x.L m).ys k.key)) m _ (ja _ _ _).1 (ja _ _ _).2 (by decide) (by have:=xw (aC x.L m).xs (aC x.L m).ys (aC x.L m).nd k.key;omega) (za _ h48.2.hash) hm (by rw[aB6];exact g2) ok hs))) (hfire:=(λ _=>by(refine jX ?_;refine aT.cons (by exact iV (hq:=aP (k:=2) (vs:=[.int .i64 k.t.root,.bool k.t.ro]) rf cX eH rfl rfl)) ?_;exact aT.nil))) (h:=λ x83 h83=>?_);refine bG (i:=13) (hq:=(cM (hs:=xH k bx bm x83.2.1 dn rs) (os:=xW x83.2.1) (hc:=λ w hs=>sL hg k.t i m x83.1 _ ht (by have:=h83.len;omega) h83.bd h83.go h83.ok hs))) (h:=λ x84 h84=>?_))
   all_goals
    have hch:=Ch.nx h84 (Ch.nx h83 ((Ch.base (F:=[])).cons (f:=(x68.1,dD (Hs (pJ (aC x.L m).nd (aC x.L m).xs (aC x.L m).ys k.key))))))
    have hlc:x.cs.length<=x84.2.1.cs.length:=by have:=h83.lc;have:=h84.lc;omega
   all_goals (refine dB (i:=15) (hq:=(cV (hc:=λ w1 hw=>oV _ _ _ _ w1))) (h:=λ x86=>?_);refine cN (i:=16) (hq:=(bN rf rfl)) (h:=?_);refine cN (i:=17) (hq:=(bN rf rfl)) (h:=?_);refine Bp ?_)
   all_goals
    refine bA Tryz.results226 (λ w hw=>?_)
    obtain⟨N,hN,hf⟩:=hch.to (t':=K (rC true ((dR (aC x.L m).c.ys k.key).getD 0)) (if x84.1=true then 1 else 0)) h84 (h84.go) hlc (bH _)
    exact⟨(rC true ((dR (aC x.L m).c.ys k.key).getD 0),(if x84.1=true then 1 else 0),x84.2.1,N),rfl,hN,(hw.fC hf).v4⟩
 ·exact absurd hk c36
set_option maxRecDepth 100000 in
theorem Q6(hg:g.Ok)(i m:Int){h:Nat}(hh:h<18446744073709551616)(level:Nat)(hlv:level<=1073741824)(K:Rs->Int->Tr)(ht:k.t.root<=9223372036854775807)(hi:i<=x.L.length)(hm:m<=x.L.length)(hA:∀f∈aL x.L,f∈A)(hk:¬(aC x.L m).nd.kind=6)(hl:kJ (aC x.L m).c (gD h (level:Int))=none)(go:fN g x (jY k i m h level K))(ok:x.Ok)(hs:SF w D (xH k bx bm x dn rs) A [] (xW x) w):Calls Tryz.prog 226 #[.pointer (some ⟨bx,0,none⟩),.int .i64 i,.int .i64 m,.int .u64 (h:Int),.int .i64 (level:Int)] w (X1 g x K bx bm k dn rs D w):=by
 have hyl:=qV ok m
 have hlL:=ok.lL
 have h48:fN g x _/\lJ x.L.length x.cs.length (aC x.L m).c:=⟨oR go hm,ok.nv m⟩
 refine enter Tryz.func226 Tryz.ntmps226 rfl rfl (cB hs) ?_
 simp only[cD]
 refine J0 ?_;refine aJ (λ x10=>?_);refine iW ?_
 refine eE [12,13,26,27,28,29,30,31,32,33] (λ j:Nat=>[(12,.pointer (some ⟨j,0,none⟩)),(13,.string k.key)]) (λ _=>True) (λ j=>[(j,.cells ⟨(aC x.L m).nd.cells⟩ 47 (0,0)),(x10,.cells ⟨Rs.zero.cells⟩ 64 (0,0)),(bx,xO k bm x dn rs),(bm,xM x)]) (λ _=>[]) (λ _=>xW x) (by decide) (λ _=>by exact rfl) ?_ (λ j f hx=>?_)
 ·refine gX (.one 0 [] (.one 1 [] (.one 3 [] (.one 4 [] (.one 5 [] (.one 6 [] (.one 7 [] (.two 2 [7] (.one 8 [7] (.one 9 [7] (.one 10 [] .nil))) 0 [] (.two 8 [7] (.one 2 [7] (.one 9 [7] (.one 10 [] .nil))) 0 [] .nil))))))))) ?_
  refine gU ?_;refine xP ?_
  refine iB (E:=[2,8]) (by decide +kernel) ((.cons ?_ (.cons ?_ .nil)))
  ·refine lP (i:=2) (hq:=(cM (hs:=xH k bx bm x dn rs) (os:=xW x) (hc:=λ w hs=>fE m (by omega) ok hs))) (h:=λ x28 h28=>?_)
   refine gW (h:=λ x12=>?_);refine Bp ?_
   refine eY (x12) ?_
   ·trivial
  ·refine gV (i:=8) (h:=λ x12=>?_)
   refine bG (i:=2) (hq:=(cM (hs:=xH k bx bm x dn rs) (os:=xW x) (hc:=λ w hs=>fE m (by omega) ok hs))) (h:=λ x28 h28=>?_);refine Bp ?_
   refine eY (x12) ?_
   ·trivial
 dsimp only[gZ,List.map,List.cons_append,List.nil_append]
 refine Ds ?_;refine tS ?_
 refine bC (λ c36=>?_) (λ c36=>?_)
 ·exact absurd c36 hk
 ·have g0:=h48.1.to (λ _=>if_neg hk)
  have g1:=L0 g0 (by rw[hl];rfl)
  refine Di ?_;refine aM (cV (hc:=λ w1 hw=>eV hh (level:Int) w1)) (λ x91=>?_);refine J1 ?_;refine Dd ?_;refine aM (cV (hc:=λ w1 hw=>si (v:=(aC x.L m)) h48.2 hl (ok.rD hw hA m))) (λ x95=>?_);refine aA ?_;refine aB (bN rf rfl) rfl ?_;refine aB (bN rf rfl) rfl ?_;refine J8 ?_;refine iX ?_;refine aD (cM (hs:=xH k bx bm x dn rs) (os:=xW x) (hc:=λ w hs=>fE 0 (by decide) ok hs)) (λ x100 h100=>?_);refine aJ (λ x21=>?_);refine J5 ?_;refine C3 ?_;refine iX ?_
  refine aI ?_
  refine vy ?_;refine J1 ?_
  refine bC (λ c101=>?_) (λ c101=>?_)
  ·exact nv c101
  ·refine J2 ?_;refine Et ?_
   refine aI ?_
   refine Yy ?_;(refine aI ?_);refine Kb6 ?_
   refine bC (λ c109=>?_) (λ c109=>?_)
   ·refine J0 ?_;refine aM (cV (hc:=λ w1 hw=>fZ _ _ w1)) (λ x118=>?_);refine Dr ?_
    refine bA Tryz.results226 (λ w hw=>?_)
    exact⟨(jC false 0,1,x,[]),rfl,⟨g1,ok,by simp,Nat.le_refl _,bH _⟩,hw.aW (hF:=by exact aY.nil)⟩
   ·exact nv c109
set_option maxRecDepth 100000 in
theorem Rh(hg:g.Ok)(i m:Int){h:Nat}(hh:h<18446744073709551616)(level:Nat)(hlv:level<=1073741824)(K:Rs->Int->Tr)(ht:k.t.root<=9223372036854775807)(hi:i<=x.L.length)(hm:m<=x.L.length)(hA:∀f∈aL x.L,f∈A)(hk:¬(aC x.L m).nd.kind=6){b:Int}(hl:kJ (aC x.L m).c (gD h (level:Int))=some b)(hi2:(aC x.L b).nd.kind=2)(go:fN g x (jY k i m h level K))(ok:x.Ok)(hs:SF w D (xH k bx bm x dn rs) A [] (xW x) w):Calls Tryz.prog 226 #[.pointer (some ⟨bx,0,none⟩),.int .i64 i,.int .i64 m,.int .u64 (h:Int),.int .i64 (level:Int)] w (X1 g x K bx bm k dn rs D w):=by
 have hyl:=qV ok m
 have hlL:=ok.lL
 have h48:fN g x _/\lJ x.L.length x.cs.length (aC x.L m).c:=⟨oR go hm,ok.nv m⟩
 have hb:b<=x.L.length:=by have:=pW (ok.nv m) (gD h (level:Int));rw[hl] at this;exact this
 refine enter Tryz.func226 Tryz.ntmps226 rfl rfl (cB hs) ?_
 simp only[cD]
 refine J0 ?_;refine aJ (λ x10=>?_);refine iW ?_
 refine eE [12,13,26,27,28,29,30,31,32,33] (λ j:Nat=>[(12,.pointer (some ⟨j,0,none⟩)),(13,.string k.key)]) (λ _=>True) (λ j=>[(j,.cells ⟨(aC x.L m).nd.cells⟩ 47 (0,0)),(x10,.cells ⟨Rs.zero.cells⟩ 64 (0,0)),(bx,xO k bm x dn rs),(bm,xM x)]) (λ _=>[]) (λ _=>xW x) (by decide) (λ _=>by exact rfl) ?_ (λ j f hx=>?_)
 ·refine gX (.one 0 [] (.one 1 [] (.one 3 [] (.one 4 [] (.one 5 [] (.one 6 [] (.one 7 [] (.two 2 [7] (.one 8 [7] (.one 9 [7] (.one 10 [] .nil))) 0 [] (.two 8 [7] (.one 2 [7] (.one 9 [7] (.one 10 [] .nil))) 0 [] .nil))))))))) ?_
  refine gU ?_;refine xP ?_
  refine iB (E:=[2,8]) (by decide +kernel) ((.cons ?_ (.cons ?_ .nil)))
  ·refine lP (i:=2) (hq:=(cM (hs:=xH k bx bm x dn rs) (os:=xW x) (hc:=λ w hs=>fE m (by omega) ok hs))) (h:=λ x28 h28=>?_)
   refine gW (h:=λ x12=>?_);refine Bp ?_
   refine eY (x12) ?_
   ·trivial
  ·refine gV (i:=8) (h:=λ x12=>?_)
   refine bG (i:=2) (hq:=(cM (hs:=xH k bx bm x dn rs) (os:=xW x) (hc:=λ w hs=>fE m (by omega) ok hs))) (h:=λ x28 h28=>?_);refine Bp ?_
   refine eY (x12) ?_
   ·trivial
 dsimp only[gZ,List.map,List.cons_append,List.nil_append]
 refine Ds ?_;refine tS ?_
 refine bC (λ c36=>?_) (λ c36=>?_)
 ·exact absurd c36 hk
 ·have g0:=h48.1.to (λ _=>if_neg hk)
  have g1:=tN g0 (by rw[hl];rfl)
  rw[hl] at g1
  have g2:=oR g1 hb
  refine Di ?_;refine aM (cV (hc:=λ w1 hw=>eV hh (level:Int) w1)) (λ x91=>?_);refine J1 ?_;refine Dd ?_;refine aM (cV (hc:=λ w1 hw=>Il (v:=(aC x.L m)) h48.2 hl (ok.rD hw hA m))) (λ x95=>?_);refine aA ?_;refine aB (bN rf rfl) rfl ?_;refine aB (bN rf rfl) rfl ?_;refine J8 ?_;refine iX ?_;refine aD (cM (hs:=xH k bx bm x dn rs) (os:=xW x) (hc:=λ w hs=>fE b (by omega) ok hs)) (λ x100 h100=>?_);refine aJ (λ x21=>?_);refine J5 ?_;refine C3 ?_;refine iX ?_
  (refine aF ?_;refine aE ?_)
  refine vy ?_;refine J1 ?_
  refine bC (λ c101=>?_) (λ c101=>?_)
  ·have g3:=g2.to (λ _=>if_pos hi2)
   refine J0 ?_;refine bM ?_;refine Dr ?_
   refine bA Tryz.results226 (λ w hw=>?_)
   exact⟨(Rs.zero,2,x,[]),rfl,⟨g3,ok,by simp,Nat.le_refl _,bH _⟩,hw.aW (hF:=by exact aY.nil)⟩
  ·exact absurd hi2 c101
set_option maxRecDepth 100000 in
theorem Rg(hg:g.Ok)(i m:Int){h:Nat}(hh:h<18446744073709551616)(level:Nat)(hlv:level<=1073741824)(K:Rs->Int->Tr)(ht:k.t.root<=9223372036854775807)(hi:i<=x.L.length)(hm:m<=x.L.length)(hA:∀f∈aL x.L,f∈A)(hk:¬(aC x.L m).nd.kind=6){b:Int}(hl:kJ (aC x.L m).c (gD h (level:Int))=some b)(hi2:¬(aC x.L b).nd.kind=2)(he:¬(aC x.L b).nd.key=k.key)(go:fN g x (jY k i m h level K))(ok:x.Ok)(hs:SF w D (xH k bx bm x dn rs) A [] (xW x) w):Calls Tryz.prog 226 #[.pointer (some ⟨bx,0,none⟩),.int .i64 i,.int .i64 m,.int .u64 (h:Int),.int .i64 (level:Int)] w (X1 g x K bx bm k dn rs D w):=by
 have hyl:=qV ok m
 have hlL:=ok.lL
 have h48:fN g x _/\lJ x.L.length x.cs.length (aC x.L m).c:=⟨oR go hm,ok.nv m⟩
 have hb:b<=x.L.length:=by have:=pW (ok.nv m) (gD h (level:Int));rw[hl] at this;exact this
 refine enter Tryz.func226 Tryz.ntmps226 rfl rfl (cB hs) ?_
 simp only[cD]
 refine J0 ?_;refine aJ (λ x10=>?_);refine iW ?_
 refine eE [12,13,26,27,28,29,30,31,32,33] (λ j:Nat=>[(12,.pointer (some ⟨j,0,none⟩)),(13,.string k.key)]) (λ _=>True) (λ j=>[(j,.cells ⟨(aC x.L m).nd.cells⟩ 47 (0,0)),(x10,.cells ⟨Rs.zero.cells⟩ 64 (0,0)),(bx,xO k bm x dn rs),(bm,xM x)]) (λ _=>[]) (λ _=>xW x) (by decide) (λ _=>by exact rfl) ?_ (λ j f hx=>?_)
 ·refine gX (.one 0 [] (.one 1 [] (.one 3 [] (.one 4 [] (.one 5 [] (.one 6 [] (.one 7 [] (.two 2 [7] (.one 8 [7] (.one 9 [7] (.one 10 [] .nil))) 0 [] (.two 8 [7] (.one 2 [7] (.one 9 [7] (.one 10 [] .nil))) 0 [] .nil))))))))) ?_
  refine gU ?_;refine xP ?_
  refine iB (E:=[2,8]) (by decide +kernel) ((.cons ?_ (.cons ?_ .nil)))
  ·refine lP (i:=2) (hq:=(cM (hs:=xH k bx bm x dn rs) (os:=xW x) (hc:=λ w hs=>fE m (by omega) ok hs))) (h:=λ x28 h28=>?_)
   refine gW (h:=λ x12=>?_);refine Bp ?_
   refine eY (x12) ?_
   ·trivial
  ·refine gV (i:=8) (h:=λ x12=>?_)
   refine bG (i:=2) (hq:=(cM (hs:=xH k bx bm x dn rs) (os:=xW x) (hc:=λ w hs=>fE m (by omega) ok hs))) (h:=λ x28 h28=>?_);refine Bp ?_
   refine eY (x12) ?_
   ·trivial
 dsimp only[gZ,List.map,List.cons_append,List.nil_append]
 refine Ds ?_;refine tS ?_
 refine bC (λ c36=>?_) (λ c36=>?_)
 ·exact absurd c36 hk
 ·have g0:=h48.1.to (λ _=>if_neg hk)
  have g1:=tN g0 (by rw[hl];rfl)
  rw[hl] at g1
  have g2:=oR g1 hb
  refine Di ?_;refine aM (cV (hc:=λ w1 hw=>eV hh (level:Int) w1)) (λ x91=>?_);refine J1 ?_;refine Dd ?_;refine aM (cV (hc:=λ w1 hw=>Il (v:=(aC x.L m)) h48.2 hl (ok.rD hw hA m))) (λ x95=>?_);refine aA ?_;refine aB (bN rf rfl) rfl ?_;refine aB (bN rf rfl) rfl ?_;refine J8 ?_;refine iX ?_;refine aD (cM (hs:=xH k bx bm x dn rs) (os:=xW x) (hc:=λ w hs=>fE b (by omega) ok hs)) (λ x100 h100=>?_);refine aJ (λ x21=>?_);refine J5 ?_;refine C3 ?_;refine iX ?_
  (refine aF ?_;refine aE ?_)
  refine vy ?_;refine J1 ?_
  refine bC (λ c101=>?_) (λ c101=>?_)
  ·exact absurd c101 hi2
  ·have g3:=(g2.to (λ _=>if_neg hi2)).to (λ _=>if_pos he)
   refine J2 ?_;refine Et ?_
   (refine aF ?_;refine aE ?_)
   refine Yy ?_;((refine aF ?_;refine aB (rq rf rf he) rfl ?_));refine Kb6 ?_
   refine bC (λ c109=>?_) (λ c109=>?_)
   ·refine J0 ?_;refine aM (cV (hc:=λ w1 hw=>fZ _ _ w1)) (λ x118=>?_);refine Dr ?_
    refine bA Tryz.results226 (λ w hw=>?_)
    exact⟨(jC false 0,1,x,[]),rfl,⟨g3,ok,by simp,Nat.le_refl _,bH _⟩,hw.aW (hF:=by exact aY.nil)⟩
   ·exact nv c109
set_option maxRecDepth 100000 in
theorem Sr(hg:g.Ok)(i m:Int){h:Nat}(hh:h<18446744073709551616)(level:Nat)(hlv:level<=1073741824)(K:Rs->Int->Tr)(ht:k.t.root<=9223372036854775807)(hi:i<=x.L.length)(hm:m<=x.L.length)(hA:∀f∈aL x.L,f∈A)(hk:¬(aC x.L m).nd.kind=6){b:Int}(hl:kJ (aC x.L m).c (gD h (level:Int))=some b)(hi2:¬(aC x.L b).nd.kind=2)(he:(aC x.L b).nd.key=k.key)(go:fN g x (jY k i m h level K))(ok:x.Ok)(hs:SF w D (xH k bx bm x dn rs) A [] (xW x) w):Calls Tryz.prog 226 #[.pointer (some ⟨bx,0,none⟩),.int .i64 i,.int .i64 m,.int .u64 (h:Int),.int .i64 (level:Int)] w (X1 g x K bx bm k dn rs D w):=by
 have hyl:=qV ok m
 have hlL:=ok.lL
 have h48:fN g x _/\lJ x.L.length x.cs.length (aC x.L m).c:=⟨oR go hm,ok.nv m⟩
 have hb:b<=x.L.length:=by have:=pW (ok.nv m) (gD h (level:Int));rw[hl] at this;exact this
 refine enter Tryz.func226 Tryz.ntmps226 rfl rfl (cB hs) ?_
 simp only[cD]
 refine J0 ?_;refine aJ (λ x10=>?_);refine iW ?_
 refine eE [12,13,26,27,28,29,30,31,32,33] (λ j:Nat=>[(12,.pointer (some ⟨j,0,none⟩)),(13,.string k.key)]) (λ _=>True) (λ j=>[(j,.cells ⟨(aC x.L m).nd.cells⟩ 47 (0,0)),(x10,.cells ⟨Rs.zero.cells⟩ 64 (0,0)),(bx,xO k bm x dn rs),(bm,xM x)]) (λ _=>[]) (λ _=>xW x) (by decide) (λ _=>by exact rfl) ?_ (λ j f hx=>?_)
 ·refine gX (.one 0 [] (.one 1 [] (.one 3 [] (.one 4 [] (.one 5 [] (.one 6 [] (.one 7 [] (.two 2 [7] (.one 8 [7] (.one 9 [7] (.one 10 [] .nil))) 0 [] (.two 8 [7] (.one 2 [7] (.one 9 [7] (.one 10 [] .nil))) 0 [] .nil))))))))) ?_
  refine gU ?_;refine xP ?_
  refine iB (E:=[2,8]) (by decide +kernel) ((.cons ?_ (.cons ?_ .nil)))
  ·refine lP (i:=2) (hq:=(cM (hs:=xH k bx bm x dn rs) (os:=xW x) (hc:=λ w hs=>fE m (by omega) ok hs))) (h:=λ x28 h28=>?_)
   refine gW (h:=λ x12=>?_);refine Bp ?_
   refine eY (x12) ?_
   ·trivial
  ·refine gV (i:=8) (h:=λ x12=>?_)
   refine bG (i:=2) (hq:=(cM (hs:=xH k bx bm x dn rs) (os:=xW x) (hc:=λ w hs=>fE m (by omega) ok hs))) (h:=λ x28 h28=>?_);refine Bp ?_
   refine eY (x12) ?_
   ·trivial
 dsimp only[gZ,List.map,List.cons_append,List.nil_append]
 refine Ds ?_;refine tS ?_
 refine bC (λ c36=>?_) (λ c36=>?_)
 ·exact absurd c36 hk
 ·have g0:=h48.1.to (λ _=>if_neg hk)
  have g1:=tN g0 (by rw[hl];rfl)
  rw[hl] at g1
  have g2:=oR g1 hb
  refine Di ?_;refine aM (cV (hc:=λ w1 hw=>eV hh (level:Int) w1)) (λ x91=>?_);refine J1 ?_;refine Dd ?_;refine aM (cV (hc:=λ w1 hw=>Il (v:=(aC x.L m)) h48.2 hl (ok.rD hw hA m))) (λ x95=>?_);refine aA ?_;refine aB (bN rf rfl) rfl ?_;refine aB (bN rf rfl) rfl ?_;refine J8 ?_;refine iX ?_;refine aD (cM (hs:=xH k bx bm x dn rs) (os:=xW x) (hc:=λ w hs=>fE b (by omega) ok hs)) (λ x100 h100=>?_);refine aJ (λ x21=>?_);refine J5 ?_;refine C3 ?_;refine iX ?_
  (refine aF ?_;refine aE ?_)
  refine vy ?_;refine J1 ?_
  refine bC (λ c101=>?_) (λ c101=>?_)
  ·exact absurd c101 hi2
  ·have g3:=(g2.to (λ _=>if_neg hi2)).to (λ _=>if_neg (λ h:¬(aC x.L b).nd.key=k.key=>h he))
   refine J2 ?_;refine Et ?_
   (refine aF ?_;refine aE ?_)
   refine Yy ?_;((refine aF ?_;refine aB (ml rf rf he) rfl ?_));refine Kb6 ?_
   refine bC (λ c109=>?_) (λ c109=>?_)
   ·exact nv c109
   ·refine aR ?_;refine gE [0,1,2,3,4,5,6,7,8,9,10,11,12,13,14,15] ?_;refine xP ?_;refine bB ?_
    (refine uz 125 (λ g125=>?_) (λ g125=>?_)<;>(first|refine gC ?_|(refine aS ?_)))
    all_goals ((first|refine gC ?_|(refine bY ?_));(first|refine gC ?_|(refine bB ?_));(first|refine gC ?_|(refine yU ?_));(first|refine gC ?_|(refine aS ?_));refine J18 ?_;(first|refine gC ?_|(refine aa ?_));refine lO ?_;refine J7 ?_)
    all_goals
    refine bC (λ c119=>?_) (λ c119=>?_)
    ·try exact nv c119
     all_goals
      have g4:=g3.to (λ _=>if_pos (show(k.only=true/\(aC x.L b).nd.val≠k.exp) from⟨by assumption,by assumption⟩))
     all_goals (refine gP ?_;refine aM (cV (hc:=λ w1 hw=>fZ _ _ w1)) (λ x137=>?_);refine Dr ?_)
     all_goals
      refine bA Tryz.results226 (λ w hw=>?_)
      exact⟨(jC true (aC x.L b).nd.val,1,x,[]),rfl,⟨g4,ok,by simp,Nat.le_refl _,bH _⟩,hw.aW (hF:=by exact aY.nil)⟩
    ·all_goals
      have g4:=g3.to (λ _=>if_neg (show ¬(k.only=true/\(aC x.L b).nd.val≠k.exp) from by rintro ⟨h,h'⟩;simp_all))
     all_goals (refine pE ?_;refine Dd ?_;refine aD (cF (hc:=λ w1 hw=>aAr (v:=(aC x.L m)) h48.2 (gD h (level:Int)) (ok.rD hw hA m))) (λ x141 h141=>?_))
     all_goals
      have hB:=aAZ h48.2 (v:=(aC x.L m)) (gD h (level:Int))
     all_goals (refine aA ?_;refine aB (bN rf rfl) rfl ?_;refine aB (bN rf rfl) rfl ?_;refine aJ (λ x22=>?_);refine Dr ?_;refine oI ?_;refine aM (cV (hc:=λ w1 hw=>p8 hB (sk h48.2 (gD h (level:Int)) x141) (hw.cl (.new .head)))) (λ x146=>?_))
     all_goals
      have hso:((Mc (Ml (aC x.L m).c (gD h (level:Int)))).getD 0)<=x.L.length:=aA5 hB (sk h48.2 (gD h (level:Int)) x141)
      have g5:=oR g4 hso
     all_goals (refine aA ?_;refine aB (bN rf rfl) rfl ?_;refine aB (bN rf rfl) rfl ?_;refine J8 ?_;refine aR ?_;refine eM [(0,[]),(1,[]),(2,[]),(3,[]),(4,[]),(5,[]),(6,[]),(7,[]),(8,[]),(9,[]),(10,[]),(11,[]),(12,[]),(13,[]),(16,[]),(19,[]),(20,[]),(14,[6,10,20]),(15,[6,20]),(17,[6,20]),(18,[20]),(21,[]),(22,[]),(23,[]),(24,[]),(25,[])] ?_;refine gU ?_;refine J9 ?_;refine aS ?_;refine bW (i:=6) (hq:=(aP (k:=2) (vs:=[.int .i64 k.t.root,.bool k.t.ro]) rf cX eH rfl rfl)) (h:=?_);refine gU ?_;refine bB ?_;refine Kb1 ?_;refine gU ?_;refine oW ?_;refine bG (i:=14) (hq:=(cM (hs:=xH k bx bm x dn rs) (os:=xW x) (hc:=λ w hs=>fE ((Mc (Ml (aC x.L m).c (gD h (level:Int)))).getD 0) (by omega) ok hs))) (hfire:=(λ _=>by(refine jX ?_;(repeat (first|exact aT.nil|refine aT.cons (by first|exact iV (hq:=aP (k:=2) (vs:=[.int .i64 k.t.root,.bool k.t.ro]) rf cX eH rfl rfl)|exact iP) ?_));done))) (h:=λ x163 h163=>?_);refine dB (i:=15) (hq:=(cV (hc:=λ w1 hw=>Uf hB (level:Int) (aC x.L ((Mc (Ml (aC x.L m).c (gD h (level:Int)))).getD 0)).nd (hw.cl (.new .head))))) (hfire:=(λ _=>by((repeat (first|exact aT.nil|refine aT.cons (by first|exact iV (hq:=aP (k:=2) (vs:=[.int .i64 k.t.root,.bool k.t.ro]) rf cX eH rfl rfl)|exact iP) ?_));done))) (h:=λ x164=>?_);refine bG (i:=17) (hq:=(cM (hs:=xH k bx bm x dn rs) (os:=xW x) (A0:=[((Nh (av (aC x.L m) (gD h (level:Int))) x141 (level:Int) (aC x.L ((Mc (Ml (aC x.L m).c (gD h (level:Int)))).getD 0)).nd).brA,aH (Vz (av (aC x.L m) (gD h (level:Int))) x141 (level:Int) (aC x.L ((Mc (Ml (aC x.L m).c (gD h (level:Int)))).getD 0)).nd)),((Nh (av (aC x.L m) (gD h (level:Int))) x141 (level:Int) (aC x.L ((Mc (Ml (aC x.L m).c (gD h (level:Int)))).getD 0)).nd).prA,dD [])]) (hA:=sb) (hc:=λ w hs=>gB hg (n:=(Nh (av (aC x.L m) (gD h (level:Int))) x141 (level:Int) (aC x.L ((Mc (Ml (aC x.L m).c (gD h (level:Int)))).getD 0)).nd)) (xs:=(Vz (av (aC x.L m) (gD h (level:Int))) x141 (level:Int) (aC x.L ((Mc (Ml (aC x.L m).c (gD h (level:Int)))).getD 0)).nd)) (ys:=[]) m _ (Zb _ _ _) (X7 _ _ _) (U3 hB _ _ _) (Nat.zero_le _) (Ui hB _ _ (ok.nv ((Mc (Ml (aC x.L m).c (gD h (level:Int)))).getD 0)).hash) hm (by rw[<- sq,<- aBd h48.2];exact g5) ok hs))) (hfire:=(λ _=>by(refine jX ?_;(repeat (first|exact aT.nil|refine aT.cons (by first|exact iV (hq:=aP (k:=2) (vs:=[.int .i64 k.t.root,.bool k.t.ro]) rf cX eH rfl rfl)|exact iP) ?_));done))) (h:=λ x166 h166=>?_);refine bG (i:=18) (hq:=(cM (hs:=xH k bx bm x166.2.1 dn rs) (os:=xW x166.2.1) (hc:=λ w hs=>sL hg k.t i m x166.1 _ ht (by have:=h166.len;omega) h166.bd h166.go h166.ok hs))) (h:=λ x167 h167=>?_))
     all_goals
      have hch:=Ch.nx h167 (Ch.nx h166 ((Ch.base (F:=[])).cons (f:=(x141.1,aH (lS (av (aC x.L m) (gD h (level:Int))))))))
      have hlc:x.cs.length<=x167.2.1.cs.length:=by have:=h166.lc;have:=h167.lc;omega
     all_goals (refine dB (i:=21) (hq:=(cV (hc:=λ w1 hw=>oV _ _ _ _ w1))) (h:=λ x170=>?_);refine cN (i:=22) (hq:=(bN rf rfl)) (h:=?_);refine cN (i:=23) (hq:=(bN rf rfl)) (h:=?_);refine Bp ?_)
     all_goals
      refine bA Tryz.results226 (λ w hw=>?_)
      obtain⟨N,hN,hf⟩:=hch.to (t':=K (rC true (aC x.L b).nd.val) (if x167.1=true then 1 else 0)) h167 (h167.go) hlc (bH _)
      exact⟨(rC true (aC x.L b).nd.val,(if x167.1=true then 1 else 0),x167.2.1,N),rfl,hN,(hw.fC hf).v4⟩
theorem Sw(hg:g.Ok)(i m:Int){h:Nat}(hh:h<18446744073709551616)(level:Nat)(hlv:level<=1073741824)(K:Rs->Int->Tr)(ht:k.t.root<=9223372036854775807)(hi:i<=x.L.length)(hm:m<=x.L.length)(hA:∀f∈aL x.L,f∈A)(go:fN g x (jY k i m h level K))(ok:x.Ok)(hs:SF w D (xH k bx bm x dn rs) A [] (xW x) w):Calls Tryz.prog 226 #[.pointer (some ⟨bx,0,none⟩),.int .i64 i,.int .i64 m,.int .u64 (h:Int),.int .i64 (level:Int)] w (X1 g x K bx bm k dn rs D w):=by
 by_cases hk:(aC x.L m).nd.kind=6
 ·exact S6 hg i m hh level hlv K ht hi hm hA hk go ok hs
 ·cases hl:kJ (aC x.L m).c (gD h (level:Int)) with
  | none=>exact Q6 hg i m hh level hlv K ht hi hm hA hk hl go ok hs
  | some b =>
   by_cases hi2:(aC x.L b).nd.kind=2
   ·exact Rh hg i m hh level hlv K ht hi hm hA hk hl hi2 go ok hs
   ·by_cases he:(aC x.L b).nd.key=k.key
    ·exact Sr hg i m hh level hlv K ht hi hm hA hk hl hi2 he go ok hs
    ·exact Rg hg i m hh level hlv K ht hi hm hA hk hl hi2 he go ok hs
end
end Go.Proofs.YtbajmaoegmbfgaaGreat

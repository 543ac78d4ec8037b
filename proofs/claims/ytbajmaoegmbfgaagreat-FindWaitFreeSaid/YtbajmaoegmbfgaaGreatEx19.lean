/- Executions of the reference: one attempt of DROP at a leaf. -/
import Derived.Test.YtbajmaoegmbfgaaGreatGEx18
set_option linter.unusedSimpArgs false
set_option linter.unusedVariables false
namespace Go.Ct
open Go Go.RowKit
theorem oV{g:Gx}{x:XS}{r:Int}{K:Nv->Tr}(h:fY g x (.node r K))(hr:r<=x.L.length):fY g x (K (aD x.L r).c):=by
 have:=h.node hr
 rwa [show eA x.nodes r=(aD x.L r).c from(Lw x.L r).symm] at this
section
variable{P:Program}{S:List (Nat×Value)}{G:World->Prop}{d:Nat}{ty t t':TypeId}{pos:String}{af:Array Edge}{gd:Option (Nat×Bool)}{x y:Operand}{a b:ByteArray}
theorem qg(hx:ev S x=.string a)(hy:ev S y=.string b)(h:¬a=b):aL P S G ⟨some d,.binOp .neq t x y t',ty,pos,af,gd⟩ (.bool true):=by
 have:=E5 (P:=P) (G:=G) (d:=d) (ty:=ty) (pos:=pos) (af:=af) (gd:=gd) (t:=t) (t':=t') hx hy
 rwa [bne,we h] at this
theorem qt(hx:ev S x=.string a)(hy:ev S y=.string b)(h:a=b):aL P S G ⟨some d,.binOp .neq t x y t',ty,pos,af,gd⟩ (.bool false):=by
 have:=E5 (P:=P) (G:=G) (d:=d) (ty:=ty) (pos:=pos) (af:=af) (gd:=gd) (t:=t) (t':=t') hx hy
 rwa [bne,ue h] at this
end
end Go.Ct
namespace Go.Proofs.YtbajmaoegmbfgaaGreat
open Go Go.RowKit Go.Ct
theorem tw{m:Nat}{o:Option (Nat×List Int)}{w:World}(h:wM m o){x:Option Addr×Nat}{r:Nv}(e:r=(mM o x).c (mF o) [])(hc:Go.Ct.Cl w x.1 (aG (mF o))):Calls Tryz.prog 245 #[(mM o x).v] w λ e w'=>e=.returned (.tuple #[.int .i64 ((Lo r).getD 0),.bool (Lo r).isSome])/\St w [] [] w':=by
 obtain⟨b,h1,h2⟩:=Qz h x
 have:=Jq (n:=mM o x) h1 h2 (Nq h hc)
 rw[zx,<- e] at this
 exact this
theorem aA1{m:Nat}{o:Option (Nat×List Int)}(h:wM m o){x:Option Addr×Nat}{r:Nv}(e:r=(mM o x).c (mF o) []):(Lo r).getD 0<=m:=by
 rw[e,<- zx]
 unfold ep
 split
 ·refine mB (λ v hv=>?_) 0
  cases o with
  | none=>exact(List.not_mem_nil hv).elim
  | some q=>exact(h.out q rfl).2.2 v hv
 ·exact bH _
section
variable{k:Cl}{bx bm:Nat}{x:XS}{dn:Bool}{rs:Rs}{D:List Nat}{A:Fr}{w:World}{g:Gx}
set_option maxRecDepth 100000 in
theorem Rw(hg:g.Ok)(i m:Int){h:Nat}(hh:h<18446744073709551616)(level:Nat)(hlv:level<=1073741824)(K:Rs->Int->Tr)(ht:k.t.root<=9223372036854775807)(hi:i<=x.L.length)(hm:m<=x.L.length)(hA:∀f∈aM x.L,f∈A)(hk:(aD x.L m).nd.kind=6)(go:fY g x (kI k i m h level K))(ok:x.Ok)(hs:SF w D (xH k bx bm x dn rs) A [] (xW x) w):Calls Tryz.prog 226 #[.pointer (some ⟨bx,0,none⟩),.int .i64 i,.int .i64 m,.int .u64 (h:Int),.int .i64 (level:Int)] w (Zm g x K bx bm k dn rs D w):=by
 have hyl:=rB ok m
 have hlL:=ok.lL
 have h48:fY g x _/\mK x.L.length x.cs.length (aD x.L m).c:=⟨oV go hm,ok.nv m⟩
 refine enter Tryz.func226 Tryz.ntmps226 rfl rfl (bZ hs) ?_
 simp only[bY]
 refine J0 ?_;refine aI (λ x10=>?_);refine iZ ?_
 refine eI [12,13,26,27,28,29,30,31,32,33] (λ j:Nat=>[(12,.pointer (some ⟨j,0,none⟩)),(13,.string k.key)]) (λ _=>True) (λ j=>[(j,.cells ⟨(aD x.L m).nd.cells⟩ 47 (0,0)),(x10,.cells ⟨Rs.zero.cells⟩ 64 (0,0)),(bx,xO k bm x dn rs),(bm,xM x)]) (λ _=>[]) (λ _=>xW x) (by decide) (λ _=>by exact rfl) ?_ (λ j f hx=>?_)
 ·refine iD (.one 0 [] (.one 1 [] (.one 3 [] (.one 4 [] (.one 5 [] (.one 6 [] (.one 7 [] (.two 2 [7] (.one 8 [7] (.one 9 [7] (.one 10 [] .nil))) 0 [] (.two 8 [7] (.one 2 [7] (.one 9 [7] (.one 10 [] .nil))) 0 [] .nil))))))))) ?_
  refine hZ ?_;refine xR ?_
  refine iK (E:=[2,8]) (by decide +kernel) ((.cons ?_ (.cons ?_ .nil)))
  ·refine mX (i:=2) (hq:=(cM (hs:=xH k bx bm x dn rs) (os:=xW x) (hc:=λ w hs=>fG m (by omega) ok hs))) (h:=λ x28 h28=>?_)
   refine iE (h:=λ x12=>?_);refine Cf ?_
   refine fC (x12) ?_
   ·trivial
  ·refine iC (i:=8) (h:=λ x12=>?_)
   refine bC (i:=2) (hq:=(cM (hs:=xH k bx bm x dn rs) (os:=xW x) (hc:=λ w hs=>fG m (by omega) ok hs))) (h:=λ x28 h28=>?_);refine Cf ?_
   refine fC (x12) ?_
   ·trivial
 dsimp only[gR,List.map,List.cons_append,List.nil_append]
 refine Du ?_;refine uI ?_
 refine bE (λ c36=>?_) (λ c36=>?_)
 ·have g1:=h48.1.to (λ _=>if_pos hk)
  refine gZ ?_;refine aA ?_;refine aR (cV (hc:=λ w1 hw=>Lv (v:=(aD x.L m)) (n:=0) k.key (ok.rG hw hA m) (ok.ysl m))) (λ x41=>?_);refine aA ?_;refine aB (bL rf rfl) rfl ?_;refine aB (bL rf rfl) rfl ?_;refine J8 ?_;refine kM ?_;refine En ?_
  (refine eM 46 (λ g46=>?_) (λ g46=>?_)<;>(first|refine aJ ?_|(refine aF ?_;refine aA ?_)))
  all_goals ((first|refine aJ ?_|(refine aF ?_;refine dF ?_));(first|refine aJ ?_|(refine aF ?_;refine aE ?_));(first|refine aJ ?_|(refine aF ?_;refine aE ?_));(first|refine aJ ?_|(refine aF ?_;refine bR ?_));(first|refine aJ ?_|(refine aF ?_;refine aA ?_)))
  all_goals (first|refine An ?_|(refine eM 52 (λ g52=>?_) (λ g52=>?_)<;>(first|refine aJ ?_|(refine aF ?_;refine aA ?_))))
  all_goals ((first|refine aJ ?_|refine An ?_|(refine aF ?_;refine aA ?_));(first|refine aJ ?_|refine An ?_|(refine aF ?_;refine dF ?_));(first|refine aJ ?_|refine An ?_|(refine aF ?_;refine aE ?_));(first|refine aJ ?_|refine An ?_|(refine aF ?_;refine aE ?_));(first|refine aJ ?_|refine An ?_|(refine aF ?_;refine bR ?_));(first|refine aJ ?_|refine An ?_|(refine aF ?_;refine qA ?_));(first|refine aJ ?_|(refine aF ?_;refine cH ?_));refine cH ?_;refine aH ?_)
  all_goals
  refine bE (λ c61=>?_) (λ c61=>?_)
  ·try exact nv c61
   all_goals
    have g2:=g1.to (λ _=>if_pos (show((cO (aD x.L m).c.ys k.key).isSome=false∨(k.only=true/\(cO (aD x.L m).c.ys k.key).getD 0≠k.exp)) from by first|exact Or.inl (by assumption)|exact Or.inr ⟨by assumption,by assumption⟩))
   all_goals (refine iO ?_;refine aR (cV (hc:=λ w1 hw=>gK _ _ w1)) (λ x64=>?_);refine zH ?_)
   all_goals
    refine bD Tryz.results226 (λ w hw=>?_)
    exact⟨(dO (cO (aD x.L m).c.ys k.key).isSome ((cO (aD x.L m).c.ys k.key).getD 0),1,x,[]),rfl,⟨g2,ok,by simp,Nat.le_refl _,bH _⟩,hw.aU (hF:=by exact aY.nil)⟩
  ·try exact nv c61
   all_goals
    have g2:=g1.to (λ _=>if_neg (show ¬((cO (aD x.L m).c.ys k.key).isSome=false∨(k.only=true/\(cO (aD x.L m).c.ys k.key).getD 0≠k.exp)) from by rintro (h|⟨h,h'⟩)<;>simp_all))
   all_goals (refine bB ?_;refine Ta ?_;refine aC (cF (hc:=λ w1 hw=>aBB (v:=(aD x.L m)) h48.2 k.key (ok.rG hw hA m) (by omega))) (λ x68 h68=>?_);refine aA ?_;refine aB (bL rf rfl) rfl ?_;refine aB (bL rf rfl) rfl ?_;refine aI (λ x16=>?_);refine jP (λ _=>?_);refine iZ ?_;refine dX [(0,[]),(1,[]),(2,[]),(3,[]),(4,[]),(5,[]),(6,[]),(7,[]),(8,[]),(9,[]),(10,[]),(11,[]),(14,[]),(12,[6]),(13,[]),(15,[]),(16,[]),(17,[]),(18,[]),(19,[])] ?_;refine hZ ?_;refine J9 ?_;refine aQ ?_;refine bT (i:=6) (hq:=(aN (k:=2) (vs:=[.int .i64 k.t.root,.bool k.t.ro]) rf cL dJ rfl rfl)) (h:=?_);refine hZ ?_;refine aP ?_;refine bP ?_;refine hZ ?_;refine bC (i:=12) (hq:=(cM (hs:=xH k bx bm x dn rs) (os:=xW x) (A0:=[((Nc (qE (aD x.L m).nd (aD x.L m).xs (aD x.L m).ys k.key) (aD x.L m).nd.hash x68).brA,aG []),((Nc (qE (aD x.L m).nd (aD x.L m).xs (aD x.L m).ys k.key) (aD x.L m).nd.hash x68).prA,dH (Iq (qE (aD x.L m).nd (aD x.L m).xs (aD x.L m).ys k.key)))]) (hA:=aAM) (hc:=λ w hs=>gO hg (n:=Nc (qE (aD x.L m).nd (aD x.L m).xs (aD x.L m).ys k.key) (aD x.L m).nd.hash x68) (xs:=[]) (ys:=Iq (qE (aD x.L m).nd (aD x.L m).xs (aD x.L m).ys k.key)) m _ (dw _ _ _).1 (dw _ _ _).2 (by decide) (by have:=yp (aD x.L m).xs (aD x.L m).ys (aD x.L m).nd k.key;omega) (aAp _ h48.2.hash) hm (by rw[aCn];exact g2) ok hs))) (hfire:=(λ _=>by(refine gA ?_;refine aW.cons (by exact iR (hq:=aN (k:=2) (vs:=[.int .i64 k.t.root,.bool k.t.ro]) rf cL dJ rfl rfl)) ?_;exact aW.nil))) (h:=λ x83 h83=>?_);refine bC (i:=13) (hq:=(cM (hs:=xH k bx bm x83.2.1 dn rs) (os:=xW x83.2.1) (hc:=λ w hs=>sN hg k.t i m x83.1 _ ht (by have:=h83.len;omega) h83.bd h83.go h83.ok hs))) (h:=λ x84 h84=>?_))
   all_goals
    have hch:=Ch.nx h84 (Ch.nx h83 ((Ch.base (F:=[])).cons (f:=(x68.1,dH (Iq (qE (aD x.L m).nd (aD x.L m).xs (aD x.L m).ys k.key))))))
    have hlc:x.cs.length<=x84.2.1.cs.length:=by have:=h83.lc;have:=h84.lc;omega
   all_goals (refine cN (i:=15) (hq:=(cV (hc:=λ w1 hw=>pJ _ _ _ _ w1))) (h:=λ x86=>?_);refine cE (i:=16) (hq:=(bL rf rfl)) (h:=?_);refine cE (i:=17) (hq:=(bL rf rfl)) (h:=?_);refine Cf ?_)
   all_goals
    refine bD Tryz.results226 (λ w hw=>?_)
    obtain⟨N,hN,hf⟩:=hch.to (t':=K (oA true ((cO (aD x.L m).c.ys k.key).getD 0)) (if x84.1=true then 1 else 0)) h84 (h84.go) hlc (bH _)
    exact⟨(oA true ((cO (aD x.L m).c.ys k.key).getD 0),(if x84.1=true then 1 else 0),x84.2.1,N),rfl,hN,(hw.fE hf).aU (hF:=by exact aY.all)⟩
 ·exact absurd hk c36
set_option maxRecDepth 100000 in
theorem Ra(hg:g.Ok)(i m:Int){h:Nat}(hh:h<18446744073709551616)(level:Nat)(hlv:level<=1073741824)(K:Rs->Int->Tr)(ht:k.t.root<=9223372036854775807)(hi:i<=x.L.length)(hm:m<=x.L.length)(hA:∀f∈aM x.L,f∈A)(hk:¬(aD x.L m).nd.kind=6)(hl:iU (aD x.L m).c (eO h (level:Int))=none)(go:fY g x (kI k i m h level K))(ok:x.Ok)(hs:SF w D (xH k bx bm x dn rs) A [] (xW x) w):Calls Tryz.prog 226 #[.pointer (some ⟨bx,0,none⟩),.int .i64 i,.int .i64 m,.int .u64 (h:Int),.int .i64 (level:Int)] w (Zm g x K bx bm k dn rs D w):=by
 have hyl:=rB ok m
 have hlL:=ok.lL
 have h48:fY g x _/\mK x.L.length x.cs.length (aD x.L m).c:=⟨oV go hm,ok.nv m⟩
 refine enter Tryz.func226 Tryz.ntmps226 rfl rfl (bZ hs) ?_
 simp only[bY]
 refine J0 ?_;refine aI (λ x10=>?_);refine iZ ?_
 refine eI [12,13,26,27,28,29,30,31,32,33] (λ j:Nat=>[(12,.pointer (some ⟨j,0,none⟩)),(13,.string k.key)]) (λ _=>True) (λ j=>[(j,.cells ⟨(aD x.L m).nd.cells⟩ 47 (0,0)),(x10,.cells ⟨Rs.zero.cells⟩ 64 (0,0)),(bx,xO k bm x dn rs),(bm,xM x)]) (λ _=>[]) (λ _=>xW x) (by decide) (λ _=>by exact rfl) ?_ (λ j f hx=>?_)
 ·refine iD (.one 0 [] (.one 1 [] (.one 3 [] (.one 4 [] (.one 5 [] (.one 6 [] (.one 7 [] (.two 2 [7] (.one 8 [7] (.one 9 [7] (.one 10 [] .nil))) 0 [] (.two 8 [7] (.one 2 [7] (.one 9 [7] (.one 10 [] .nil))) 0 [] .nil))))))))) ?_
  refine hZ ?_;refine xR ?_
  refine iK (E:=[2,8]) (by decide +kernel) ((.cons ?_ (.cons ?_ .nil)))
  ·refine mX (i:=2) (hq:=(cM (hs:=xH k bx bm x dn rs) (os:=xW x) (hc:=λ w hs=>fG m (by omega) ok hs))) (h:=λ x28 h28=>?_)
   refine iE (h:=λ x12=>?_);refine Cf ?_
   refine fC (x12) ?_
   ·trivial
  ·refine iC (i:=8) (h:=λ x12=>?_)
   refine bC (i:=2) (hq:=(cM (hs:=xH k bx bm x dn rs) (os:=xW x) (hc:=λ w hs=>fG m (by omega) ok hs))) (h:=λ x28 h28=>?_);refine Cf ?_
   refine fC (x12) ?_
   ·trivial
 dsimp only[gR,List.map,List.cons_append,List.nil_append]
 refine Du ?_;refine uI ?_
 refine bE (λ c36=>?_) (λ c36=>?_)
 ·exact absurd c36 hk
 ·have g0:=h48.1.to (λ _=>if_neg hk)
  have g1:=Kv g0 (by rw[hl];rfl)
  refine yV ?_;refine aR (cV (hc:=λ w1 hw=>eW hh (level:Int) w1)) (λ x91=>?_);refine J1 ?_;refine Ta ?_;refine aR (cV (hc:=λ w1 hw=>vn (v:=(aD x.L m)) h48.2 hl (ok.rG hw hA m))) (λ x95=>?_);refine aA ?_;refine aB (bL rf rfl) rfl ?_;refine aB (bL rf rfl) rfl ?_;refine J8 ?_;refine iO ?_;refine aC (cM (hs:=xH k bx bm x dn rs) (os:=xW x) (hc:=λ w hs=>fG 0 (by decide) ok hs)) (λ x100 h100=>?_);refine aI (λ x21=>?_);refine J5 ?_;refine Dk ?_;refine iO ?_
  refine aJ ?_
  refine yd ?_;refine J1 ?_
  refine bE (λ c101=>?_) (λ c101=>?_)
  ·exact nv c101
  ·refine J2 ?_;refine En ?_
   refine aJ ?_
   refine Zl ?_;(refine aJ ?_);refine cH ?_;refine J1 ?_
   refine bE (λ c109=>?_) (λ c109=>?_)
   ·refine J0 ?_;refine aR (cV (hc:=λ w1 hw=>gK _ _ w1)) (λ x118=>?_);refine zH ?_
    refine bD Tryz.results226 (λ w hw=>?_)
    exact⟨(dO false 0,1,x,[]),rfl,⟨g1,ok,by simp,Nat.le_refl _,bH _⟩,hw.aU (hF:=by exact aY.nil)⟩
   ·exact nv c109
set_option maxRecDepth 100000 in
theorem Sl(hg:g.Ok)(i m:Int){h:Nat}(hh:h<18446744073709551616)(level:Nat)(hlv:level<=1073741824)(K:Rs->Int->Tr)(ht:k.t.root<=9223372036854775807)(hi:i<=x.L.length)(hm:m<=x.L.length)(hA:∀f∈aM x.L,f∈A)(hk:¬(aD x.L m).nd.kind=6){b:Int}(hl:iU (aD x.L m).c (eO h (level:Int))=some b)(hi2:(aD x.L b).nd.kind=2)(go:fY g x (kI k i m h level K))(ok:x.Ok)(hs:SF w D (xH k bx bm x dn rs) A [] (xW x) w):Calls Tryz.prog 226 #[.pointer (some ⟨bx,0,none⟩),.int .i64 i,.int .i64 m,.int .u64 (h:Int),.int .i64 (level:Int)] w (Zm g x K bx bm k dn rs D w):=by
 have hyl:=rB ok m
 have hlL:=ok.lL
 have h48:fY g x _/\mK x.L.length x.cs.length (aD x.L m).c:=⟨oV go hm,ok.nv m⟩
 have hb:b<=x.L.length:=by have:=lH (ok.nv m) (eO h (level:Int));rw[hl] at this;exact this
 refine enter Tryz.func226 Tryz.ntmps226 rfl rfl (bZ hs) ?_
 simp only[bY]
 refine J0 ?_;refine aI (λ x10=>?_);refine iZ ?_
 refine eI [12,13,26,27,28,29,30,31,32,33] (λ j:Nat=>[(12,.pointer (some ⟨j,0,none⟩)),(13,.string k.key)]) (λ _=>True) (λ j=>[(j,.cells ⟨(aD x.L m).nd.cells⟩ 47 (0,0)),(x10,.cells ⟨Rs.zero.cells⟩ 64 (0,0)),(bx,xO k bm x dn rs),(bm,xM x)]) (λ _=>[]) (λ _=>xW x) (by decide) (λ _=>by exact rfl) ?_ (λ j f hx=>?_)
 ·refine iD (.one 0 [] (.one 1 [] (.one 3 [] (.one 4 [] (.one 5 [] (.one 6 [] (.one 7 [] (.two 2 [7] (.one 8 [7] (.one 9 [7] (.one 10 [] .nil))) 0 [] (.two 8 [7] (.one 2 [7] (.one 9 [7] (.one 10 [] .nil))) 0 [] .nil))))))))) ?_
  refine hZ ?_;refine xR ?_
  refine iK (E:=[2,8]) (by decide +kernel) ((.cons ?_ (.cons ?_ .nil)))
  ·refine mX (i:=2) (hq:=(cM (hs:=xH k bx bm x dn rs) (os:=xW x) (hc:=λ w hs=>fG m (by omega) ok hs))) (h:=λ x28 h28=>?_)
   refine iE (h:=λ x12=>?_);refine Cf ?_
   refine fC (x12) ?_
   ·trivial
  ·refine iC (i:=8) (h:=λ x12=>?_)
   refine bC (i:=2) (hq:=(cM (hs:=xH k bx bm x dn rs) (os:=xW x) (hc:=λ w hs=>fG m (by omega) ok hs))) (h:=λ x28 h28=>?_);refine Cf ?_
   refine fC (x12) ?_
   ·trivial
 dsimp only[gR,List.map,List.cons_append,List.nil_append]
 refine Du ?_;refine uI ?_
 refine bE (λ c36=>?_) (λ c36=>?_)
 ·exact absurd c36 hk
 ·have g0:=h48.1.to (λ _=>if_neg hk)
  have g1:=tG g0 (by rw[hl];rfl)
  rw[hl] at g1
  have g2:=oV g1 hb
  refine yV ?_;refine aR (cV (hc:=λ w1 hw=>eW hh (level:Int) w1)) (λ x91=>?_);refine J1 ?_;refine Ta ?_;refine aR (cV (hc:=λ w1 hw=>Jw (v:=(aD x.L m)) h48.2 hl (ok.rG hw hA m))) (λ x95=>?_);refine aA ?_;refine aB (bL rf rfl) rfl ?_;refine aB (bL rf rfl) rfl ?_;refine J8 ?_;refine iO ?_;refine aC (cM (hs:=xH k bx bm x dn rs) (os:=xW x) (hc:=λ w hs=>fG b (by omega) ok hs)) (λ x100 h100=>?_);refine aI (λ x21=>?_);refine J5 ?_;refine Dk ?_;refine iO ?_
  (refine aF ?_;refine aE ?_)
  refine yd ?_;refine J1 ?_
  refine bE (λ c101=>?_) (λ c101=>?_)
  ·have g3:=g2.to (λ _=>if_pos hi2)
   refine J0 ?_;refine bJ ?_;refine zH ?_
   refine bD Tryz.results226 (λ w hw=>?_)
   exact⟨(Rs.zero,2,x,[]),rfl,⟨g3,ok,by simp,Nat.le_refl _,bH _⟩,hw.aU (hF:=by exact aY.nil)⟩
  ·exact absurd hi2 c101
set_option maxRecDepth 100000 in
theorem Se(hg:g.Ok)(i m:Int){h:Nat}(hh:h<18446744073709551616)(level:Nat)(hlv:level<=1073741824)(K:Rs->Int->Tr)(ht:k.t.root<=9223372036854775807)(hi:i<=x.L.length)(hm:m<=x.L.length)(hA:∀f∈aM x.L,f∈A)(hk:¬(aD x.L m).nd.kind=6){b:Int}(hl:iU (aD x.L m).c (eO h (level:Int))=some b)(hi2:¬(aD x.L b).nd.kind=2)(he:¬(aD x.L b).nd.key=k.key)(go:fY g x (kI k i m h level K))(ok:x.Ok)(hs:SF w D (xH k bx bm x dn rs) A [] (xW x) w):Calls Tryz.prog 226 #[.pointer (some ⟨bx,0,none⟩),.int .i64 i,.int .i64 m,.int .u64 (h:Int),.int .i64 (level:Int)] w (Zm g x K bx bm k dn rs D w):=by
 have hyl:=rB ok m
 have hlL:=ok.lL
 have h48:fY g x _/\mK x.L.length x.cs.length (aD x.L m).c:=⟨oV go hm,ok.nv m⟩
 have hb:b<=x.L.length:=by have:=lH (ok.nv m) (eO h (level:Int));rw[hl] at this;exact this
 refine enter Tryz.func226 Tryz.ntmps226 rfl rfl (bZ hs) ?_
 simp only[bY]
 refine J0 ?_;refine aI (λ x10=>?_);refine iZ ?_
 refine eI [12,13,26,27,28,29,30,31,32,33] (λ j:Nat=>[(12,.pointer (some ⟨j,0,none⟩)),(13,.string k.key)]) (λ _=>True) (λ j=>[(j,.cells ⟨(aD x.L m).nd.cells⟩ 47 (0,0)),(x10,.cells ⟨Rs.zero.cells⟩ 64 (0,0)),(bx,xO k bm x dn rs),(bm,xM x)]) (λ _=>[]) (λ _=>xW x) (by decide) (λ _=>by exact rfl) ?_ (λ j f hx=>?_)
 ·refine iD (.one 0 [] (.one 1 [] (.one 3 [] (.one 4 [] (.one 5 [] (.one 6 [] (.one 7 [] (.two 2 [7] (.one 8 [7] (.one 9 [7] (.one 10 [] .nil))) 0 [] (.two 8 [7] (.one 2 [7] (.one 9 [7] (.one 10 [] .nil))) 0 [] .nil))))))))) ?_
  refine hZ ?_;refine xR ?_
  refine iK (E:=[2,8]) (by decide +kernel) ((.cons ?_ (.cons ?_ .nil)))
  ·refine mX (i:=2) (hq:=(cM (hs:=xH k bx bm x dn rs) (os:=xW x) (hc:=λ w hs=>fG m (by omega) ok hs))) (h:=λ x28 h28=>?_)
   refine iE (h:=λ x12=>?_);refine Cf ?_
   refine fC (x12) ?_
   ·trivial
  ·refine iC (i:=8) (h:=λ x12=>?_)
   refine bC (i:=2) (hq:=(cM (hs:=xH k bx bm x dn rs) (os:=xW x) (hc:=λ w hs=>fG m (by omega) ok hs))) (h:=λ x28 h28=>?_);refine Cf ?_
   refine fC (x12) ?_
   ·trivial
 dsimp only[gR,List.map,List.cons_append,List.nil_append]
 refine Du ?_;refine uI ?_
 refine bE (λ c36=>?_) (λ c36=>?_)
 ·exact absurd c36 hk
 ·have g0:=h48.1.to (λ _=>if_neg hk)
  have g1:=tG g0 (by rw[hl];rfl)
  rw[hl] at g1
  have g2:=oV g1 hb
  refine yV ?_;refine aR (cV (hc:=λ w1 hw=>eW hh (level:Int) w1)) (λ x91=>?_);refine J1 ?_;refine Ta ?_;refine aR (cV (hc:=λ w1 hw=>Jw (v:=(aD x.L m)) h48.2 hl (ok.rG hw hA m))) (λ x95=>?_);refine aA ?_;refine aB (bL rf rfl) rfl ?_;refine aB (bL rf rfl) rfl ?_;refine J8 ?_;refine iO ?_;refine aC (cM (hs:=xH k bx bm x dn rs) (os:=xW x) (hc:=λ w hs=>fG b (by omega) ok hs)) (λ x100 h100=>?_);refine aI (λ x21=>?_);refine J5 ?_;refine Dk ?_;refine iO ?_
  (refine aF ?_;refine aE ?_)
  refine yd ?_;refine J1 ?_
  refine bE (λ c101=>?_) (λ c101=>?_)
  ·exact absurd c101 hi2
  ·have g3:=(g2.to (λ _=>if_neg hi2)).to (λ _=>if_pos he)
   refine J2 ?_;refine En ?_
   (refine aF ?_;refine aE ?_)
   refine Zl ?_;((refine aF ?_;refine aB (qg rf rf he) rfl ?_));refine cH ?_;refine J1 ?_
   refine bE (λ c109=>?_) (λ c109=>?_)
   ·refine J0 ?_;refine aR (cV (hc:=λ w1 hw=>gK _ _ w1)) (λ x118=>?_);refine zH ?_
    refine bD Tryz.results226 (λ w hw=>?_)
    exact⟨(dO false 0,1,x,[]),rfl,⟨g3,ok,by simp,Nat.le_refl _,bH _⟩,hw.aU (hF:=by exact aY.nil)⟩
   ·exact nv c109
set_option maxRecDepth 100000 in
theorem Te(hg:g.Ok)(i m:Int){h:Nat}(hh:h<18446744073709551616)(level:Nat)(hlv:level<=1073741824)(K:Rs->Int->Tr)(ht:k.t.root<=9223372036854775807)(hi:i<=x.L.length)(hm:m<=x.L.length)(hA:∀f∈aM x.L,f∈A)(hk:¬(aD x.L m).nd.kind=6){b:Int}(hl:iU (aD x.L m).c (eO h (level:Int))=some b)(hi2:¬(aD x.L b).nd.kind=2)(he:(aD x.L b).nd.key=k.key)(go:fY g x (kI k i m h level K))(ok:x.Ok)(hs:SF w D (xH k bx bm x dn rs) A [] (xW x) w):Calls Tryz.prog 226 #[.pointer (some ⟨bx,0,none⟩),.int .i64 i,.int .i64 m,.int .u64 (h:Int),.int .i64 (level:Int)] w (Zm g x K bx bm k dn rs D w):=by
 have hyl:=rB ok m
 have hlL:=ok.lL
 have h48:fY g x _/\mK x.L.length x.cs.length (aD x.L m).c:=⟨oV go hm,ok.nv m⟩
 have hb:b<=x.L.length:=by have:=lH (ok.nv m) (eO h (level:Int));rw[hl] at this;exact this
 refine enter Tryz.func226 Tryz.ntmps226 rfl rfl (bZ hs) ?_
 simp only[bY]
 refine J0 ?_;refine aI (λ x10=>?_);refine iZ ?_
 refine eI [12,13,26,27,28,29,30,31,32,33] (λ j:Nat=>[(12,.pointer (some ⟨j,0,none⟩)),(13,.string k.key)]) (λ _=>True) (λ j=>[(j,.cells ⟨(aD x.L m).nd.cells⟩ 47 (0,0)),(x10,.cells ⟨Rs.zero.cells⟩ 64 (0,0)),(bx,xO k bm x dn rs),(bm,xM x)]) (λ _=>[]) (λ _=>xW x) (by decide) (λ _=>by exact rfl) ?_ (λ j f hx=>?_)
 ·refine iD (.one 0 [] (.one 1 [] (.one 3 [] (.one 4 [] (.one 5 [] (.one 6 [] (.one 7 [] (.two 2 [7] (.one 8 [7] (.one 9 [7] (.one 10 [] .nil))) 0 [] (.two 8 [7] (.one 2 [7] (.one 9 [7] (.one 10 [] .nil))) 0 [] .nil))))))))) ?_
  refine hZ ?_;refine xR ?_
  refine iK (E:=[2,8]) (by decide +kernel) ((.cons ?_ (.cons ?_ .nil)))
  ·refine mX (i:=2) (hq:=(cM (hs:=xH k bx bm x dn rs) (os:=xW x) (hc:=λ w hs=>fG m (by omega) ok hs))) (h:=λ x28 h28=>?_)
   refine iE (h:=λ x12=>?_);refine Cf ?_
   refine fC (x12) ?_
   ·trivial
  ·refine iC (i:=8) (h:=λ x12=>?_)
   refine bC (i:=2) (hq:=(cM (hs:=xH k bx bm x dn rs) (os:=xW x) (hc:=λ w hs=>fG m (by omega) ok hs))) (h:=λ x28 h28=>?_);refine Cf ?_
   refine fC (x12) ?_
   ·trivial
 dsimp only[gR,List.map,List.cons_append,List.nil_append]
 refine Du ?_;refine uI ?_
 refine bE (λ c36=>?_) (λ c36=>?_)
 ·exact absurd c36 hk
 ·have g0:=h48.1.to (λ _=>if_neg hk)
  have g1:=tG g0 (by rw[hl];rfl)
  rw[hl] at g1
  have g2:=oV g1 hb
  refine yV ?_;refine aR (cV (hc:=λ w1 hw=>eW hh (level:Int) w1)) (λ x91=>?_);refine J1 ?_;refine Ta ?_;refine aR (cV (hc:=λ w1 hw=>Jw (v:=(aD x.L m)) h48.2 hl (ok.rG hw hA m))) (λ x95=>?_);refine aA ?_;refine aB (bL rf rfl) rfl ?_;refine aB (bL rf rfl) rfl ?_;refine J8 ?_;refine iO ?_;refine aC (cM (hs:=xH k bx bm x dn rs) (os:=xW x) (hc:=λ w hs=>fG b (by omega) ok hs)) (λ x100 h100=>?_);refine aI (λ x21=>?_);refine J5 ?_;refine Dk ?_;refine iO ?_
  (refine aF ?_;refine aE ?_)
  refine yd ?_;refine J1 ?_
  refine bE (λ c101=>?_) (λ c101=>?_)
  ·exact absurd c101 hi2
  ·have g3:=(g2.to (λ _=>if_neg hi2)).to (λ _=>if_neg (λ h:¬(aD x.L b).nd.key=k.key=>h he))
   refine J2 ?_;refine En ?_
   (refine aF ?_;refine aE ?_)
   refine Zl ?_;((refine aF ?_;refine aB (qt rf rf he) rfl ?_));refine cH ?_;refine J1 ?_
   refine bE (λ c109=>?_) (λ c109=>?_)
   ·exact nv c109
   ·refine aV ?_;refine gJ [0,1,2,3,4,5,6,7,8,9,10,11,12,13,14,15] ?_;refine xR ?_;refine aP ?_
    (refine Zk 125 (λ g125=>?_) (λ g125=>?_)<;>(first|refine dE ?_|(refine aQ ?_)))
    all_goals ((first|refine dE ?_|(refine bP ?_));(first|refine dE ?_|(refine aP ?_));(first|refine dE ?_|(refine tH ?_));(first|refine dE ?_|(refine aQ ?_));refine nj ?_;(first|refine dE ?_|(refine Nk ?_));refine eQ ?_;refine J7 ?_)
    all_goals
    refine bE (λ c119=>?_) (λ c119=>?_)
    ·try exact nv c119
     all_goals
      have g4:=g3.to (λ _=>if_pos (show(k.only=true/\(aD x.L b).nd.val≠k.exp) from⟨by assumption,by assumption⟩))
     all_goals (refine gZ ?_;refine aR (cV (hc:=λ w1 hw=>gK _ _ w1)) (λ x137=>?_);refine zH ?_)
     all_goals
      refine bD Tryz.results226 (λ w hw=>?_)
      exact⟨(dO true (aD x.L b).nd.val,1,x,[]),rfl,⟨g4,ok,by simp,Nat.le_refl _,bH _⟩,hw.aU (hF:=by exact aY.nil)⟩
    ·all_goals
      have g4:=g3.to (λ _=>if_neg (show ¬(k.only=true/\(aD x.L b).nd.val≠k.exp) from by rintro ⟨h,h'⟩;simp_all))
     all_goals (refine oB ?_;refine Ta ?_;refine aC (cF (hc:=λ w1 hw=>aBC (v:=(aD x.L m)) h48.2 (eO h (level:Int)) (ok.rG hw hA m))) (λ x141 h141=>?_))
     all_goals
      have hB:=aAu h48.2 (v:=(aD x.L m)) (eO h (level:Int))
     all_goals (refine aA ?_;refine aB (bL rf rfl) rfl ?_;refine aB (bL rf rfl) rfl ?_;refine aI (λ x22=>?_);refine zH ?_;refine pK ?_;refine aR (cV (hc:=λ w1 hw=>tw hB (uv h48.2 (eO h (level:Int)) x141) (hw.cl (.new .head)))) (λ x146=>?_))
     all_goals
      have hso:((Lo (Nb (aD x.L m).c (eO h (level:Int)))).getD 0)<=x.L.length:=aA1 hB (uv h48.2 (eO h (level:Int)) x141)
      have g5:=oV g4 hso
     all_goals (refine aA ?_;refine aB (bL rf rfl) rfl ?_;refine aB (bL rf rfl) rfl ?_;refine J8 ?_;refine aV ?_;refine dX [(0,[]),(1,[]),(2,[]),(3,[]),(4,[]),(5,[]),(6,[]),(7,[]),(8,[]),(9,[]),(10,[]),(11,[]),(12,[]),(13,[]),(16,[]),(19,[]),(20,[]),(14,[6,10,20]),(15,[6,20]),(17,[6,20]),(18,[20]),(21,[]),(22,[]),(23,[]),(24,[]),(25,[])] ?_;refine hZ ?_;refine J9 ?_;refine aQ ?_;refine bT (i:=6) (hq:=(aN (k:=2) (vs:=[.int .i64 k.t.root,.bool k.t.ro]) rf cL dJ rfl rfl)) (h:=?_);refine hZ ?_;refine aP ?_;refine bP ?_;refine hZ ?_;refine hZ ?_;refine lV ?_;refine bC (i:=14) (hq:=(cM (hs:=xH k bx bm x dn rs) (os:=xW x) (hc:=λ w hs=>fG ((Lo (Nb (aD x.L m).c (eO h (level:Int)))).getD 0) (by omega) ok hs))) (hfire:=(λ _=>by(refine gA ?_;(repeat (first|exact aW.nil|refine aW.cons (by first|exact iR (hq:=aN (k:=2) (vs:=[.int .i64 k.t.root,.bool k.t.ro]) rf cL dJ rfl rfl)|exact jK) ?_));done))) (h:=λ x163 h163=>?_);refine cN (i:=15) (hq:=(cV (hc:=λ w1 hw=>V7 hB (level:Int) (aD x.L ((Lo (Nb (aD x.L m).c (eO h (level:Int)))).getD 0)).nd (hw.cl (.new .head))))) (hfire:=(λ _=>by((repeat (first|exact aW.nil|refine aW.cons (by first|exact iR (hq:=aN (k:=2) (vs:=[.int .i64 k.t.root,.bool k.t.ro]) rf cL dJ rfl rfl)|exact jK) ?_));done))) (h:=λ x164=>?_);refine bC (i:=17) (hq:=(cM (hs:=xH k bx bm x dn rs) (os:=xW x) (A0:=[((N9 (cx (aD x.L m) (eO h (level:Int))) x141 (level:Int) (aD x.L ((Lo (Nb (aD x.L m).c (eO h (level:Int)))).getD 0)).nd).brA,aG (Xi (cx (aD x.L m) (eO h (level:Int))) x141 (level:Int) (aD x.L ((Lo (Nb (aD x.L m).c (eO h (level:Int)))).getD 0)).nd)),((N9 (cx (aD x.L m) (eO h (level:Int))) x141 (level:Int) (aD x.L ((Lo (Nb (aD x.L m).c (eO h (level:Int)))).getD 0)).nd).prA,dH [])]) (hA:=vr) (hc:=λ w hs=>gO hg (n:=(N9 (cx (aD x.L m) (eO h (level:Int))) x141 (level:Int) (aD x.L ((Lo (Nb (aD x.L m).c (eO h (level:Int)))).getD 0)).nd)) (xs:=(Xi (cx (aD x.L m) (eO h (level:Int))) x141 (level:Int) (aD x.L ((Lo (Nb (aD x.L m).c (eO h (level:Int)))).getD 0)).nd)) (ys:=[]) m _ (ap _ _ _) (df _ _ _) (Wc hB _ _ _) (Nat.zero_le _) (Ur hB _ _ (ok.nv ((Lo (Nb (aD x.L m).c (eO h (level:Int)))).getD 0)).hash) hm (by rw[<- wb,<- aBs h48.2];exact g5) ok hs))) (hfire:=(λ _=>by(refine gA ?_;(repeat (first|exact aW.nil|refine aW.cons (by first|exact iR (hq:=aN (k:=2) (vs:=[.int .i64 k.t.root,.bool k.t.ro]) rf cL dJ rfl rfl)|exact jK) ?_));done))) (h:=λ x166 h166=>?_);refine bC (i:=18) (hq:=(cM (hs:=xH k bx bm x166.2.1 dn rs) (os:=xW x166.2.1) (hc:=λ w hs=>sN hg k.t i m x166.1 _ ht (by have:=h166.len;omega) h166.bd h166.go h166.ok hs))) (h:=λ x167 h167=>?_))
     all_goals
      have hch:=Ch.nx h167 (Ch.nx h166 ((Ch.base (F:=[])).cons (f:=(x141.1,aG (mF (cx (aD x.L m) (eO h (level:Int))))))))
      have hlc:x.cs.length<=x167.2.1.cs.length:=by have:=h166.lc;have:=h167.lc;omega
     all_goals (refine cN (i:=21) (hq:=(cV (hc:=λ w1 hw=>pJ _ _ _ _ w1))) (h:=λ x170=>?_);refine cE (i:=22) (hq:=(bL rf rfl)) (h:=?_);refine cE (i:=23) (hq:=(bL rf rfl)) (h:=?_);refine Cf ?_)
     all_goals
      refine bD Tryz.results226 (λ w hw=>?_)
      obtain⟨N,hN,hf⟩:=hch.to (t':=K (oA true (aD x.L b).nd.val) (if x167.1=true then 1 else 0)) h167 (h167.go) hlc (bH _)
      exact⟨(oA true (aD x.L b).nd.val,(if x167.1=true then 1 else 0),x167.2.1,N),rfl,hN,(hw.fE hf).aU (hF:=by exact aY.all)⟩
theorem Sd(hg:g.Ok)(i m:Int){h:Nat}(hh:h<18446744073709551616)(level:Nat)(hlv:level<=1073741824)(K:Rs->Int->Tr)(ht:k.t.root<=9223372036854775807)(hi:i<=x.L.length)(hm:m<=x.L.length)(hA:∀f∈aM x.L,f∈A)(go:fY g x (kI k i m h level K))(ok:x.Ok)(hs:SF w D (xH k bx bm x dn rs) A [] (xW x) w):Calls Tryz.prog 226 #[.pointer (some ⟨bx,0,none⟩),.int .i64 i,.int .i64 m,.int .u64 (h:Int),.int .i64 (level:Int)] w (Zm g x K bx bm k dn rs D w):=by
 by_cases hk:(aD x.L m).nd.kind=6
 ·exact Rw hg i m hh level hlv K ht hi hm hA hk go ok hs
 ·cases hl:iU (aD x.L m).c (eO h (level:Int)) with
  | none=>exact Ra hg i m hh level hlv K ht hi hm hA hk hl go ok hs
  | some b =>
   by_cases hi2:(aD x.L b).nd.kind=2
   ·exact Sl hg i m hh level hlv K ht hi hm hA hk hl hi2 go ok hs
   ·by_cases he:(aD x.L b).nd.key=k.key
    ·exact Te hg i m hh level hlv K ht hi hm hA hk hl hi2 he go ok hs
    ·exact Se hg i m hh level hlv K ht hi hm hA hk hl hi2 he go ok hs
end
end Go.Proofs.YtbajmaoegmbfgaaGreat

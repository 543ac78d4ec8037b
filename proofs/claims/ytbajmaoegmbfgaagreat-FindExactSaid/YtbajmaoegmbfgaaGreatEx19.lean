/- Executions of the reference: one attempt of DROP at a leaf. -/
import Derived.Test.YtbajmaoegmbfgaaGreatGEx18
set_option linter.unusedSimpArgs false
set_option linter.unusedVariables false
namespace Go.Ct
open Go Go.RowKit
theorem oP{g:Gx}{x:XS}{r:Int}{K:Nv->Tr}(h:fW g x (.node r K))(hr:r<=x.L.length):fW g x (K (aD x.L r).c):=by
 have:=h.node hr
 rwa [show eC x.nodes r=(aD x.L r).c from(Lh x.L r).symm] at this
section
variable{P:Program}{S:List (Nat×Value)}{G:World->Prop}{d:Nat}{ty t t':TypeId}{pos:String}{af:Array Edge}{gd:Option (Nat×Bool)}{x y:Operand}{a b:ByteArray}
theorem mh(hx:ev S x=.string a)(hy:ev S y=.string b)(h:¬a=b):aL P S G ⟨some d,.binOp .neq t x y t',ty,pos,af,gd⟩ (.bool true):=by
 have:=Gj (P:=P) (G:=G) (d:=d) (ty:=ty) (pos:=pos) (af:=af) (gd:=gd) (t:=t) (t':=t') hx hy
 rwa [bne,ss h] at this
theorem q7(hx:ev S x=.string a)(hy:ev S y=.string b)(h:a=b):aL P S G ⟨some d,.binOp .neq t x y t',ty,pos,af,gd⟩ (.bool false):=by
 have:=Gj (P:=P) (G:=G) (d:=d) (ty:=ty) (pos:=pos) (af:=af) (gd:=gd) (t:=t) (t':=t') hx hy
 rwa [bne,ui h] at this
end
end Go.Ct
namespace Go.Proofs.YtbajmaoegmbfgaaGreat
open Go Go.RowKit Go.Ct
theorem q8{m:Nat}{o:Option (Nat×List Int)}{w:World}(h:vS m o){x:Option Addr×Nat}{r:Nv}(e:r=(mI o x).c (mB o) [])(hc:Go.Ct.Cl w x.1 (aH (mB o))):Calls Tryz.prog 245 #[(mI o x).v] w λ e w'=>e=.returned (.tuple #[.int .i64 ((Kx r).getD 0),.bool (Kx r).isSome])/\St w [] [] w':=by
 obtain⟨b,h1,h2⟩:=Pz h x
 have:=Iu (n:=mI o x) h1 h2 (Ps h hc)
 rw[v7,<- e] at this
 exact this
theorem aBD{m:Nat}{o:Option (Nat×List Int)}(h:vS m o){x:Option Addr×Nat}{r:Nv}(e:r=(mI o x).c (mB o) []):(Kx r).getD 0<=m:=by
 rw[e,<- v7]
 unfold Y1
 split
 ·refine mC (λ v hv=>?_) 0
  cases o with
  | none=>exact(List.not_mem_nil hv).elim
  | some q=>exact(h.out q rfl).2.2 v hv
 ·exact bI _
section
variable{k:Cl}{bx bm:Nat}{x:XS}{dn:Bool}{rs:Rs}{D:List Nat}{A:Fr}{w:World}{g:Gx}
set_option maxRecDepth 100000 in
theorem Qu(hg:g.Ok)(i m:Int){h:Nat}(hh:h<18446744073709551616)(level:Nat)(hlv:level<=1073741824)(K:Rs->Int->Tr)(ht:k.t.root<=9223372036854775807)(hi:i<=x.L.length)(hm:m<=x.L.length)(hA:∀f∈aM x.L,f∈A)(hk:(aD x.L m).nd.kind=6)(go:fW g x (kE k i m h level K))(ok:x.Ok)(hs:SF w D (xH k bx bm x dn rs) A [] (xW x) w):Calls Tryz.prog 226 #[.pointer (some ⟨bx,0,none⟩),.int .i64 i,.int .i64 m,.int .u64 (h:Int),.int .i64 (level:Int)] w (Yl g x K bx bm k dn rs D w):=by
 have hyl:=qT ok m
 have hlL:=ok.lL
 have h48:fW g x _/\mH x.L.length x.cs.length (aD x.L m).c:=⟨oP go hm,ok.nv m⟩
 refine enter Tryz.func226 Tryz.ntmps226 rfl rfl (bZ hs) ?_
 simp only[bY]
 refine J0 ?_;refine aI (λ x10=>?_);refine iT ?_
 refine eE [12,13,26,27,28,29,30,31,32,33] (λ j:Nat=>[(12,.pointer (some ⟨j,0,none⟩)),(13,.string k.key)]) (λ _=>True) (λ j=>[(j,.cells ⟨(aD x.L m).nd.cells⟩ 47 (0,0)),(x10,.cells ⟨Rs.zero.cells⟩ 64 (0,0)),(bx,xO k bm x dn rs),(bm,xM x)]) (λ _=>[]) (λ _=>xW x) (by decide) (λ _=>by exact rfl) ?_ (λ j f hx=>?_)
 ·refine iB (.one 0 [] (.one 1 [] (.one 3 [] (.one 4 [] (.one 5 [] (.one 6 [] (.one 7 [] (.two 2 [7] (.one 8 [7] (.one 9 [7] (.one 10 [] .nil))) 0 [] (.two 8 [7] (.one 2 [7] (.one 9 [7] (.one 10 [] .nil))) 0 [] .nil))))))))) ?_
  refine iD ?_;refine xF ?_
  refine iF (E:=[2,8]) (by decide +kernel) ((.cons ?_ (.cons ?_ .nil)))
  ·refine mU (i:=2) (hq:=(cM (hs:=xH k bx bm x dn rs) (os:=xW x) (hc:=λ w hs=>fF m (by omega) ok hs))) (h:=λ x28 h28=>?_)
   refine iC (h:=λ x12=>?_);refine B9 ?_
   refine eT (x12) ?_
   ·trivial
  ·refine iE (i:=8) (h:=λ x12=>?_)
   refine bD (i:=2) (hq:=(cM (hs:=xH k bx bm x dn rs) (os:=xW x) (hc:=λ w hs=>fF m (by omega) ok hs))) (h:=λ x28 h28=>?_);refine B9 ?_
   refine eT (x12) ?_
   ·trivial
 dsimp only[gU,List.map,List.cons_append,List.nil_append]
 refine Ci ?_;refine tN ?_
 refine bE (λ c36=>?_) (λ c36=>?_)
 ·have g1:=h48.1.to (λ _=>if_pos hk)
  refine hJ ?_;refine aA ?_;refine aQ (cV (hc:=λ w1 hw=>K5 (v:=(aD x.L m)) (n:=0) k.key (ok.rA hw hA m) (ok.ysl m))) (λ x41=>?_);refine aA ?_;refine aB (bL rf rfl) rfl ?_;refine aB (bL rf rfl) rfl ?_;refine J8 ?_;refine kK ?_;refine Gh ?_
  (refine eM 46 (λ g46=>?_) (λ g46=>?_)<;>(first|refine aJ ?_|(refine aF ?_;refine aA ?_)))
  all_goals ((first|refine aJ ?_|(refine aF ?_;refine dF ?_));(first|refine aJ ?_|(refine aF ?_;refine aE ?_));(first|refine aJ ?_|(refine aF ?_;refine aE ?_));(first|refine aJ ?_|(refine aF ?_;refine bR ?_));(first|refine aJ ?_|(refine aF ?_;refine aA ?_)))
  all_goals (first|refine zK ?_|(refine eM 52 (λ g52=>?_) (λ g52=>?_)<;>(first|refine aJ ?_|(refine aF ?_;refine aA ?_))))
  all_goals ((first|refine aJ ?_|refine zK ?_|(refine aF ?_;refine aA ?_));(first|refine aJ ?_|refine zK ?_|(refine aF ?_;refine dF ?_));(first|refine aJ ?_|refine zK ?_|(refine aF ?_;refine aE ?_));(first|refine aJ ?_|refine zK ?_|(refine aF ?_;refine aE ?_));(first|refine aJ ?_|refine zK ?_|(refine aF ?_;refine bR ?_));(first|refine aJ ?_|refine zK ?_|(refine aF ?_;refine pJ ?_));(first|refine aJ ?_|(refine aF ?_;refine cH ?_));refine cH ?_;refine aG ?_)
  all_goals
  refine bE (λ c61=>?_) (λ c61=>?_)
  ·try exact nv c61
   all_goals
    have g2:=g1.to (λ _=>if_pos (show((cN (aD x.L m).c.ys k.key).isSome=false∨(k.only=true/\(cN (aD x.L m).c.ys k.key).getD 0≠k.exp)) from by first|exact Or.inl (by assumption)|exact Or.inr ⟨by assumption,by assumption⟩))
   all_goals (refine iM ?_;refine aQ (cV (hc:=λ w1 hw=>gJ _ _ w1)) (λ x64=>?_);refine yT ?_)
   all_goals
    refine bC Tryz.results226 (λ w hw=>?_)
    exact⟨(dL (cN (aD x.L m).c.ys k.key).isSome ((cN (aD x.L m).c.ys k.key).getD 0),1,x,[]),rfl,⟨g2,ok,by simp,Nat.le_refl _,bI _⟩,hw.aU (hF:=by exact aX.nil)⟩
  ·try exact nv c61
   all_goals
    have g2:=g1.to (λ _=>if_neg (show ¬((cN (aD x.L m).c.ys k.key).isSome=false∨(k.only=true/\(cN (aD x.L m).c.ys k.key).getD 0≠k.exp)) from by rintro (h|⟨h,h'⟩)<;>simp_all))
   all_goals (refine aZ ?_;refine Q3 ?_;refine aC (cF (hc:=λ w1 hw=>aAh (v:=(aD x.L m)) h48.2 k.key (ok.rA hw hA m) (by omega))) (λ x68 h68=>?_);refine aA ?_;refine aB (bL rf rfl) rfl ?_;refine aB (bL rf rfl) rfl ?_;refine aI (λ x16=>?_);refine jI (λ _=>?_);refine iT ?_;refine dZ [(0,[]),(1,[]),(2,[]),(3,[]),(4,[]),(5,[]),(6,[]),(7,[]),(8,[]),(9,[]),(10,[]),(11,[]),(14,[]),(12,[6]),(13,[]),(15,[]),(16,[]),(17,[]),(18,[]),(19,[])] ?_;refine iD ?_;refine J9 ?_;refine aR ?_;refine bT (i:=6) (hq:=(aP (k:=2) (vs:=[.int .i64 k.t.root,.bool k.t.ro]) rf cK dH rfl rfl)) (h:=?_);refine iD ?_;refine aN ?_;refine bP ?_;refine iD ?_;refine bD (i:=12) (hq:=(cM (hs:=xH k bx bm x dn rs) (os:=xW x) (A0:=[((Mn (pL (aD x.L m).nd (aD x.L m).xs (aD x.L m).ys k.key) (aD x.L m).nd.hash x68).brA,aH []),((Mn (pL (aD x.L m).nd (aD x.L m).xs (aD x.L m).ys k.key) (aD x.L m).nd.hash x68).prA,dE (Hp (pL (aD x.L m).nd (aD x.L m).xs (aD x.L m).ys k.key)))]) (hA:=aBk) (hc:=λ w hs=>gM hg (n:=Mn (pL (aD x.L m).nd (aD x.L m).xs (aD x.L m).ys k.key) (aD x.L m).nd.hash x68) (xs:=[]) (ys:=Hp (pL (aD x.L m).nd (aD x.L m).xs (aD x.L m).ys k.key)) m _ (Zi _ _ _).1 (Zi _ _ _).2 (by decide) (by have:=wb (aD x.L m).xs (aD x.L m).ys (aD x.L m).nd k.key;omega) (zb _ h48.2.hash) hm (by rw[aB6];exact g2) ok hs))) (hfire:=(λ _=>by(refine gA ?_;refine aW.cons (by exact iP (hq:=aP (k:=2) (vs:=[.int .i64 k.t.root,.bool k.t.ro]) rf cK dH rfl rfl)) ?_;exact aW.nil))) (h:=λ x83 h83=>?_);refine bD (i:=13) (hq:=(cM (hs:=xH k bx bm x83.2.1 dn rs) (os:=xW x83.2.1) (hc:=λ w hs=>rU hg k.t i m x83.1 _ ht (by have:=h83.len;omega) h83.bd h83.go h83.ok hs))) (h:=λ x84 h84=>?_))
   all_goals
    have hch:=Ch.nx h84 (Ch.nx h83 ((Ch.base (F:=[])).cons (f:=(x68.1,dE (Hp (pL (aD x.L m).nd (aD x.L m).xs (aD x.L m).ys k.key))))))
    have hlc:x.cs.length<=x84.2.1.cs.length:=by have:=h83.lc;have:=h84.lc;omega
   all_goals (refine cL (i:=15) (hq:=(cV (hc:=λ w1 hw=>pC _ _ _ _ w1))) (h:=λ x86=>?_);refine cG (i:=16) (hq:=(bL rf rfl)) (h:=?_);refine cG (i:=17) (hq:=(bL rf rfl)) (h:=?_);refine B9 ?_)
   all_goals
    refine bC Tryz.results226 (λ w hw=>?_)
    obtain⟨N,hN,hf⟩:=hch.to (t':=K (nS true ((cN (aD x.L m).c.ys k.key).getD 0)) (if x84.1=true then 1 else 0)) h84 (h84.go) hlc (bI _)
    exact⟨(nS true ((cN (aD x.L m).c.ys k.key).getD 0),(if x84.1=true then 1 else 0),x84.2.1,N),rfl,hN,(hw.fC hf).aU (hF:=by exact aX.all)⟩
 ·exact absurd hk c36
set_option maxRecDepth 100000 in
theorem R3(hg:g.Ok)(i m:Int){h:Nat}(hh:h<18446744073709551616)(level:Nat)(hlv:level<=1073741824)(K:Rs->Int->Tr)(ht:k.t.root<=9223372036854775807)(hi:i<=x.L.length)(hm:m<=x.L.length)(hA:∀f∈aM x.L,f∈A)(hk:¬(aD x.L m).nd.kind=6)(hl:iR (aD x.L m).c (eP h (level:Int))=none)(go:fW g x (kE k i m h level K))(ok:x.Ok)(hs:SF w D (xH k bx bm x dn rs) A [] (xW x) w):Calls Tryz.prog 226 #[.pointer (some ⟨bx,0,none⟩),.int .i64 i,.int .i64 m,.int .u64 (h:Int),.int .i64 (level:Int)] w (Yl g x K bx bm k dn rs D w):=by
 have hyl:=qT ok m
 have hlL:=ok.lL
 have h48:fW g x _/\mH x.L.length x.cs.length (aD x.L m).c:=⟨oP go hm,ok.nv m⟩
 refine enter Tryz.func226 Tryz.ntmps226 rfl rfl (bZ hs) ?_
 simp only[bY]
 refine J0 ?_;refine aI (λ x10=>?_);refine iT ?_
 refine eE [12,13,26,27,28,29,30,31,32,33] (λ j:Nat=>[(12,.pointer (some ⟨j,0,none⟩)),(13,.string k.key)]) (λ _=>True) (λ j=>[(j,.cells ⟨(aD x.L m).nd.cells⟩ 47 (0,0)),(x10,.cells ⟨Rs.zero.cells⟩ 64 (0,0)),(bx,xO k bm x dn rs),(bm,xM x)]) (λ _=>[]) (λ _=>xW x) (by decide) (λ _=>by exact rfl) ?_ (λ j f hx=>?_)
 ·refine iB (.one 0 [] (.one 1 [] (.one 3 [] (.one 4 [] (.one 5 [] (.one 6 [] (.one 7 [] (.two 2 [7] (.one 8 [7] (.one 9 [7] (.one 10 [] .nil))) 0 [] (.two 8 [7] (.one 2 [7] (.one 9 [7] (.one 10 [] .nil))) 0 [] .nil))))))))) ?_
  refine iD ?_;refine xF ?_
  refine iF (E:=[2,8]) (by decide +kernel) ((.cons ?_ (.cons ?_ .nil)))
  ·refine mU (i:=2) (hq:=(cM (hs:=xH k bx bm x dn rs) (os:=xW x) (hc:=λ w hs=>fF m (by omega) ok hs))) (h:=λ x28 h28=>?_)
   refine iC (h:=λ x12=>?_);refine B9 ?_
   refine eT (x12) ?_
   ·trivial
  ·refine iE (i:=8) (h:=λ x12=>?_)
   refine bD (i:=2) (hq:=(cM (hs:=xH k bx bm x dn rs) (os:=xW x) (hc:=λ w hs=>fF m (by omega) ok hs))) (h:=λ x28 h28=>?_);refine B9 ?_
   refine eT (x12) ?_
   ·trivial
 dsimp only[gU,List.map,List.cons_append,List.nil_append]
 refine Ci ?_;refine tN ?_
 refine bE (λ c36=>?_) (λ c36=>?_)
 ·exact absurd c36 hk
 ·have g0:=h48.1.to (λ _=>if_neg hk)
  have g1:=Md g0 (by rw[hl];rfl)
  refine yH ?_;refine aQ (cV (hc:=λ w1 hw=>eV hh (level:Int) w1)) (λ x91=>?_);refine J1 ?_;refine Q3 ?_;refine aQ (cV (hc:=λ w1 hw=>uf (v:=(aD x.L m)) h48.2 hl (ok.rA hw hA m))) (λ x95=>?_);refine aA ?_;refine aB (bL rf rfl) rfl ?_;refine aB (bL rf rfl) rfl ?_;refine J8 ?_;refine iM ?_;refine aC (cM (hs:=xH k bx bm x dn rs) (os:=xW x) (hc:=λ w hs=>fF 0 (by decide) ok hs)) (λ x100 h100=>?_);refine aI (λ x21=>?_);refine J5 ?_;refine C7 ?_;refine iM ?_
  refine aJ ?_
  refine vc ?_;refine J1 ?_
  refine bE (λ c101=>?_) (λ c101=>?_)
  ·exact nv c101
  ·refine J2 ?_;refine Gh ?_
   refine aJ ?_
   refine Yn ?_;(refine aJ ?_);refine cH ?_;refine J1 ?_
   refine bE (λ c109=>?_) (λ c109=>?_)
   ·refine J0 ?_;refine aQ (cV (hc:=λ w1 hw=>gJ _ _ w1)) (λ x118=>?_);refine yT ?_
    refine bC Tryz.results226 (λ w hw=>?_)
    exact⟨(dL false 0,1,x,[]),rfl,⟨g1,ok,by simp,Nat.le_refl _,bI _⟩,hw.aU (hF:=by exact aX.nil)⟩
   ·exact nv c109
set_option maxRecDepth 100000 in
theorem Ss(hg:g.Ok)(i m:Int){h:Nat}(hh:h<18446744073709551616)(level:Nat)(hlv:level<=1073741824)(K:Rs->Int->Tr)(ht:k.t.root<=9223372036854775807)(hi:i<=x.L.length)(hm:m<=x.L.length)(hA:∀f∈aM x.L,f∈A)(hk:¬(aD x.L m).nd.kind=6){b:Int}(hl:iR (aD x.L m).c (eP h (level:Int))=some b)(hi2:(aD x.L b).nd.kind=2)(go:fW g x (kE k i m h level K))(ok:x.Ok)(hs:SF w D (xH k bx bm x dn rs) A [] (xW x) w):Calls Tryz.prog 226 #[.pointer (some ⟨bx,0,none⟩),.int .i64 i,.int .i64 m,.int .u64 (h:Int),.int .i64 (level:Int)] w (Yl g x K bx bm k dn rs D w):=by
 have hyl:=qT ok m
 have hlL:=ok.lL
 have h48:fW g x _/\mH x.L.length x.cs.length (aD x.L m).c:=⟨oP go hm,ok.nv m⟩
 have hb:b<=x.L.length:=by have:=lE (ok.nv m) (eP h (level:Int));rw[hl] at this;exact this
 refine enter Tryz.func226 Tryz.ntmps226 rfl rfl (bZ hs) ?_
 simp only[bY]
 refine J0 ?_;refine aI (λ x10=>?_);refine iT ?_
 refine eE [12,13,26,27,28,29,30,31,32,33] (λ j:Nat=>[(12,.pointer (some ⟨j,0,none⟩)),(13,.string k.key)]) (λ _=>True) (λ j=>[(j,.cells ⟨(aD x.L m).nd.cells⟩ 47 (0,0)),(x10,.cells ⟨Rs.zero.cells⟩ 64 (0,0)),(bx,xO k bm x dn rs),(bm,xM x)]) (λ _=>[]) (λ _=>xW x) (by decide) (λ _=>by exact rfl) ?_ (λ j f hx=>?_)
 ·refine iB (.one 0 [] (.one 1 [] (.one 3 [] (.one 4 [] (.one 5 [] (.one 6 [] (.one 7 [] (.two 2 [7] (.one 8 [7] (.one 9 [7] (.one 10 [] .nil))) 0 [] (.two 8 [7] (.one 2 [7] (.one 9 [7] (.one 10 [] .nil))) 0 [] .nil))))))))) ?_
  refine iD ?_;refine xF ?_
  refine iF (E:=[2,8]) (by decide +kernel) ((.cons ?_ (.cons ?_ .nil)))
  ·refine mU (i:=2) (hq:=(cM (hs:=xH k bx bm x dn rs) (os:=xW x) (hc:=λ w hs=>fF m (by omega) ok hs))) (h:=λ x28 h28=>?_)
   refine iC (h:=λ x12=>?_);refine B9 ?_
   refine eT (x12) ?_
   ·trivial
  ·refine iE (i:=8) (h:=λ x12=>?_)
   refine bD (i:=2) (hq:=(cM (hs:=xH k bx bm x dn rs) (os:=xW x) (hc:=λ w hs=>fF m (by omega) ok hs))) (h:=λ x28 h28=>?_);refine B9 ?_
   refine eT (x12) ?_
   ·trivial
 dsimp only[gU,List.map,List.cons_append,List.nil_append]
 refine Ci ?_;refine tN ?_
 refine bE (λ c36=>?_) (λ c36=>?_)
 ·exact absurd c36 hk
 ·have g0:=h48.1.to (λ _=>if_neg hk)
  have g1:=sC g0 (by rw[hl];rfl)
  rw[hl] at g1
  have g2:=oP g1 hb
  refine yH ?_;refine aQ (cV (hc:=λ w1 hw=>eV hh (level:Int) w1)) (λ x91=>?_);refine J1 ?_;refine Q3 ?_;refine aQ (cV (hc:=λ w1 hw=>H9 (v:=(aD x.L m)) h48.2 hl (ok.rA hw hA m))) (λ x95=>?_);refine aA ?_;refine aB (bL rf rfl) rfl ?_;refine aB (bL rf rfl) rfl ?_;refine J8 ?_;refine iM ?_;refine aC (cM (hs:=xH k bx bm x dn rs) (os:=xW x) (hc:=λ w hs=>fF b (by omega) ok hs)) (λ x100 h100=>?_);refine aI (λ x21=>?_);refine J5 ?_;refine C7 ?_;refine iM ?_
  (refine aF ?_;refine aE ?_)
  refine vc ?_;refine J1 ?_
  refine bE (λ c101=>?_) (λ c101=>?_)
  ·have g3:=g2.to (λ _=>if_pos hi2)
   refine J0 ?_;refine bJ ?_;refine yT ?_
   refine bC Tryz.results226 (λ w hw=>?_)
   exact⟨(Rs.zero,2,x,[]),rfl,⟨g3,ok,by simp,Nat.le_refl _,bI _⟩,hw.aU (hF:=by exact aX.nil)⟩
  ·exact absurd hi2 c101
set_option maxRecDepth 100000 in
theorem Ql(hg:g.Ok)(i m:Int){h:Nat}(hh:h<18446744073709551616)(level:Nat)(hlv:level<=1073741824)(K:Rs->Int->Tr)(ht:k.t.root<=9223372036854775807)(hi:i<=x.L.length)(hm:m<=x.L.length)(hA:∀f∈aM x.L,f∈A)(hk:¬(aD x.L m).nd.kind=6){b:Int}(hl:iR (aD x.L m).c (eP h (level:Int))=some b)(hi2:¬(aD x.L b).nd.kind=2)(he:¬(aD x.L b).nd.key=k.key)(go:fW g x (kE k i m h level K))(ok:x.Ok)(hs:SF w D (xH k bx bm x dn rs) A [] (xW x) w):Calls Tryz.prog 226 #[.pointer (some ⟨bx,0,none⟩),.int .i64 i,.int .i64 m,.int .u64 (h:Int),.int .i64 (level:Int)] w (Yl g x K bx bm k dn rs D w):=by
 have hyl:=qT ok m
 have hlL:=ok.lL
 have h48:fW g x _/\mH x.L.length x.cs.length (aD x.L m).c:=⟨oP go hm,ok.nv m⟩
 have hb:b<=x.L.length:=by have:=lE (ok.nv m) (eP h (level:Int));rw[hl] at this;exact this
 refine enter Tryz.func226 Tryz.ntmps226 rfl rfl (bZ hs) ?_
 simp only[bY]
 refine J0 ?_;refine aI (λ x10=>?_);refine iT ?_
 refine eE [12,13,26,27,28,29,30,31,32,33] (λ j:Nat=>[(12,.pointer (some ⟨j,0,none⟩)),(13,.string k.key)]) (λ _=>True) (λ j=>[(j,.cells ⟨(aD x.L m).nd.cells⟩ 47 (0,0)),(x10,.cells ⟨Rs.zero.cells⟩ 64 (0,0)),(bx,xO k bm x dn rs),(bm,xM x)]) (λ _=>[]) (λ _=>xW x) (by decide) (λ _=>by exact rfl) ?_ (λ j f hx=>?_)
 ·refine iB (.one 0 [] (.one 1 [] (.one 3 [] (.one 4 [] (.one 5 [] (.one 6 [] (.one 7 [] (.two 2 [7] (.one 8 [7] (.one 9 [7] (.one 10 [] .nil))) 0 [] (.two 8 [7] (.one 2 [7] (.one 9 [7] (.one 10 [] .nil))) 0 [] .nil))))))))) ?_
  refine iD ?_;refine xF ?_
  refine iF (E:=[2,8]) (by decide +kernel) ((.cons ?_ (.cons ?_ .nil)))
  ·refine mU (i:=2) (hq:=(cM (hs:=xH k bx bm x dn rs) (os:=xW x) (hc:=λ w hs=>fF m (by omega) ok hs))) (h:=λ x28 h28=>?_)
   refine iC (h:=λ x12=>?_);refine B9 ?_
   refine eT (x12) ?_
   ·trivial
  ·refine iE (i:=8) (h:=λ x12=>?_)
   refine bD (i:=2) (hq:=(cM (hs:=xH k bx bm x dn rs) (os:=xW x) (hc:=λ w hs=>fF m (by omega) ok hs))) (h:=λ x28 h28=>?_);refine B9 ?_
   refine eT (x12) ?_
   ·trivial
 dsimp only[gU,List.map,List.cons_append,List.nil_append]
 refine Ci ?_;refine tN ?_
 refine bE (λ c36=>?_) (λ c36=>?_)
 ·exact absurd c36 hk
 ·have g0:=h48.1.to (λ _=>if_neg hk)
  have g1:=sC g0 (by rw[hl];rfl)
  rw[hl] at g1
  have g2:=oP g1 hb
  refine yH ?_;refine aQ (cV (hc:=λ w1 hw=>eV hh (level:Int) w1)) (λ x91=>?_);refine J1 ?_;refine Q3 ?_;refine aQ (cV (hc:=λ w1 hw=>H9 (v:=(aD x.L m)) h48.2 hl (ok.rA hw hA m))) (λ x95=>?_);refine aA ?_;refine aB (bL rf rfl) rfl ?_;refine aB (bL rf rfl) rfl ?_;refine J8 ?_;refine iM ?_;refine aC (cM (hs:=xH k bx bm x dn rs) (os:=xW x) (hc:=λ w hs=>fF b (by omega) ok hs)) (λ x100 h100=>?_);refine aI (λ x21=>?_);refine J5 ?_;refine C7 ?_;refine iM ?_
  (refine aF ?_;refine aE ?_)
  refine vc ?_;refine J1 ?_
  refine bE (λ c101=>?_) (λ c101=>?_)
  ·exact absurd c101 hi2
  ·have g3:=(g2.to (λ _=>if_neg hi2)).to (λ _=>if_pos he)
   refine J2 ?_;refine Gh ?_
   (refine aF ?_;refine aE ?_)
   refine Yn ?_;((refine aF ?_;refine aB (mh rf rf he) rfl ?_));refine cH ?_;refine J1 ?_
   refine bE (λ c109=>?_) (λ c109=>?_)
   ·refine J0 ?_;refine aQ (cV (hc:=λ w1 hw=>gJ _ _ w1)) (λ x118=>?_);refine yT ?_
    refine bC Tryz.results226 (λ w hw=>?_)
    exact⟨(dL false 0,1,x,[]),rfl,⟨g3,ok,by simp,Nat.le_refl _,bI _⟩,hw.aU (hF:=by exact aX.nil)⟩
   ·exact nv c109
set_option maxRecDepth 100000 in
theorem Rw(hg:g.Ok)(i m:Int){h:Nat}(hh:h<18446744073709551616)(level:Nat)(hlv:level<=1073741824)(K:Rs->Int->Tr)(ht:k.t.root<=9223372036854775807)(hi:i<=x.L.length)(hm:m<=x.L.length)(hA:∀f∈aM x.L,f∈A)(hk:¬(aD x.L m).nd.kind=6){b:Int}(hl:iR (aD x.L m).c (eP h (level:Int))=some b)(hi2:¬(aD x.L b).nd.kind=2)(he:(aD x.L b).nd.key=k.key)(go:fW g x (kE k i m h level K))(ok:x.Ok)(hs:SF w D (xH k bx bm x dn rs) A [] (xW x) w):Calls Tryz.prog 226 #[.pointer (some ⟨bx,0,none⟩),.int .i64 i,.int .i64 m,.int .u64 (h:Int),.int .i64 (level:Int)] w (Yl g x K bx bm k dn rs D w):=by
 have hyl:=qT ok m
 have hlL:=ok.lL
 have h48:fW g x _/\mH x.L.length x.cs.length (aD x.L m).c:=⟨oP go hm,ok.nv m⟩
 have hb:b<=x.L.length:=by have:=lE (ok.nv m) (eP h (level:Int));rw[hl] at this;exact this
 refine enter Tryz.func226 Tryz.ntmps226 rfl rfl (bZ hs) ?_
 simp only[bY]
 refine J0 ?_;refine aI (λ x10=>?_);refine iT ?_
 refine eE [12,13,26,27,28,29,30,31,32,33] (λ j:Nat=>[(12,.pointer (some ⟨j,0,none⟩)),(13,.string k.key)]) (λ _=>True) (λ j=>[(j,.cells ⟨(aD x.L m).nd.cells⟩ 47 (0,0)),(x10,.cells ⟨Rs.zero.cells⟩ 64 (0,0)),(bx,xO k bm x dn rs),(bm,xM x)]) (λ _=>[]) (λ _=>xW x) (by decide) (λ _=>by exact rfl) ?_ (λ j f hx=>?_)
 ·refine iB (.one 0 [] (.one 1 [] (.one 3 [] (.one 4 [] (.one 5 [] (.one 6 [] (.one 7 [] (.two 2 [7] (.one 8 [7] (.one 9 [7] (.one 10 [] .nil))) 0 [] (.two 8 [7] (.one 2 [7] (.one 9 [7] (.one 10 [] .nil))) 0 [] .nil))))))))) ?_
  refine iD ?_;refine xF ?_
  refine iF (E:=[2,8]) (by decide +kernel) ((.cons ?_ (.cons ?_ .nil)))
  ·refine mU (i:=2) (hq:=(cM (hs:=xH k bx bm x dn rs) (os:=xW x) (hc:=λ w hs=>fF m (by omega) ok hs))) (h:=λ x28 h28=>?_)
   refine iC (h:=λ x12=>?_);refine B9 ?_
   refine eT (x12) ?_
   ·trivial
  ·refine iE (i:=8) (h:=λ x12=>?_)
   refine bD (i:=2) (hq:=(cM (hs:=xH k bx bm x dn rs) (os:=xW x) (hc:=λ w hs=>fF m (by omega) ok hs))) (h:=λ x28 h28=>?_);refine B9 ?_
   refine eT (x12) ?_
   ·trivial
 dsimp only[gU,List.map,List.cons_append,List.nil_append]
 refine Ci ?_;refine tN ?_
 refine bE (λ c36=>?_) (λ c36=>?_)
 ·exact absurd c36 hk
 ·have g0:=h48.1.to (λ _=>if_neg hk)
  have g1:=sC g0 (by rw[hl];rfl)
  rw[hl] at g1
  have g2:=oP g1 hb
  refine yH ?_;refine aQ (cV (hc:=λ w1 hw=>eV hh (level:Int) w1)) (λ x91=>?_);refine J1 ?_;refine Q3 ?_;refine aQ (cV (hc:=λ w1 hw=>H9 (v:=(aD x.L m)) h48.2 hl (ok.rA hw hA m))) (λ x95=>?_);refine aA ?_;refine aB (bL rf rfl) rfl ?_;refine aB (bL rf rfl) rfl ?_;refine J8 ?_;refine iM ?_;refine aC (cM (hs:=xH k bx bm x dn rs) (os:=xW x) (hc:=λ w hs=>fF b (by omega) ok hs)) (λ x100 h100=>?_);refine aI (λ x21=>?_);refine J5 ?_;refine C7 ?_;refine iM ?_
  (refine aF ?_;refine aE ?_)
  refine vc ?_;refine J1 ?_
  refine bE (λ c101=>?_) (λ c101=>?_)
  ·exact absurd c101 hi2
  ·have g3:=(g2.to (λ _=>if_neg hi2)).to (λ _=>if_neg (λ h:¬(aD x.L b).nd.key=k.key=>h he))
   refine J2 ?_;refine Gh ?_
   (refine aF ?_;refine aE ?_)
   refine Yn ?_;((refine aF ?_;refine aB (q7 rf rf he) rfl ?_));refine cH ?_;refine J1 ?_
   refine bE (λ c109=>?_) (λ c109=>?_)
   ·exact nv c109
   ·refine aV ?_;refine gI [0,1,2,3,4,5,6,7,8,9,10,11,12,13,14,15] ?_;refine xF ?_;refine aN ?_
    (refine Yq 125 (λ g125=>?_) (λ g125=>?_)<;>(first|refine dD ?_|(refine aR ?_)))
    all_goals ((first|refine dD ?_|(refine bP ?_));(first|refine dD ?_|(refine aN ?_));(first|refine dD ?_|(refine sS ?_));(first|refine dD ?_|(refine aR ?_));refine Yw ?_;(first|refine dD ?_|(refine Of ?_));refine eO ?_;refine J7 ?_)
    all_goals
    refine bE (λ c119=>?_) (λ c119=>?_)
    ·try exact nv c119
     all_goals
      have g4:=g3.to (λ _=>if_pos (show(k.only=true/\(aD x.L b).nd.val≠k.exp) from⟨by assumption,by assumption⟩))
     all_goals (refine hJ ?_;refine aQ (cV (hc:=λ w1 hw=>gJ _ _ w1)) (λ x137=>?_);refine yT ?_)
     all_goals
      refine bC Tryz.results226 (λ w hw=>?_)
      exact⟨(dL true (aD x.L b).nd.val,1,x,[]),rfl,⟨g4,ok,by simp,Nat.le_refl _,bI _⟩,hw.aU (hF:=by exact aX.nil)⟩
    ·all_goals
      have g4:=g3.to (λ _=>if_neg (show ¬(k.only=true/\(aD x.L b).nd.val≠k.exp) from by rintro ⟨h,h'⟩;simp_all))
     all_goals (refine nY ?_;refine Q3 ?_;refine aC (cF (hc:=λ w1 hw=>aBn (v:=(aD x.L m)) h48.2 (eP h (level:Int)) (ok.rA hw hA m))) (λ x141 h141=>?_))
     all_goals
      have hB:=aAx h48.2 (v:=(aD x.L m)) (eP h (level:Int))
     all_goals (refine aA ?_;refine aB (bL rf rfl) rfl ?_;refine aB (bL rf rfl) rfl ?_;refine aI (λ x22=>?_);refine yT ?_;refine oV ?_;refine aQ (cV (hc:=λ w1 hw=>q8 hB (tj h48.2 (eP h (level:Int)) x141) (hw.cl (.new .head)))) (λ x146=>?_))
     all_goals
      have hso:((Kx (Mq (aD x.L m).c (eP h (level:Int)))).getD 0)<=x.L.length:=aBD hB (tj h48.2 (eP h (level:Int)) x141)
      have g5:=oP g4 hso
     all_goals (refine aA ?_;refine aB (bL rf rfl) rfl ?_;refine aB (bL rf rfl) rfl ?_;refine J8 ?_;refine aV ?_;refine dZ [(0,[]),(1,[]),(2,[]),(3,[]),(4,[]),(5,[]),(6,[]),(7,[]),(8,[]),(9,[]),(10,[]),(11,[]),(12,[]),(13,[]),(16,[]),(19,[]),(20,[]),(14,[6,10,20]),(15,[6,20]),(17,[6,20]),(18,[20]),(21,[]),(22,[]),(23,[]),(24,[]),(25,[])] ?_;refine iD ?_;refine J9 ?_;refine aR ?_;refine bT (i:=6) (hq:=(aP (k:=2) (vs:=[.int .i64 k.t.root,.bool k.t.ro]) rf cK dH rfl rfl)) (h:=?_);refine iD ?_;refine aN ?_;refine bP ?_;refine iD ?_;refine iD ?_;refine mL ?_;refine bD (i:=14) (hq:=(cM (hs:=xH k bx bm x dn rs) (os:=xW x) (hc:=λ w hs=>fF ((Kx (Mq (aD x.L m).c (eP h (level:Int)))).getD 0) (by omega) ok hs))) (hfire:=(λ _=>by(refine gA ?_;(repeat (first|exact aW.nil|refine aW.cons (by first|exact iP (hq:=aP (k:=2) (vs:=[.int .i64 k.t.root,.bool k.t.ro]) rf cK dH rfl rfl)|exact jE) ?_));done))) (h:=λ x163 h163=>?_);refine cL (i:=15) (hq:=(cV (hc:=λ w1 hw=>U4 hB (level:Int) (aD x.L ((Kx (Mq (aD x.L m).c (eP h (level:Int)))).getD 0)).nd (hw.cl (.new .head))))) (hfire:=(λ _=>by((repeat (first|exact aW.nil|refine aW.cons (by first|exact iP (hq:=aP (k:=2) (vs:=[.int .i64 k.t.root,.bool k.t.ro]) rf cK dH rfl rfl)|exact jE) ?_));done))) (h:=λ x164=>?_);refine bD (i:=17) (hq:=(cM (hs:=xH k bx bm x dn rs) (os:=xW x) (A0:=[((P9 (de (aD x.L m) (eP h (level:Int))) x141 (level:Int) (aD x.L ((Kx (Mq (aD x.L m).c (eP h (level:Int)))).getD 0)).nd).brA,aH (Wv (de (aD x.L m) (eP h (level:Int))) x141 (level:Int) (aD x.L ((Kx (Mq (aD x.L m).c (eP h (level:Int)))).getD 0)).nd)),((P9 (de (aD x.L m) (eP h (level:Int))) x141 (level:Int) (aD x.L ((Kx (Mq (aD x.L m).c (eP h (level:Int)))).getD 0)).nd).prA,dE [])]) (hA:=tq) (hc:=λ w hs=>gM hg (n:=(P9 (de (aD x.L m) (eP h (level:Int))) x141 (level:Int) (aD x.L ((Kx (Mq (aD x.L m).c (eP h (level:Int)))).getD 0)).nd)) (xs:=(Wv (de (aD x.L m) (eP h (level:Int))) x141 (level:Int) (aD x.L ((Kx (Mq (aD x.L m).c (eP h (level:Int)))).getD 0)).nd)) (ys:=[]) m _ (gk _ _ _) (ix _ _ _) (Uw hB _ _ _) (Nat.zero_le _) (U2 hB _ _ (ok.nv ((Kx (Mq (aD x.L m).c (eP h (level:Int)))).getD 0)).hash) hm (by rw[<- uz,<- aBb h48.2];exact g5) ok hs))) (hfire:=(λ _=>by(refine gA ?_;(repeat (first|exact aW.nil|refine aW.cons (by first|exact iP (hq:=aP (k:=2) (vs:=[.int .i64 k.t.root,.bool k.t.ro]) rf cK dH rfl rfl)|exact jE) ?_));done))) (h:=λ x166 h166=>?_);refine bD (i:=18) (hq:=(cM (hs:=xH k bx bm x166.2.1 dn rs) (os:=xW x166.2.1) (hc:=λ w hs=>rU hg k.t i m x166.1 _ ht (by have:=h166.len;omega) h166.bd h166.go h166.ok hs))) (h:=λ x167 h167=>?_))
     all_goals
      have hch:=Ch.nx h167 (Ch.nx h166 ((Ch.base (F:=[])).cons (f:=(x141.1,aH (mB (de (aD x.L m) (eP h (level:Int))))))))
      have hlc:x.cs.length<=x167.2.1.cs.length:=by have:=h166.lc;have:=h167.lc;omega
     all_goals (refine cL (i:=21) (hq:=(cV (hc:=λ w1 hw=>pC _ _ _ _ w1))) (h:=λ x170=>?_);refine cG (i:=22) (hq:=(bL rf rfl)) (h:=?_);refine cG (i:=23) (hq:=(bL rf rfl)) (h:=?_);refine B9 ?_)
     all_goals
      refine bC Tryz.results226 (λ w hw=>?_)
      obtain⟨N,hN,hf⟩:=hch.to (t':=K (nS true (aD x.L b).nd.val) (if x167.1=true then 1 else 0)) h167 (h167.go) hlc (bI _)
      exact⟨(nS true (aD x.L b).nd.val,(if x167.1=true then 1 else 0),x167.2.1,N),rfl,hN,(hw.fC hf).aU (hF:=by exact aX.all)⟩
theorem Rv(hg:g.Ok)(i m:Int){h:Nat}(hh:h<18446744073709551616)(level:Nat)(hlv:level<=1073741824)(K:Rs->Int->Tr)(ht:k.t.root<=9223372036854775807)(hi:i<=x.L.length)(hm:m<=x.L.length)(hA:∀f∈aM x.L,f∈A)(go:fW g x (kE k i m h level K))(ok:x.Ok)(hs:SF w D (xH k bx bm x dn rs) A [] (xW x) w):Calls Tryz.prog 226 #[.pointer (some ⟨bx,0,none⟩),.int .i64 i,.int .i64 m,.int .u64 (h:Int),.int .i64 (level:Int)] w (Yl g x K bx bm k dn rs D w):=by
 by_cases hk:(aD x.L m).nd.kind=6
 ·exact Qu hg i m hh level hlv K ht hi hm hA hk go ok hs
 ·cases hl:iR (aD x.L m).c (eP h (level:Int)) with
  | none=>exact R3 hg i m hh level hlv K ht hi hm hA hk hl go ok hs
  | some b =>
   by_cases hi2:(aD x.L b).nd.kind=2
   ·exact Ss hg i m hh level hlv K ht hi hm hA hk hl hi2 go ok hs
   ·by_cases he:(aD x.L b).nd.key=k.key
    ·exact Rw hg i m hh level hlv K ht hi hm hA hk hl hi2 he go ok hs
    ·exact Ql hg i m hh level hlv K ht hi hm hA hk hl hi2 he go ok hs
end
end Go.Proofs.YtbajmaoegmbfgaaGreat

/- Executions of the reference: one attempt of DROP at a leaf. -/
import Derived.Test.YtbajmaoegmbfgaaGreatGEx18
set_option linter.unusedSimpArgs false
set_option linter.unusedVariables false
namespace Go.Ct
open Go Go.RowKit
theorem oF{g:Gx}{x:XS}{r:Int}{K:Nv->Tr}(h:fP g x (.node r K))(hr:r<=x.L.length):fP g x (K (aD x.L r).c):=by
 have:=h.node hr
 rwa [show eD x.nodes r=(aD x.L r).c from(D0 x.L r).symm] at this
section
variable{P:Program}{S:List (Nat×Value)}{G:World->Prop}{d:Nat}{ty t t':TypeId}{pos:String}{af:Array Edge}{gd:Option (Nat×Bool)}{x y:Operand}{a b:ByteArray}
theorem kv(hx:ev S x=.string a)(hy:ev S y=.string b)(h:¬a=b):aK P S G ⟨some d,.binOp .neq t x y t',ty,pos,af,gd⟩ (.bool true):=by
 have:=Gn (P:=P) (G:=G) (d:=d) (ty:=ty) (pos:=pos) (af:=af) (gd:=gd) (t:=t) (t':=t') hx hy
 rwa [bne,rl h] at this
theorem oz(hx:ev S x=.string a)(hy:ev S y=.string b)(h:a=b):aK P S G ⟨some d,.binOp .neq t x y t',ty,pos,af,gd⟩ (.bool false):=by
 have:=Gn (P:=P) (G:=G) (d:=d) (ty:=ty) (pos:=pos) (af:=af) (gd:=gd) (t:=t) (t':=t') hx hy
 rwa [bne,sv h] at this
end
end Go.Ct
namespace Go.Proofs.YtbajmaoegmbfgaaGreat
open Go Go.RowKit Go.Ct
theorem o6{m:Nat}{o:Option (Nat×List Int)}{w:World}(h:vB m o){x:Option Addr×Nat}{r:Nv}(e:r=(mA o x).c (lM o) [])(hc:Go.Ct.Cl w x.1 (aG (lM o))):Calls Tryz.prog 245 #[(mA o x).v] w λ e w'=>e=.returned (.tuple #[.int .i64 ((Ly r).getD 0),.bool (Ly r).isSome])/\St w [] [] w':=by
 obtain⟨b,h1,h2⟩:=Mk h x
 have:=Io (n:=mA o x) h1 h2 (Ou h hc)
 rw[wq,<- e] at this
 exact this
theorem y5{m:Nat}{o:Option (Nat×List Int)}(h:vB m o){x:Option Addr×Nat}{r:Nv}(e:r=(mA o x).c (lM o) []):(Ly r).getD 0<=m:=by
 rw[e,<- wq]
 unfold gh
 split
 ·refine lV (λ v hv=>?_) 0
  cases o with
  | none=>exact(List.not_mem_nil hv).elim
  | some q=>exact(h.out q rfl).2.2 v hv
 ·exact bH _
section
variable{k:Cl}{bx bm:Nat}{x:XS}{dn:Bool}{rs:Rs}{D:List Nat}{A:Fr}{w:World}{g:Gx}
set_option maxRecDepth 100000 in
theorem Qz(hg:g.Ok)(i m:Int){h:Nat}(hh:h<18446744073709551616)(level:Nat)(hlv:level<=1073741824)(K:Rs->Int->Tr)(ht:k.t.root<=9223372036854775807)(hi:i<=x.L.length)(hm:m<=x.L.length)(hA:∀f∈aL x.L,f∈A)(hk:(aD x.L m).nd.kind=6)(go:fP g x (jU k i m h level K))(ok:x.Ok)(hs:SF w D (xH k bx bm x dn rs) A [] (xW x) w):Calls Tryz.prog 226 #[.pointer (some ⟨bx,0,none⟩),.int .i64 i,.int .i64 m,.int .u64 (h:Int),.int .i64 (level:Int)] w (X8 g x K bx bm k dn rs D w):=by
 have hyl:=qR ok m
 have hlL:=ok.lL
 have h48:fP g x _/\lD x.L.length x.cs.length (aD x.L m).c:=⟨oF go hm,ok.nv m⟩
 refine enter Tryz.func226 Tryz.ntmps226 rfl rfl (bV hs) ?_
 simp only[bW]
 refine J0 ?_;refine aJ (λ x10=>?_);refine hJ ?_
 refine dW [12,13,26,27,28,29,30,31,32,33] (λ j:Nat=>[(12,.pointer (some ⟨j,0,none⟩)),(13,.string k.key)]) (λ _=>True) (λ j=>[(j,.cells ⟨(aD x.L m).nd.cells⟩ 47 (0,0)),(x10,.cells ⟨Rs.zero.cells⟩ 64 (0,0)),(bx,xO k bm x dn rs),(bm,xM x)]) (λ _=>[]) (λ _=>xW x) (by decide) (λ _=>by exact rfl) ?_ (λ j f hx=>?_)
 ·refine gW (.one 0 [] (.one 1 [] (.one 3 [] (.one 4 [] (.one 5 [] (.one 6 [] (.one 7 [] (.two 2 [7] (.one 8 [7] (.one 9 [7] (.one 10 [] .nil))) 0 [] (.two 8 [7] (.one 2 [7] (.one 9 [7] (.one 10 [] .nil))) 0 [] .nil))))))))) ?_
  refine hX ?_;refine xS ?_
  refine gY (E:=[2,8]) (by decide +kernel) ((.cons ?_ (.cons ?_ .nil)))
  ·refine kN (i:=2) (hq:=(cM (hs:=xH k bx bm x dn rs) (os:=xW x) (hc:=λ w hs=>fC m (by omega) ok hs))) (h:=λ x28 h28=>?_)
   refine gS (h:=λ x12=>?_);refine Az ?_
   refine eP (x12) ?_
   ·trivial
  ·refine gP (i:=8) (h:=λ x12=>?_)
   refine aY (i:=2) (hq:=(cM (hs:=xH k bx bm x dn rs) (os:=xW x) (hc:=λ w hs=>fC m (by omega) ok hs))) (h:=λ x28 h28=>?_);refine Az ?_
   refine eP (x12) ?_
   ·trivial
 dsimp only[gU,List.map,List.cons_append,List.nil_append]
 refine D2 ?_;refine uI ?_
 refine bB (λ c36=>?_) (λ c36=>?_)
 ·have g1:=h48.1.to (λ _=>if_pos hk)
  refine gI ?_;refine aA ?_;refine aR (cV (hc:=λ w1 hw=>L8 (v:=(aD x.L m)) (n:=0) k.key (ok.rJ hw hA m) (ok.ysl m))) (λ x41=>?_);refine aA ?_;refine aB (bP rf rfl) rfl ?_;refine aB (bP rf rfl) rfl ?_;refine J8 ?_;refine lA ?_;refine Ed ?_
  (refine dZ 46 (λ g46=>?_) (λ g46=>?_)<;>(first|refine aI ?_|(refine aF ?_;refine aA ?_)))
  all_goals ((first|refine aI ?_|(refine aF ?_;refine dC ?_));(first|refine aI ?_|(refine aF ?_;refine aE ?_));(first|refine aI ?_|(refine aF ?_;refine aE ?_));(first|refine aI ?_|(refine aF ?_;refine bO ?_));(first|refine aI ?_|(refine aF ?_;refine aA ?_)))
  all_goals (first|refine zP ?_|(refine dZ 52 (λ g52=>?_) (λ g52=>?_)<;>(first|refine aI ?_|(refine aF ?_;refine aA ?_))))
  all_goals ((first|refine aI ?_|refine zP ?_|(refine aF ?_;refine aA ?_));(first|refine aI ?_|refine zP ?_|(refine aF ?_;refine dC ?_));(first|refine aI ?_|refine zP ?_|(refine aF ?_;refine aE ?_));(first|refine aI ?_|refine zP ?_|(refine aF ?_;refine aE ?_));(first|refine aI ?_|refine zP ?_|(refine aF ?_;refine bO ?_));(first|refine aI ?_|refine zP ?_|(refine aF ?_;refine kW ?_));(first|refine aI ?_|(refine aF ?_;refine cH ?_));refine cH ?_;refine aH ?_)
  all_goals
  refine bB (λ c61=>?_) (λ c61=>?_)
  ·try exact nv c61
   all_goals
    have g2:=g1.to (λ _=>if_pos (show((dL (aD x.L m).c.ys k.key).isSome=false∨(k.only=true/\(dL (aD x.L m).c.ys k.key).getD 0≠k.exp)) from by first|exact Or.inl (by assumption)|exact Or.inr ⟨by assumption,by assumption⟩))
   all_goals (refine iU ?_;refine aR (cV (hc:=λ w1 hw=>gC _ _ w1)) (λ x64=>?_);refine xP ?_)
   all_goals
    refine aZ Tryz.results226 (λ w hw=>?_)
    exact⟨(jE (dL (aD x.L m).c.ys k.key).isSome ((dL (aD x.L m).c.ys k.key).getD 0),1,x,[]),rfl,⟨g2,ok,by simp,Nat.le_refl _,bH _⟩,hw.aS (hF:=by exact aX.nil)⟩
  ·try exact nv c61
   all_goals
    have g2:=g1.to (λ _=>if_neg (show ¬((dL (aD x.L m).c.ys k.key).isSome=false∨(k.only=true/\(dL (aD x.L m).c.ys k.key).getD 0≠k.exp)) from by rintro (h|⟨h,h'⟩)<;>simp_all))
   all_goals (refine aW ?_;refine Dd ?_;refine aC (cF (hc:=λ w1 hw=>aAN (v:=(aD x.L m)) h48.2 k.key (ok.rJ hw hA m) (by omega))) (λ x68 h68=>?_);refine aA ?_;refine aB (bP rf rfl) rfl ?_;refine aB (bP rf rfl) rfl ?_;refine aJ (λ x16=>?_);refine iA (λ _=>?_);refine hJ ?_;refine dS [(0,[]),(1,[]),(2,[]),(3,[]),(4,[]),(5,[]),(6,[]),(7,[]),(8,[]),(9,[]),(10,[]),(11,[]),(14,[]),(12,[6]),(13,[]),(15,[]),(16,[]),(17,[]),(18,[]),(19,[])] ?_;refine hX ?_;refine J9 ?_;refine aP ?_;refine bT (i:=6) (hq:=(aN (k:=2) (vs:=[.int .i64 k.t.root,.bool k.t.ro]) rf cN dV rfl rfl)) (h:=?_);refine hX ?_;refine aM ?_;refine bM ?_;refine hX ?_;refine aY (i:=12) (hq:=(cM (hs:=xH k bx bm x dn rs) (os:=xW x) (A0:=[((Md (pK (aD x.L m).nd (aD x.L m).xs (aD x.L m).ys k.key) (aD x.L m).nd.hash x68).brA,aG []),((Md (pK (aD x.L m).nd (aD x.L m).xs (aD x.L m).ys k.key) (aD x.L m).nd.hash x68).prA,dB (Hw (pK (aD x.L m).nd (aD x.L m).xs (aD x.L m).ys k.key)))]) (hA:=aAb) (hc:=λ w hs=>gE hg (n:=Md (pK (aD x.L m).nd (aD x.L m).xs (aD x.L m).ys k.key) (aD x.L m).nd.hash x68) (xs:=[]) (ys:=Hw (pK (aD x.L m).nd (aD x.L m).xs (aD x.L m).ys k.key)) m _ (Zx _ _ _).1 (Zx _ _ _).2 (by decide) (by have:=wy (aD x.L m).xs (aD x.L m).ys (aD x.L m).nd k.key;omega) (yl _ h48.2.hash) hm (by rw[aA7];exact g2) ok hs))) (hfire:=(λ _=>by(refine fS ?_;refine aV.cons (by exact hU (hq:=aN (k:=2) (vs:=[.int .i64 k.t.root,.bool k.t.ro]) rf cN dV rfl rfl)) ?_;exact aV.nil))) (h:=λ x83 h83=>?_);refine aY (i:=13) (hq:=(cM (hs:=xH k bx bm x83.2.1 dn rs) (os:=xW x83.2.1) (hc:=λ w hs=>sK hg k.t i m x83.1 _ ht (by have:=h83.len;omega) h83.bd h83.go h83.ok hs))) (h:=λ x84 h84=>?_))
   all_goals
    have hch:=Ch.nx h84 (Ch.nx h83 ((Ch.base (F:=[])).cons (f:=(x68.1,dB (Hw (pK (aD x.L m).nd (aD x.L m).xs (aD x.L m).ys k.key))))))
    have hlc:x.cs.length<=x84.2.1.cs.length:=by have:=h83.lc;have:=h84.lc;omega
   all_goals (refine cD (i:=15) (hq:=(cV (hc:=λ w1 hw=>oO _ _ _ _ w1))) (h:=λ x86=>?_);refine cB (i:=16) (hq:=(bP rf rfl)) (h:=?_);refine cB (i:=17) (hq:=(bP rf rfl)) (h:=?_);refine Az ?_)
   all_goals
    refine aZ Tryz.results226 (λ w hw=>?_)
    obtain⟨N,hN,hf⟩:=hch.to (t':=K (rE true ((dL (aD x.L m).c.ys k.key).getD 0)) (if x84.1=true then 1 else 0)) h84 (h84.go) hlc (bH _)
    exact⟨(rE true ((dL (aD x.L m).c.ys k.key).getD 0),(if x84.1=true then 1 else 0),x84.2.1,N),rfl,hN,(hw.eZ hf).aS (hF:=by exact aX.all)⟩
 ·exact absurd hk c36
set_option maxRecDepth 100000 in
theorem Rq(hg:g.Ok)(i m:Int){h:Nat}(hh:h<18446744073709551616)(level:Nat)(hlv:level<=1073741824)(K:Rs->Int->Tr)(ht:k.t.root<=9223372036854775807)(hi:i<=x.L.length)(hm:m<=x.L.length)(hA:∀f∈aL x.L,f∈A)(hk:¬(aD x.L m).nd.kind=6)(hl:lN (aD x.L m).c (gF h (level:Int))=none)(go:fP g x (jU k i m h level K))(ok:x.Ok)(hs:SF w D (xH k bx bm x dn rs) A [] (xW x) w):Calls Tryz.prog 226 #[.pointer (some ⟨bx,0,none⟩),.int .i64 i,.int .i64 m,.int .u64 (h:Int),.int .i64 (level:Int)] w (X8 g x K bx bm k dn rs D w):=by
 have hyl:=qR ok m
 have hlL:=ok.lL
 have h48:fP g x _/\lD x.L.length x.cs.length (aD x.L m).c:=⟨oF go hm,ok.nv m⟩
 refine enter Tryz.func226 Tryz.ntmps226 rfl rfl (bV hs) ?_
 simp only[bW]
 refine J0 ?_;refine aJ (λ x10=>?_);refine hJ ?_
 refine dW [12,13,26,27,28,29,30,31,32,33] (λ j:Nat=>[(12,.pointer (some ⟨j,0,none⟩)),(13,.string k.key)]) (λ _=>True) (λ j=>[(j,.cells ⟨(aD x.L m).nd.cells⟩ 47 (0,0)),(x10,.cells ⟨Rs.zero.cells⟩ 64 (0,0)),(bx,xO k bm x dn rs),(bm,xM x)]) (λ _=>[]) (λ _=>xW x) (by decide) (λ _=>by exact rfl) ?_ (λ j f hx=>?_)
 ·refine gW (.one 0 [] (.one 1 [] (.one 3 [] (.one 4 [] (.one 5 [] (.one 6 [] (.one 7 [] (.two 2 [7] (.one 8 [7] (.one 9 [7] (.one 10 [] .nil))) 0 [] (.two 8 [7] (.one 2 [7] (.one 9 [7] (.one 10 [] .nil))) 0 [] .nil))))))))) ?_
  refine hX ?_;refine xS ?_
  refine gY (E:=[2,8]) (by decide +kernel) ((.cons ?_ (.cons ?_ .nil)))
  ·refine kN (i:=2) (hq:=(cM (hs:=xH k bx bm x dn rs) (os:=xW x) (hc:=λ w hs=>fC m (by omega) ok hs))) (h:=λ x28 h28=>?_)
   refine gS (h:=λ x12=>?_);refine Az ?_
   refine eP (x12) ?_
   ·trivial
  ·refine gP (i:=8) (h:=λ x12=>?_)
   refine aY (i:=2) (hq:=(cM (hs:=xH k bx bm x dn rs) (os:=xW x) (hc:=λ w hs=>fC m (by omega) ok hs))) (h:=λ x28 h28=>?_);refine Az ?_
   refine eP (x12) ?_
   ·trivial
 dsimp only[gU,List.map,List.cons_append,List.nil_append]
 refine D2 ?_;refine uI ?_
 refine bB (λ c36=>?_) (λ c36=>?_)
 ·exact absurd c36 hk
 ·have g0:=h48.1.to (λ _=>if_neg hk)
  have g1:=Lf g0 (by rw[hl];rfl)
  refine Ba ?_;refine aR (cV (hc:=λ w1 hw=>eU hh (level:Int) w1)) (λ x91=>?_);refine J1 ?_;refine Dd ?_;refine aR (cV (hc:=λ w1 hw=>sg (v:=(aD x.L m)) h48.2 hl (ok.rJ hw hA m))) (λ x95=>?_);refine aA ?_;refine aB (bP rf rfl) rfl ?_;refine aB (bP rf rfl) rfl ?_;refine J8 ?_;refine iU ?_;refine aC (cM (hs:=xH k bx bm x dn rs) (os:=xW x) (hc:=λ w hs=>fC 0 (by decide) ok hs)) (λ x100 h100=>?_);refine aJ (λ x21=>?_);refine J5 ?_;refine C4 ?_;refine iU ?_
  refine aI ?_
  refine w3 ?_;refine J1 ?_
  refine bB (λ c101=>?_) (λ c101=>?_)
  ·exact nv c101
  ·refine J2 ?_;refine Ed ?_
   refine aI ?_
   refine ar ?_;(refine aI ?_);refine cH ?_;refine J1 ?_
   refine bB (λ c109=>?_) (λ c109=>?_)
   ·refine J0 ?_;refine aR (cV (hc:=λ w1 hw=>gC _ _ w1)) (λ x118=>?_);refine xP ?_
    refine aZ Tryz.results226 (λ w hw=>?_)
    exact⟨(jE false 0,1,x,[]),rfl,⟨g1,ok,by simp,Nat.le_refl _,bH _⟩,hw.aS (hF:=by exact aX.nil)⟩
   ·exact nv c109
set_option maxRecDepth 100000 in
theorem Q5(hg:g.Ok)(i m:Int){h:Nat}(hh:h<18446744073709551616)(level:Nat)(hlv:level<=1073741824)(K:Rs->Int->Tr)(ht:k.t.root<=9223372036854775807)(hi:i<=x.L.length)(hm:m<=x.L.length)(hA:∀f∈aL x.L,f∈A)(hk:¬(aD x.L m).nd.kind=6){b:Int}(hl:lN (aD x.L m).c (gF h (level:Int))=some b)(hi2:(aD x.L b).nd.kind=2)(go:fP g x (jU k i m h level K))(ok:x.Ok)(hs:SF w D (xH k bx bm x dn rs) A [] (xW x) w):Calls Tryz.prog 226 #[.pointer (some ⟨bx,0,none⟩),.int .i64 i,.int .i64 m,.int .u64 (h:Int),.int .i64 (level:Int)] w (X8 g x K bx bm k dn rs D w):=by
 have hyl:=qR ok m
 have hlL:=ok.lL
 have h48:fP g x _/\lD x.L.length x.cs.length (aD x.L m).c:=⟨oF go hm,ok.nv m⟩
 have hb:b<=x.L.length:=by have:=pF (ok.nv m) (gF h (level:Int));rw[hl] at this;exact this
 refine enter Tryz.func226 Tryz.ntmps226 rfl rfl (bV hs) ?_
 simp only[bW]
 refine J0 ?_;refine aJ (λ x10=>?_);refine hJ ?_
 refine dW [12,13,26,27,28,29,30,31,32,33] (λ j:Nat=>[(12,.pointer (some ⟨j,0,none⟩)),(13,.string k.key)]) (λ _=>True) (λ j=>[(j,.cells ⟨(aD x.L m).nd.cells⟩ 47 (0,0)),(x10,.cells ⟨Rs.zero.cells⟩ 64 (0,0)),(bx,xO k bm x dn rs),(bm,xM x)]) (λ _=>[]) (λ _=>xW x) (by decide) (λ _=>by exact rfl) ?_ (λ j f hx=>?_)
 ·refine gW (.one 0 [] (.one 1 [] (.one 3 [] (.one 4 [] (.one 5 [] (.one 6 [] (.one 7 [] (.two 2 [7] (.one 8 [7] (.one 9 [7] (.one 10 [] .nil))) 0 [] (.two 8 [7] (.one 2 [7] (.one 9 [7] (.one 10 [] .nil))) 0 [] .nil))))))))) ?_
  refine hX ?_;refine xS ?_
  refine gY (E:=[2,8]) (by decide +kernel) ((.cons ?_ (.cons ?_ .nil)))
  ·refine kN (i:=2) (hq:=(cM (hs:=xH k bx bm x dn rs) (os:=xW x) (hc:=λ w hs=>fC m (by omega) ok hs))) (h:=λ x28 h28=>?_)
   refine gS (h:=λ x12=>?_);refine Az ?_
   refine eP (x12) ?_
   ·trivial
  ·refine gP (i:=8) (h:=λ x12=>?_)
   refine aY (i:=2) (hq:=(cM (hs:=xH k bx bm x dn rs) (os:=xW x) (hc:=λ w hs=>fC m (by omega) ok hs))) (h:=λ x28 h28=>?_);refine Az ?_
   refine eP (x12) ?_
   ·trivial
 dsimp only[gU,List.map,List.cons_append,List.nil_append]
 refine D2 ?_;refine uI ?_
 refine bB (λ c36=>?_) (λ c36=>?_)
 ·exact absurd c36 hk
 ·have g0:=h48.1.to (λ _=>if_neg hk)
  have g1:=sU g0 (by rw[hl];rfl)
  rw[hl] at g1
  have g2:=oF g1 hb
  refine Ba ?_;refine aR (cV (hc:=λ w1 hw=>eU hh (level:Int) w1)) (λ x91=>?_);refine J1 ?_;refine Dd ?_;refine aR (cV (hc:=λ w1 hw=>Jb (v:=(aD x.L m)) h48.2 hl (ok.rJ hw hA m))) (λ x95=>?_);refine aA ?_;refine aB (bP rf rfl) rfl ?_;refine aB (bP rf rfl) rfl ?_;refine J8 ?_;refine iU ?_;refine aC (cM (hs:=xH k bx bm x dn rs) (os:=xW x) (hc:=λ w hs=>fC b (by omega) ok hs)) (λ x100 h100=>?_);refine aJ (λ x21=>?_);refine J5 ?_;refine C4 ?_;refine iU ?_
  (refine aF ?_;refine aE ?_)
  refine w3 ?_;refine J1 ?_
  refine bB (λ c101=>?_) (λ c101=>?_)
  ·have g3:=g2.to (λ _=>if_pos hi2)
   refine J0 ?_;refine bG ?_;refine xP ?_
   refine aZ Tryz.results226 (λ w hw=>?_)
   exact⟨(Rs.zero,2,x,[]),rfl,⟨g3,ok,by simp,Nat.le_refl _,bH _⟩,hw.aS (hF:=by exact aX.nil)⟩
  ·exact absurd hi2 c101
set_option maxRecDepth 100000 in
theorem R4(hg:g.Ok)(i m:Int){h:Nat}(hh:h<18446744073709551616)(level:Nat)(hlv:level<=1073741824)(K:Rs->Int->Tr)(ht:k.t.root<=9223372036854775807)(hi:i<=x.L.length)(hm:m<=x.L.length)(hA:∀f∈aL x.L,f∈A)(hk:¬(aD x.L m).nd.kind=6){b:Int}(hl:lN (aD x.L m).c (gF h (level:Int))=some b)(hi2:¬(aD x.L b).nd.kind=2)(he:¬(aD x.L b).nd.key=k.key)(go:fP g x (jU k i m h level K))(ok:x.Ok)(hs:SF w D (xH k bx bm x dn rs) A [] (xW x) w):Calls Tryz.prog 226 #[.pointer (some ⟨bx,0,none⟩),.int .i64 i,.int .i64 m,.int .u64 (h:Int),.int .i64 (level:Int)] w (X8 g x K bx bm k dn rs D w):=by
 have hyl:=qR ok m
 have hlL:=ok.lL
 have h48:fP g x _/\lD x.L.length x.cs.length (aD x.L m).c:=⟨oF go hm,ok.nv m⟩
 have hb:b<=x.L.length:=by have:=pF (ok.nv m) (gF h (level:Int));rw[hl] at this;exact this
 refine enter Tryz.func226 Tryz.ntmps226 rfl rfl (bV hs) ?_
 simp only[bW]
 refine J0 ?_;refine aJ (λ x10=>?_);refine hJ ?_
 refine dW [12,13,26,27,28,29,30,31,32,33] (λ j:Nat=>[(12,.pointer (some ⟨j,0,none⟩)),(13,.string k.key)]) (λ _=>True) (λ j=>[(j,.cells ⟨(aD x.L m).nd.cells⟩ 47 (0,0)),(x10,.cells ⟨Rs.zero.cells⟩ 64 (0,0)),(bx,xO k bm x dn rs),(bm,xM x)]) (λ _=>[]) (λ _=>xW x) (by decide) (λ _=>by exact rfl) ?_ (λ j f hx=>?_)
 ·refine gW (.one 0 [] (.one 1 [] (.one 3 [] (.one 4 [] (.one 5 [] (.one 6 [] (.one 7 [] (.two 2 [7] (.one 8 [7] (.one 9 [7] (.one 10 [] .nil))) 0 [] (.two 8 [7] (.one 2 [7] (.one 9 [7] (.one 10 [] .nil))) 0 [] .nil))))))))) ?_
  refine hX ?_;refine xS ?_
  refine gY (E:=[2,8]) (by decide +kernel) ((.cons ?_ (.cons ?_ .nil)))
  ·refine kN (i:=2) (hq:=(cM (hs:=xH k bx bm x dn rs) (os:=xW x) (hc:=λ w hs=>fC m (by omega) ok hs))) (h:=λ x28 h28=>?_)
   refine gS (h:=λ x12=>?_);refine Az ?_
   refine eP (x12) ?_
   ·trivial
  ·refine gP (i:=8) (h:=λ x12=>?_)
   refine aY (i:=2) (hq:=(cM (hs:=xH k bx bm x dn rs) (os:=xW x) (hc:=λ w hs=>fC m (by omega) ok hs))) (h:=λ x28 h28=>?_);refine Az ?_
   refine eP (x12) ?_
   ·trivial
 dsimp only[gU,List.map,List.cons_append,List.nil_append]
 refine D2 ?_;refine uI ?_
 refine bB (λ c36=>?_) (λ c36=>?_)
 ·exact absurd c36 hk
 ·have g0:=h48.1.to (λ _=>if_neg hk)
  have g1:=sU g0 (by rw[hl];rfl)
  rw[hl] at g1
  have g2:=oF g1 hb
  refine Ba ?_;refine aR (cV (hc:=λ w1 hw=>eU hh (level:Int) w1)) (λ x91=>?_);refine J1 ?_;refine Dd ?_;refine aR (cV (hc:=λ w1 hw=>Jb (v:=(aD x.L m)) h48.2 hl (ok.rJ hw hA m))) (λ x95=>?_);refine aA ?_;refine aB (bP rf rfl) rfl ?_;refine aB (bP rf rfl) rfl ?_;refine J8 ?_;refine iU ?_;refine aC (cM (hs:=xH k bx bm x dn rs) (os:=xW x) (hc:=λ w hs=>fC b (by omega) ok hs)) (λ x100 h100=>?_);refine aJ (λ x21=>?_);refine J5 ?_;refine C4 ?_;refine iU ?_
  (refine aF ?_;refine aE ?_)
  refine w3 ?_;refine J1 ?_
  refine bB (λ c101=>?_) (λ c101=>?_)
  ·exact absurd c101 hi2
  ·have g3:=(g2.to (λ _=>if_neg hi2)).to (λ _=>if_pos he)
   refine J2 ?_;refine Ed ?_
   (refine aF ?_;refine aE ?_)
   refine ar ?_;((refine aF ?_;refine aB (kv rf rf he) rfl ?_));refine cH ?_;refine J1 ?_
   refine bB (λ c109=>?_) (λ c109=>?_)
   ·refine J0 ?_;refine aR (cV (hc:=λ w1 hw=>gC _ _ w1)) (λ x118=>?_);refine xP ?_
    refine aZ Tryz.results226 (λ w hw=>?_)
    exact⟨(jE false 0,1,x,[]),rfl,⟨g3,ok,by simp,Nat.le_refl _,bH _⟩,hw.aS (hF:=by exact aX.nil)⟩
   ·exact nv c109
set_option maxRecDepth 100000 in
theorem R3(hg:g.Ok)(i m:Int){h:Nat}(hh:h<18446744073709551616)(level:Nat)(hlv:level<=1073741824)(K:Rs->Int->Tr)(ht:k.t.root<=9223372036854775807)(hi:i<=x.L.length)(hm:m<=x.L.length)(hA:∀f∈aL x.L,f∈A)(hk:¬(aD x.L m).nd.kind=6){b:Int}(hl:lN (aD x.L m).c (gF h (level:Int))=some b)(hi2:¬(aD x.L b).nd.kind=2)(he:(aD x.L b).nd.key=k.key)(go:fP g x (jU k i m h level K))(ok:x.Ok)(hs:SF w D (xH k bx bm x dn rs) A [] (xW x) w):Calls Tryz.prog 226 #[.pointer (some ⟨bx,0,none⟩),.int .i64 i,.int .i64 m,.int .u64 (h:Int),.int .i64 (level:Int)] w (X8 g x K bx bm k dn rs D w):=by
 have hyl:=qR ok m
 have hlL:=ok.lL
 have h48:fP g x _/\lD x.L.length x.cs.length (aD x.L m).c:=⟨oF go hm,ok.nv m⟩
 have hb:b<=x.L.length:=by have:=pF (ok.nv m) (gF h (level:Int));rw[hl] at this;exact this
 refine enter Tryz.func226 Tryz.ntmps226 rfl rfl (bV hs) ?_
 simp only[bW]
 refine J0 ?_;refine aJ (λ x10=>?_);refine hJ ?_
 refine dW [12,13,26,27,28,29,30,31,32,33] (λ j:Nat=>[(12,.pointer (some ⟨j,0,none⟩)),(13,.string k.key)]) (λ _=>True) (λ j=>[(j,.cells ⟨(aD x.L m).nd.cells⟩ 47 (0,0)),(x10,.cells ⟨Rs.zero.cells⟩ 64 (0,0)),(bx,xO k bm x dn rs),(bm,xM x)]) (λ _=>[]) (λ _=>xW x) (by decide) (λ _=>by exact rfl) ?_ (λ j f hx=>?_)
 ·refine gW (.one 0 [] (.one 1 [] (.one 3 [] (.one 4 [] (.one 5 [] (.one 6 [] (.one 7 [] (.two 2 [7] (.one 8 [7] (.one 9 [7] (.one 10 [] .nil))) 0 [] (.two 8 [7] (.one 2 [7] (.one 9 [7] (.one 10 [] .nil))) 0 [] .nil))))))))) ?_
  refine hX ?_;refine xS ?_
  refine gY (E:=[2,8]) (by decide +kernel) ((.cons ?_ (.cons ?_ .nil)))
  ·refine kN (i:=2) (hq:=(cM (hs:=xH k bx bm x dn rs) (os:=xW x) (hc:=λ w hs=>fC m (by omega) ok hs))) (h:=λ x28 h28=>?_)
   refine gS (h:=λ x12=>?_);refine Az ?_
   refine eP (x12) ?_
   ·trivial
  ·refine gP (i:=8) (h:=λ x12=>?_)
   refine aY (i:=2) (hq:=(cM (hs:=xH k bx bm x dn rs) (os:=xW x) (hc:=λ w hs=>fC m (by omega) ok hs))) (h:=λ x28 h28=>?_);refine Az ?_
   refine eP (x12) ?_
   ·trivial
 dsimp only[gU,List.map,List.cons_append,List.nil_append]
 refine D2 ?_;refine uI ?_
 refine bB (λ c36=>?_) (λ c36=>?_)
 ·exact absurd c36 hk
 ·have g0:=h48.1.to (λ _=>if_neg hk)
  have g1:=sU g0 (by rw[hl];rfl)
  rw[hl] at g1
  have g2:=oF g1 hb
  refine Ba ?_;refine aR (cV (hc:=λ w1 hw=>eU hh (level:Int) w1)) (λ x91=>?_);refine J1 ?_;refine Dd ?_;refine aR (cV (hc:=λ w1 hw=>Jb (v:=(aD x.L m)) h48.2 hl (ok.rJ hw hA m))) (λ x95=>?_);refine aA ?_;refine aB (bP rf rfl) rfl ?_;refine aB (bP rf rfl) rfl ?_;refine J8 ?_;refine iU ?_;refine aC (cM (hs:=xH k bx bm x dn rs) (os:=xW x) (hc:=λ w hs=>fC b (by omega) ok hs)) (λ x100 h100=>?_);refine aJ (λ x21=>?_);refine J5 ?_;refine C4 ?_;refine iU ?_
  (refine aF ?_;refine aE ?_)
  refine w3 ?_;refine J1 ?_
  refine bB (λ c101=>?_) (λ c101=>?_)
  ·exact absurd c101 hi2
  ·have g3:=(g2.to (λ _=>if_neg hi2)).to (λ _=>if_neg (λ h:¬(aD x.L b).nd.key=k.key=>h he))
   refine J2 ?_;refine Ed ?_
   (refine aF ?_;refine aE ?_)
   refine ar ?_;((refine aF ?_;refine aB (oz rf rf he) rfl ?_));refine cH ?_;refine J1 ?_
   refine bB (λ c109=>?_) (λ c109=>?_)
   ·exact nv c109
   ·refine aT ?_;refine gD [0,1,2,3,4,5,6,7,8,9,10,11,12,13,14,15] ?_;refine xS ?_;refine aM ?_
    (refine Ya 125 (λ g125=>?_) (λ g125=>?_)<;>(first|refine cX ?_|(refine aP ?_)))
    all_goals ((first|refine cX ?_|(refine bM ?_));(first|refine cX ?_|(refine aM ?_));(first|refine cX ?_|(refine sQ ?_));(first|refine cX ?_|(refine aP ?_));refine j2 ?_;(first|refine cX ?_|(refine M5 ?_));refine eI ?_;refine J7 ?_)
    all_goals
    refine bB (λ c119=>?_) (λ c119=>?_)
    ·try exact nv c119
     all_goals
      have g4:=g3.to (λ _=>if_pos (show(k.only=true/\(aD x.L b).nd.val≠k.exp) from⟨by assumption,by assumption⟩))
     all_goals (refine gI ?_;refine aR (cV (hc:=λ w1 hw=>gC _ _ w1)) (λ x137=>?_);refine xP ?_)
     all_goals
      refine aZ Tryz.results226 (λ w hw=>?_)
      exact⟨(jE true (aD x.L b).nd.val,1,x,[]),rfl,⟨g4,ok,by simp,Nat.le_refl _,bH _⟩,hw.aS (hF:=by exact aX.nil)⟩
    ·all_goals
      have g4:=g3.to (λ _=>if_neg (show ¬(k.only=true/\(aD x.L b).nd.val≠k.exp) from by rintro ⟨h,h'⟩;simp_all))
     all_goals (refine nR ?_;refine Dd ?_;refine aC (cF (hc:=λ w1 hw=>aAD (v:=(aD x.L m)) h48.2 (gF h (level:Int)) (ok.rJ hw hA m))) (λ x141 h141=>?_))
     all_goals
      have hB:=aAu h48.2 (v:=(aD x.L m)) (gF h (level:Int))
     all_goals (refine aA ?_;refine aB (bP rf rfl) rfl ?_;refine aB (bP rf rfl) rfl ?_;refine aJ (λ x22=>?_);refine xP ?_;refine nJ ?_;refine aR (cV (hc:=λ w1 hw=>o6 hB (s7 h48.2 (gF h (level:Int)) x141) (hw.cl (.new .head)))) (λ x146=>?_))
     all_goals
      have hso:((Ly (Mc (aD x.L m).c (gF h (level:Int)))).getD 0)<=x.L.length:=y5 hB (s7 h48.2 (gF h (level:Int)) x141)
      have g5:=oF g4 hso
     all_goals (refine aA ?_;refine aB (bP rf rfl) rfl ?_;refine aB (bP rf rfl) rfl ?_;refine J8 ?_;refine aT ?_;refine dS [(0,[]),(1,[]),(2,[]),(3,[]),(4,[]),(5,[]),(6,[]),(7,[]),(8,[]),(9,[]),(10,[]),(11,[]),(12,[]),(13,[]),(16,[]),(19,[]),(20,[]),(14,[6,10,20]),(15,[6,20]),(17,[6,20]),(18,[20]),(21,[]),(22,[]),(23,[]),(24,[]),(25,[])] ?_;refine hX ?_;refine J9 ?_;refine aP ?_;refine bT (i:=6) (hq:=(aN (k:=2) (vs:=[.int .i64 k.t.root,.bool k.t.ro]) rf cN dV rfl rfl)) (h:=?_);refine hX ?_;refine aM ?_;refine bM ?_;refine hX ?_;refine hX ?_;refine mX ?_;refine aY (i:=14) (hq:=(cM (hs:=xH k bx bm x dn rs) (os:=xW x) (hc:=λ w hs=>fC ((Ly (Mc (aD x.L m).c (gF h (level:Int)))).getD 0) (by omega) ok hs))) (hfire:=(λ _=>by(refine fS ?_;(repeat (first|exact aV.nil|refine aV.cons (by first|exact hU (hq:=aN (k:=2) (vs:=[.int .i64 k.t.root,.bool k.t.ro]) rf cN dV rfl rfl)|exact iN) ?_));done))) (h:=λ x163 h163=>?_);refine cD (i:=15) (hq:=(cV (hc:=λ w1 hw=>Vo hB (level:Int) (aD x.L ((Ly (Mc (aD x.L m).c (gF h (level:Int)))).getD 0)).nd (hw.cl (.new .head))))) (hfire:=(λ _=>by((repeat (first|exact aV.nil|refine aV.cons (by first|exact hU (hq:=aN (k:=2) (vs:=[.int .i64 k.t.root,.bool k.t.ro]) rf cN dV rfl rfl)|exact iN) ?_));done))) (h:=λ x164=>?_);refine aY (i:=17) (hq:=(cM (hs:=xH k bx bm x dn rs) (os:=xW x) (A0:=[((Px (jt (aD x.L m) (gF h (level:Int))) x141 (level:Int) (aD x.L ((Ly (Mc (aD x.L m).c (gF h (level:Int)))).getD 0)).nd).brA,aG (Xm (jt (aD x.L m) (gF h (level:Int))) x141 (level:Int) (aD x.L ((Ly (Mc (aD x.L m).c (gF h (level:Int)))).getD 0)).nd)),((Px (jt (aD x.L m) (gF h (level:Int))) x141 (level:Int) (aD x.L ((Ly (Mc (aD x.L m).c (gF h (level:Int)))).getD 0)).nd).prA,dB [])]) (hA:=rb) (hc:=λ w hs=>gE hg (n:=(Px (jt (aD x.L m) (gF h (level:Int))) x141 (level:Int) (aD x.L ((Ly (Mc (aD x.L m).c (gF h (level:Int)))).getD 0)).nd)) (xs:=(Xm (jt (aD x.L m) (gF h (level:Int))) x141 (level:Int) (aD x.L ((Ly (Mc (aD x.L m).c (gF h (level:Int)))).getD 0)).nd)) (ys:=[]) m _ (ax _ _ _) (ai _ _ _) (Tv hB _ _ _) (Nat.zero_le _) (Sx hB _ _ (ok.nv ((Ly (Mc (aD x.L m).c (gF h (level:Int)))).getD 0)).hash) hm (by rw[<- se,<- aAA h48.2];exact g5) ok hs))) (hfire:=(λ _=>by(refine fS ?_;(repeat (first|exact aV.nil|refine aV.cons (by first|exact hU (hq:=aN (k:=2) (vs:=[.int .i64 k.t.root,.bool k.t.ro]) rf cN dV rfl rfl)|exact iN) ?_));done))) (h:=λ x166 h166=>?_);refine aY (i:=18) (hq:=(cM (hs:=xH k bx bm x166.2.1 dn rs) (os:=xW x166.2.1) (hc:=λ w hs=>sK hg k.t i m x166.1 _ ht (by have:=h166.len;omega) h166.bd h166.go h166.ok hs))) (h:=λ x167 h167=>?_))
     all_goals
      have hch:=Ch.nx h167 (Ch.nx h166 ((Ch.base (F:=[])).cons (f:=(x141.1,aG (lM (jt (aD x.L m) (gF h (level:Int))))))))
      have hlc:x.cs.length<=x167.2.1.cs.length:=by have:=h166.lc;have:=h167.lc;omega
     all_goals (refine cD (i:=21) (hq:=(cV (hc:=λ w1 hw=>oO _ _ _ _ w1))) (h:=λ x170=>?_);refine cB (i:=22) (hq:=(bP rf rfl)) (h:=?_);refine cB (i:=23) (hq:=(bP rf rfl)) (h:=?_);refine Az ?_)
     all_goals
      refine aZ Tryz.results226 (λ w hw=>?_)
      obtain⟨N,hN,hf⟩:=hch.to (t':=K (rE true (aD x.L b).nd.val) (if x167.1=true then 1 else 0)) h167 (h167.go) hlc (bH _)
      exact⟨(rE true (aD x.L b).nd.val,(if x167.1=true then 1 else 0),x167.2.1,N),rfl,hN,(hw.eZ hf).aS (hF:=by exact aX.all)⟩
theorem Ro(hg:g.Ok)(i m:Int){h:Nat}(hh:h<18446744073709551616)(level:Nat)(hlv:level<=1073741824)(K:Rs->Int->Tr)(ht:k.t.root<=9223372036854775807)(hi:i<=x.L.length)(hm:m<=x.L.length)(hA:∀f∈aL x.L,f∈A)(go:fP g x (jU k i m h level K))(ok:x.Ok)(hs:SF w D (xH k bx bm x dn rs) A [] (xW x) w):Calls Tryz.prog 226 #[.pointer (some ⟨bx,0,none⟩),.int .i64 i,.int .i64 m,.int .u64 (h:Int),.int .i64 (level:Int)] w (X8 g x K bx bm k dn rs D w):=by
 by_cases hk:(aD x.L m).nd.kind=6
 ·exact Qz hg i m hh level hlv K ht hi hm hA hk go ok hs
 ·cases hl:lN (aD x.L m).c (gF h (level:Int)) with
  | none=>exact Rq hg i m hh level hlv K ht hi hm hA hk hl go ok hs
  | some b =>
   by_cases hi2:(aD x.L b).nd.kind=2
   ·exact Q5 hg i m hh level hlv K ht hi hm hA hk hl hi2 go ok hs
   ·by_cases he:(aD x.L b).nd.key=k.key
    ·exact R3 hg i m hh level hlv K ht hi hm hA hk hl hi2 he go ok hs
    ·exact R4 hg i m hh level hlv K ht hi hm hA hk hl hi2 he go ok hs
end
end Go.Proofs.YtbajmaoegmbfgaaGreat

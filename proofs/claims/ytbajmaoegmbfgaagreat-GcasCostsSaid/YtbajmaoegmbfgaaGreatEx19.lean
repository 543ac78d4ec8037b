/- Executions of the reference: one attempt of DROP at a leaf. -/
import Derived.Test.YtbajmaoegmbfgaaGreatGEx18
set_option linter.unusedSimpArgs false
set_option linter.unusedVariables false
namespace Go.Ct
open Go Go.RowKit
theorem oV{g:Gx}{x:XS}{r:Int}{K:Nv->Tr}(h:fV g x (.node r K))(hr:r<=x.L.length):fV g x (K (aB x.L r).c):=by
 have:=h.node hr
 rwa [show bH x.nodes r=(aB x.L r).c from(qL x.L r).symm] at this
section
variable{P:Program}{S:List (Nat×Value)}{G:World->Prop}{d:Nat}{ty t t':TypeId}{pos:String}{af:Array Edge}{gd:Option (Nat×Bool)}{x y:Operand}{a b:ByteArray}
theorem nj(hx:ev S x=.string a)(hy:ev S y=.string b)(h:¬a=b):aL P S G ⟨some d,.binOp .neq t x y t',ty,pos,af,gd⟩ (.bool true):=by
 have:=G3 (P:=P) (G:=G) (d:=d) (ty:=ty) (pos:=pos) (af:=af) (gd:=gd) (t:=t) (t':=t') hx hy
 rwa [bne,tz h] at this
theorem lj(hx:ev S x=.string a)(hy:ev S y=.string b)(h:a=b):aL P S G ⟨some d,.binOp .neq t x y t',ty,pos,af,gd⟩ (.bool false):=by
 have:=G3 (P:=P) (G:=G) (d:=d) (ty:=ty) (pos:=pos) (af:=af) (gd:=gd) (t:=t) (t':=t') hx hy
 rwa [bne,rz h] at this
end
end Go.Ct
namespace Go.Proofs.YtbajmaoegmbfgaaGreat
open Go Go.RowKit Go.Ct
theorem kr{m:Nat}{o:Option (Nat×List Int)}{w:World}(h:vQ m o){x:Option Addr×Nat}{r:Nv}(e:r=(mK o x).c (mC o) [])(hc:Go.Ct.Cl w x.1 (aG (mC o))):Calls Tryz.prog 245 #[(mK o x).v] w λ e w'=>e=.returned (.tuple #[.int .i64 ((L0 r).getD 0),.bool (L0 r).isSome])/\St w [] [] w':=by
 obtain⟨b,h1,h2⟩:=Ql h x
 have:=Io (n:=mK o x) h1 h2 (Pk h hc)
 rw[yj,<- e] at this
 exact this
theorem aAp{m:Nat}{o:Option (Nat×List Int)}(h:vQ m o){x:Option Addr×Nat}{r:Nv}(e:r=(mK o x).c (mC o) []):(L0 r).getD 0<=m:=by
 rw[e,<- yj]
 unfold j1
 split
 ·refine mH (λ v hv=>?_) 0
  cases o with
  | none=>exact(List.not_mem_nil hv).elim
  | some q=>exact(h.out q rfl).2.2 v hv
 ·exact bI _
section
variable{k:Cl}{bx bm:Nat}{x:XS}{dn:Bool}{rs:Rs}{D:List Nat}{A:Fr}{w:World}{g:Gx}
set_option maxRecDepth 100000 in
theorem Q7(hg:g.Ok)(i m:Int){h:Nat}(hh:h<18446744073709551616)(level:Nat)(hlv:level<=1073741824)(K:Rs->Int->Tr)(ht:k.t.root<=9223372036854775807)(hi:i<=x.L.length)(hm:m<=x.L.length)(hA:∀f∈aM x.L,f∈A)(hk:(aB x.L m).nd.kind=6)(go:fV g x (kE k i m h level K))(ok:x.Ok)(hs:SF w D (xH k bx bm x dn rs) A [] (xW x) w):Calls Tryz.prog 226 #[.pointer (some ⟨bx,0,none⟩),.int .i64 i,.int .i64 m,.int .u64 (h:Int),.int .i64 (level:Int)] w (Yb g x K bx bm k dn rs D w):=by
 have hyl:=qY ok m
 have hlL:=ok.lL
 have h48:fV g x _/\lQ x.L.length x.cs.length (aB x.L m).c:=⟨oV go hm,ok.nv m⟩
 refine enter Tryz.func226 Tryz.ntmps226 rfl rfl (cA hs) ?_
 simp only[cD]
 refine J0 ?_;refine aJ (λ x10=>?_);refine iO ?_
 refine eQ [12,13,26,27,28,29,30,31,32,33] (λ j:Nat=>[(12,.pointer (some ⟨j,0,none⟩)),(13,.string k.key)]) (λ _=>True) (λ j=>[(j,.cells ⟨(aB x.L m).nd.cells⟩ 47 (0,0)),(x10,.cells ⟨Rs.zero.cells⟩ 64 (0,0)),(bx,xO k bm x dn rs),(bm,xM x)]) (λ _=>[]) (λ _=>xW x) (by decide) (λ _=>by exact rfl) ?_ (λ j f hx=>?_)
 ·refine gR (.one 0 [] (.one 1 [] (.one 3 [] (.one 4 [] (.one 5 [] (.one 6 [] (.one 7 [] (.two 2 [7] (.one 8 [7] (.one 9 [7] (.one 10 [] .nil))) 0 [] (.two 8 [7] (.one 2 [7] (.one 9 [7] (.one 10 [] .nil))) 0 [] .nil))))))))) ?_
  refine gV ?_;refine xP ?_
  refine gT (E:=[2,8]) (by decide +kernel) ((.cons ?_ (.cons ?_ .nil)))
  ·refine mY (i:=2) (hq:=(cM (hs:=xH k bx bm x dn rs) (os:=xW x) (hc:=λ w hs=>fH m (by omega) ok hs))) (h:=λ x28 h28=>?_)
   refine gY (h:=λ x12=>?_);refine A1 ?_
   refine fC (x12) ?_
   ·trivial
  ·refine gZ (i:=8) (h:=λ x12=>?_)
   refine bB (i:=2) (hq:=(cM (hs:=xH k bx bm x dn rs) (os:=xW x) (hc:=λ w hs=>fH m (by omega) ok hs))) (h:=λ x28 h28=>?_);refine A1 ?_
   refine fC (x12) ?_
   ·trivial
 dsimp only[iA,List.map,List.cons_append,List.nil_append]
 refine Cx ?_;refine sH ?_
 refine aZ (λ c36=>?_) (λ c36=>?_)
 ·have g1:=h48.1.to (λ _=>if_pos hk)
  refine hZ ?_;refine aA ?_;refine aN (cV (hc:=λ w1 hw=>Kj (v:=(aB x.L m)) (n:=0) k.key (ok.rQ hw hA m) (ok.ysl m))) (λ x41=>?_);refine aA ?_;refine aC (bQ rf rfl) rfl ?_;refine aC (bQ rf rfl) rfl ?_;refine J8 ?_;refine kX ?_;refine Cb ?_
  (refine dX 46 (λ g46=>?_) (λ g46=>?_)<;>(first|refine aI ?_|(refine aE ?_;refine aA ?_)))
  all_goals ((first|refine aI ?_|(refine aE ?_;refine dA ?_));(first|refine aI ?_|(refine aE ?_;refine aF ?_));(first|refine aI ?_|(refine aE ?_;refine aF ?_));(first|refine aI ?_|(refine aE ?_;refine bP ?_));(first|refine aI ?_|(refine aE ?_;refine aA ?_)))
  all_goals (first|refine Ar ?_|(refine dX 52 (λ g52=>?_) (λ g52=>?_)<;>(first|refine aI ?_|(refine aE ?_;refine aA ?_))))
  all_goals ((first|refine aI ?_|refine Ar ?_|(refine aE ?_;refine aA ?_));(first|refine aI ?_|refine Ar ?_|(refine aE ?_;refine dA ?_));(first|refine aI ?_|refine Ar ?_|(refine aE ?_;refine aF ?_));(first|refine aI ?_|refine Ar ?_|(refine aE ?_;refine aF ?_));(first|refine aI ?_|refine Ar ?_|(refine aE ?_;refine bP ?_));(first|refine aI ?_|refine Ar ?_|(refine aE ?_;refine lU ?_));(first|refine aI ?_|(refine aE ?_;refine bY ?_));refine bY ?_;refine aH ?_)
  all_goals
  refine aZ (λ c61=>?_) (λ c61=>?_)
  ·try exact nv c61
   all_goals
    have g2:=g1.to (λ _=>if_pos (show((dO (aB x.L m).c.ys k.key).isSome=false∨(k.only=true/\(dO (aB x.L m).c.ys k.key).getD 0≠k.exp)) from by first|exact Or.inl (by assumption)|exact Or.inr ⟨by assumption,by assumption⟩))
   all_goals (refine jA ?_;refine aN (cV (hc:=λ w1 hw=>gN _ _ w1)) (λ x64=>?_);refine Bi ?_)
   all_goals
    refine aY Tryz.results226 (λ w hw=>?_)
    exact⟨(jQ (dO (aB x.L m).c.ys k.key).isSome ((dO (aB x.L m).c.ys k.key).getD 0),1,x,[]),rfl,⟨g2,ok,by simp,Nat.le_refl _,bI _⟩,hw.aV (hF:=by exact aW.nil)⟩
  ·try exact nv c61
   all_goals
    have g2:=g1.to (λ _=>if_neg (show ¬((dO (aB x.L m).c.ys k.key).isSome=false∨(k.only=true/\(dO (aB x.L m).c.ys k.key).getD 0≠k.exp)) from by rintro (h|⟨h,h'⟩)<;>simp_all))
   all_goals (refine aX ?_;refine Dy ?_;refine aD (cF (hc:=λ w1 hw=>aAz (v:=(aB x.L m)) h48.2 k.key (ok.rQ hw hA m) (by omega))) (λ x68 h68=>?_);refine aA ?_;refine aC (bQ rf rfl) rfl ?_;refine aC (bQ rf rfl) rfl ?_;refine aJ (λ x16=>?_);refine iV (λ _=>?_);refine iO ?_;refine dZ [(0,[]),(1,[]),(2,[]),(3,[]),(4,[]),(5,[]),(6,[]),(7,[]),(8,[]),(9,[]),(10,[]),(11,[]),(14,[]),(12,[6]),(13,[]),(15,[]),(16,[]),(17,[]),(18,[]),(19,[])] ?_;refine gV ?_;refine J9 ?_;refine aU ?_;refine bU (i:=6) (hq:=(aR (k:=2) (vs:=[.int .i64 k.t.root,.bool k.t.ro]) rf cX eP rfl rfl)) (h:=?_);refine gV ?_;refine aT ?_;refine bN ?_;refine gV ?_;refine bB (i:=12) (hq:=(cM (hs:=xH k bx bm x dn rs) (os:=xW x) (A0:=[((Mz (pF (aB x.L m).nd (aB x.L m).xs (aB x.L m).ys k.key) (aB x.L m).nd.hash x68).brA,aG []),((Mz (pF (aB x.L m).nd (aB x.L m).xs (aB x.L m).ys k.key) (aB x.L m).nd.hash x68).prA,cR (Hy (pF (aB x.L m).nd (aB x.L m).xs (aB x.L m).ys k.key)))]) (hA:=aAM) (hc:=λ w hs=>gQ hg (n:=Mz (pF (aB x.L m).nd (aB x.L m).xs (aB x.L m).ys k.key) (aB x.L m).nd.hash x68) (xs:=[]) (ys:=Hy (pF (aB x.L m).nd (aB x.L m).xs (aB x.L m).ys k.key)) m _ (Za _ _ _).1 (Za _ _ _).2 (by decide) (by have:=ui (aB x.L m).xs (aB x.L m).ys (aB x.L m).nd k.key;omega) (ue _ h48.2.hash) hm (by rw[aBC];exact g2) ok hs))) (hfire:=(λ _=>by(refine fZ ?_;refine aK.cons (by exact fK (hq:=aR (k:=2) (vs:=[.int .i64 k.t.root,.bool k.t.ro]) rf cX eP rfl rfl)) ?_;exact aK.nil))) (h:=λ x83 h83=>?_);refine bB (i:=13) (hq:=(cM (hs:=xH k bx bm x83.2.1 dn rs) (os:=xW x83.2.1) (hc:=λ w hs=>tJ hg k.t i m x83.1 _ ht (by have:=h83.len;omega) h83.bd h83.go h83.ok hs))) (h:=λ x84 h84=>?_))
   all_goals
    have hch:=Ch.nx h84 (Ch.nx h83 ((Ch.base (F:=[])).cons (f:=(x68.1,cR (Hy (pF (aB x.L m).nd (aB x.L m).xs (aB x.L m).ys k.key))))))
    have hlc:x.cs.length<=x84.2.1.cs.length:=by have:=h83.lc;have:=h84.lc;omega
   all_goals (refine cL (i:=15) (hq:=(cV (hc:=λ w1 hw=>oY _ _ _ _ w1))) (h:=λ x86=>?_);refine cI (i:=16) (hq:=(bQ rf rfl)) (h:=?_);refine cI (i:=17) (hq:=(bQ rf rfl)) (h:=?_);refine A1 ?_)
   all_goals
    refine aY Tryz.results226 (λ w hw=>?_)
    obtain⟨N,hN,hf⟩:=hch.to (t':=K (sA true ((dO (aB x.L m).c.ys k.key).getD 0)) (if x84.1=true then 1 else 0)) h84 (h84.go) hlc (bI _)
    exact⟨(sA true ((dO (aB x.L m).c.ys k.key).getD 0),(if x84.1=true then 1 else 0),x84.2.1,N),rfl,hN,(hw.eU hf).aV (hF:=by exact aW.all)⟩
 ·exact absurd hk c36
set_option maxRecDepth 100000 in
theorem Tc(hg:g.Ok)(i m:Int){h:Nat}(hh:h<18446744073709551616)(level:Nat)(hlv:level<=1073741824)(K:Rs->Int->Tr)(ht:k.t.root<=9223372036854775807)(hi:i<=x.L.length)(hm:m<=x.L.length)(hA:∀f∈aM x.L,f∈A)(hk:¬(aB x.L m).nd.kind=6)(hl:lT (aB x.L m).c (gS h (level:Int))=none)(go:fV g x (kE k i m h level K))(ok:x.Ok)(hs:SF w D (xH k bx bm x dn rs) A [] (xW x) w):Calls Tryz.prog 226 #[.pointer (some ⟨bx,0,none⟩),.int .i64 i,.int .i64 m,.int .u64 (h:Int),.int .i64 (level:Int)] w (Yb g x K bx bm k dn rs D w):=by
 have hyl:=qY ok m
 have hlL:=ok.lL
 have h48:fV g x _/\lQ x.L.length x.cs.length (aB x.L m).c:=⟨oV go hm,ok.nv m⟩
 refine enter Tryz.func226 Tryz.ntmps226 rfl rfl (cA hs) ?_
 simp only[cD]
 refine J0 ?_;refine aJ (λ x10=>?_);refine iO ?_
 refine eQ [12,13,26,27,28,29,30,31,32,33] (λ j:Nat=>[(12,.pointer (some ⟨j,0,none⟩)),(13,.string k.key)]) (λ _=>True) (λ j=>[(j,.cells ⟨(aB x.L m).nd.cells⟩ 47 (0,0)),(x10,.cells ⟨Rs.zero.cells⟩ 64 (0,0)),(bx,xO k bm x dn rs),(bm,xM x)]) (λ _=>[]) (λ _=>xW x) (by decide) (λ _=>by exact rfl) ?_ (λ j f hx=>?_)
 ·refine gR (.one 0 [] (.one 1 [] (.one 3 [] (.one 4 [] (.one 5 [] (.one 6 [] (.one 7 [] (.two 2 [7] (.one 8 [7] (.one 9 [7] (.one 10 [] .nil))) 0 [] (.two 8 [7] (.one 2 [7] (.one 9 [7] (.one 10 [] .nil))) 0 [] .nil))))))))) ?_
  refine gV ?_;refine xP ?_
  refine gT (E:=[2,8]) (by decide +kernel) ((.cons ?_ (.cons ?_ .nil)))
  ·refine mY (i:=2) (hq:=(cM (hs:=xH k bx bm x dn rs) (os:=xW x) (hc:=λ w hs=>fH m (by omega) ok hs))) (h:=λ x28 h28=>?_)
   refine gY (h:=λ x12=>?_);refine A1 ?_
   refine fC (x12) ?_
   ·trivial
  ·refine gZ (i:=8) (h:=λ x12=>?_)
   refine bB (i:=2) (hq:=(cM (hs:=xH k bx bm x dn rs) (os:=xW x) (hc:=λ w hs=>fH m (by omega) ok hs))) (h:=λ x28 h28=>?_);refine A1 ?_
   refine fC (x12) ?_
   ·trivial
 dsimp only[iA,List.map,List.cons_append,List.nil_append]
 refine Cx ?_;refine sH ?_
 refine aZ (λ c36=>?_) (λ c36=>?_)
 ·exact absurd c36 hk
 ·have g0:=h48.1.to (λ _=>if_neg hk)
  have g1:=Kn g0 (by rw[hl];rfl)
  refine C6 ?_;refine aN (cV (hc:=λ w1 hw=>fA hh (level:Int) w1)) (λ x91=>?_);refine J1 ?_;refine Dy ?_;refine aN (cV (hc:=λ w1 hw=>tv (v:=(aB x.L m)) h48.2 hl (ok.rQ hw hA m))) (λ x95=>?_);refine aA ?_;refine aC (bQ rf rfl) rfl ?_;refine aC (bQ rf rfl) rfl ?_;refine J8 ?_;refine jA ?_;refine aD (cM (hs:=xH k bx bm x dn rs) (os:=xW x) (hc:=λ w hs=>fH 0 (by decide) ok hs)) (λ x100 h100=>?_);refine aJ (λ x21=>?_);refine J5 ?_;refine Co ?_;refine jA ?_
  refine aI ?_
  refine u9 ?_;refine J1 ?_
  refine aZ (λ c101=>?_) (λ c101=>?_)
  ·exact nv c101
  ·refine J2 ?_;refine Cb ?_
   refine aI ?_
   refine fv ?_;(refine aI ?_);refine bY ?_;refine J1 ?_
   refine aZ (λ c109=>?_) (λ c109=>?_)
   ·refine J0 ?_;refine aN (cV (hc:=λ w1 hw=>gN _ _ w1)) (λ x118=>?_);refine Bi ?_
    refine aY Tryz.results226 (λ w hw=>?_)
    exact⟨(jQ false 0,1,x,[]),rfl,⟨g1,ok,by simp,Nat.le_refl _,bI _⟩,hw.aV (hF:=by exact aW.nil)⟩
   ·exact nv c109
set_option maxRecDepth 100000 in
theorem Rw(hg:g.Ok)(i m:Int){h:Nat}(hh:h<18446744073709551616)(level:Nat)(hlv:level<=1073741824)(K:Rs->Int->Tr)(ht:k.t.root<=9223372036854775807)(hi:i<=x.L.length)(hm:m<=x.L.length)(hA:∀f∈aM x.L,f∈A)(hk:¬(aB x.L m).nd.kind=6){b:Int}(hl:lT (aB x.L m).c (gS h (level:Int))=some b)(hi2:(aB x.L b).nd.kind=2)(go:fV g x (kE k i m h level K))(ok:x.Ok)(hs:SF w D (xH k bx bm x dn rs) A [] (xW x) w):Calls Tryz.prog 226 #[.pointer (some ⟨bx,0,none⟩),.int .i64 i,.int .i64 m,.int .u64 (h:Int),.int .i64 (level:Int)] w (Yb g x K bx bm k dn rs D w):=by
 have hyl:=qY ok m
 have hlL:=ok.lL
 have h48:fV g x _/\lQ x.L.length x.cs.length (aB x.L m).c:=⟨oV go hm,ok.nv m⟩
 have hb:b<=x.L.length:=by have:=pZ (ok.nv m) (gS h (level:Int));rw[hl] at this;exact this
 refine enter Tryz.func226 Tryz.ntmps226 rfl rfl (cA hs) ?_
 simp only[cD]
 refine J0 ?_;refine aJ (λ x10=>?_);refine iO ?_
 refine eQ [12,13,26,27,28,29,30,31,32,33] (λ j:Nat=>[(12,.pointer (some ⟨j,0,none⟩)),(13,.string k.key)]) (λ _=>True) (λ j=>[(j,.cells ⟨(aB x.L m).nd.cells⟩ 47 (0,0)),(x10,.cells ⟨Rs.zero.cells⟩ 64 (0,0)),(bx,xO k bm x dn rs),(bm,xM x)]) (λ _=>[]) (λ _=>xW x) (by decide) (λ _=>by exact rfl) ?_ (λ j f hx=>?_)
 ·refine gR (.one 0 [] (.one 1 [] (.one 3 [] (.one 4 [] (.one 5 [] (.one 6 [] (.one 7 [] (.two 2 [7] (.one 8 [7] (.one 9 [7] (.one 10 [] .nil))) 0 [] (.two 8 [7] (.one 2 [7] (.one 9 [7] (.one 10 [] .nil))) 0 [] .nil))))))))) ?_
  refine gV ?_;refine xP ?_
  refine gT (E:=[2,8]) (by decide +kernel) ((.cons ?_ (.cons ?_ .nil)))
  ·refine mY (i:=2) (hq:=(cM (hs:=xH k bx bm x dn rs) (os:=xW x) (hc:=λ w hs=>fH m (by omega) ok hs))) (h:=λ x28 h28=>?_)
   refine gY (h:=λ x12=>?_);refine A1 ?_
   refine fC (x12) ?_
   ·trivial
  ·refine gZ (i:=8) (h:=λ x12=>?_)
   refine bB (i:=2) (hq:=(cM (hs:=xH k bx bm x dn rs) (os:=xW x) (hc:=λ w hs=>fH m (by omega) ok hs))) (h:=λ x28 h28=>?_);refine A1 ?_
   refine fC (x12) ?_
   ·trivial
 dsimp only[iA,List.map,List.cons_append,List.nil_append]
 refine Cx ?_;refine sH ?_
 refine aZ (λ c36=>?_) (λ c36=>?_)
 ·exact absurd c36 hk
 ·have g0:=h48.1.to (λ _=>if_neg hk)
  have g1:=sF g0 (by rw[hl];rfl)
  rw[hl] at g1
  have g2:=oV g1 hb
  refine C6 ?_;refine aN (cV (hc:=λ w1 hw=>fA hh (level:Int) w1)) (λ x91=>?_);refine J1 ?_;refine Dy ?_;refine aN (cV (hc:=λ w1 hw=>Ip (v:=(aB x.L m)) h48.2 hl (ok.rQ hw hA m))) (λ x95=>?_);refine aA ?_;refine aC (bQ rf rfl) rfl ?_;refine aC (bQ rf rfl) rfl ?_;refine J8 ?_;refine jA ?_;refine aD (cM (hs:=xH k bx bm x dn rs) (os:=xW x) (hc:=λ w hs=>fH b (by omega) ok hs)) (λ x100 h100=>?_);refine aJ (λ x21=>?_);refine J5 ?_;refine Co ?_;refine jA ?_
  (refine aE ?_;refine aF ?_)
  refine u9 ?_;refine J1 ?_
  refine aZ (λ c101=>?_) (λ c101=>?_)
  ·have g3:=g2.to (λ _=>if_pos hi2)
   refine J0 ?_;refine bM ?_;refine Bi ?_
   refine aY Tryz.results226 (λ w hw=>?_)
   exact⟨(Rs.zero,2,x,[]),rfl,⟨g3,ok,by simp,Nat.le_refl _,bI _⟩,hw.aV (hF:=by exact aW.nil)⟩
  ·exact absurd hi2 c101
set_option maxRecDepth 100000 in
theorem So(hg:g.Ok)(i m:Int){h:Nat}(hh:h<18446744073709551616)(level:Nat)(hlv:level<=1073741824)(K:Rs->Int->Tr)(ht:k.t.root<=9223372036854775807)(hi:i<=x.L.length)(hm:m<=x.L.length)(hA:∀f∈aM x.L,f∈A)(hk:¬(aB x.L m).nd.kind=6){b:Int}(hl:lT (aB x.L m).c (gS h (level:Int))=some b)(hi2:¬(aB x.L b).nd.kind=2)(he:¬(aB x.L b).nd.key=k.key)(go:fV g x (kE k i m h level K))(ok:x.Ok)(hs:SF w D (xH k bx bm x dn rs) A [] (xW x) w):Calls Tryz.prog 226 #[.pointer (some ⟨bx,0,none⟩),.int .i64 i,.int .i64 m,.int .u64 (h:Int),.int .i64 (level:Int)] w (Yb g x K bx bm k dn rs D w):=by
 have hyl:=qY ok m
 have hlL:=ok.lL
 have h48:fV g x _/\lQ x.L.length x.cs.length (aB x.L m).c:=⟨oV go hm,ok.nv m⟩
 have hb:b<=x.L.length:=by have:=pZ (ok.nv m) (gS h (level:Int));rw[hl] at this;exact this
 refine enter Tryz.func226 Tryz.ntmps226 rfl rfl (cA hs) ?_
 simp only[cD]
 refine J0 ?_;refine aJ (λ x10=>?_);refine iO ?_
 refine eQ [12,13,26,27,28,29,30,31,32,33] (λ j:Nat=>[(12,.pointer (some ⟨j,0,none⟩)),(13,.string k.key)]) (λ _=>True) (λ j=>[(j,.cells ⟨(aB x.L m).nd.cells⟩ 47 (0,0)),(x10,.cells ⟨Rs.zero.cells⟩ 64 (0,0)),(bx,xO k bm x dn rs),(bm,xM x)]) (λ _=>[]) (λ _=>xW x) (by decide) (λ _=>by exact rfl) ?_ (λ j f hx=>?_)
 ·refine gR (.one 0 [] (.one 1 [] (.one 3 [] (.one 4 [] (.one 5 [] (.one 6 [] (.one 7 [] (.two 2 [7] (.one 8 [7] (.one 9 [7] (.one 10 [] .nil))) 0 [] (.two 8 [7] (.one 2 [7] (.one 9 [7] (.one 10 [] .nil))) 0 [] .nil))))))))) ?_
  refine gV ?_;refine xP ?_
  refine gT (E:=[2,8]) (by decide +kernel) ((.cons ?_ (.cons ?_ .nil)))
  ·refine mY (i:=2) (hq:=(cM (hs:=xH k bx bm x dn rs) (os:=xW x) (hc:=λ w hs=>fH m (by omega) ok hs))) (h:=λ x28 h28=>?_)
   refine gY (h:=λ x12=>?_);refine A1 ?_
   refine fC (x12) ?_
   ·trivial
  ·refine gZ (i:=8) (h:=λ x12=>?_)
   refine bB (i:=2) (hq:=(cM (hs:=xH k bx bm x dn rs) (os:=xW x) (hc:=λ w hs=>fH m (by omega) ok hs))) (h:=λ x28 h28=>?_);refine A1 ?_
   refine fC (x12) ?_
   ·trivial
 dsimp only[iA,List.map,List.cons_append,List.nil_append]
 refine Cx ?_;refine sH ?_
 refine aZ (λ c36=>?_) (λ c36=>?_)
 ·exact absurd c36 hk
 ·have g0:=h48.1.to (λ _=>if_neg hk)
  have g1:=sF g0 (by rw[hl];rfl)
  rw[hl] at g1
  have g2:=oV g1 hb
  refine C6 ?_;refine aN (cV (hc:=λ w1 hw=>fA hh (level:Int) w1)) (λ x91=>?_);refine J1 ?_;refine Dy ?_;refine aN (cV (hc:=λ w1 hw=>Ip (v:=(aB x.L m)) h48.2 hl (ok.rQ hw hA m))) (λ x95=>?_);refine aA ?_;refine aC (bQ rf rfl) rfl ?_;refine aC (bQ rf rfl) rfl ?_;refine J8 ?_;refine jA ?_;refine aD (cM (hs:=xH k bx bm x dn rs) (os:=xW x) (hc:=λ w hs=>fH b (by omega) ok hs)) (λ x100 h100=>?_);refine aJ (λ x21=>?_);refine J5 ?_;refine Co ?_;refine jA ?_
  (refine aE ?_;refine aF ?_)
  refine u9 ?_;refine J1 ?_
  refine aZ (λ c101=>?_) (λ c101=>?_)
  ·exact absurd c101 hi2
  ·have g3:=(g2.to (λ _=>if_neg hi2)).to (λ _=>if_pos he)
   refine J2 ?_;refine Cb ?_
   (refine aE ?_;refine aF ?_)
   refine fv ?_;((refine aE ?_;refine aC (nj rf rf he) rfl ?_));refine bY ?_;refine J1 ?_
   refine aZ (λ c109=>?_) (λ c109=>?_)
   ·refine J0 ?_;refine aN (cV (hc:=λ w1 hw=>gN _ _ w1)) (λ x118=>?_);refine Bi ?_
    refine aY Tryz.results226 (λ w hw=>?_)
    exact⟨(jQ false 0,1,x,[]),rfl,⟨g3,ok,by simp,Nat.le_refl _,bI _⟩,hw.aV (hF:=by exact aW.nil)⟩
   ·exact nv c109
set_option maxRecDepth 100000 in
theorem Rf(hg:g.Ok)(i m:Int){h:Nat}(hh:h<18446744073709551616)(level:Nat)(hlv:level<=1073741824)(K:Rs->Int->Tr)(ht:k.t.root<=9223372036854775807)(hi:i<=x.L.length)(hm:m<=x.L.length)(hA:∀f∈aM x.L,f∈A)(hk:¬(aB x.L m).nd.kind=6){b:Int}(hl:lT (aB x.L m).c (gS h (level:Int))=some b)(hi2:¬(aB x.L b).nd.kind=2)(he:(aB x.L b).nd.key=k.key)(go:fV g x (kE k i m h level K))(ok:x.Ok)(hs:SF w D (xH k bx bm x dn rs) A [] (xW x) w):Calls Tryz.prog 226 #[.pointer (some ⟨bx,0,none⟩),.int .i64 i,.int .i64 m,.int .u64 (h:Int),.int .i64 (level:Int)] w (Yb g x K bx bm k dn rs D w):=by
 have hyl:=qY ok m
 have hlL:=ok.lL
 have h48:fV g x _/\lQ x.L.length x.cs.length (aB x.L m).c:=⟨oV go hm,ok.nv m⟩
 have hb:b<=x.L.length:=by have:=pZ (ok.nv m) (gS h (level:Int));rw[hl] at this;exact this
 refine enter Tryz.func226 Tryz.ntmps226 rfl rfl (cA hs) ?_
 simp only[cD]
 refine J0 ?_;refine aJ (λ x10=>?_);refine iO ?_
 refine eQ [12,13,26,27,28,29,30,31,32,33] (λ j:Nat=>[(12,.pointer (some ⟨j,0,none⟩)),(13,.string k.key)]) (λ _=>True) (λ j=>[(j,.cells ⟨(aB x.L m).nd.cells⟩ 47 (0,0)),(x10,.cells ⟨Rs.zero.cells⟩ 64 (0,0)),(bx,xO k bm x dn rs),(bm,xM x)]) (λ _=>[]) (λ _=>xW x) (by decide) (λ _=>by exact rfl) ?_ (λ j f hx=>?_)
 ·refine gR (.one 0 [] (.one 1 [] (.one 3 [] (.one 4 [] (.one 5 [] (.one 6 [] (.one 7 [] (.two 2 [7] (.one 8 [7] (.one 9 [7] (.one 10 [] .nil))) 0 [] (.two 8 [7] (.one 2 [7] (.one 9 [7] (.one 10 [] .nil))) 0 [] .nil))))))))) ?_
  refine gV ?_;refine xP ?_
  refine gT (E:=[2,8]) (by decide +kernel) ((.cons ?_ (.cons ?_ .nil)))
  ·refine mY (i:=2) (hq:=(cM (hs:=xH k bx bm x dn rs) (os:=xW x) (hc:=λ w hs=>fH m (by omega) ok hs))) (h:=λ x28 h28=>?_)
   refine gY (h:=λ x12=>?_);refine A1 ?_
   refine fC (x12) ?_
   ·trivial
  ·refine gZ (i:=8) (h:=λ x12=>?_)
   refine bB (i:=2) (hq:=(cM (hs:=xH k bx bm x dn rs) (os:=xW x) (hc:=λ w hs=>fH m (by omega) ok hs))) (h:=λ x28 h28=>?_);refine A1 ?_
   refine fC (x12) ?_
   ·trivial
 dsimp only[iA,List.map,List.cons_append,List.nil_append]
 refine Cx ?_;refine sH ?_
 refine aZ (λ c36=>?_) (λ c36=>?_)
 ·exact absurd c36 hk
 ·have g0:=h48.1.to (λ _=>if_neg hk)
  have g1:=sF g0 (by rw[hl];rfl)
  rw[hl] at g1
  have g2:=oV g1 hb
  refine C6 ?_;refine aN (cV (hc:=λ w1 hw=>fA hh (level:Int) w1)) (λ x91=>?_);refine J1 ?_;refine Dy ?_;refine aN (cV (hc:=λ w1 hw=>Ip (v:=(aB x.L m)) h48.2 hl (ok.rQ hw hA m))) (λ x95=>?_);refine aA ?_;refine aC (bQ rf rfl) rfl ?_;refine aC (bQ rf rfl) rfl ?_;refine J8 ?_;refine jA ?_;refine aD (cM (hs:=xH k bx bm x dn rs) (os:=xW x) (hc:=λ w hs=>fH b (by omega) ok hs)) (λ x100 h100=>?_);refine aJ (λ x21=>?_);refine J5 ?_;refine Co ?_;refine jA ?_
  (refine aE ?_;refine aF ?_)
  refine u9 ?_;refine J1 ?_
  refine aZ (λ c101=>?_) (λ c101=>?_)
  ·exact absurd c101 hi2
  ·have g3:=(g2.to (λ _=>if_neg hi2)).to (λ _=>if_neg (λ h:¬(aB x.L b).nd.key=k.key=>h he))
   refine J2 ?_;refine Cb ?_
   (refine aE ?_;refine aF ?_)
   refine fv ?_;((refine aE ?_;refine aC (lj rf rf he) rfl ?_));refine bY ?_;refine J1 ?_
   refine aZ (λ c109=>?_) (λ c109=>?_)
   ·exact nv c109
   ·refine aS ?_;refine gM [0,1,2,3,4,5,6,7,8,9,10,11,12,13,14,15] ?_;refine xP ?_;refine aT ?_
    (refine n6 125 (λ g125=>?_) (λ g125=>?_)<;>(first|refine fT ?_|(refine aU ?_)))
    all_goals ((first|refine fT ?_|(refine bN ?_));(first|refine fT ?_|(refine aT ?_));(first|refine fT ?_|(refine zH ?_));(first|refine fT ?_|(refine aU ?_));refine zn ?_;(first|refine fT ?_|(refine Us ?_));refine lH ?_;refine J7 ?_)
    all_goals
    refine aZ (λ c119=>?_) (λ c119=>?_)
    ·try exact nv c119
     all_goals
      have g4:=g3.to (λ _=>if_pos (show(k.only=true/\(aB x.L b).nd.val≠k.exp) from⟨by assumption,by assumption⟩))
     all_goals (refine hZ ?_;refine aN (cV (hc:=λ w1 hw=>gN _ _ w1)) (λ x137=>?_);refine Bi ?_)
     all_goals
      refine aY Tryz.results226 (λ w hw=>?_)
      exact⟨(jQ true (aB x.L b).nd.val,1,x,[]),rfl,⟨g4,ok,by simp,Nat.le_refl _,bI _⟩,hw.aV (hF:=by exact aW.nil)⟩
    ·all_goals
      have g4:=g3.to (λ _=>if_neg (show ¬(k.only=true/\(aB x.L b).nd.val≠k.exp) from by rintro ⟨h,h'⟩;simp_all))
     all_goals (refine oP ?_;refine Dy ?_;refine aD (cF (hc:=λ w1 hw=>y7 (v:=(aB x.L m)) h48.2 (gS h (level:Int)) (ok.rQ hw hA m))) (λ x141 h141=>?_))
     all_goals
      have hB:=aAK h48.2 (v:=(aB x.L m)) (gS h (level:Int))
     all_goals (refine aA ?_;refine aC (bQ rf rfl) rfl ?_;refine aC (bQ rf rfl) rfl ?_;refine aJ (λ x22=>?_);refine Bi ?_;refine oC ?_;refine aN (cV (hc:=λ w1 hw=>kr hB (sd h48.2 (gS h (level:Int)) x141) (hw.cl (.new .head)))) (λ x146=>?_))
     all_goals
      have hso:((L0 (Mt (aB x.L m).c (gS h (level:Int)))).getD 0)<=x.L.length:=aAp hB (sd h48.2 (gS h (level:Int)) x141)
      have g5:=oV g4 hso
     all_goals (refine aA ?_;refine aC (bQ rf rfl) rfl ?_;refine aC (bQ rf rfl) rfl ?_;refine J8 ?_;refine aS ?_;refine dZ [(0,[]),(1,[]),(2,[]),(3,[]),(4,[]),(5,[]),(6,[]),(7,[]),(8,[]),(9,[]),(10,[]),(11,[]),(12,[]),(13,[]),(16,[]),(19,[]),(20,[]),(14,[6,10,20]),(15,[6,20]),(17,[6,20]),(18,[20]),(21,[]),(22,[]),(23,[]),(24,[]),(25,[])] ?_;refine gV ?_;refine J9 ?_;refine aU ?_;refine bU (i:=6) (hq:=(aR (k:=2) (vs:=[.int .i64 k.t.root,.bool k.t.ro]) rf cX eP rfl rfl)) (h:=?_);refine gV ?_;refine aT ?_;refine bN ?_;refine gV ?_;refine gV ?_;refine mI ?_;refine bB (i:=14) (hq:=(cM (hs:=xH k bx bm x dn rs) (os:=xW x) (hc:=λ w hs=>fH ((L0 (Mt (aB x.L m).c (gS h (level:Int)))).getD 0) (by omega) ok hs))) (hfire:=(λ _=>by(refine fZ ?_;(repeat (first|exact aK.nil|refine aK.cons (by first|exact fK (hq:=aR (k:=2) (vs:=[.int .i64 k.t.root,.bool k.t.ro]) rf cX eP rfl rfl)|exact eT) ?_));done))) (h:=λ x163 h163=>?_);refine cL (i:=15) (hq:=(cV (hc:=λ w1 hw=>Vl hB (level:Int) (aB x.L ((L0 (Mt (aB x.L m).c (gS h (level:Int)))).getD 0)).nd (hw.cl (.new .head))))) (hfire:=(λ _=>by((repeat (first|exact aK.nil|refine aK.cons (by first|exact fK (hq:=aR (k:=2) (vs:=[.int .i64 k.t.root,.bool k.t.ro]) rf cX eP rfl rfl)|exact eT) ?_));done))) (h:=λ x164=>?_);refine bB (i:=17) (hq:=(cM (hs:=xH k bx bm x dn rs) (os:=xW x) (A0:=[((Pz (Zm (aB x.L m) (gS h (level:Int))) x141 (level:Int) (aB x.L ((L0 (Mt (aB x.L m).c (gS h (level:Int)))).getD 0)).nd).brA,aG (Wa (Zm (aB x.L m) (gS h (level:Int))) x141 (level:Int) (aB x.L ((L0 (Mt (aB x.L m).c (gS h (level:Int)))).getD 0)).nd)),((Pz (Zm (aB x.L m) (gS h (level:Int))) x141 (level:Int) (aB x.L ((L0 (Mt (aB x.L m).c (gS h (level:Int)))).getD 0)).nd).prA,cR [])]) (hA:=tg) (hc:=λ w hs=>gQ hg (n:=(Pz (Zm (aB x.L m) (gS h (level:Int))) x141 (level:Int) (aB x.L ((L0 (Mt (aB x.L m).c (gS h (level:Int)))).getD 0)).nd)) (xs:=(Wa (Zm (aB x.L m) (gS h (level:Int))) x141 (level:Int) (aB x.L ((L0 (Mt (aB x.L m).c (gS h (level:Int)))).getD 0)).nd)) (ys:=[]) m _ (ij _ _ _) (cf _ _ _) (Ue hB _ _ _) (Nat.zero_le _) (U2 hB _ _ (ok.nv ((L0 (Mt (aB x.L m).c (gS h (level:Int)))).getD 0)).hash) hm (by rw[<- r6,<- aAY h48.2];exact g5) ok hs))) (hfire:=(λ _=>by(refine fZ ?_;(repeat (first|exact aK.nil|refine aK.cons (by first|exact fK (hq:=aR (k:=2) (vs:=[.int .i64 k.t.root,.bool k.t.ro]) rf cX eP rfl rfl)|exact eT) ?_));done))) (h:=λ x166 h166=>?_);refine bB (i:=18) (hq:=(cM (hs:=xH k bx bm x166.2.1 dn rs) (os:=xW x166.2.1) (hc:=λ w hs=>tJ hg k.t i m x166.1 _ ht (by have:=h166.len;omega) h166.bd h166.go h166.ok hs))) (h:=λ x167 h167=>?_))
     all_goals
      have hch:=Ch.nx h167 (Ch.nx h166 ((Ch.base (F:=[])).cons (f:=(x141.1,aG (mC (Zm (aB x.L m) (gS h (level:Int))))))))
      have hlc:x.cs.length<=x167.2.1.cs.length:=by have:=h166.lc;have:=h167.lc;omega
     all_goals (refine cL (i:=21) (hq:=(cV (hc:=λ w1 hw=>oY _ _ _ _ w1))) (h:=λ x170=>?_);refine cI (i:=22) (hq:=(bQ rf rfl)) (h:=?_);refine cI (i:=23) (hq:=(bQ rf rfl)) (h:=?_);refine A1 ?_)
     all_goals
      refine aY Tryz.results226 (λ w hw=>?_)
      obtain⟨N,hN,hf⟩:=hch.to (t':=K (sA true (aB x.L b).nd.val) (if x167.1=true then 1 else 0)) h167 (h167.go) hlc (bI _)
      exact⟨(sA true (aB x.L b).nd.val,(if x167.1=true then 1 else 0),x167.2.1,N),rfl,hN,(hw.eU hf).aV (hF:=by exact aW.all)⟩
theorem Rl(hg:g.Ok)(i m:Int){h:Nat}(hh:h<18446744073709551616)(level:Nat)(hlv:level<=1073741824)(K:Rs->Int->Tr)(ht:k.t.root<=9223372036854775807)(hi:i<=x.L.length)(hm:m<=x.L.length)(hA:∀f∈aM x.L,f∈A)(go:fV g x (kE k i m h level K))(ok:x.Ok)(hs:SF w D (xH k bx bm x dn rs) A [] (xW x) w):Calls Tryz.prog 226 #[.pointer (some ⟨bx,0,none⟩),.int .i64 i,.int .i64 m,.int .u64 (h:Int),.int .i64 (level:Int)] w (Yb g x K bx bm k dn rs D w):=by
 by_cases hk:(aB x.L m).nd.kind=6
 ·exact Q7 hg i m hh level hlv K ht hi hm hA hk go ok hs
 ·cases hl:lT (aB x.L m).c (gS h (level:Int)) with
  | none=>exact Tc hg i m hh level hlv K ht hi hm hA hk hl go ok hs
  | some b =>
   by_cases hi2:(aB x.L b).nd.kind=2
   ·exact Rw hg i m hh level hlv K ht hi hm hA hk hl hi2 go ok hs
   ·by_cases he:(aB x.L b).nd.key=k.key
    ·exact Rf hg i m hh level hlv K ht hi hm hA hk hl hi2 he go ok hs
    ·exact So hg i m hh level hlv K ht hi hm hA hk hl hi2 he go ok hs
end
end Go.Proofs.YtbajmaoegmbfgaaGreat

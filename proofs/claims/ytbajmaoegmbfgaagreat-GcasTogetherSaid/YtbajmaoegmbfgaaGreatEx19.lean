/- Executions of the reference: one attempt of DROP at a leaf. -/
import Derived.Test.YtbajmaoegmbfgaaGreatGEx18
set_option linter.unusedSimpArgs false
set_option linter.unusedVariables false
namespace Go.Ct
open Go Go.RowKit
theorem oR{g:Gx}{x:XS}{r:Int}{K:Nv->Tr}(h:gG g x (.node r K))(hr:r<=x.L.length):gG g x (K (aB x.L r).c):=by
 have:=h.node hr
 rwa [show cD x.nodes r=(aB x.L r).c from(Ak x.L r).symm] at this
section
variable{P:Program}{S:List (Nat×Value)}{G:World->Prop}{d:Nat}{ty t t':TypeId}{pos:String}{af:Array Edge}{gd:Option (Nat×Bool)}{x y:Operand}{a b:ByteArray}
theorem sr(hx:ev S x=.string a)(hy:ev S y=.string b)(h:¬a=b):aM P S G ⟨some d,.binOp .neq t x y t',ty,pos,af,gd⟩ (.bool true):=by
 have:=Hu (P:=P) (G:=G) (d:=d) (ty:=ty) (pos:=pos) (af:=af) (gd:=gd) (t:=t) (t':=t') hx hy
 rwa [bne,ug h] at this
theorem ri(hx:ev S x=.string a)(hy:ev S y=.string b)(h:a=b):aM P S G ⟨some d,.binOp .neq t x y t',ty,pos,af,gd⟩ (.bool false):=by
 have:=Hu (P:=P) (G:=G) (d:=d) (ty:=ty) (pos:=pos) (af:=af) (gd:=gd) (t:=t) (t':=t') hx hy
 rwa [bne,vu h] at this
end
end Go.Ct
namespace Go.Proofs.YtbajmaoegmbfgaaGreat
open Go Go.RowKit Go.Ct
theorem tz{m:Nat}{o:Option (Nat×List Int)}{w:World}(h:vL m o){x:Option Addr×Nat}{r:Nv}(e:r=(mT o x).c (mN o) [])(hc:Go.Ct.Cl w x.1 (aG (mN o))):Calls Tryz.prog 245 #[(mT o x).v] w λ e w'=>e=.returned (.tuple #[.int .i64 ((Lr r).getD 0),.bool (Lr r).isSome])/\St w [] [] w':=by
 obtain⟨b,h1,h2⟩:=P6 h x
 have:=Ju (n:=mT o x) h1 h2 (N3 h hc)
 rw[aAd,<- e] at this
 exact this
theorem aAA{m:Nat}{o:Option (Nat×List Int)}(h:vL m o){x:Option Addr×Nat}{r:Nv}(e:r=(mT o x).c (mN o) []):(Lr r).getD 0<=m:=by
 rw[e,<- aAd]
 unfold az
 split
 ·refine mM (λ v hv=>?_) 0
  cases o with
  | none=>exact(List.not_mem_nil hv).elim
  | some q=>exact(h.out q rfl).2.2 v hv
 ·exact bH _
section
variable{k:Cl}{bx bm:Nat}{x:XS}{dn:Bool}{rs:Rs}{D:List Nat}{A:Fr}{w:World}{g:Gx}
set_option maxRecDepth 100000 in
theorem Tz(hg:g.Ok)(i m:Int){h:Nat}(hh:h<18446744073709551616)(level:Nat)(hlv:level<=1073741824)(K:Rs->Int->Tr)(ht:k.t.root<=9223372036854775807)(hi:i<=x.L.length)(hm:m<=x.L.length)(hA:∀f∈aK x.L,f∈A)(hk:(aB x.L m).nd.kind=6)(go:gG g x (kC k i m h level K))(ok:x.Ok)(hs:SF w D (xH k bx bm x dn rs) A [] (xW x) w):Calls Tryz.prog 226 #[.pointer (some ⟨bx,0,none⟩),.int .i64 i,.int .i64 m,.int .u64 (h:Int),.int .i64 (level:Int)] w (Zu g x K bx bm k dn rs D w):=by
 have hyl:=rD ok m
 have hlL:=ok.lL
 have h48:gG g x _/\lD x.L.length x.cs.length (aB x.L m).c:=⟨oR go hm,ok.nv m⟩
 refine enter Tryz.func226 Tryz.ntmps226 rfl rfl (bW hs) ?_
 simp only[bX]
 refine J0 ?_;refine aJ (λ x10=>?_);refine iB ?_
 refine eA [12,13,26,27,28,29,30,31,32,33] (λ j:Nat=>[(12,.pointer (some ⟨j,0,none⟩)),(13,.string k.key)]) (λ _=>True) (λ j=>[(j,.cells ⟨(aB x.L m).nd.cells⟩ 47 (0,0)),(x10,.cells ⟨Rs.zero.cells⟩ 64 (0,0)),(bx,xO k bm x dn rs),(bm,xM x)]) (λ _=>[]) (λ _=>xW x) (by decide) (λ _=>by exact rfl) ?_ (λ j f hx=>?_)
 ·refine fP (.one 0 [] (.one 1 [] (.one 3 [] (.one 4 [] (.one 5 [] (.one 6 [] (.one 7 [] (.two 2 [7] (.one 8 [7] (.one 9 [7] (.one 10 [] .nil))) 0 [] (.two 8 [7] (.one 2 [7] (.one 9 [7] (.one 10 [] .nil))) 0 [] .nil))))))))) ?_
  refine iH ?_;refine yC ?_
  refine fV (E:=[2,8]) (by decide +kernel) ((.cons ?_ (.cons ?_ .nil)))
  ·refine jS (i:=2) (hq:=(cM (hs:=xH k bx bm x dn rs) (os:=xW x) (hc:=λ w hs=>fN m (by omega) ok hs))) (h:=λ x28 h28=>?_)
   refine gA (h:=λ x12=>?_);refine Bm ?_
   refine eQ (x12) ?_
   ·trivial
  ·refine fO (i:=8) (h:=λ x12=>?_)
   refine aZ (i:=2) (hq:=(cM (hs:=xH k bx bm x dn rs) (os:=xW x) (hc:=λ w hs=>fN m (by omega) ok hs))) (h:=λ x28 h28=>?_);refine Bm ?_
   refine eQ (x12) ?_
   ·trivial
 dsimp only[gU,List.map,List.cons_append,List.nil_append]
 refine Dk ?_;refine uG ?_
 refine bB (λ c36=>?_) (λ c36=>?_)
 ·have g1:=h48.1.to (λ _=>if_pos hk)
  refine gZ ?_;refine aA ?_;refine aS (cV (hc:=λ w1 hw=>Mg (v:=(aB x.L m)) (n:=0) k.key (ok.rW hw hA m) (ok.ysl m))) (λ x41=>?_);refine aA ?_;refine aC (bP rf rfl) rfl ?_;refine aC (bP rf rfl) rfl ?_;refine J8 ?_;refine kB ?_;refine Bt ?_
  (refine eE 46 (λ g46=>?_) (λ g46=>?_)<;>(first|refine aI ?_|(refine aF ?_;refine aA ?_)))
  all_goals ((first|refine aI ?_|(refine aF ?_;refine dE ?_));(first|refine aI ?_|(refine aF ?_;refine aE ?_));(first|refine aI ?_|(refine aF ?_;refine aE ?_));(first|refine aI ?_|(refine aF ?_;refine bL ?_));(first|refine aI ?_|(refine aF ?_;refine aA ?_)))
  all_goals (first|refine Ae ?_|(refine eE 52 (λ g52=>?_) (λ g52=>?_)<;>(first|refine aI ?_|(refine aF ?_;refine aA ?_))))
  all_goals ((first|refine aI ?_|refine Ae ?_|(refine aF ?_;refine aA ?_));(first|refine aI ?_|refine Ae ?_|(refine aF ?_;refine dE ?_));(first|refine aI ?_|refine Ae ?_|(refine aF ?_;refine aE ?_));(first|refine aI ?_|refine Ae ?_|(refine aF ?_;refine aE ?_));(first|refine aI ?_|refine Ae ?_|(refine aF ?_;refine bL ?_));(first|refine aI ?_|refine Ae ?_|(refine aF ?_;refine lS ?_));(first|refine aI ?_|(refine aF ?_;refine cB ?_));refine cB ?_;refine aH ?_)
  all_goals
  refine bB (λ c61=>?_) (λ c61=>?_)
  ·try exact nv c61
   all_goals
    have g2:=g1.to (λ _=>if_pos (show((dS (aB x.L m).c.ys k.key).isSome=false∨(k.only=true/\(dS (aB x.L m).c.ys k.key).getD 0≠k.exp)) from by first|exact Or.inl (by assumption)|exact Or.inr ⟨by assumption,by assumption⟩))
   all_goals (refine iR ?_;refine aS (cV (hc:=λ w1 hw=>gW _ _ w1)) (λ x64=>?_);refine wJ ?_)
   all_goals
    refine bC Tryz.results226 (λ w hw=>?_)
    exact⟨(jK (dS (aB x.L m).c.ys k.key).isSome ((dS (aB x.L m).c.ys k.key).getD 0),1,x,[]),rfl,⟨g2,ok,by simp,Nat.le_refl _,bH _⟩,hw.aU (hF:=by exact aY.nil)⟩
  ·try exact nv c61
   all_goals
    have g2:=g1.to (λ _=>if_neg (show ¬((dS (aB x.L m).c.ys k.key).isSome=false∨(k.only=true/\(dS (aB x.L m).c.ys k.key).getD 0≠k.exp)) from by rintro (h|⟨h,h'⟩)<;>simp_all))
   all_goals (refine bA ?_;refine D4 ?_;refine aD (cF (hc:=λ w1 hw=>aBK (v:=(aB x.L m)) h48.2 k.key (ok.rW hw hA m) (by omega))) (λ x68 h68=>?_);refine aA ?_;refine aC (bP rf rfl) rfl ?_;refine aC (bP rf rfl) rfl ?_;refine aJ (λ x16=>?_);refine gY (λ _=>?_);refine iB ?_;refine dK [(0,[]),(1,[]),(2,[]),(3,[]),(4,[]),(5,[]),(6,[]),(7,[]),(8,[]),(9,[]),(10,[]),(11,[]),(14,[]),(12,[6]),(13,[]),(15,[]),(16,[]),(17,[]),(18,[]),(19,[])] ?_;refine iH ?_;refine J9 ?_;refine aR ?_;refine bQ (i:=6) (hq:=(aQ (k:=2) (vs:=[.int .i64 k.t.root,.bool k.t.ro]) rf cQ eD rfl rfl)) (h:=?_);refine iH ?_;refine aN ?_;refine bG ?_;refine iH ?_;refine aZ (i:=12) (hq:=(cM (hs:=xH k bx bm x dn rs) (os:=xW x) (A0:=[((Nt (pR (aB x.L m).nd (aB x.L m).xs (aB x.L m).ys k.key) (aB x.L m).nd.hash x68).brA,aG []),((Nt (pR (aB x.L m).nd (aB x.L m).xs (aB x.L m).ys k.key) (aB x.L m).nd.hash x68).prA,cU (I3 (pR (aB x.L m).nd (aB x.L m).xs (aB x.L m).ys k.key)))]) (hA:=aBj) (hc:=λ w hs=>gX hg (n:=Nt (pR (aB x.L m).nd (aB x.L m).xs (aB x.L m).ys k.key) (aB x.L m).nd.hash x68) (xs:=[]) (ys:=I3 (pR (aB x.L m).nd (aB x.L m).xs (aB x.L m).ys k.key)) m _ (l8 _ _ _).1 (l8 _ _ _).2 (by decide) (by have:=zu (aB x.L m).xs (aB x.L m).ys (aB x.L m).nd k.key;omega) (zk _ h48.2.hash) hm (by rw[aB8];exact g2) ok hs))) (hfire:=(λ _=>by(refine eP ?_;refine aL.cons (by exact fI (hq:=aQ (k:=2) (vs:=[.int .i64 k.t.root,.bool k.t.ro]) rf cQ eD rfl rfl)) ?_;exact aL.nil))) (h:=λ x83 h83=>?_);refine aZ (i:=13) (hq:=(cM (hs:=xH k bx bm x83.2.1 dn rs) (os:=xW x83.2.1) (hc:=λ w hs=>tP hg k.t i m x83.1 _ ht (by have:=h83.len;omega) h83.bd h83.go h83.ok hs))) (h:=λ x84 h84=>?_))
   all_goals
    have hch:=Ch.nx h84 (Ch.nx h83 ((Ch.base (F:=[])).cons (f:=(x68.1,cU (I3 (pR (aB x.L m).nd (aB x.L m).xs (aB x.L m).ys k.key))))))
    have hlc:x.cs.length<=x84.2.1.cs.length:=by have:=h83.lc;have:=h84.lc;omega
   all_goals (refine cH (i:=15) (hq:=(cV (hc:=λ w1 hw=>pA _ _ _ _ w1))) (h:=λ x86=>?_);refine cA (i:=16) (hq:=(bP rf rfl)) (h:=?_);refine cA (i:=17) (hq:=(bP rf rfl)) (h:=?_);refine Bm ?_)
   all_goals
    refine bC Tryz.results226 (λ w hw=>?_)
    obtain⟨N,hN,hf⟩:=hch.to (t':=K (rJ true ((dS (aB x.L m).c.ys k.key).getD 0)) (if x84.1=true then 1 else 0)) h84 (h84.go) hlc (bH _)
    exact⟨(rJ true ((dS (aB x.L m).c.ys k.key).getD 0),(if x84.1=true then 1 else 0),x84.2.1,N),rfl,hN,(hw.eY hf).aU (hF:=by exact aY.all)⟩
 ·exact absurd hk c36
set_option maxRecDepth 100000 in
theorem S5(hg:g.Ok)(i m:Int){h:Nat}(hh:h<18446744073709551616)(level:Nat)(hlv:level<=1073741824)(K:Rs->Int->Tr)(ht:k.t.root<=9223372036854775807)(hi:i<=x.L.length)(hm:m<=x.L.length)(hA:∀f∈aK x.L,f∈A)(hk:¬(aB x.L m).nd.kind=6)(hl:mL (aB x.L m).c (hJ h (level:Int))=none)(go:gG g x (kC k i m h level K))(ok:x.Ok)(hs:SF w D (xH k bx bm x dn rs) A [] (xW x) w):Calls Tryz.prog 226 #[.pointer (some ⟨bx,0,none⟩),.int .i64 i,.int .i64 m,.int .u64 (h:Int),.int .i64 (level:Int)] w (Zu g x K bx bm k dn rs D w):=by
 have hyl:=rD ok m
 have hlL:=ok.lL
 have h48:gG g x _/\lD x.L.length x.cs.length (aB x.L m).c:=⟨oR go hm,ok.nv m⟩
 refine enter Tryz.func226 Tryz.ntmps226 rfl rfl (bW hs) ?_
 simp only[bX]
 refine J0 ?_;refine aJ (λ x10=>?_);refine iB ?_
 refine eA [12,13,26,27,28,29,30,31,32,33] (λ j:Nat=>[(12,.pointer (some ⟨j,0,none⟩)),(13,.string k.key)]) (λ _=>True) (λ j=>[(j,.cells ⟨(aB x.L m).nd.cells⟩ 47 (0,0)),(x10,.cells ⟨Rs.zero.cells⟩ 64 (0,0)),(bx,xO k bm x dn rs),(bm,xM x)]) (λ _=>[]) (λ _=>xW x) (by decide) (λ _=>by exact rfl) ?_ (λ j f hx=>?_)
 ·refine fP (.one 0 [] (.one 1 [] (.one 3 [] (.one 4 [] (.one 5 [] (.one 6 [] (.one 7 [] (.two 2 [7] (.one 8 [7] (.one 9 [7] (.one 10 [] .nil))) 0 [] (.two 8 [7] (.one 2 [7] (.one 9 [7] (.one 10 [] .nil))) 0 [] .nil))))))))) ?_
  refine iH ?_;refine yC ?_
  refine fV (E:=[2,8]) (by decide +kernel) ((.cons ?_ (.cons ?_ .nil)))
  ·refine jS (i:=2) (hq:=(cM (hs:=xH k bx bm x dn rs) (os:=xW x) (hc:=λ w hs=>fN m (by omega) ok hs))) (h:=λ x28 h28=>?_)
   refine gA (h:=λ x12=>?_);refine Bm ?_
   refine eQ (x12) ?_
   ·trivial
  ·refine fO (i:=8) (h:=λ x12=>?_)
   refine aZ (i:=2) (hq:=(cM (hs:=xH k bx bm x dn rs) (os:=xW x) (hc:=λ w hs=>fN m (by omega) ok hs))) (h:=λ x28 h28=>?_);refine Bm ?_
   refine eQ (x12) ?_
   ·trivial
 dsimp only[gU,List.map,List.cons_append,List.nil_append]
 refine Dk ?_;refine uG ?_
 refine bB (λ c36=>?_) (λ c36=>?_)
 ·exact absurd c36 hk
 ·have g0:=h48.1.to (λ _=>if_neg hk)
  have g1:=Lt g0 (by rw[hl];rfl)
  refine Bk ?_;refine aS (cV (hc:=λ w1 hw=>fJ hh (level:Int) w1)) (λ x91=>?_);refine J1 ?_;refine D4 ?_;refine aS (cV (hc:=λ w1 hw=>vd (v:=(aB x.L m)) h48.2 hl (ok.rW hw hA m))) (λ x95=>?_);refine aA ?_;refine aC (bP rf rfl) rfl ?_;refine aC (bP rf rfl) rfl ?_;refine J8 ?_;refine iR ?_;refine aD (cM (hs:=xH k bx bm x dn rs) (os:=xW x) (hc:=λ w hs=>fN 0 (by decide) ok hs)) (λ x100 h100=>?_);refine aJ (λ x21=>?_);refine J5 ?_;refine Dg ?_;refine iR ?_
  refine aI ?_
  refine J78 ?_;refine J1 ?_
  refine bB (λ c101=>?_) (λ c101=>?_)
  ·exact nv c101
  ·refine J2 ?_;refine Bt ?_
   refine aI ?_
   refine kf ?_;(refine aI ?_);refine cB ?_;refine J1 ?_
   refine bB (λ c109=>?_) (λ c109=>?_)
   ·refine J0 ?_;refine aS (cV (hc:=λ w1 hw=>gW _ _ w1)) (λ x118=>?_);refine wJ ?_
    refine bC Tryz.results226 (λ w hw=>?_)
    exact⟨(jK false 0,1,x,[]),rfl,⟨g1,ok,by simp,Nat.le_refl _,bH _⟩,hw.aU (hF:=by exact aY.nil)⟩
   ·exact nv c109
set_option maxRecDepth 100000 in
theorem So(hg:g.Ok)(i m:Int){h:Nat}(hh:h<18446744073709551616)(level:Nat)(hlv:level<=1073741824)(K:Rs->Int->Tr)(ht:k.t.root<=9223372036854775807)(hi:i<=x.L.length)(hm:m<=x.L.length)(hA:∀f∈aK x.L,f∈A)(hk:¬(aB x.L m).nd.kind=6){b:Int}(hl:mL (aB x.L m).c (hJ h (level:Int))=some b)(hi2:(aB x.L b).nd.kind=2)(go:gG g x (kC k i m h level K))(ok:x.Ok)(hs:SF w D (xH k bx bm x dn rs) A [] (xW x) w):Calls Tryz.prog 226 #[.pointer (some ⟨bx,0,none⟩),.int .i64 i,.int .i64 m,.int .u64 (h:Int),.int .i64 (level:Int)] w (Zu g x K bx bm k dn rs D w):=by
 have hyl:=rD ok m
 have hlL:=ok.lL
 have h48:gG g x _/\lD x.L.length x.cs.length (aB x.L m).c:=⟨oR go hm,ok.nv m⟩
 have hb:b<=x.L.length:=by have:=pG (ok.nv m) (hJ h (level:Int));rw[hl] at this;exact this
 refine enter Tryz.func226 Tryz.ntmps226 rfl rfl (bW hs) ?_
 simp only[bX]
 refine J0 ?_;refine aJ (λ x10=>?_);refine iB ?_
 refine eA [12,13,26,27,28,29,30,31,32,33] (λ j:Nat=>[(12,.pointer (some ⟨j,0,none⟩)),(13,.string k.key)]) (λ _=>True) (λ j=>[(j,.cells ⟨(aB x.L m).nd.cells⟩ 47 (0,0)),(x10,.cells ⟨Rs.zero.cells⟩ 64 (0,0)),(bx,xO k bm x dn rs),(bm,xM x)]) (λ _=>[]) (λ _=>xW x) (by decide) (λ _=>by exact rfl) ?_ (λ j f hx=>?_)
 ·refine fP (.one 0 [] (.one 1 [] (.one 3 [] (.one 4 [] (.one 5 [] (.one 6 [] (.one 7 [] (.two 2 [7] (.one 8 [7] (.one 9 [7] (.one 10 [] .nil))) 0 [] (.two 8 [7] (.one 2 [7] (.one 9 [7] (.one 10 [] .nil))) 0 [] .nil))))))))) ?_
  refine iH ?_;refine yC ?_
  refine fV (E:=[2,8]) (by decide +kernel) ((.cons ?_ (.cons ?_ .nil)))
  ·refine jS (i:=2) (hq:=(cM (hs:=xH k bx bm x dn rs) (os:=xW x) (hc:=λ w hs=>fN m (by omega) ok hs))) (h:=λ x28 h28=>?_)
   refine gA (h:=λ x12=>?_);refine Bm ?_
   refine eQ (x12) ?_
   ·trivial
  ·refine fO (i:=8) (h:=λ x12=>?_)
   refine aZ (i:=2) (hq:=(cM (hs:=xH k bx bm x dn rs) (os:=xW x) (hc:=λ w hs=>fN m (by omega) ok hs))) (h:=λ x28 h28=>?_);refine Bm ?_
   refine eQ (x12) ?_
   ·trivial
 dsimp only[gU,List.map,List.cons_append,List.nil_append]
 refine Dk ?_;refine uG ?_
 refine bB (λ c36=>?_) (λ c36=>?_)
 ·exact absurd c36 hk
 ·have g0:=h48.1.to (λ _=>if_neg hk)
  have g1:=tJ g0 (by rw[hl];rfl)
  rw[hl] at g1
  have g2:=oR g1 hb
  refine Bk ?_;refine aS (cV (hc:=λ w1 hw=>fJ hh (level:Int) w1)) (λ x91=>?_);refine J1 ?_;refine D4 ?_;refine aS (cV (hc:=λ w1 hw=>Lb (v:=(aB x.L m)) h48.2 hl (ok.rW hw hA m))) (λ x95=>?_);refine aA ?_;refine aC (bP rf rfl) rfl ?_;refine aC (bP rf rfl) rfl ?_;refine J8 ?_;refine iR ?_;refine aD (cM (hs:=xH k bx bm x dn rs) (os:=xW x) (hc:=λ w hs=>fN b (by omega) ok hs)) (λ x100 h100=>?_);refine aJ (λ x21=>?_);refine J5 ?_;refine Dg ?_;refine iR ?_
  (refine aF ?_;refine aE ?_)
  refine J78 ?_;refine J1 ?_
  refine bB (λ c101=>?_) (λ c101=>?_)
  ·have g3:=g2.to (λ _=>if_pos hi2)
   refine J0 ?_;refine bJ ?_;refine wJ ?_
   refine bC Tryz.results226 (λ w hw=>?_)
   exact⟨(Rs.zero,2,x,[]),rfl,⟨g3,ok,by simp,Nat.le_refl _,bH _⟩,hw.aU (hF:=by exact aY.nil)⟩
  ·exact absurd hi2 c101
set_option maxRecDepth 100000 in
theorem Sl(hg:g.Ok)(i m:Int){h:Nat}(hh:h<18446744073709551616)(level:Nat)(hlv:level<=1073741824)(K:Rs->Int->Tr)(ht:k.t.root<=9223372036854775807)(hi:i<=x.L.length)(hm:m<=x.L.length)(hA:∀f∈aK x.L,f∈A)(hk:¬(aB x.L m).nd.kind=6){b:Int}(hl:mL (aB x.L m).c (hJ h (level:Int))=some b)(hi2:¬(aB x.L b).nd.kind=2)(he:¬(aB x.L b).nd.key=k.key)(go:gG g x (kC k i m h level K))(ok:x.Ok)(hs:SF w D (xH k bx bm x dn rs) A [] (xW x) w):Calls Tryz.prog 226 #[.pointer (some ⟨bx,0,none⟩),.int .i64 i,.int .i64 m,.int .u64 (h:Int),.int .i64 (level:Int)] w (Zu g x K bx bm k dn rs D w):=by
 have hyl:=rD ok m
 have hlL:=ok.lL
 have h48:gG g x _/\lD x.L.length x.cs.length (aB x.L m).c:=⟨oR go hm,ok.nv m⟩
 have hb:b<=x.L.length:=by have:=pG (ok.nv m) (hJ h (level:Int));rw[hl] at this;exact this
 refine enter Tryz.func226 Tryz.ntmps226 rfl rfl (bW hs) ?_
 simp only[bX]
 refine J0 ?_;refine aJ (λ x10=>?_);refine iB ?_
 refine eA [12,13,26,27,28,29,30,31,32,33] (λ j:Nat=>[(12,.pointer (some ⟨j,0,none⟩)),(13,.string k.key)]) (λ _=>True) (λ j=>[(j,.cells ⟨(aB x.L m).nd.cells⟩ 47 (0,0)),(x10,.cells ⟨Rs.zero.cells⟩ 64 (0,0)),(bx,xO k bm x dn rs),(bm,xM x)]) (λ _=>[]) (λ _=>xW x) (by decide) (λ _=>by exact rfl) ?_ (λ j f hx=>?_)
 ·refine fP (.one 0 [] (.one 1 [] (.one 3 [] (.one 4 [] (.one 5 [] (.one 6 [] (.one 7 [] (.two 2 [7] (.one 8 [7] (.one 9 [7] (.one 10 [] .nil))) 0 [] (.two 8 [7] (.one 2 [7] (.one 9 [7] (.one 10 [] .nil))) 0 [] .nil))))))))) ?_
  refine iH ?_;refine yC ?_
  refine fV (E:=[2,8]) (by decide +kernel) ((.cons ?_ (.cons ?_ .nil)))
  ·refine jS (i:=2) (hq:=(cM (hs:=xH k bx bm x dn rs) (os:=xW x) (hc:=λ w hs=>fN m (by omega) ok hs))) (h:=λ x28 h28=>?_)
   refine gA (h:=λ x12=>?_);refine Bm ?_
   refine eQ (x12) ?_
   ·trivial
  ·refine fO (i:=8) (h:=λ x12=>?_)
   refine aZ (i:=2) (hq:=(cM (hs:=xH k bx bm x dn rs) (os:=xW x) (hc:=λ w hs=>fN m (by omega) ok hs))) (h:=λ x28 h28=>?_);refine Bm ?_
   refine eQ (x12) ?_
   ·trivial
 dsimp only[gU,List.map,List.cons_append,List.nil_append]
 refine Dk ?_;refine uG ?_
 refine bB (λ c36=>?_) (λ c36=>?_)
 ·exact absurd c36 hk
 ·have g0:=h48.1.to (λ _=>if_neg hk)
  have g1:=tJ g0 (by rw[hl];rfl)
  rw[hl] at g1
  have g2:=oR g1 hb
  refine Bk ?_;refine aS (cV (hc:=λ w1 hw=>fJ hh (level:Int) w1)) (λ x91=>?_);refine J1 ?_;refine D4 ?_;refine aS (cV (hc:=λ w1 hw=>Lb (v:=(aB x.L m)) h48.2 hl (ok.rW hw hA m))) (λ x95=>?_);refine aA ?_;refine aC (bP rf rfl) rfl ?_;refine aC (bP rf rfl) rfl ?_;refine J8 ?_;refine iR ?_;refine aD (cM (hs:=xH k bx bm x dn rs) (os:=xW x) (hc:=λ w hs=>fN b (by omega) ok hs)) (λ x100 h100=>?_);refine aJ (λ x21=>?_);refine J5 ?_;refine Dg ?_;refine iR ?_
  (refine aF ?_;refine aE ?_)
  refine J78 ?_;refine J1 ?_
  refine bB (λ c101=>?_) (λ c101=>?_)
  ·exact absurd c101 hi2
  ·have g3:=(g2.to (λ _=>if_neg hi2)).to (λ _=>if_pos he)
   refine J2 ?_;refine Bt ?_
   (refine aF ?_;refine aE ?_)
   refine kf ?_;((refine aF ?_;refine aC (sr rf rf he) rfl ?_));refine cB ?_;refine J1 ?_
   refine bB (λ c109=>?_) (λ c109=>?_)
   ·refine J0 ?_;refine aS (cV (hc:=λ w1 hw=>gW _ _ w1)) (λ x118=>?_);refine wJ ?_
    refine bC Tryz.results226 (λ w hw=>?_)
    exact⟨(jK false 0,1,x,[]),rfl,⟨g3,ok,by simp,Nat.le_refl _,bH _⟩,hw.aU (hF:=by exact aY.nil)⟩
   ·exact nv c109
set_option maxRecDepth 100000 in
theorem Ry(hg:g.Ok)(i m:Int){h:Nat}(hh:h<18446744073709551616)(level:Nat)(hlv:level<=1073741824)(K:Rs->Int->Tr)(ht:k.t.root<=9223372036854775807)(hi:i<=x.L.length)(hm:m<=x.L.length)(hA:∀f∈aK x.L,f∈A)(hk:¬(aB x.L m).nd.kind=6){b:Int}(hl:mL (aB x.L m).c (hJ h (level:Int))=some b)(hi2:¬(aB x.L b).nd.kind=2)(he:(aB x.L b).nd.key=k.key)(go:gG g x (kC k i m h level K))(ok:x.Ok)(hs:SF w D (xH k bx bm x dn rs) A [] (xW x) w):Calls Tryz.prog 226 #[.pointer (some ⟨bx,0,none⟩),.int .i64 i,.int .i64 m,.int .u64 (h:Int),.int .i64 (level:Int)] w (Zu g x K bx bm k dn rs D w):=by
 have hyl:=rD ok m
 have hlL:=ok.lL
 have h48:gG g x _/\lD x.L.length x.cs.length (aB x.L m).c:=⟨oR go hm,ok.nv m⟩
 have hb:b<=x.L.length:=by have:=pG (ok.nv m) (hJ h (level:Int));rw[hl] at this;exact this
 refine enter Tryz.func226 Tryz.ntmps226 rfl rfl (bW hs) ?_
 simp only[bX]
 refine J0 ?_;refine aJ (λ x10=>?_);refine iB ?_
 refine eA [12,13,26,27,28,29,30,31,32,33] (λ j:Nat=>[(12,.pointer (some ⟨j,0,none⟩)),(13,.string k.key)]) (λ _=>True) (λ j=>[(j,.cells ⟨(aB x.L m).nd.cells⟩ 47 (0,0)),(x10,.cells ⟨Rs.zero.cells⟩ 64 (0,0)),(bx,xO k bm x dn rs),(bm,xM x)]) (λ _=>[]) (λ _=>xW x) (by decide) (λ _=>by exact rfl) ?_ (λ j f hx=>?_)
 ·refine fP (.one 0 [] (.one 1 [] (.one 3 [] (.one 4 [] (.one 5 [] (.one 6 [] (.one 7 [] (.two 2 [7] (.one 8 [7] (.one 9 [7] (.one 10 [] .nil))) 0 [] (.two 8 [7] (.one 2 [7] (.one 9 [7] (.one 10 [] .nil))) 0 [] .nil))))))))) ?_
  refine iH ?_;refine yC ?_
  refine fV (E:=[2,8]) (by decide +kernel) ((.cons ?_ (.cons ?_ .nil)))
  ·refine jS (i:=2) (hq:=(cM (hs:=xH k bx bm x dn rs) (os:=xW x) (hc:=λ w hs=>fN m (by omega) ok hs))) (h:=λ x28 h28=>?_)
   refine gA (h:=λ x12=>?_);refine Bm ?_
   refine eQ (x12) ?_
   ·trivial
  ·refine fO (i:=8) (h:=λ x12=>?_)
   refine aZ (i:=2) (hq:=(cM (hs:=xH k bx bm x dn rs) (os:=xW x) (hc:=λ w hs=>fN m (by omega) ok hs))) (h:=λ x28 h28=>?_);refine Bm ?_
   refine eQ (x12) ?_
   ·trivial
 dsimp only[gU,List.map,List.cons_append,List.nil_append]
 refine Dk ?_;refine uG ?_
 refine bB (λ c36=>?_) (λ c36=>?_)
 ·exact absurd c36 hk
 ·have g0:=h48.1.to (λ _=>if_neg hk)
  have g1:=tJ g0 (by rw[hl];rfl)
  rw[hl] at g1
  have g2:=oR g1 hb
  refine Bk ?_;refine aS (cV (hc:=λ w1 hw=>fJ hh (level:Int) w1)) (λ x91=>?_);refine J1 ?_;refine D4 ?_;refine aS (cV (hc:=λ w1 hw=>Lb (v:=(aB x.L m)) h48.2 hl (ok.rW hw hA m))) (λ x95=>?_);refine aA ?_;refine aC (bP rf rfl) rfl ?_;refine aC (bP rf rfl) rfl ?_;refine J8 ?_;refine iR ?_;refine aD (cM (hs:=xH k bx bm x dn rs) (os:=xW x) (hc:=λ w hs=>fN b (by omega) ok hs)) (λ x100 h100=>?_);refine aJ (λ x21=>?_);refine J5 ?_;refine Dg ?_;refine iR ?_
  (refine aF ?_;refine aE ?_)
  refine J78 ?_;refine J1 ?_
  refine bB (λ c101=>?_) (λ c101=>?_)
  ·exact absurd c101 hi2
  ·have g3:=(g2.to (λ _=>if_neg hi2)).to (λ _=>if_neg (λ h:¬(aB x.L b).nd.key=k.key=>h he))
   refine J2 ?_;refine Bt ?_
   (refine aF ?_;refine aE ?_)
   refine kf ?_;((refine aF ?_;refine aC (ri rf rf he) rfl ?_));refine cB ?_;refine J1 ?_
   refine bB (λ c109=>?_) (λ c109=>?_)
   ·exact nv c109
   ·refine aV ?_;refine gJ [0,1,2,3,4,5,6,7,8,9,10,11,12,13,14,15] ?_;refine yC ?_;refine aN ?_
    (refine Zy 125 (λ g125=>?_) (λ g125=>?_)<;>(first|refine cX ?_|(refine aR ?_)))
    all_goals ((first|refine cX ?_|(refine bG ?_));(first|refine cX ?_|(refine aN ?_));(first|refine cX ?_|(refine sG ?_));(first|refine cX ?_|(refine aR ?_));refine n7 ?_;(first|refine cX ?_|(refine K7 ?_));refine eF ?_;refine J7 ?_)
    all_goals
    refine bB (λ c119=>?_) (λ c119=>?_)
    ·try exact nv c119
     all_goals
      have g4:=g3.to (λ _=>if_pos (show(k.only=true/\(aB x.L b).nd.val≠k.exp) from⟨by assumption,by assumption⟩))
     all_goals (refine gZ ?_;refine aS (cV (hc:=λ w1 hw=>gW _ _ w1)) (λ x137=>?_);refine wJ ?_)
     all_goals
      refine bC Tryz.results226 (λ w hw=>?_)
      exact⟨(jK true (aB x.L b).nd.val,1,x,[]),rfl,⟨g4,ok,by simp,Nat.le_refl _,bH _⟩,hw.aU (hF:=by exact aY.nil)⟩
    ·all_goals
      have g4:=g3.to (λ _=>if_neg (show ¬(k.only=true/\(aB x.L b).nd.val≠k.exp) from by rintro ⟨h,h'⟩;simp_all))
     all_goals (refine nZ ?_;refine D4 ?_;refine aD (cF (hc:=λ w1 hw=>aA7 (v:=(aB x.L m)) h48.2 (hJ h (level:Int)) (ok.rW hw hA m))) (λ x141 h141=>?_))
     all_goals
      have hB:=aAR h48.2 (v:=(aB x.L m)) (hJ h (level:Int))
     all_goals (refine aA ?_;refine aC (bP rf rfl) rfl ?_;refine aC (bP rf rfl) rfl ?_;refine aJ (λ x22=>?_);refine wJ ?_;refine nQ ?_;refine aS (cV (hc:=λ w1 hw=>tz hB (ur h48.2 (hJ h (level:Int)) x141) (hw.cl (.new .head)))) (λ x146=>?_))
     all_goals
      have hso:((Lr (Ns (aB x.L m).c (hJ h (level:Int)))).getD 0)<=x.L.length:=aAA hB (ur h48.2 (hJ h (level:Int)) x141)
      have g5:=oR g4 hso
     all_goals (refine aA ?_;refine aC (bP rf rfl) rfl ?_;refine aC (bP rf rfl) rfl ?_;refine J8 ?_;refine aV ?_;refine dK [(0,[]),(1,[]),(2,[]),(3,[]),(4,[]),(5,[]),(6,[]),(7,[]),(8,[]),(9,[]),(10,[]),(11,[]),(12,[]),(13,[]),(16,[]),(19,[]),(20,[]),(14,[6,10,20]),(15,[6,20]),(17,[6,20]),(18,[20]),(21,[]),(22,[]),(23,[]),(24,[]),(25,[])] ?_;refine iH ?_;refine J9 ?_;refine aR ?_;refine bQ (i:=6) (hq:=(aQ (k:=2) (vs:=[.int .i64 k.t.root,.bool k.t.ro]) rf cQ eD rfl rfl)) (h:=?_);refine iH ?_;refine aN ?_;refine bG ?_;refine iH ?_;refine iH ?_;refine kG ?_;refine aZ (i:=14) (hq:=(cM (hs:=xH k bx bm x dn rs) (os:=xW x) (hc:=λ w hs=>fN ((Lr (Ns (aB x.L m).c (hJ h (level:Int)))).getD 0) (by omega) ok hs))) (hfire:=(λ _=>by(refine eP ?_;(repeat (first|exact aL.nil|refine aL.cons (by first|exact fI (hq:=aQ (k:=2) (vs:=[.int .i64 k.t.root,.bool k.t.ro]) rf cQ eD rfl rfl)|exact eZ) ?_));done))) (h:=λ x163 h163=>?_);refine cH (i:=15) (hq:=(cV (hc:=λ w1 hw=>Uu hB (level:Int) (aB x.L ((Lr (Ns (aB x.L m).c (hJ h (level:Int)))).getD 0)).nd (hw.cl (.new .head))))) (hfire:=(λ _=>by((repeat (first|exact aL.nil|refine aL.cons (by first|exact fI (hq:=aQ (k:=2) (vs:=[.int .i64 k.t.root,.bool k.t.ro]) rf cQ eD rfl rfl)|exact eZ) ?_));done))) (h:=λ x164=>?_);refine aZ (i:=17) (hq:=(cM (hs:=xH k bx bm x dn rs) (os:=xW x) (A0:=[((Od (mb (aB x.L m) (hJ h (level:Int))) x141 (level:Int) (aB x.L ((Lr (Ns (aB x.L m).c (hJ h (level:Int)))).getD 0)).nd).brA,aG (Zf (mb (aB x.L m) (hJ h (level:Int))) x141 (level:Int) (aB x.L ((Lr (Ns (aB x.L m).c (hJ h (level:Int)))).getD 0)).nd)),((Od (mb (aB x.L m) (hJ h (level:Int))) x141 (level:Int) (aB x.L ((Lr (Ns (aB x.L m).c (hJ h (level:Int)))).getD 0)).nd).prA,cU [])]) (hA:=u6) (hc:=λ w hs=>gX hg (n:=(Od (mb (aB x.L m) (hJ h (level:Int))) x141 (level:Int) (aB x.L ((Lr (Ns (aB x.L m).c (hJ h (level:Int)))).getD 0)).nd)) (xs:=(Zf (mb (aB x.L m) (hJ h (level:Int))) x141 (level:Int) (aB x.L ((Lr (Ns (aB x.L m).c (hJ h (level:Int)))).getD 0)).nd)) (ys:=[]) m _ (ko _ _ _) (kz _ _ _) (Up hB _ _ _) (Nat.zero_le _) (Vx hB _ _ (ok.nv ((Lr (Ns (aB x.L m).c (hJ h (level:Int)))).getD 0)).hash) hm (by rw[<- ux,<- aBF h48.2];exact g5) ok hs))) (hfire:=(λ _=>by(refine eP ?_;(repeat (first|exact aL.nil|refine aL.cons (by first|exact fI (hq:=aQ (k:=2) (vs:=[.int .i64 k.t.root,.bool k.t.ro]) rf cQ eD rfl rfl)|exact eZ) ?_));done))) (h:=λ x166 h166=>?_);refine aZ (i:=18) (hq:=(cM (hs:=xH k bx bm x166.2.1 dn rs) (os:=xW x166.2.1) (hc:=λ w hs=>tP hg k.t i m x166.1 _ ht (by have:=h166.len;omega) h166.bd h166.go h166.ok hs))) (h:=λ x167 h167=>?_))
     all_goals
      have hch:=Ch.nx h167 (Ch.nx h166 ((Ch.base (F:=[])).cons (f:=(x141.1,aG (mN (mb (aB x.L m) (hJ h (level:Int))))))))
      have hlc:x.cs.length<=x167.2.1.cs.length:=by have:=h166.lc;have:=h167.lc;omega
     all_goals (refine cH (i:=21) (hq:=(cV (hc:=λ w1 hw=>pA _ _ _ _ w1))) (h:=λ x170=>?_);refine cA (i:=22) (hq:=(bP rf rfl)) (h:=?_);refine cA (i:=23) (hq:=(bP rf rfl)) (h:=?_);refine Bm ?_)
     all_goals
      refine bC Tryz.results226 (λ w hw=>?_)
      obtain⟨N,hN,hf⟩:=hch.to (t':=K (rJ true (aB x.L b).nd.val) (if x167.1=true then 1 else 0)) h167 (h167.go) hlc (bH _)
      exact⟨(rJ true (aB x.L b).nd.val,(if x167.1=true then 1 else 0),x167.2.1,N),rfl,hN,(hw.eY hf).aU (hF:=by exact aY.all)⟩
theorem Tb(hg:g.Ok)(i m:Int){h:Nat}(hh:h<18446744073709551616)(level:Nat)(hlv:level<=1073741824)(K:Rs->Int->Tr)(ht:k.t.root<=9223372036854775807)(hi:i<=x.L.length)(hm:m<=x.L.length)(hA:∀f∈aK x.L,f∈A)(go:gG g x (kC k i m h level K))(ok:x.Ok)(hs:SF w D (xH k bx bm x dn rs) A [] (xW x) w):Calls Tryz.prog 226 #[.pointer (some ⟨bx,0,none⟩),.int .i64 i,.int .i64 m,.int .u64 (h:Int),.int .i64 (level:Int)] w (Zu g x K bx bm k dn rs D w):=by
 by_cases hk:(aB x.L m).nd.kind=6
 ·exact Tz hg i m hh level hlv K ht hi hm hA hk go ok hs
 ·cases hl:mL (aB x.L m).c (hJ h (level:Int)) with
  | none=>exact S5 hg i m hh level hlv K ht hi hm hA hk hl go ok hs
  | some b =>
   by_cases hi2:(aB x.L b).nd.kind=2
   ·exact So hg i m hh level hlv K ht hi hm hA hk hl hi2 go ok hs
   ·by_cases he:(aB x.L b).nd.key=k.key
    ·exact Ry hg i m hh level hlv K ht hi hm hA hk hl hi2 he go ok hs
    ·exact Sl hg i m hh level hlv K ht hi hm hA hk hl hi2 he go ok hs
end
end Go.Proofs.YtbajmaoegmbfgaaGreat

/- Executions of the reference: one attempt of DROP at a leaf. -/
import Derived.Test.YtbajmaoegmbfgaaGreatGEx18
set_option linter.unusedSimpArgs false
set_option linter.unusedVariables false
namespace Go.Ct
open Go Go.RowKit
theorem oU{g:Gx}{x:XS}{r:Int}{K:Nv->Tr}(h:gA g x (.node r K))(hr:r<=x.L.length):gA g x (K (aB x.L r).c):=by
 have:=h.node hr
 rwa [show cG x.nodes r=(aB x.L r).c from(Aq x.L r).symm] at this
section
variable{P:Program}{S:List (Nat×Value)}{G:World->Prop}{d:Nat}{ty t t':TypeId}{pos:String}{af:Array Edge}{gd:Option (Nat×Bool)}{x y:Operand}{a b:ByteArray}
theorem rr(hx:ev S x=.string a)(hy:ev S y=.string b)(h:¬a=b):aL P S G ⟨some d,.binOp .neq t x y t',ty,pos,af,gd⟩ (.bool true):=by
 have:=E6 (P:=P) (G:=G) (d:=d) (ty:=ty) (pos:=pos) (af:=af) (gd:=gd) (t:=t) (t':=t') hx hy
 rwa [bne,u6 h] at this
theorem m9(hx:ev S x=.string a)(hy:ev S y=.string b)(h:a=b):aL P S G ⟨some d,.binOp .neq t x y t',ty,pos,af,gd⟩ (.bool false):=by
 have:=E6 (P:=P) (G:=G) (d:=d) (ty:=ty) (pos:=pos) (af:=af) (gd:=gd) (t:=t) (t':=t') hx hy
 rwa [bne,uw h] at this
end
end Go.Ct
namespace Go.Proofs.YtbajmaoegmbfgaaGreat
open Go Go.RowKit Go.Ct
theorem ql{m:Nat}{o:Option (Nat×List Int)}{w:World}(h:vK m o){x:Option Addr×Nat}{r:Nv}(e:r=(mQ o x).c (lS o) [])(hc:Go.Ct.Cl w x.1 (aG (lS o))):Calls Tryz.prog 245 #[(mQ o x).v] w λ e w'=>e=.returned (.tuple #[.int .i64 ((M0 r).getD 0),.bool (M0 r).isSome])/\St w [] [] w':=by
 obtain⟨b,h1,h2⟩:=O6 h x
 have:=Ka (n:=mQ o x) h1 h2 (Pt h hc)
 rw[zp,<- e] at this
 exact this
theorem aAM{m:Nat}{o:Option (Nat×List Int)}(h:vK m o){x:Option Addr×Nat}{r:Nv}(e:r=(mQ o x).c (lS o) []):(M0 r).getD 0<=m:=by
 rw[e,<- zp]
 unfold mb
 split
 ·refine lR (λ v hv=>?_) 0
  cases o with
  | none=>exact(List.not_mem_nil hv).elim
  | some q=>exact(h.out q rfl).2.2 v hv
 ·exact bH _
section
variable{k:Cl}{bx bm:Nat}{x:XS}{dn:Bool}{rs:Rs}{D:List Nat}{A:Fr}{w:World}{g:Gx}
set_option maxRecDepth 100000 in
theorem Tq(hg:g.Ok)(i m:Int){h:Nat}(hh:h<18446744073709551616)(level:Nat)(hlv:level<=1073741824)(K:Rs->Int->Tr)(ht:k.t.root<=9223372036854775807)(hi:i<=x.L.length)(hm:m<=x.L.length)(hA:∀f∈aM x.L,f∈A)(hk:(aB x.L m).nd.kind=6)(go:gA g x (jW k i m h level K))(ok:x.Ok)(hs:SF w D (xH k bx bm x dn rs) A [] (xW x) w):Calls Tryz.prog 226 #[.pointer (some ⟨bx,0,none⟩),.int .i64 i,.int .i64 m,.int .u64 (h:Int),.int .i64 (level:Int)] w (Y8 g x K bx bm k dn rs D w):=by
 have hyl:=qX ok m
 have hlL:=ok.lL
 have h48:gA g x _/\mP x.L.length x.cs.length (aB x.L m).c:=⟨oU go hm,ok.nv m⟩
 refine enter Tryz.func226 Tryz.ntmps226 rfl rfl (bW hs) ?_
 simp only[bX]
 refine J0 ?_;refine aJ (λ x10=>?_);refine iE ?_
 refine eQ [12,13,26,27,28,29,30,31,32,33] (λ j:Nat=>[(12,.pointer (some ⟨j,0,none⟩)),(13,.string k.key)]) (λ _=>True) (λ j=>[(j,.cells ⟨(aB x.L m).nd.cells⟩ 47 (0,0)),(x10,.cells ⟨Rs.zero.cells⟩ 64 (0,0)),(bx,xO k bm x dn rs),(bm,xM x)]) (λ _=>[]) (λ _=>xW x) (by decide) (λ _=>by exact rfl) ?_ (λ j f hx=>?_)
 ·refine gE (.one 0 [] (.one 1 [] (.one 3 [] (.one 4 [] (.one 5 [] (.one 6 [] (.one 7 [] (.two 2 [7] (.one 8 [7] (.one 9 [7] (.one 10 [] .nil))) 0 [] (.two 8 [7] (.one 2 [7] (.one 9 [7] (.one 10 [] .nil))) 0 [] .nil))))))))) ?_
  refine iF ?_;refine xY ?_
  refine gQ (E:=[2,8]) (by decide +kernel) ((.cons ?_ (.cons ?_ .nil)))
  ·refine mM (i:=2) (hq:=(cM (hs:=xH k bx bm x dn rs) (os:=xW x) (hc:=λ w hs=>fK m (by omega) ok hs))) (h:=λ x28 h28=>?_)
   refine gV (h:=λ x12=>?_);refine Bg ?_
   refine fD (x12) ?_
   ·trivial
  ·refine gW (i:=8) (h:=λ x12=>?_)
   refine aZ (i:=2) (hq:=(cM (hs:=xH k bx bm x dn rs) (os:=xW x) (hc:=λ w hs=>fK m (by omega) ok hs))) (h:=λ x28 h28=>?_);refine Bg ?_
   refine fD (x12) ?_
   ·trivial
 dsimp only[gX,List.map,List.cons_append,List.nil_append]
 refine Dc ?_;refine uK ?_
 refine bB (λ c36=>?_) (λ c36=>?_)
 ·have g1:=h48.1.to (λ _=>if_pos hk)
  refine gY ?_;refine aA ?_;refine aT (cV (hc:=λ w1 hw=>Lw (v:=(aB x.L m)) (n:=0) k.key (ok.sC hw hA m) (ok.ysl m))) (λ x41=>?_);refine aA ?_;refine aC (bO rf rfl) rfl ?_;refine aC (bO rf rfl) rfl ?_;refine J8 ?_;refine kA ?_;refine Cz ?_
  (refine eD 46 (λ g46=>?_) (λ g46=>?_)<;>(first|refine aI ?_|(refine aF ?_;refine aA ?_)))
  all_goals ((first|refine aI ?_|(refine aF ?_;refine dD ?_));(first|refine aI ?_|(refine aF ?_;refine aE ?_));(first|refine aI ?_|(refine aF ?_;refine aE ?_));(first|refine aI ?_|(refine aF ?_;refine bP ?_));(first|refine aI ?_|(refine aF ?_;refine aA ?_)))
  all_goals (first|refine zX ?_|(refine eD 52 (λ g52=>?_) (λ g52=>?_)<;>(first|refine aI ?_|(refine aF ?_;refine aA ?_))))
  all_goals ((first|refine aI ?_|refine zX ?_|(refine aF ?_;refine aA ?_));(first|refine aI ?_|refine zX ?_|(refine aF ?_;refine dD ?_));(first|refine aI ?_|refine zX ?_|(refine aF ?_;refine aE ?_));(first|refine aI ?_|refine zX ?_|(refine aF ?_;refine aE ?_));(first|refine aI ?_|refine zX ?_|(refine aF ?_;refine bP ?_));(first|refine aI ?_|refine zX ?_|(refine aF ?_;refine mK ?_));(first|refine aI ?_|(refine aF ?_;refine cE ?_));refine cE ?_;refine aH ?_)
  all_goals
  refine bB (λ c61=>?_) (λ c61=>?_)
  ·try exact nv c61
   all_goals
    have g2:=g1.to (λ _=>if_pos (show((dU (aB x.L m).c.ys k.key).isSome=false∨(k.only=true/\(dU (aB x.L m).c.ys k.key).getD 0≠k.exp)) from by first|exact Or.inl (by assumption)|exact Or.inr ⟨by assumption,by assumption⟩))
   all_goals (refine iY ?_;refine aT (cV (hc:=λ w1 hw=>gT _ _ w1)) (λ x64=>?_);refine xX ?_)
   all_goals
    refine bC Tryz.results226 (λ w hw=>?_)
    exact⟨(jI (dU (aB x.L m).c.ys k.key).isSome ((dU (aB x.L m).c.ys k.key).getD 0),1,x,[]),rfl,⟨g2,ok,by simp,Nat.le_refl _,bH _⟩,hw.aU (hF:=by exact aX.nil)⟩
  ·try exact nv c61
   all_goals
    have g2:=g1.to (λ _=>if_neg (show ¬((dU (aB x.L m).c.ys k.key).isSome=false∨(k.only=true/\(dU (aB x.L m).c.ys k.key).getD 0≠k.exp)) from by rintro (h|⟨h,h'⟩)<;>simp_all))
   all_goals (refine aY ?_;refine Dz ?_;refine aD (cF (hc:=λ w1 hw=>aAk (v:=(aB x.L m)) h48.2 k.key (ok.sC hw hA m) (by omega))) (λ x68 h68=>?_);refine aA ?_;refine aC (bO rf rfl) rfl ?_;refine aC (bO rf rfl) rfl ?_;refine aJ (λ x16=>?_);refine iA (λ _=>?_);refine iE ?_;refine dK [(0,[]),(1,[]),(2,[]),(3,[]),(4,[]),(5,[]),(6,[]),(7,[]),(8,[]),(9,[]),(10,[]),(11,[]),(14,[]),(12,[6]),(13,[]),(15,[]),(16,[]),(17,[]),(18,[]),(19,[])] ?_;refine iF ?_;refine J9 ?_;refine aR ?_;refine bQ (i:=6) (hq:=(aQ (k:=2) (vs:=[.int .i64 k.t.root,.bool k.t.ro]) rf cQ eC rfl rfl)) (h:=?_);refine iF ?_;refine aN ?_;refine bG ?_;refine iF ?_;refine aZ (i:=12) (hq:=(cM (hs:=xH k bx bm x dn rs) (os:=xW x) (A0:=[((Na (pJ (aB x.L m).nd (aB x.L m).xs (aB x.L m).ys k.key) (aB x.L m).nd.hash x68).brA,aG []),((Na (pJ (aB x.L m).nd (aB x.L m).xs (aB x.L m).ys k.key) (aB x.L m).nd.hash x68).prA,cZ (Ih (pJ (aB x.L m).nd (aB x.L m).xs (aB x.L m).ys k.key)))]) (hA:=aAJ) (hc:=λ w hs=>gU hg (n:=Na (pJ (aB x.L m).nd (aB x.L m).xs (aB x.L m).ys k.key) (aB x.L m).nd.hash x68) (xs:=[]) (ys:=Ih (pJ (aB x.L m).nd (aB x.L m).xs (aB x.L m).ys k.key)) m _ (Z2 _ _ _).1 (Z2 _ _ _).2 (by decide) (by have:=ye (aB x.L m).xs (aB x.L m).ys (aB x.L m).nd k.key;omega) (yi _ h48.2.hash) hm (by rw[aBO];exact g2) ok hs))) (hfire:=(λ _=>by(refine eP ?_;refine aK.cons (by exact fG (hq:=aQ (k:=2) (vs:=[.int .i64 k.t.root,.bool k.t.ro]) rf cQ eC rfl rfl)) ?_;exact aK.nil))) (h:=λ x83 h83=>?_);refine aZ (i:=13) (hq:=(cM (hs:=xH k bx bm x83.2.1 dn rs) (os:=xW x83.2.1) (hc:=λ w hs=>sY hg k.t i m x83.1 _ ht (by have:=h83.len;omega) h83.bd h83.go h83.ok hs))) (h:=λ x84 h84=>?_))
   all_goals
    have hch:=Ch.nx h84 (Ch.nx h83 ((Ch.base (F:=[])).cons (f:=(x68.1,cZ (Ih (pJ (aB x.L m).nd (aB x.L m).xs (aB x.L m).ys k.key))))))
    have hlc:x.cs.length<=x84.2.1.cs.length:=by have:=h83.lc;have:=h84.lc;omega
   all_goals (refine cH (i:=15) (hq:=(cV (hc:=λ w1 hw=>pA _ _ _ _ w1))) (h:=λ x86=>?_);refine bZ (i:=16) (hq:=(bO rf rfl)) (h:=?_);refine bZ (i:=17) (hq:=(bO rf rfl)) (h:=?_);refine Bg ?_)
   all_goals
    refine bC Tryz.results226 (λ w hw=>?_)
    obtain⟨N,hN,hf⟩:=hch.to (t':=K (rW true ((dU (aB x.L m).c.ys k.key).getD 0)) (if x84.1=true then 1 else 0)) h84 (h84.go) hlc (bH _)
    exact⟨(rW true ((dU (aB x.L m).c.ys k.key).getD 0),(if x84.1=true then 1 else 0),x84.2.1,N),rfl,hN,(hw.eX hf).aU (hF:=by exact aX.all)⟩
 ·exact absurd hk c36
set_option maxRecDepth 100000 in
theorem R6(hg:g.Ok)(i m:Int){h:Nat}(hh:h<18446744073709551616)(level:Nat)(hlv:level<=1073741824)(K:Rs->Int->Tr)(ht:k.t.root<=9223372036854775807)(hi:i<=x.L.length)(hm:m<=x.L.length)(hA:∀f∈aM x.L,f∈A)(hk:¬(aB x.L m).nd.kind=6)(hl:lV (aB x.L m).c (gZ h (level:Int))=none)(go:gA g x (jW k i m h level K))(ok:x.Ok)(hs:SF w D (xH k bx bm x dn rs) A [] (xW x) w):Calls Tryz.prog 226 #[.pointer (some ⟨bx,0,none⟩),.int .i64 i,.int .i64 m,.int .u64 (h:Int),.int .i64 (level:Int)] w (Y8 g x K bx bm k dn rs D w):=by
 have hyl:=qX ok m
 have hlL:=ok.lL
 have h48:gA g x _/\mP x.L.length x.cs.length (aB x.L m).c:=⟨oU go hm,ok.nv m⟩
 refine enter Tryz.func226 Tryz.ntmps226 rfl rfl (bW hs) ?_
 simp only[bX]
 refine J0 ?_;refine aJ (λ x10=>?_);refine iE ?_
 refine eQ [12,13,26,27,28,29,30,31,32,33] (λ j:Nat=>[(12,.pointer (some ⟨j,0,none⟩)),(13,.string k.key)]) (λ _=>True) (λ j=>[(j,.cells ⟨(aB x.L m).nd.cells⟩ 47 (0,0)),(x10,.cells ⟨Rs.zero.cells⟩ 64 (0,0)),(bx,xO k bm x dn rs),(bm,xM x)]) (λ _=>[]) (λ _=>xW x) (by decide) (λ _=>by exact rfl) ?_ (λ j f hx=>?_)
 ·refine gE (.one 0 [] (.one 1 [] (.one 3 [] (.one 4 [] (.one 5 [] (.one 6 [] (.one 7 [] (.two 2 [7] (.one 8 [7] (.one 9 [7] (.one 10 [] .nil))) 0 [] (.two 8 [7] (.one 2 [7] (.one 9 [7] (.one 10 [] .nil))) 0 [] .nil))))))))) ?_
  refine iF ?_;refine xY ?_
  refine gQ (E:=[2,8]) (by decide +kernel) ((.cons ?_ (.cons ?_ .nil)))
  ·refine mM (i:=2) (hq:=(cM (hs:=xH k bx bm x dn rs) (os:=xW x) (hc:=λ w hs=>fK m (by omega) ok hs))) (h:=λ x28 h28=>?_)
   refine gV (h:=λ x12=>?_);refine Bg ?_
   refine fD (x12) ?_
   ·trivial
  ·refine gW (i:=8) (h:=λ x12=>?_)
   refine aZ (i:=2) (hq:=(cM (hs:=xH k bx bm x dn rs) (os:=xW x) (hc:=λ w hs=>fK m (by omega) ok hs))) (h:=λ x28 h28=>?_);refine Bg ?_
   refine fD (x12) ?_
   ·trivial
 dsimp only[gX,List.map,List.cons_append,List.nil_append]
 refine Dc ?_;refine uK ?_
 refine bB (λ c36=>?_) (λ c36=>?_)
 ·exact absurd c36 hk
 ·have g0:=h48.1.to (λ _=>if_neg hk)
  have g1:=K4 g0 (by rw[hl];rfl)
  refine Bh ?_;refine aT (cV (hc:=λ w1 hw=>fI hh (level:Int) w1)) (λ x91=>?_);refine J1 ?_;refine Dz ?_;refine aT (cV (hc:=λ w1 hw=>tx (v:=(aB x.L m)) h48.2 hl (ok.sC hw hA m))) (λ x95=>?_);refine aA ?_;refine aC (bO rf rfl) rfl ?_;refine aC (bO rf rfl) rfl ?_;refine J8 ?_;refine iY ?_;refine aD (cM (hs:=xH k bx bm x dn rs) (os:=xW x) (hc:=λ w hs=>fK 0 (by decide) ok hs)) (λ x100 h100=>?_);refine aJ (λ x21=>?_);refine J5 ?_;refine Cw ?_;refine iY ?_
  refine aI ?_
  refine v9 ?_;refine J1 ?_
  refine bB (λ c101=>?_) (λ c101=>?_)
  ·exact nv c101
  ·refine J2 ?_;refine Cz ?_
   refine aI ?_
   refine ll ?_;(refine aI ?_);refine cE ?_;refine J1 ?_
   refine bB (λ c109=>?_) (λ c109=>?_)
   ·refine J0 ?_;refine aT (cV (hc:=λ w1 hw=>gT _ _ w1)) (λ x118=>?_);refine xX ?_
    refine bC Tryz.results226 (λ w hw=>?_)
    exact⟨(jI false 0,1,x,[]),rfl,⟨g1,ok,by simp,Nat.le_refl _,bH _⟩,hw.aU (hF:=by exact aX.nil)⟩
   ·exact nv c109
set_option maxRecDepth 100000 in
theorem Tn(hg:g.Ok)(i m:Int){h:Nat}(hh:h<18446744073709551616)(level:Nat)(hlv:level<=1073741824)(K:Rs->Int->Tr)(ht:k.t.root<=9223372036854775807)(hi:i<=x.L.length)(hm:m<=x.L.length)(hA:∀f∈aM x.L,f∈A)(hk:¬(aB x.L m).nd.kind=6){b:Int}(hl:lV (aB x.L m).c (gZ h (level:Int))=some b)(hi2:(aB x.L b).nd.kind=2)(go:gA g x (jW k i m h level K))(ok:x.Ok)(hs:SF w D (xH k bx bm x dn rs) A [] (xW x) w):Calls Tryz.prog 226 #[.pointer (some ⟨bx,0,none⟩),.int .i64 i,.int .i64 m,.int .u64 (h:Int),.int .i64 (level:Int)] w (Y8 g x K bx bm k dn rs D w):=by
 have hyl:=qX ok m
 have hlL:=ok.lL
 have h48:gA g x _/\mP x.L.length x.cs.length (aB x.L m).c:=⟨oU go hm,ok.nv m⟩
 have hb:b<=x.L.length:=by have:=pM (ok.nv m) (gZ h (level:Int));rw[hl] at this;exact this
 refine enter Tryz.func226 Tryz.ntmps226 rfl rfl (bW hs) ?_
 simp only[bX]
 refine J0 ?_;refine aJ (λ x10=>?_);refine iE ?_
 refine eQ [12,13,26,27,28,29,30,31,32,33] (λ j:Nat=>[(12,.pointer (some ⟨j,0,none⟩)),(13,.string k.key)]) (λ _=>True) (λ j=>[(j,.cells ⟨(aB x.L m).nd.cells⟩ 47 (0,0)),(x10,.cells ⟨Rs.zero.cells⟩ 64 (0,0)),(bx,xO k bm x dn rs),(bm,xM x)]) (λ _=>[]) (λ _=>xW x) (by decide) (λ _=>by exact rfl) ?_ (λ j f hx=>?_)
 ·refine gE (.one 0 [] (.one 1 [] (.one 3 [] (.one 4 [] (.one 5 [] (.one 6 [] (.one 7 [] (.two 2 [7] (.one 8 [7] (.one 9 [7] (.one 10 [] .nil))) 0 [] (.two 8 [7] (.one 2 [7] (.one 9 [7] (.one 10 [] .nil))) 0 [] .nil))))))))) ?_
  refine iF ?_;refine xY ?_
  refine gQ (E:=[2,8]) (by decide +kernel) ((.cons ?_ (.cons ?_ .nil)))
  ·refine mM (i:=2) (hq:=(cM (hs:=xH k bx bm x dn rs) (os:=xW x) (hc:=λ w hs=>fK m (by omega) ok hs))) (h:=λ x28 h28=>?_)
   refine gV (h:=λ x12=>?_);refine Bg ?_
   refine fD (x12) ?_
   ·trivial
  ·refine gW (i:=8) (h:=λ x12=>?_)
   refine aZ (i:=2) (hq:=(cM (hs:=xH k bx bm x dn rs) (os:=xW x) (hc:=λ w hs=>fK m (by omega) ok hs))) (h:=λ x28 h28=>?_);refine Bg ?_
   refine fD (x12) ?_
   ·trivial
 dsimp only[gX,List.map,List.cons_append,List.nil_append]
 refine Dc ?_;refine uK ?_
 refine bB (λ c36=>?_) (λ c36=>?_)
 ·exact absurd c36 hk
 ·have g0:=h48.1.to (λ _=>if_neg hk)
  have g1:=sN g0 (by rw[hl];rfl)
  rw[hl] at g1
  have g2:=oU g1 hb
  refine Bh ?_;refine aT (cV (hc:=λ w1 hw=>fI hh (level:Int) w1)) (λ x91=>?_);refine J1 ?_;refine Dz ?_;refine aT (cV (hc:=λ w1 hw=>Jt (v:=(aB x.L m)) h48.2 hl (ok.sC hw hA m))) (λ x95=>?_);refine aA ?_;refine aC (bO rf rfl) rfl ?_;refine aC (bO rf rfl) rfl ?_;refine J8 ?_;refine iY ?_;refine aD (cM (hs:=xH k bx bm x dn rs) (os:=xW x) (hc:=λ w hs=>fK b (by omega) ok hs)) (λ x100 h100=>?_);refine aJ (λ x21=>?_);refine J5 ?_;refine Cw ?_;refine iY ?_
  (refine aF ?_;refine aE ?_)
  refine v9 ?_;refine J1 ?_
  refine bB (λ c101=>?_) (λ c101=>?_)
  ·have g3:=g2.to (λ _=>if_pos hi2)
   refine J0 ?_;refine bJ ?_;refine xX ?_
   refine bC Tryz.results226 (λ w hw=>?_)
   exact⟨(Rs.zero,2,x,[]),rfl,⟨g3,ok,by simp,Nat.le_refl _,bH _⟩,hw.aU (hF:=by exact aX.nil)⟩
  ·exact absurd hi2 c101
set_option maxRecDepth 100000 in
theorem Sw(hg:g.Ok)(i m:Int){h:Nat}(hh:h<18446744073709551616)(level:Nat)(hlv:level<=1073741824)(K:Rs->Int->Tr)(ht:k.t.root<=9223372036854775807)(hi:i<=x.L.length)(hm:m<=x.L.length)(hA:∀f∈aM x.L,f∈A)(hk:¬(aB x.L m).nd.kind=6){b:Int}(hl:lV (aB x.L m).c (gZ h (level:Int))=some b)(hi2:¬(aB x.L b).nd.kind=2)(he:¬(aB x.L b).nd.key=k.key)(go:gA g x (jW k i m h level K))(ok:x.Ok)(hs:SF w D (xH k bx bm x dn rs) A [] (xW x) w):Calls Tryz.prog 226 #[.pointer (some ⟨bx,0,none⟩),.int .i64 i,.int .i64 m,.int .u64 (h:Int),.int .i64 (level:Int)] w (Y8 g x K bx bm k dn rs D w):=by
 have hyl:=qX ok m
 have hlL:=ok.lL
 have h48:gA g x _/\mP x.L.length x.cs.length (aB x.L m).c:=⟨oU go hm,ok.nv m⟩
 have hb:b<=x.L.length:=by have:=pM (ok.nv m) (gZ h (level:Int));rw[hl] at this;exact this
 refine enter Tryz.func226 Tryz.ntmps226 rfl rfl (bW hs) ?_
 simp only[bX]
 refine J0 ?_;refine aJ (λ x10=>?_);refine iE ?_
 refine eQ [12,13,26,27,28,29,30,31,32,33] (λ j:Nat=>[(12,.pointer (some ⟨j,0,none⟩)),(13,.string k.key)]) (λ _=>True) (λ j=>[(j,.cells ⟨(aB x.L m).nd.cells⟩ 47 (0,0)),(x10,.cells ⟨Rs.zero.cells⟩ 64 (0,0)),(bx,xO k bm x dn rs),(bm,xM x)]) (λ _=>[]) (λ _=>xW x) (by decide) (λ _=>by exact rfl) ?_ (λ j f hx=>?_)
 ·refine gE (.one 0 [] (.one 1 [] (.one 3 [] (.one 4 [] (.one 5 [] (.one 6 [] (.one 7 [] (.two 2 [7] (.one 8 [7] (.one 9 [7] (.one 10 [] .nil))) 0 [] (.two 8 [7] (.one 2 [7] (.one 9 [7] (.one 10 [] .nil))) 0 [] .nil))))))))) ?_
  refine iF ?_;refine xY ?_
  refine gQ (E:=[2,8]) (by decide +kernel) ((.cons ?_ (.cons ?_ .nil)))
  ·refine mM (i:=2) (hq:=(cM (hs:=xH k bx bm x dn rs) (os:=xW x) (hc:=λ w hs=>fK m (by omega) ok hs))) (h:=λ x28 h28=>?_)
   refine gV (h:=λ x12=>?_);refine Bg ?_
   refine fD (x12) ?_
   ·trivial
  ·refine gW (i:=8) (h:=λ x12=>?_)
   refine aZ (i:=2) (hq:=(cM (hs:=xH k bx bm x dn rs) (os:=xW x) (hc:=λ w hs=>fK m (by omega) ok hs))) (h:=λ x28 h28=>?_);refine Bg ?_
   refine fD (x12) ?_
   ·trivial
 dsimp only[gX,List.map,List.cons_append,List.nil_append]
 refine Dc ?_;refine uK ?_
 refine bB (λ c36=>?_) (λ c36=>?_)
 ·exact absurd c36 hk
 ·have g0:=h48.1.to (λ _=>if_neg hk)
  have g1:=sN g0 (by rw[hl];rfl)
  rw[hl] at g1
  have g2:=oU g1 hb
  refine Bh ?_;refine aT (cV (hc:=λ w1 hw=>fI hh (level:Int) w1)) (λ x91=>?_);refine J1 ?_;refine Dz ?_;refine aT (cV (hc:=λ w1 hw=>Jt (v:=(aB x.L m)) h48.2 hl (ok.sC hw hA m))) (λ x95=>?_);refine aA ?_;refine aC (bO rf rfl) rfl ?_;refine aC (bO rf rfl) rfl ?_;refine J8 ?_;refine iY ?_;refine aD (cM (hs:=xH k bx bm x dn rs) (os:=xW x) (hc:=λ w hs=>fK b (by omega) ok hs)) (λ x100 h100=>?_);refine aJ (λ x21=>?_);refine J5 ?_;refine Cw ?_;refine iY ?_
  (refine aF ?_;refine aE ?_)
  refine v9 ?_;refine J1 ?_
  refine bB (λ c101=>?_) (λ c101=>?_)
  ·exact absurd c101 hi2
  ·have g3:=(g2.to (λ _=>if_neg hi2)).to (λ _=>if_pos he)
   refine J2 ?_;refine Cz ?_
   (refine aF ?_;refine aE ?_)
   refine ll ?_;((refine aF ?_;refine aC (rr rf rf he) rfl ?_));refine cE ?_;refine J1 ?_
   refine bB (λ c109=>?_) (λ c109=>?_)
   ·refine J0 ?_;refine aT (cV (hc:=λ w1 hw=>gT _ _ w1)) (λ x118=>?_);refine xX ?_
    refine bC Tryz.results226 (λ w hw=>?_)
    exact⟨(jI false 0,1,x,[]),rfl,⟨g3,ok,by simp,Nat.le_refl _,bH _⟩,hw.aU (hF:=by exact aX.nil)⟩
   ·exact nv c109
set_option maxRecDepth 100000 in
theorem Ty(hg:g.Ok)(i m:Int){h:Nat}(hh:h<18446744073709551616)(level:Nat)(hlv:level<=1073741824)(K:Rs->Int->Tr)(ht:k.t.root<=9223372036854775807)(hi:i<=x.L.length)(hm:m<=x.L.length)(hA:∀f∈aM x.L,f∈A)(hk:¬(aB x.L m).nd.kind=6){b:Int}(hl:lV (aB x.L m).c (gZ h (level:Int))=some b)(hi2:¬(aB x.L b).nd.kind=2)(he:(aB x.L b).nd.key=k.key)(go:gA g x (jW k i m h level K))(ok:x.Ok)(hs:SF w D (xH k bx bm x dn rs) A [] (xW x) w):Calls Tryz.prog 226 #[.pointer (some ⟨bx,0,none⟩),.int .i64 i,.int .i64 m,.int .u64 (h:Int),.int .i64 (level:Int)] w (Y8 g x K bx bm k dn rs D w):=by
 have hyl:=qX ok m
 have hlL:=ok.lL
 have h48:gA g x _/\mP x.L.length x.cs.length (aB x.L m).c:=⟨oU go hm,ok.nv m⟩
 have hb:b<=x.L.length:=by have:=pM (ok.nv m) (gZ h (level:Int));rw[hl] at this;exact this
 refine enter Tryz.func226 Tryz.ntmps226 rfl rfl (bW hs) ?_
 simp only[bX]
 refine J0 ?_;refine aJ (λ x10=>?_);refine iE ?_
 refine eQ [12,13,26,27,28,29,30,31,32,33] (λ j:Nat=>[(12,.pointer (some ⟨j,0,none⟩)),(13,.string k.key)]) (λ _=>True) (λ j=>[(j,.cells ⟨(aB x.L m).nd.cells⟩ 47 (0,0)),(x10,.cells ⟨Rs.zero.cells⟩ 64 (0,0)),(bx,xO k bm x dn rs),(bm,xM x)]) (λ _=>[]) (λ _=>xW x) (by decide) (λ _=>by exact rfl) ?_ (λ j f hx=>?_)
 ·refine gE (.one 0 [] (.one 1 [] (.one 3 [] (.one 4 [] (.one 5 [] (.one 6 [] (.one 7 [] (.two 2 [7] (.one 8 [7] (.one 9 [7] (.one 10 [] .nil))) 0 [] (.two 8 [7] (.one 2 [7] (.one 9 [7] (.one 10 [] .nil))) 0 [] .nil))))))))) ?_
  refine iF ?_;refine xY ?_
  refine gQ (E:=[2,8]) (by decide +kernel) ((.cons ?_ (.cons ?_ .nil)))
  ·refine mM (i:=2) (hq:=(cM (hs:=xH k bx bm x dn rs) (os:=xW x) (hc:=λ w hs=>fK m (by omega) ok hs))) (h:=λ x28 h28=>?_)
   refine gV (h:=λ x12=>?_);refine Bg ?_
   refine fD (x12) ?_
   ·trivial
  ·refine gW (i:=8) (h:=λ x12=>?_)
   refine aZ (i:=2) (hq:=(cM (hs:=xH k bx bm x dn rs) (os:=xW x) (hc:=λ w hs=>fK m (by omega) ok hs))) (h:=λ x28 h28=>?_);refine Bg ?_
   refine fD (x12) ?_
   ·trivial
 dsimp only[gX,List.map,List.cons_append,List.nil_append]
 refine Dc ?_;refine uK ?_
 refine bB (λ c36=>?_) (λ c36=>?_)
 ·exact absurd c36 hk
 ·have g0:=h48.1.to (λ _=>if_neg hk)
  have g1:=sN g0 (by rw[hl];rfl)
  rw[hl] at g1
  have g2:=oU g1 hb
  refine Bh ?_;refine aT (cV (hc:=λ w1 hw=>fI hh (level:Int) w1)) (λ x91=>?_);refine J1 ?_;refine Dz ?_;refine aT (cV (hc:=λ w1 hw=>Jt (v:=(aB x.L m)) h48.2 hl (ok.sC hw hA m))) (λ x95=>?_);refine aA ?_;refine aC (bO rf rfl) rfl ?_;refine aC (bO rf rfl) rfl ?_;refine J8 ?_;refine iY ?_;refine aD (cM (hs:=xH k bx bm x dn rs) (os:=xW x) (hc:=λ w hs=>fK b (by omega) ok hs)) (λ x100 h100=>?_);refine aJ (λ x21=>?_);refine J5 ?_;refine Cw ?_;refine iY ?_
  (refine aF ?_;refine aE ?_)
  refine v9 ?_;refine J1 ?_
  refine bB (λ c101=>?_) (λ c101=>?_)
  ·exact absurd c101 hi2
  ·have g3:=(g2.to (λ _=>if_neg hi2)).to (λ _=>if_neg (λ h:¬(aB x.L b).nd.key=k.key=>h he))
   refine J2 ?_;refine Cz ?_
   (refine aF ?_;refine aE ?_)
   refine ll ?_;((refine aF ?_;refine aC (m9 rf rf he) rfl ?_));refine cE ?_;refine J1 ?_
   refine bB (λ c109=>?_) (λ c109=>?_)
   ·exact nv c109
   ·refine aV ?_;refine gL [0,1,2,3,4,5,6,7,8,9,10,11,12,13,14,15] ?_;refine xY ?_;refine aN ?_
    (refine Y9 125 (λ g125=>?_) (λ g125=>?_)<;>(first|refine cW ?_|(refine aR ?_)))
    all_goals ((first|refine cW ?_|(refine bG ?_));(first|refine cW ?_|(refine aN ?_));(first|refine cW ?_|(refine tI ?_));(first|refine cW ?_|(refine aR ?_));refine aa ?_;(first|refine cW ?_|(refine Kg ?_));refine eS ?_;refine J7 ?_)
    all_goals
    refine bB (λ c119=>?_) (λ c119=>?_)
    ·try exact nv c119
     all_goals
      have g4:=g3.to (λ _=>if_pos (show(k.only=true/\(aB x.L b).nd.val≠k.exp) from⟨by assumption,by assumption⟩))
     all_goals (refine gY ?_;refine aT (cV (hc:=λ w1 hw=>gT _ _ w1)) (λ x137=>?_);refine xX ?_)
     all_goals
      refine bC Tryz.results226 (λ w hw=>?_)
      exact⟨(jI true (aB x.L b).nd.val,1,x,[]),rfl,⟨g4,ok,by simp,Nat.le_refl _,bH _⟩,hw.aU (hF:=by exact aX.nil)⟩
    ·all_goals
      have g4:=g3.to (λ _=>if_neg (show ¬(k.only=true/\(aB x.L b).nd.val≠k.exp) from by rintro ⟨h,h'⟩;simp_all))
     all_goals (refine nN ?_;refine Dz ?_;refine aD (cF (hc:=λ w1 hw=>aAZ (v:=(aB x.L m)) h48.2 (gZ h (level:Int)) (ok.sC hw hA m))) (λ x141 h141=>?_))
     all_goals
      have hB:=aBG h48.2 (v:=(aB x.L m)) (gZ h (level:Int))
     all_goals (refine aA ?_;refine aC (bO rf rfl) rfl ?_;refine aC (bO rf rfl) rfl ?_;refine aJ (λ x22=>?_);refine xX ?_;refine nK ?_;refine aT (cV (hc:=λ w1 hw=>ql hB (ul h48.2 (gZ h (level:Int)) x141) (hw.cl (.new .head)))) (λ x146=>?_))
     all_goals
      have hso:((M0 (M7 (aB x.L m).c (gZ h (level:Int)))).getD 0)<=x.L.length:=aAM hB (ul h48.2 (gZ h (level:Int)) x141)
      have g5:=oU g4 hso
     all_goals (refine aA ?_;refine aC (bO rf rfl) rfl ?_;refine aC (bO rf rfl) rfl ?_;refine J8 ?_;refine aV ?_;refine dK [(0,[]),(1,[]),(2,[]),(3,[]),(4,[]),(5,[]),(6,[]),(7,[]),(8,[]),(9,[]),(10,[]),(11,[]),(12,[]),(13,[]),(16,[]),(19,[]),(20,[]),(14,[6,10,20]),(15,[6,20]),(17,[6,20]),(18,[20]),(21,[]),(22,[]),(23,[]),(24,[]),(25,[])] ?_;refine iF ?_;refine J9 ?_;refine aR ?_;refine bQ (i:=6) (hq:=(aQ (k:=2) (vs:=[.int .i64 k.t.root,.bool k.t.ro]) rf cQ eC rfl rfl)) (h:=?_);refine iF ?_;refine aN ?_;refine bG ?_;refine iF ?_;refine iF ?_;refine kX ?_;refine aZ (i:=14) (hq:=(cM (hs:=xH k bx bm x dn rs) (os:=xW x) (hc:=λ w hs=>fK ((M0 (M7 (aB x.L m).c (gZ h (level:Int)))).getD 0) (by omega) ok hs))) (hfire:=(λ _=>by(refine eP ?_;(repeat (first|exact aK.nil|refine aK.cons (by first|exact fG (hq:=aQ (k:=2) (vs:=[.int .i64 k.t.root,.bool k.t.ro]) rf cQ eC rfl rfl)|exact eV) ?_));done))) (h:=λ x163 h163=>?_);refine cH (i:=15) (hq:=(cV (hc:=λ w1 hw=>Wm hB (level:Int) (aB x.L ((M0 (M7 (aB x.L m).c (gZ h (level:Int)))).getD 0)).nd (hw.cl (.new .head))))) (hfire:=(λ _=>by((repeat (first|exact aK.nil|refine aK.cons (by first|exact fG (hq:=aQ (k:=2) (vs:=[.int .i64 k.t.root,.bool k.t.ro]) rf cQ eC rfl rfl)|exact eV) ?_));done))) (h:=λ x164=>?_);refine aZ (i:=17) (hq:=(cM (hs:=xH k bx bm x dn rs) (os:=xW x) (A0:=[((Nn (lq (aB x.L m) (gZ h (level:Int))) x141 (level:Int) (aB x.L ((M0 (M7 (aB x.L m).c (gZ h (level:Int)))).getD 0)).nd).brA,aG (W7 (lq (aB x.L m) (gZ h (level:Int))) x141 (level:Int) (aB x.L ((M0 (M7 (aB x.L m).c (gZ h (level:Int)))).getD 0)).nd)),((Nn (lq (aB x.L m) (gZ h (level:Int))) x141 (level:Int) (aB x.L ((M0 (M7 (aB x.L m).c (gZ h (level:Int)))).getD 0)).nd).prA,cZ [])]) (hA:=uz) (hc:=λ w hs=>gU hg (n:=(Nn (lq (aB x.L m) (gZ h (level:Int))) x141 (level:Int) (aB x.L ((M0 (M7 (aB x.L m).c (gZ h (level:Int)))).getD 0)).nd)) (xs:=(W7 (lq (aB x.L m) (gZ h (level:Int))) x141 (level:Int) (aB x.L ((M0 (M7 (aB x.L m).c (gZ h (level:Int)))).getD 0)).nd)) (ys:=[]) m _ (li _ _ _) (ew _ _ _) (V1 hB _ _ _) (Nat.zero_le _) (Uo hB _ _ (ok.nv ((M0 (M7 (aB x.L m).c (gZ h (level:Int)))).getD 0)).hash) hm (by rw[<- ux,<- aBC h48.2];exact g5) ok hs))) (hfire:=(λ _=>by(refine eP ?_;(repeat (first|exact aK.nil|refine aK.cons (by first|exact fG (hq:=aQ (k:=2) (vs:=[.int .i64 k.t.root,.bool k.t.ro]) rf cQ eC rfl rfl)|exact eV) ?_));done))) (h:=λ x166 h166=>?_);refine aZ (i:=18) (hq:=(cM (hs:=xH k bx bm x166.2.1 dn rs) (os:=xW x166.2.1) (hc:=λ w hs=>sY hg k.t i m x166.1 _ ht (by have:=h166.len;omega) h166.bd h166.go h166.ok hs))) (h:=λ x167 h167=>?_))
     all_goals
      have hch:=Ch.nx h167 (Ch.nx h166 ((Ch.base (F:=[])).cons (f:=(x141.1,aG (lS (lq (aB x.L m) (gZ h (level:Int))))))))
      have hlc:x.cs.length<=x167.2.1.cs.length:=by have:=h166.lc;have:=h167.lc;omega
     all_goals (refine cH (i:=21) (hq:=(cV (hc:=λ w1 hw=>pA _ _ _ _ w1))) (h:=λ x170=>?_);refine bZ (i:=22) (hq:=(bO rf rfl)) (h:=?_);refine bZ (i:=23) (hq:=(bO rf rfl)) (h:=?_);refine Bg ?_)
     all_goals
      refine bC Tryz.results226 (λ w hw=>?_)
      obtain⟨N,hN,hf⟩:=hch.to (t':=K (rW true (aB x.L b).nd.val) (if x167.1=true then 1 else 0)) h167 (h167.go) hlc (bH _)
      exact⟨(rW true (aB x.L b).nd.val,(if x167.1=true then 1 else 0),x167.2.1,N),rfl,hN,(hw.eX hf).aU (hF:=by exact aX.all)⟩
theorem R9(hg:g.Ok)(i m:Int){h:Nat}(hh:h<18446744073709551616)(level:Nat)(hlv:level<=1073741824)(K:Rs->Int->Tr)(ht:k.t.root<=9223372036854775807)(hi:i<=x.L.length)(hm:m<=x.L.length)(hA:∀f∈aM x.L,f∈A)(go:gA g x (jW k i m h level K))(ok:x.Ok)(hs:SF w D (xH k bx bm x dn rs) A [] (xW x) w):Calls Tryz.prog 226 #[.pointer (some ⟨bx,0,none⟩),.int .i64 i,.int .i64 m,.int .u64 (h:Int),.int .i64 (level:Int)] w (Y8 g x K bx bm k dn rs D w):=by
 by_cases hk:(aB x.L m).nd.kind=6
 ·exact Tq hg i m hh level hlv K ht hi hm hA hk go ok hs
 ·cases hl:lV (aB x.L m).c (gZ h (level:Int)) with
  | none=>exact R6 hg i m hh level hlv K ht hi hm hA hk hl go ok hs
  | some b =>
   by_cases hi2:(aB x.L b).nd.kind=2
   ·exact Tn hg i m hh level hlv K ht hi hm hA hk hl hi2 go ok hs
   ·by_cases he:(aB x.L b).nd.key=k.key
    ·exact Ty hg i m hh level hlv K ht hi hm hA hk hl hi2 he go ok hs
    ·exact Sw hg i m hh level hlv K ht hi hm hA hk hl hi2 he go ok hs
end
end Go.Proofs.YtbajmaoegmbfgaaGreat

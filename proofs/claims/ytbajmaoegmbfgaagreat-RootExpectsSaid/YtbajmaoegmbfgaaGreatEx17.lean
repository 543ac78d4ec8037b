/- Executions of the reference: one attempt of PUT at a leaf. -/
import Derived.Test.YtbajmaoegmbfgaaGreatGEx14
set_option linter.unusedSimpArgs false
set_option linter.unusedVariables false
namespace Go.Ct
open Go Go.RowKit
theorem td{a b:ByteArray}(h:a=b):(a.toList==b.toList)=true:=by subst h;simp
theorem su{a b:ByteArray}(h:¬a=b):(a.toList==b.toList)=false:=by
 rw[beq_eq_false_iff_ne]
 exact λ e=>h (toList_inj e)
section
variable{P:Program}{S:List (Nat×Value)}{G:World->Prop}{d:Nat}{ty t t':TypeId}{pos:String}{af:Array Edge}{gd:Option (Nat×Bool)}{x y:Operand}{a b:ByteArray}
theorem oa(hx:ev S x=.string a)(hy:ev S y=.string b)(h:a=b):aK P S G ⟨some d,.binOp .eql t x y t',ty,pos,af,gd⟩ (.bool true):=by
 have:=Fp (P:=P) (G:=G) (d:=d) (ty:=ty) (pos:=pos) (af:=af) (gd:=gd) (t:=t) (t':=t') hx hy
 rwa [td h] at this
theorem ob(hx:ev S x=.string a)(hy:ev S y=.string b)(h:¬a=b):aK P S G ⟨some d,.binOp .eql t x y t',ty,pos,af,gd⟩ (.bool false):=by
 have:=Fp (P:=P) (G:=G) (d:=d) (ty:=ty) (pos:=pos) (af:=af) (gd:=gd) (t:=t) (t':=t') hx hy
 rwa [su h] at this
end
end Go.Ct
namespace Go.Proofs.YtbajmaoegmbfgaaGreat
open Go Go.RowKit Go.Ct
section
variable{v:aU}{n c:Nat}{w:World}
theorem Il(h:lJ n c v.c){i b:Int}(e:kJ v.c i=some b)(hr:sB w v.nd v.xs v.ys):Calls Tryz.prog 216 #[v.nd.v,.int .i64 i] w λ e w'=>e=.returned (.tuple #[.int .i64 b,.bool true])/\St w [] [] w':=by
 have:=Jl h i hr
 rwa [e] at this
theorem si(h:lJ n c v.c){i:Int}(e:kJ v.c i=none)(hr:sB w v.nd v.xs v.ys):Calls Tryz.prog 216 #[v.nd.v,.int .i64 i] w λ e w'=>e=.returned (.tuple #[.int .i64 0,.bool false])/\St w [] [] w':=by
 have:=Jl h i hr
 rwa [e] at this
end
section
variable{k:Cl}{bx bm:Nat}{x:XS}{dn:Bool}{rs:Rs}{D:List Nat}{A:Fr}{w:World}{g:Gx}
abbrev X1(g:Gx)(x:XS)(K:Rs->Int->Tr)(bx bm:Nat)(k:Cl)(dn:Bool)(rs:Rs)(D:List Nat)(w:World)(e:Ending)(w':World):Prop:=∃q:Rs×Int×XS×List aU,e=.returned (.tuple #[.agg ⟨q.1.cells⟩,.int .i64 q.2.1])/\Nx g x q.2.2.1 q.2.2.2 (K q.1 q.2.1) 0/\SF w D (xH k bx bm q.2.2.1 dn rs) [] (aL q.2.2.2) (xW q.2.2.1) w'
set_option maxRecDepth 100000 in
theorem Vy(hg:g.Ok)(i m:Int){h:Nat}(hh:h<18446744073709551616)(level:Nat)(hlv:level<=1073741824)(gen:Int)(K:Rs->Int->Tr)(ht:k.t.root<=9223372036854775807)(hi:i<=x.L.length)(hm:m<=x.L.length)(hA:∀f∈aL x.L,f∈A)(hk:(aC x.L m).nd.kind=6)(go:fN g x (lU k i m h level gen K))(ok:x.Ok)(hs:SF w D (xH k bx bm x dn rs) A [] (xW x) w):Calls Tryz.prog 224 #[.pointer (some ⟨bx,0,none⟩),.int .i64 i,.int .i64 m,.int .u64 (h:Int),.int .i64 (level:Int),.int .i64 gen] w (X1 g x K bx bm k dn rs D w):=by
 have hyl:=qV ok m
 have hlL:=ok.lL
 refine enter Tryz.func224 Tryz.ntmps224 rfl rfl (cB hs) ?_
 simp only[cD]
 refine J0 ?_;refine aJ (λ x12=>?_);refine iW ?_;refine eM [(0,[]),(1,[]),(2,[]),(3,[]),(4,[]),(5,[]),(6,[]),(7,[]),(8,[]),(9,[]),(10,[]),(11,[]),(12,[]),(13,[]),(14,[]),(15,[4,9,14]),(16,[9,14]),(17,[14]),(18,[])] ?_;refine J9 ?_;refine aS ?_;refine bW (i:=4) (hq:=(aP (k:=2) (vs:=[.int .i64 k.t.root,.bool k.t.ro]) rf cX eH rfl rfl)) (h:=?_);refine xP ?_;refine xP ?_;refine gW (hfire:=(λ _=>by((repeat (first|exact aT.nil|refine aT.cons (by first|exact iV (hq:=aP (k:=2) (vs:=[.int .i64 k.t.root,.bool k.t.ro]) rf cX eH rfl rfl)|exact iP) ?_));done))) (h:=λ x14=>?_);refine oT (h:=λ _=>?_);refine kh ?_;refine iX ?_;refine aD (cM (hs:=xH k bx bm x dn rs) (os:=xW x) (hc:=λ w hs=>cG m _ hm go ok hs)) (λ x48 h48=>?_);refine aJ (λ x17=>?_);refine J5 ?_;refine Ds ?_;refine tS ?_
 refine bC (λ c51=>?_) (λ c51=>?_)
 ·have g1:=h48.1.to (λ _=>if_pos hk)
  refine Kc3 ?_;refine aM (cV (hc:=λ w1 hw=>Me (v:=(aC x.L m)) (n:=0) k.key (ok.rD hw hA m) (ok.ysl m))) (λ x56=>?_);refine aA ?_;refine aB (bN rf rfl) rfl ?_;refine aB (bN rf rfl) rfl ?_;refine J8 ?_;refine Cm ?_;refine aA ?_;refine aD (cM (hs:=xH k bx bm x dn rs) (os:=xW x) (hc:=λ w hs=>wR _ _ hs)) (λ x62 h62=>?_);refine pD ?_
  refine bC (λ c63=>?_) (λ c63=>?_)
  ·have g2:=g1.to (λ _=>if_neg (show ¬nV k (dR (aC x.L m).c.ys k.key).isSome ((dR (aC x.L m).c.ys k.key).getD 0)=true from by simpa using c63))
   refine iX ?_;refine aM (cV (hc:=λ w1 hw=>fZ _ _ w1)) (λ x66=>?_);refine Dr ?_
   refine bA Tryz.results224 (λ w hw=>?_)
   exact⟨(jC (dR (aC x.L m).c.ys k.key).isSome ((dR (aC x.L m).c.ys k.key).getD 0),1,x,[]),rfl,⟨g2,ok,by simp,Nat.le_refl _,bH _⟩,hw.aW (hF:=by exact aY.nil)⟩
  ·have g2:=g1.to (λ _=>if_pos (show nV k (dR (aC x.L m).c.ys k.key).isSome ((dR (aC x.L m).c.ys k.key).getD 0)=true from by simpa using c63))
   refine aV ?_;refine oI ?_;refine pQ ?_;refine aD (cF (hc:=λ w1 hw=>aBh (v:=(aC x.L m)) h48.2 k.key k.val (ok.rD hw hA m) (by omega))) (λ x71 h71=>?_);refine aA ?_;refine aB (bN rf rfl) rfl ?_;refine aB (bN rf rfl) rfl ?_;refine aJ (λ x20=>?_);refine kO (λ _=>?_);refine iW ?_;refine eM [(0,[]),(1,[]),(2,[]),(3,[]),(4,[]),(5,[]),(6,[]),(7,[]),(10,[]),(11,[]),(8,[2]),(9,[]),(12,[]),(13,[]),(14,[]),(15,[]),(16,[])] ?_;refine gU ?_;refine Kb1 ?_;refine bB ?_;refine Kb1 ?_;refine bB ?_;refine bG (i:=8) (hq:=(cM (hs:=xH k bx bm x dn rs) (os:=xW x) (A0:=[((dj (kI (aC x.L m).nd (aC x.L m).xs (aC x.L m).ys k.key k.val) (aC x.L m).nd.hash x71).brA,aH []),((dj (kI (aC x.L m).nd (aC x.L m).xs (aC x.L m).ys k.key k.val) (aC x.L m).nd.hash x71).prA,dD (X3 (kI (aC x.L m).nd (aC x.L m).xs (aC x.L m).ys k.key k.val)))]) (hA:=aBo) (hc:=λ w hs=>gB hg (n:=dj (kI (aC x.L m).nd (aC x.L m).xs (aC x.L m).ys k.key k.val) (aC x.L m).nd.hash x71) (xs:=[]) (ys:=X3 (kI (aC x.L m).nd (aC x.L m).xs (aC x.L m).ys k.key k.val)) m _ (gy _ _ _).1 (gy _ _ _).2 (by decide) (by have:=xu (aC x.L m).xs (aC x.L m).ys (aC x.L m).nd k.key k.val;omega) (yp _ h48.2.hash) hm (by rw[aBH];exact g2) ok hs))) (h:=λ x82 h82=>?_);refine bG (i:=9) (hq:=(cM (hs:=xH k bx bm x82.2.1 dn rs) (os:=xW x82.2.1) (hc:=λ w hs=>sL hg k.t i m x82.1 _ ht (by have:=h82.len;omega) h82.bd h82.go h82.ok hs))) (h:=λ x83 h83=>?_)
   have hch:=Ch.nx h83 (Ch.nx h82 ((Ch.base (F:=[])).cons (f:=(x71.1,dD (X3 (kI (aC x.L m).nd (aC x.L m).xs (aC x.L m).ys k.key k.val))))))
   have hlc:x.cs.length<=x83.2.1.cs.length:=by have:=h82.lc;have:=h83.lc;omega
   refine dB (i:=12) (hq:=(cV (hc:=λ w1 hw=>oV _ _ _ _ w1))) (h:=λ x86=>?_);refine cN (i:=13) (hq:=(bN rf rfl)) (h:=?_);refine cN (i:=14) (hq:=(bN rf rfl)) (h:=?_);refine Bp ?_
   refine bA Tryz.results224 (λ w hw=>?_)
   obtain⟨N,hN,hf⟩:=hch.to (t':=K (rC (dR (aC x.L m).c.ys k.key).isSome ((dR (aC x.L m).c.ys k.key).getD 0)) (if x83.1=true then 1 else 0)) h83 (h83.go) hlc (bH _)
   exact⟨(rC (dR (aC x.L m).c.ys k.key).isSome ((dR (aC x.L m).c.ys k.key).getD 0),(if x83.1=true then 1 else 0),x83.2.1,N),rfl,hN,(hw.fC hf).v4⟩
 ·exact absurd hk c51
set_option maxRecDepth 100000 in
theorem Xu(hg:g.Ok)(i m:Int){h:Nat}(hh:h<18446744073709551616)(level:Nat)(hlv:level<=1073741824)(gen:Int)(K:Rs->Int->Tr)(ht:k.t.root<=9223372036854775807)(hi:i<=x.L.length)(hm:m<=x.L.length)(hA:∀f∈aL x.L,f∈A)(hk:¬(aC x.L m).nd.kind=6)(hl:kJ (aC x.L m).c (gD h (level:Int))=none)(go:fN g x (lU k i m h level gen K))(ok:x.Ok)(hs:SF w D (xH k bx bm x dn rs) A [] (xW x) w):Calls Tryz.prog 224 #[.pointer (some ⟨bx,0,none⟩),.int .i64 i,.int .i64 m,.int .u64 (h:Int),.int .i64 (level:Int),.int .i64 gen] w (X1 g x K bx bm k dn rs D w):=by
 have hyl:=qV ok m
 have hlL:=ok.lL
 refine enter Tryz.func224 Tryz.ntmps224 rfl rfl (cB hs) ?_
 simp only[cD]
 refine J0 ?_;refine aJ (λ x12=>?_);refine iW ?_;refine eM [(0,[]),(1,[]),(2,[]),(3,[]),(4,[]),(5,[]),(6,[]),(7,[]),(8,[]),(9,[]),(10,[]),(11,[]),(12,[]),(13,[]),(14,[]),(15,[4,9,14]),(16,[9,14]),(17,[14]),(18,[])] ?_;refine J9 ?_;refine aS ?_;refine bW (i:=4) (hq:=(aP (k:=2) (vs:=[.int .i64 k.t.root,.bool k.t.ro]) rf cX eH rfl rfl)) (h:=?_);refine xP ?_;refine xP ?_;refine gW (hfire:=(λ _=>by((repeat (first|exact aT.nil|refine aT.cons (by first|exact iV (hq:=aP (k:=2) (vs:=[.int .i64 k.t.root,.bool k.t.ro]) rf cX eH rfl rfl)|exact iP) ?_));done))) (h:=λ x14=>?_);refine oT (h:=λ _=>?_);refine kh ?_;refine iX ?_;refine aD (cM (hs:=xH k bx bm x dn rs) (os:=xW x) (hc:=λ w hs=>cG m _ hm go ok hs)) (λ x48 h48=>?_);refine aJ (λ x17=>?_);refine J5 ?_;refine Ds ?_;refine tS ?_
 refine bC (λ c51=>?_) (λ c51=>?_)
 ·exact absurd c51 hk
 ·have g0:=h48.1.to (λ _=>if_neg hk)
  have g1:=L0 g0 (by rw[hl];rfl)
  refine Di ?_;refine aM (cV (hc:=λ w1 hw=>eV hh (level:Int) w1)) (λ x91=>?_);refine zB ?_;refine aA ?_;refine bM ?_;refine aJ (λ x23=>?_);refine J5 ?_;refine Dd ?_;refine aM (cV (hc:=λ w1 hw=>si (v:=(aC x.L m)) h48.2 hl (ok.rD hw hA m))) (λ x99=>?_);refine aA ?_;refine aB (bN rf rfl) rfl ?_;refine aB (bN rf rfl) rfl ?_;refine J8 ?_;refine Cm ?_
  refine aI ?_
  (refine aI ?_);(refine aI ?_);refine zt ?_;refine aG ?_
  refine bC (λ c109=>?_) (λ c109=>?_)
  ·exact nv c109
  ·refine Di ?_
   refine aI ?_
   (refine aI ?_);(refine aI ?_);refine zp ?_;(refine aI ?_);refine bZ ?_;refine zB ?_;refine aD (cM (hs:=xH k bx bm x dn rs) (os:=xW x) (hc:=λ w hs=>fE 0 (by decide) ok hs)) (λ x122 h122=>?_);refine cE ?_;refine iW ?_;refine J2 ?_;refine pD ?_
   refine bC (λ c125=>?_) (λ c125=>?_)
   ·refine dH ?_;refine iW ?_;refine Kb5 ?_;refine aD (cM (hs:=xH k bx bm x dn rs) (os:=xW x) (hc:=λ w hs=>wR _ _ hs)) (λ x129 h129=>?_);refine pD ?_
    refine bC (λ c130=>?_) (λ c130=>?_)
    ·have g2:=g1.to (λ _=>if_neg (show ¬nV k false 0=true from by simpa using c130))
     refine iX ?_;refine aM (cV (hc:=λ w1 hw=>fZ _ _ w1)) (λ x133=>?_);refine Dr ?_
     refine bA Tryz.results224 (λ w hw=>?_)
     exact⟨(jC false 0,1,x,[]),rfl,⟨g2,ok,by simp,Nat.le_refl _,bH _⟩,hw.aW (hF:=by exact aY.nil)⟩
    ·have g2:=g1.to (λ _=>if_pos (show nV k false 0=true from by simpa using c130))
     refine tB ?_;refine J2 ?_;refine xT ?_;refine J1 ?_
     refine bC (λ c134=>?_) (λ c134=>?_)
     ·refine aR ?_
      refine eE [28,29,137,138,139,140,141,142,143,144,145] (λ z:Nat×(Int×XS×List aU)×(Option Addr×Nat)×Nd=>[(28,.pointer (some ⟨z.1,0,none⟩))]) (λ z=>Nx g x z.2.1.2.1 z.2.1.2.2 (.alloc (xq (aC x.L m).c (gD h (level:Int)) z.2.1.1) m λ r=>nG k.t i m r λ ok=>K (rC false 0) (if ok=true then 1 else 0)) z.2.1.1/\z.2.2.2=mG (X4 (aC x.L m) (gD h (level:Int)) z.2.1.1) z.2.2.1) (λ z=>[(z.1,.cells ⟨z.2.2.2.cells⟩ 47 (0,0)),(x23,.cells ⟨({Nd.zero with kind:=4,hash:=(h:Int),key:=k.key,val:=k.val}:Nd).cells⟩ 47 (0,0)),(x17,.cells ⟨(aC x.L m).nd.cells⟩ 47 (0,0)),(x14,.cells ⟨[.int .i64 k.t.root,.bool k.t.ro]⟩ 29 (0,0)),(x12,.cells ⟨Rs.zero.cells⟩ 64 (0,0)),(bx,xO k bm z.2.1.2.1 dn rs),(bm,xM z.2.1.2.1)]) (λ z=>(z.2.2.1.1,aH (lS (X4 (aC x.L m) (gD h (level:Int)) z.2.1.1)))::(aL z.2.1.2.2++[])) (λ z=>xW z.2.1.2.1) (by decide) (λ _=>by exact rfl) ?_ (λ z f hx=>?_)
      ·refine gX (.one 0 [] (.one 1 [] (.one 2 [] (.one 3 [] (.two 4 [0] (.two 5 [] (.one 6 [] (.one 7 [] (.one 8 [] (.one 9 [0,3] (.one 10 [] (.one 11 [] .nil)))))) 0 [] (.two 9 [0,3] (.one 5 [] (.one 6 [] (.one 7 [] (.one 8 [] (.one 10 [] (.one 11 [] .nil)))))) 0 [] .nil)) 0 [] (.two 9 [0,3] (.one 4 [0] (.one 5 [] (.one 6 [] (.one 7 [] (.one 8 [] (.one 10 [] (.one 11 [] .nil))))))) 0 [] .nil)))))) ?_
       refine Kb1 ?_;refine bY ?_
       refine iB (E:=[4,9]) (by decide +kernel) ((.cons ?_ (.cons ?_ .nil)))
       ·refine lP (i:=4) (hq:=(cM (hs:=xH k bx bm x dn rs) (os:=xW x) (A0:=[(none,aH []),(none,dD [])]) (hc:=λ w hs=>gB hg (n:={Nd.zero with kind:=4,hash:=(h:Int),key:=k.key,val:=k.val}) (xs:=[]) (ys:=[]) 0 _ rfl rfl (by decide) (Nat.zero_le _) (Fm hh) (bH _) (g2) ok hs))) (h:=λ x142 h142=>?_)
        refine iB (E:=[5,9]) (by decide +kernel) ((.cons ?_ (.cons ?_ .nil)))
        ·refine lP (i:=5) (hq:=(cF (hc:=λ w1 hw=>Ye (v:=(aC x.L m)) h48.2 (gD h (level:Int)) x142.1 (ok.rD hw hA m)))) (h:=λ x143 h143=>?_)
         refine bB ?_;refine cN (i:=7) (hq:=(bN rf rfl)) (h:=?_);refine cN (i:=8) (hq:=(bN rf rfl)) (h:=?_);refine gW (h:=λ x28=>?_);refine Bp ?_
         refine eY ((x28,x142,x143,mG (X4 (aC x.L m) (gD h (level:Int)) x142.1) x143)) ?_ (hw1:=λ w hw=>hw.v6)
         ·exact⟨h142,rfl⟩
        ·refine gV (i:=9) (h:=λ x28=>?_)
         refine bG (i:=5) (hq:=(cF (hc:=λ w1 hw=>Ye (v:=(aC x.L m)) h48.2 (gD h (level:Int)) x142.1 (ok.rD hw hA m)))) (h:=λ x143 h143=>?_);refine bB ?_;refine cN (i:=7) (hq:=(bN rf rfl)) (h:=?_);refine cN (i:=8) (hq:=(bN rf rfl)) (h:=?_);refine Bp ?_
         refine eY ((x28,x142,x143,mG (X4 (aC x.L m) (gD h (level:Int)) x142.1) x143)) ?_ (hw1:=λ w hw=>hw.v6)
         ·exact⟨h142,rfl⟩
       ·refine gV (i:=9) (h:=λ x28=>?_)
        refine bG (i:=4) (hq:=(cM (hs:=xH k bx bm x dn rs) (os:=xW x) (A0:=[(none,aH []),(none,dD [])]) (hc:=λ w hs=>gB hg (n:={Nd.zero with kind:=4,hash:=(h:Int),key:=k.key,val:=k.val}) (xs:=[]) (ys:=[]) 0 _ rfl rfl (by decide) (Nat.zero_le _) (Fm hh) (bH _) (g2) ok hs))) (h:=λ x142 h142=>?_);refine bG (i:=5) (hq:=(cF (hc:=λ w1 hw=>Ye (v:=(aC x.L m)) h48.2 (gD h (level:Int)) x142.1 (ok.rD hw hA m)))) (h:=λ x143 h143=>?_);refine bB ?_;refine cN (i:=7) (hq:=(bN rf rfl)) (h:=?_);refine cN (i:=8) (hq:=(bN rf rfl)) (h:=?_);refine Bp ?_
        refine eY ((x28,x142,x143,mG (X4 (aC x.L m) (gD h (level:Int)) x142.1) x143)) ?_ (hw1:=λ w hw=>hw.v6)
        ·exact⟨h142,rfl⟩
      dsimp only[gZ,List.map,List.cons_append,List.nil_append]
      obtain⟨hz,ez⟩:=hx
      have hlz:=hz.len
      have hB:=aAz ((ok.nv m).mono (Nat.le_refl _) (Nat.le_refl _) |>.mono hlz hz.lc) hz.bd (gD h (level:Int))
      refine aR ?_;refine eM [(0,[]),(1,[]),(2,[]),(3,[]),(4,[]),(5,[]),(6,[]),(7,[]),(8,[2]),(9,[]),(10,[]),(11,[]),(12,[]),(13,[]),(14,[])] ?_;refine gU ?_;refine Kb1 ?_;refine bB ?_;refine bY ?_;refine bB ?_;refine bG (i:=8) (hq:=(cM (hs:=xH k bx bm z.2.1.2.1 dn rs) (os:=xW z.2.1.2.1) (A0:=[(z.2.2.2.brA,aH (lS (X4 (aC x.L m) (gD h (level:Int)) z.2.1.1))),(z.2.2.2.prA,dD [])]) (hA:=by rw[ez];exact Q1) (hc:=λ w hs=>gB hg (n:=z.2.2.2) (xs:=lS (X4 (aC x.L m) (gD h (level:Int)) z.2.1.1)) (ys:=[]) m _ (by rw[ez];exact Dz _ _) (by rw[ez];exact Dx _ _) hB.len (Nat.zero_le _) (by rw[ez];exact hB.nvB _) (by omega) (by rw[ez,<- z8 h48.2];exact hz.go) hz.ok hs))) (h:=λ x154 h154=>?_);refine bG (i:=9) (hq:=(cM (hs:=xH k bx bm x154.2.1 dn rs) (os:=xW x154.2.1) (hc:=λ w hs=>sL hg k.t i m x154.1 _ ht (by have:=h154.len;omega) h154.bd h154.go h154.ok hs))) (h:=λ x155 h155=>?_)
      have hch:=Ch.nx h155 (Ch.nx h154 (((Ch.base (F:=[])).nx hz).cons (f:=(z.2.2.1.1,aH (lS (X4 (aC x.L m) (gD h (level:Int)) z.2.1.1))))))
      have hlc:x.cs.length<=x155.2.1.cs.length:=by have:=hz.lc;have:=h154.lc;have:=h155.lc;omega
      refine dB (i:=10) (hq:=(cV (hc:=λ w1 hw=>oV _ _ _ _ w1))) (h:=λ x156=>?_);refine cN (i:=11) (hq:=(bN rf rfl)) (h:=?_);refine cN (i:=12) (hq:=(bN rf rfl)) (h:=?_);refine Bp ?_
      refine bA Tryz.results224 (λ w hw=>?_)
      obtain⟨N,hN,hf⟩:=hch.to (t':=K (rC false 0) (if x155.1=true then 1 else 0)) h155 (h155.go) hlc (bH _)
      exact⟨(rC false 0,(if x155.1=true then 1 else 0),x155.2.1,N),rfl,hN,(hw.fC hf).v4⟩
     ·exact nv c134
   ·exact nv c125
set_option maxRecDepth 100000 in
theorem W9(hg:g.Ok)(i m:Int){h:Nat}(hh:h<18446744073709551616)(level:Nat)(hlv:level<=1073741824)(gen:Int)(K:Rs->Int->Tr)(ht:k.t.root<=9223372036854775807)(hi:i<=x.L.length)(hm:m<=x.L.length)(hA:∀f∈aL x.L,f∈A)(hk:¬(aC x.L m).nd.kind=6){b:Int}(hl:kJ (aC x.L m).c (gD h (level:Int))=some b)(hi2:(aC x.L b).nd.kind=2)(go:fN g x (lU k i m h level gen K))(ok:x.Ok)(hs:SF w D (xH k bx bm x dn rs) A [] (xW x) w):Calls Tryz.prog 224 #[.pointer (some ⟨bx,0,none⟩),.int .i64 i,.int .i64 m,.int .u64 (h:Int),.int .i64 (level:Int),.int .i64 gen] w (X1 g x K bx bm k dn rs D w):=by
 have hyl:=qV ok m
 have hlL:=ok.lL
 have hb:b<=x.L.length:=by have:=pW (ok.nv m) (gD h (level:Int));rw[hl] at this;exact this
 refine enter Tryz.func224 Tryz.ntmps224 rfl rfl (cB hs) ?_
 simp only[cD]
 refine J0 ?_;refine aJ (λ x12=>?_);refine iW ?_;refine eM [(0,[]),(1,[]),(2,[]),(3,[]),(4,[]),(5,[]),(6,[]),(7,[]),(8,[]),(9,[]),(10,[]),(11,[]),(12,[]),(13,[]),(14,[]),(15,[4,9,14]),(16,[9,14]),(17,[14]),(18,[])] ?_;refine J9 ?_;refine aS ?_;refine bW (i:=4) (hq:=(aP (k:=2) (vs:=[.int .i64 k.t.root,.bool k.t.ro]) rf cX eH rfl rfl)) (h:=?_);refine xP ?_;refine xP ?_;refine gW (hfire:=(λ _=>by((repeat (first|exact aT.nil|refine aT.cons (by first|exact iV (hq:=aP (k:=2) (vs:=[.int .i64 k.t.root,.bool k.t.ro]) rf cX eH rfl rfl)|exact iP) ?_));done))) (h:=λ x14=>?_);refine oT (h:=λ _=>?_);refine kh ?_;refine iX ?_;refine aD (cM (hs:=xH k bx bm x dn rs) (os:=xW x) (hc:=λ w hs=>cG m _ hm go ok hs)) (λ x48 h48=>?_);refine aJ (λ x17=>?_);refine J5 ?_;refine Ds ?_;refine tS ?_
 refine bC (λ c51=>?_) (λ c51=>?_)
 ·exact absurd c51 hk
 ·have g0:=h48.1.to (λ _=>if_neg hk)
  have g1:=tN g0 (by rw[hl];rfl)
  rw[hl] at g1
  refine Di ?_;refine aM (cV (hc:=λ w1 hw=>eV hh (level:Int) w1)) (λ x91=>?_);refine zB ?_;refine aA ?_;refine bM ?_;refine aJ (λ x23=>?_);refine J5 ?_;refine Dd ?_;refine aM (cV (hc:=λ w1 hw=>Il (v:=(aC x.L m)) h48.2 hl (ok.rD hw hA m))) (λ x99=>?_);refine aA ?_;refine aB (bN rf rfl) rfl ?_;refine aB (bN rf rfl) rfl ?_;refine J8 ?_;refine Cm ?_
  (refine Ka3 ?_)
  ((refine Ka3 ?_));((refine aF ?_;refine aD (cM (hs:=xH k bx bm x dn rs) (os:=xW x) (hc:=λ w hs=>cG b _ hb g1 ok hs)) (λ x106 h106=>?_)));refine zt ?_;refine aG ?_
  refine bC (λ c109=>?_) (λ c109=>?_)
  ·have g2:=h106.1.to (λ _=>if_pos hi2)
   refine J0 ?_;refine bM ?_;refine Dr ?_
   refine bA Tryz.results224 (λ w hw=>?_)
   exact⟨(Rs.zero,2,x,[]),rfl,⟨g2,ok,by simp,Nat.le_refl _,bH _⟩,hw.aW (hF:=by exact aY.nil)⟩
  ·exact absurd hi2 c109
set_option maxRecDepth 100000 in
theorem Wv(hg:g.Ok)(i m:Int){h:Nat}(hh:h<18446744073709551616)(level:Nat)(hlv:level<=1073741824)(gen:Int)(K:Rs->Int->Tr)(ht:k.t.root<=9223372036854775807)(hi:i<=x.L.length)(hm:m<=x.L.length)(hA:∀f∈aL x.L,f∈A)(hk:¬(aC x.L m).nd.kind=6){b:Int}(hl:kJ (aC x.L m).c (gD h (level:Int))=some b)(hi2:¬(aC x.L b).nd.kind=2)(he:(aC x.L b).nd.key=k.key)(go:fN g x (lU k i m h level gen K))(ok:x.Ok)(hs:SF w D (xH k bx bm x dn rs) A [] (xW x) w):Calls Tryz.prog 224 #[.pointer (some ⟨bx,0,none⟩),.int .i64 i,.int .i64 m,.int .u64 (h:Int),.int .i64 (level:Int),.int .i64 gen] w (X1 g x K bx bm k dn rs D w):=by
 have hyl:=qV ok m
 have hlL:=ok.lL
 have hb:b<=x.L.length:=by have:=pW (ok.nv m) (gD h (level:Int));rw[hl] at this;exact this
 refine enter Tryz.func224 Tryz.ntmps224 rfl rfl (cB hs) ?_
 simp only[cD]
 refine J0 ?_;refine aJ (λ x12=>?_);refine iW ?_;refine eM [(0,[]),(1,[]),(2,[]),(3,[]),(4,[]),(5,[]),(6,[]),(7,[]),(8,[]),(9,[]),(10,[]),(11,[]),(12,[]),(13,[]),(14,[]),(15,[4,9,14]),(16,[9,14]),(17,[14]),(18,[])] ?_;refine J9 ?_;refine aS ?_;refine bW (i:=4) (hq:=(aP (k:=2) (vs:=[.int .i64 k.t.root,.bool k.t.ro]) rf cX eH rfl rfl)) (h:=?_);refine xP ?_;refine xP ?_;refine gW (hfire:=(λ _=>by((repeat (first|exact aT.nil|refine aT.cons (by first|exact iV (hq:=aP (k:=2) (vs:=[.int .i64 k.t.root,.bool k.t.ro]) rf cX eH rfl rfl)|exact iP) ?_));done))) (h:=λ x14=>?_);refine oT (h:=λ _=>?_);refine kh ?_;refine iX ?_;refine aD (cM (hs:=xH k bx bm x dn rs) (os:=xW x) (hc:=λ w hs=>cG m _ hm go ok hs)) (λ x48 h48=>?_);refine aJ (λ x17=>?_);refine J5 ?_;refine Ds ?_;refine tS ?_
 refine bC (λ c51=>?_) (λ c51=>?_)
 ·exact absurd c51 hk
 ·have g0:=h48.1.to (λ _=>if_neg hk)
  have g1:=tN g0 (by rw[hl];rfl)
  rw[hl] at g1
  refine Di ?_;refine aM (cV (hc:=λ w1 hw=>eV hh (level:Int) w1)) (λ x91=>?_);refine zB ?_;refine aA ?_;refine bM ?_;refine aJ (λ x23=>?_);refine J5 ?_;refine Dd ?_;refine aM (cV (hc:=λ w1 hw=>Il (v:=(aC x.L m)) h48.2 hl (ok.rD hw hA m))) (λ x99=>?_);refine aA ?_;refine aB (bN rf rfl) rfl ?_;refine aB (bN rf rfl) rfl ?_;refine J8 ?_;refine Cm ?_
  (refine Ka3 ?_)
  ((refine Ka3 ?_));((refine aF ?_;refine aD (cM (hs:=xH k bx bm x dn rs) (os:=xW x) (hc:=λ w hs=>cG b _ hb g1 ok hs)) (λ x106 h106=>?_)));refine zt ?_;refine aG ?_
  refine bC (λ c109=>?_) (λ c109=>?_)
  ·exact absurd c109 hi2
  ·have g3:=(h106.1.to (λ _=>if_neg hi2)).to (λ _=>if_pos he)
   refine Di ?_
   (refine Ka3 ?_)
   ((refine Ka3 ?_));((refine aF ?_;refine aD (cM (hs:=xH k bx bm x dn rs) (os:=xW x) (hc:=λ w hs=>fE b (by omega) ok hs)) (λ x115 h115=>?_)));refine zp ?_;((refine aF ?_;refine aB (oa rf rf he) rfl ?_));refine bZ ?_;refine zB ?_;refine aD (cM (hs:=xH k bx bm x dn rs) (os:=xW x) (hc:=λ w hs=>fE b (by omega) ok hs)) (λ x122 h122=>?_);refine cE ?_;refine iW ?_;refine J2 ?_;refine pD ?_
   refine bC (λ c125=>?_) (λ c125=>?_)
   ·exact nv c125
   ·refine lI ?_;refine Kb5 ?_;refine aD (cM (hs:=xH k bx bm x dn rs) (os:=xW x) (hc:=λ w hs=>wR _ _ hs)) (λ x129 h129=>?_);refine pD ?_
    refine bC (λ c130=>?_) (λ c130=>?_)
    ·have g2:=g3.to (λ _=>if_neg (show ¬nV k true (aC x.L b).nd.val=true from by simpa using c130))
     refine iX ?_;refine aM (cV (hc:=λ w1 hw=>fZ _ _ w1)) (λ x133=>?_);refine Dr ?_
     refine bA Tryz.results224 (λ w hw=>?_)
     exact⟨(jC true (aC x.L b).nd.val,1,x,[]),rfl,⟨g2,ok,by simp,Nat.le_refl _,bH _⟩,hw.aW (hF:=by exact aY.nil)⟩
    ·have g2:=g3.to (λ _=>if_pos (show nV k true (aC x.L b).nd.val=true from by simpa using c130))
     refine tB ?_;refine J2 ?_;refine xT ?_;refine J1 ?_
     refine bC (λ c134=>?_) (λ c134=>?_)
     ·exact nv c134
     ·refine Ka5 ?_
      refine bC (λ c159=>?_) (λ c159=>?_)
      ·refine aR ?_;refine eM [(0,[]),(1,[]),(2,[]),(3,[]),(4,[]),(5,[]),(6,[]),(7,[]),(8,[]),(9,[]),(13,[]),(10,[2]),(11,[2]),(12,[]),(14,[]),(15,[]),(16,[]),(17,[]),(18,[])] ?_;refine gU ?_;refine Kb1 ?_;refine gU ?_;refine gU ?_;refine bY ?_;refine bB ?_;refine bG (i:=10) (hq:=(cM (hs:=xH k bx bm x dn rs) (os:=xW x) (A0:=[(none,aH []),(none,dD [])]) (hc:=λ w hs=>gB hg (n:={Nd.zero with kind:=4,hash:=(h:Int),key:=k.key,val:=k.val}) (xs:=[]) (ys:=[]) 0 _ rfl rfl (by decide) (Nat.zero_le _) (Fm hh) (bH _) (g2) ok hs))) (h:=λ x171 h171=>?_)
       have hch:=(Ch.base (F:=[])).nx h171
       refine bG (i:=11) (hq:=(cM (hs:=xH k bx bm x171.2.1 dn rs) (os:=xW x171.2.1) (A0:=aL x171.2.1.L) (hA:=Ch.all hch hA) (hc:=λ w hs=>Bn hg m (gD h (level:Int)) x171.1 _ (by have:=h171.len;omega) h171.bd (λ f hf=>hf) h171.go h171.ok hs))) (h:=λ x172 h172=>?_);refine bG (i:=12) (hq:=(cM (hs:=xH k bx bm x172.2.1 dn rs) (os:=xW x172.2.1) (hc:=λ w hs=>sL hg k.t i m x172.1 _ ht (by have:=h171.len;have:=h172.len;omega) h172.bd h172.go h172.ok hs))) (h:=λ x173 h173=>?_)
       have hch2:=Ch.nx h173 (Ch.nx h172 hch)
       have hlc:x.cs.length<=x173.2.1.cs.length:=by have:=h171.lc;have:=h172.lc;have:=h173.lc;omega
       refine dB (i:=14) (hq:=(cV (hc:=λ w1 hw=>oV _ _ _ _ w1))) (h:=λ x175=>?_);refine cN (i:=15) (hq:=(bN rf rfl)) (h:=?_);refine cN (i:=16) (hq:=(bN rf rfl)) (h:=?_);refine Bp ?_
       refine bA Tryz.results224 (λ w hw=>?_)
       obtain⟨N,hN,hf⟩:=hch2.to (t':=K (rC true (aC x.L b).nd.val) (if x173.1=true then 1 else 0)) h173 (h173.go) hlc (bH _)
       exact⟨(rC true (aC x.L b).nd.val,(if x173.1=true then 1 else 0),x173.2.1,N),rfl,hN,(hw.fC hf).v4⟩
      ·exact nv c159
set_option maxRecDepth 100000 in
theorem V7(hg:g.Ok)(i m:Int){h:Nat}(hh:h<18446744073709551616)(level:Nat)(hlv:level<=1073741824)(gen:Int)(K:Rs->Int->Tr)(ht:k.t.root<=9223372036854775807)(hi:i<=x.L.length)(hm:m<=x.L.length)(hA:∀f∈aL x.L,f∈A)(hk:¬(aC x.L m).nd.kind=6){b:Int}(hl:kJ (aC x.L m).c (gD h (level:Int))=some b)(hi2:¬(aC x.L b).nd.kind=2)(he:¬(aC x.L b).nd.key=k.key)(go:fN g x (lU k i m h level gen K))(ok:x.Ok)(hs:SF w D (xH k bx bm x dn rs) A [] (xW x) w):Calls Tryz.prog 224 #[.pointer (some ⟨bx,0,none⟩),.int .i64 i,.int .i64 m,.int .u64 (h:Int),.int .i64 (level:Int),.int .i64 gen] w (X1 g x K bx bm k dn rs D w):=by
 have hyl:=qV ok m
 have hlL:=ok.lL
 have hb:b<=x.L.length:=by have:=pW (ok.nv m) (gD h (level:Int));rw[hl] at this;exact this
 refine enter Tryz.func224 Tryz.ntmps224 rfl rfl (cB hs) ?_
 simp only[cD]
 refine J0 ?_;refine aJ (λ x12=>?_);refine iW ?_;refine eM [(0,[]),(1,[]),(2,[]),(3,[]),(4,[]),(5,[]),(6,[]),(7,[]),(8,[]),(9,[]),(10,[]),(11,[]),(12,[]),(13,[]),(14,[]),(15,[4,9,14]),(16,[9,14]),(17,[14]),(18,[])] ?_;refine J9 ?_;refine aS ?_;refine bW (i:=4) (hq:=(aP (k:=2) (vs:=[.int .i64 k.t.root,.bool k.t.ro]) rf cX eH rfl rfl)) (h:=?_);refine xP ?_;refine xP ?_;refine gW (hfire:=(λ _=>by((repeat (first|exact aT.nil|refine aT.cons (by first|exact iV (hq:=aP (k:=2) (vs:=[.int .i64 k.t.root,.bool k.t.ro]) rf cX eH rfl rfl)|exact iP) ?_));done))) (h:=λ x14=>?_);refine oT (h:=λ _=>?_);refine kh ?_;refine iX ?_;refine aD (cM (hs:=xH k bx bm x dn rs) (os:=xW x) (hc:=λ w hs=>cG m _ hm go ok hs)) (λ x48 h48=>?_);refine aJ (λ x17=>?_);refine J5 ?_;refine Ds ?_;refine tS ?_
 refine bC (λ c51=>?_) (λ c51=>?_)
 ·exact absurd c51 hk
 ·have g0:=h48.1.to (λ _=>if_neg hk)
  have g1:=tN g0 (by rw[hl];rfl)
  rw[hl] at g1
  refine Di ?_;refine aM (cV (hc:=λ w1 hw=>eV hh (level:Int) w1)) (λ x91=>?_);refine zB ?_;refine aA ?_;refine bM ?_;refine aJ (λ x23=>?_);refine J5 ?_;refine Dd ?_;refine aM (cV (hc:=λ w1 hw=>Il (v:=(aC x.L m)) h48.2 hl (ok.rD hw hA m))) (λ x99=>?_);refine aA ?_;refine aB (bN rf rfl) rfl ?_;refine aB (bN rf rfl) rfl ?_;refine J8 ?_;refine Cm ?_
  (refine Ka3 ?_)
  ((refine Ka3 ?_));((refine aF ?_;refine aD (cM (hs:=xH k bx bm x dn rs) (os:=xW x) (hc:=λ w hs=>cG b _ hb g1 ok hs)) (λ x106 h106=>?_)));refine zt ?_;refine aG ?_
  refine bC (λ c109=>?_) (λ c109=>?_)
  ·exact absurd c109 hi2
  ·have g3:=(h106.1.to (λ _=>if_neg hi2)).to (λ _=>if_neg he)
   refine Di ?_
   (refine Ka3 ?_)
   ((refine Ka3 ?_));((refine aF ?_;refine aD (cM (hs:=xH k bx bm x dn rs) (os:=xW x) (hc:=λ w hs=>fE b (by omega) ok hs)) (λ x115 h115=>?_)));refine zp ?_;((refine aF ?_;refine aB (ob rf rf he) rfl ?_));refine bZ ?_;refine zB ?_;refine aD (cM (hs:=xH k bx bm x dn rs) (os:=xW x) (hc:=λ w hs=>fE b (by omega) ok hs)) (λ x122 h122=>?_);refine cE ?_;refine iW ?_;refine J2 ?_;refine pD ?_
   refine bC (λ c125=>?_) (λ c125=>?_)
   ·refine dH ?_;refine iW ?_;refine Kb5 ?_;refine aD (cM (hs:=xH k bx bm x dn rs) (os:=xW x) (hc:=λ w hs=>wR _ _ hs)) (λ x129 h129=>?_);refine pD ?_
    refine bC (λ c130=>?_) (λ c130=>?_)
    ·have g2:=g3.to (λ _=>if_neg (show ¬nV k false 0=true from by simpa using c130))
     refine iX ?_;refine aM (cV (hc:=λ w1 hw=>fZ _ _ w1)) (λ x133=>?_);refine Dr ?_
     refine bA Tryz.results224 (λ w hw=>?_)
     exact⟨(jC false 0,1,x,[]),rfl,⟨g2,ok,by simp,Nat.le_refl _,bH _⟩,hw.aW (hF:=by exact aY.nil)⟩
    ·have g2:=g3.to (λ _=>if_pos (show nV k false 0=true from by simpa using c130))
     refine tB ?_;refine J2 ?_;refine xT ?_;refine J1 ?_
     refine bC (λ c134=>?_) (λ c134=>?_)
     ·exact nv c134
     ·refine Ka5 ?_
      refine bC (λ c159=>?_) (λ c159=>?_)
      ·exact nv c159
      ·refine pE ?_;refine iX ?_;refine bM ?_;refine pQ ?_;refine pQ ?_;refine F5 ?_;refine aA ?_;refine aD (cM (hs:=xH k bx bm x dn rs) (os:=xW x) (hc:=λ w hs=>yc hg b hh (level+1) gen _ hb g2 ok hs)) (λ x187 h187=>?_);refine aD (cM (hs:=xH k bx bm x187.2.1 dn rs) (os:=xW x187.2.1) (A0:=[(none,aH []),(none,dD [])]) (hc:=λ w hs=>gB hg (n:={Nd.zero with kind:=2,gen:=gen}) (xs:=[]) (ys:=[]) x187.1 _ rfl rfl (by decide) (Nat.zero_le _) rQ h187.bd h187.go h187.ok hs)) (λ x188 h188=>?_)
       have hch:=Ch.nx h188 ((Ch.base (F:=[])).nx h187)
       refine iW ?_;refine eM [(0,[]),(1,[]),(2,[]),(3,[]),(4,[]),(5,[]),(6,[]),(7,[]),(8,[]),(9,[2]),(10,[]),(11,[]),(12,[]),(13,[]),(14,[]),(15,[])] ?_;refine gU ?_;refine Kb1 ?_;refine gU ?_;refine gU ?_;refine bG (i:=9) (hq:=(cM (hs:=xH k bx bm x188.2.1 dn rs) (os:=xW x188.2.1) (A0:=aL x188.2.1.L) (hA:=Ch.all hch hA) (hc:=λ w hs=>Bn hg m (gD h (level:Int)) x188.1 _ (by have:=h187.len;have:=h188.len;omega) h188.bd (λ f hf=>hf) h188.go h188.ok hs))) (h:=λ x198 h198=>?_);refine bG (i:=10) (hq:=(cM (hs:=xH k bx bm x198.2.1 dn rs) (os:=xW x198.2.1) (hc:=λ w hs=>sL hg k.t i m x198.1 _ ht (by have:=h187.len;have:=h188.len;have:=h198.len;omega) h198.bd h198.go h198.ok hs))) (h:=λ x199 h199=>?_)
       have hch2:=Ch.nx h199 (Ch.nx h198 hch)
       have hlc:x.cs.length<=x199.2.1.cs.length:=by have:=h187.lc;have:=h188.lc;have:=h198.lc;have:=h199.lc;omega
       refine dB (i:=11) (hq:=(cV (hc:=λ w1 hw=>oV _ _ _ _ w1))) (h:=λ x200=>?_);refine cN (i:=12) (hq:=(bN rf rfl)) (h:=?_);refine cN (i:=13) (hq:=(bN rf rfl)) (h:=?_);refine Bp ?_
       refine bA Tryz.results224 (λ w hw=>?_)
       obtain⟨N,hN,hf⟩:=hch2.to (t':=K (rC false 0) (if x199.1=true then 1 else 0)) h199 (h199.go) hlc (bH _)
       exact⟨(rC false 0,(if x199.1=true then 1 else 0),x199.2.1,N),rfl,hN,(hw.fC hf).v4⟩
   ·exact nv c125
theorem Xf(hg:g.Ok)(i m:Int){h:Nat}(hh:h<18446744073709551616)(level:Nat)(hlv:level<=1073741824)(gen:Int)(K:Rs->Int->Tr)(ht:k.t.root<=9223372036854775807)(hi:i<=x.L.length)(hm:m<=x.L.length)(hA:∀f∈aL x.L,f∈A)(go:fN g x (lU k i m h level gen K))(ok:x.Ok)(hs:SF w D (xH k bx bm x dn rs) A [] (xW x) w):Calls Tryz.prog 224 #[.pointer (some ⟨bx,0,none⟩),.int .i64 i,.int .i64 m,.int .u64 (h:Int),.int .i64 (level:Int),.int .i64 gen] w (X1 g x K bx bm k dn rs D w):=by
 by_cases hk:(aC x.L m).nd.kind=6
 ·exact Vy hg i m hh level hlv gen K ht hi hm hA hk go ok hs
 ·cases hl:kJ (aC x.L m).c (gD h (level:Int)) with
  | none=>exact Xu hg i m hh level hlv gen K ht hi hm hA hk hl go ok hs
  | some b =>
   by_cases hi2:(aC x.L b).nd.kind=2
   ·exact W9 hg i m hh level hlv gen K ht hi hm hA hk hl hi2 go ok hs
   ·by_cases he:(aC x.L b).nd.key=k.key
    ·exact Wv hg i m hh level hlv gen K ht hi hm hA hk hl hi2 he go ok hs
    ·exact V7 hg i m hh level hlv gen K ht hi hm hA hk hl hi2 he go ok hs
end
end Go.Proofs.YtbajmaoegmbfgaaGreat

/- Merged. -/
import Derived.Test.YtbajmaoegmbfgaaGreatGEx14
set_option linter.unusedSimpArgs false
set_option linter.unusedVariables false
namespace Go.Ct
open Go Go.RowKit
theorem v5{a b:ByteArray}(h:a=b):(a.toList==b.toList)=true:=by subst h;simp
theorem vy{a b:ByteArray}(h:¬a=b):(a.toList==b.toList)=false:=by
 rw[beq_eq_false_iff_ne]
 exact λ e=>h (toList_inj e)
section
variable{P:Program}{S:List (Nat×Value)}{G:World->Prop}{d:Nat}{ty t t':TypeId}{pos:String}{af:Array Edge}{gd:Option (Nat×Bool)}{x y:Operand}{a b:ByteArray}
theorem qt(hx:ev S x=.string a)(hy:ev S y=.string b)(h:a=b):aK P S G ⟨some d,.binOp .eql t x y t',ty,pos,af,gd⟩ (.bool true):=by
 have:=Fv (P:=P) (G:=G) (d:=d) (ty:=ty) (pos:=pos) (af:=af) (gd:=gd) (t:=t) (t':=t') hx hy
 rwa [v5 h] at this
theorem qp(hx:ev S x=.string a)(hy:ev S y=.string b)(h:¬a=b):aK P S G ⟨some d,.binOp .eql t x y t',ty,pos,af,gd⟩ (.bool false):=by
 have:=Fv (P:=P) (G:=G) (d:=d) (ty:=ty) (pos:=pos) (af:=af) (gd:=gd) (t:=t) (t':=t') hx hy
 rwa [vy h] at this
end
end Go.Ct
namespace Go.Proofs.YtbajmaoegmbfgaaGreat
open Go.Proofs.Tryz (prog)
open Go Go.RowKit Go.Ct
section
variable{v:aU}{n c:Nat}{w:World}
theorem Ki(h:lX n c v.c){i b:Int}(e:kU v.c i=some b)(hr:rV w v.nd v.xs v.ys):Calls prog 216 #[v.nd.v,.int .i64 i] w λ e w'=>e=.returned (.tuple #[.int .i64 b,.bool true])/\St w [] [] w':=by
 have:=I1 h i hr
 rwa [e] at this
theorem v7(h:lX n c v.c){i:Int}(e:kU v.c i=none)(hr:rV w v.nd v.xs v.ys):Calls prog 216 #[v.nd.v,.int .i64 i] w λ e w'=>e=.returned (.tuple #[.int .i64 0,.bool false])/\St w [] [] w':=by
 have:=I1 h i hr
 rwa [e] at this
end
section
variable{k:Cl}{bx bm:Nat}{x:XS}{dn:Bool}{rs:Rs}{D:List Nat}{A:Fr}{w:World}{g:Gx}
abbrev Ys(g:Gx)(x:XS)(K:Rs->Int->Tr)(bx bm:Nat)(k:Cl)(dn:Bool)(rs:Rs)(D:List Nat)(w:World)(e:Ending)(w':World):Prop:=∃q:Rs×Int×XS×List aU,e=.returned (.tuple #[.agg ⟨q.1.cells⟩,.int .i64 q.2.1])/\Nx g x q.2.2.1 q.2.2.2 (K q.1 q.2.1) 0/\SF w D (xH k bx bm q.2.2.1 dn rs) [] (aL q.2.2.2) (xW q.2.2.1) w'
set_option maxRecDepth 100000 in
theorem Yq(hg:g.Ok)(i m:Int){h:Nat}(hh:h<18446744073709551616)(level:Nat)(hlv:level<=1073741824)(gen:Int)(K:Rs->Int->Tr)(ht:k.t.root<=9223372036854775807)(hi:i<=x.L.length)(hm:m<=x.L.length)(hA:∀f∈aL x.L,f∈A)(hk:(aD x.L m).nd.kind=6)(go:fS g x (lY k i m h level gen K))(ok:x.Ok)(hs:SF w D (xH k bx bm x dn rs) A [] (xW x) w):Calls prog 224 #[.pointer (some ⟨bx,0,none⟩),.int .i64 i,.int .i64 m,.int .u64 (h:Int),.int .i64 (level:Int),.int .i64 gen] w (Ys g x K bx bm k dn rs D w):=by
 have hyl:=rL ok m
 have hlL:=ok.lL
 refine enter Tryz.func224 Tryz.ntmps224 rfl rfl (cH hs) ?_
 simp only[cE]
 refine J0 ?_;refine aJ (λ x12=>?_);refine iW ?_;refine eQ [(0,[]),(1,[]),(2,[]),(3,[]),(4,[]),(5,[]),(6,[]),(7,[]),(8,[]),(9,[]),(10,[]),(11,[]),(12,[]),(13,[]),(14,[]),(15,[4,9,14]),(16,[9,14]),(17,[14]),(18,[])] ?_;refine J9 ?_;refine aT ?_;refine bT (i:=4) (hq:=(aP (k:=2) (vs:=[.int .i64 k.t.root,.bool k.t.ro]) rf cR eE rfl rfl)) (h:=?_);refine yA ?_;refine yA ?_;refine iE (hfire:=(λ _=>by((repeat (first|exact aQ.nil|refine aQ.cons (by first|exact iP (hq:=aP (k:=2) (vs:=[.int .i64 k.t.root,.bool k.t.ro]) rf cR eE rfl rfl)|exact iF) ?_));done))) (h:=λ x14=>?_);refine pD (h:=λ _=>?_);refine ag ?_;refine jM ?_;refine aC (cM (hs:=xH k bx bm x dn rs) (os:=xW x) (hc:=λ w hs=>cJ m _ hm go ok hs)) (λ x48 h48=>?_);refine aJ (λ x17=>?_);refine J5 ?_;refine Kc9 ?_
 refine bE (λ c51=>?_) (λ c51=>?_)
 ·have g1:=h48.1.to (λ _=>if_pos hk)
  refine Kc5 ?_;refine aM (cV (hc:=λ w1 hw=>Kr (v:=(aD x.L m)) (n:=0) k.key (ok.sG hw hA m) (ok.ysl m))) (λ x56=>?_);refine aA ?_;refine aB (bP rf rfl) rfl ?_;refine aB (bP rf rfl) rfl ?_;refine J8 ?_;refine Da ?_;refine aA ?_;refine aC (cM (hs:=xH k bx bm x dn rs) (os:=xW x) (hc:=λ w hs=>xS _ _ hs)) (λ x62 h62=>?_);refine pN ?_
  refine bE (λ c63=>?_) (λ c63=>?_)
  ·have g2:=g1.to (λ _=>if_neg (show ¬nU k (dV (aD x.L m).c.ys k.key).isSome ((dV (aD x.L m).c.ys k.key).getD 0)=true from by simpa using c63))
   refine jM ?_;refine aM (cV (hc:=λ w1 hw=>gF _ _ w1)) (λ x66=>?_);refine Dm ?_
   refine bB Tryz.results224 (λ w hw=>?_)
   exact⟨(jL (dV (aD x.L m).c.ys k.key).isSome ((dV (aD x.L m).c.ys k.key).getD 0),1,x,[]),rfl,⟨g2,ok,by simp,Nat.le_refl _,bH _⟩,hw.aX (hF:=by exact aV.nil)⟩
  ·have g2:=g1.to (λ _=>if_pos (show nU k (dV (aD x.L m).c.ys k.key).isSome ((dV (aD x.L m).c.ys k.key).getD 0)=true from by simpa using c63))
   refine aS ?_;refine oX ?_;refine qJ ?_;refine aC (cF (hc:=λ w1 hw=>aAN (v:=(aD x.L m)) h48.2 k.key k.val (ok.sG hw hA m) (by omega))) (λ x71 h71=>?_);refine aA ?_;refine aB (bP rf rfl) rfl ?_;refine aB (bP rf rfl) rfl ?_;refine aJ (λ x20=>?_);refine lC (λ _=>?_);refine iW ?_;refine eQ [(0,[]),(1,[]),(2,[]),(3,[]),(4,[]),(5,[]),(6,[]),(7,[]),(10,[]),(11,[]),(8,[2]),(9,[]),(12,[]),(13,[]),(14,[]),(15,[]),(16,[])] ?_;refine hU ?_;refine Ka9 ?_;refine bC ?_;refine Ka9 ?_;refine bC ?_;refine bG (i:=8) (hq:=(cM (hs:=xH k bx bm x dn rs) (os:=xW x) (A0:=[((ee (kV (aD x.L m).nd (aD x.L m).xs (aD x.L m).ys k.key k.val) (aD x.L m).nd.hash x71).brA,aH []),((ee (kV (aD x.L m).nd (aD x.L m).xs (aD x.L m).ys k.key k.val) (aD x.L m).nd.hash x71).prA,dE (Yt (kV (aD x.L m).nd (aD x.L m).xs (aD x.L m).ys k.key k.val)))]) (hA:=aAK) (hc:=λ w hs=>gI hg (n:=ee (kV (aD x.L m).nd (aD x.L m).xs (aD x.L m).ys k.key k.val) (aD x.L m).nd.hash x71) (xs:=[]) (ys:=Yt (kV (aD x.L m).nd (aD x.L m).xs (aD x.L m).ys k.key k.val)) m _ (bs _ _ _).1 (bs _ _ _).2 (by decide) (by have:=xe (aD x.L m).xs (aD x.L m).ys (aD x.L m).nd k.key k.val;omega) (xv _ h48.2.hash) hm (by rw[aCL];exact g2) ok hs))) (h:=λ x82 h82=>?_);refine bG (i:=9) (hq:=(cM (hs:=xH k bx bm x82.2.1 dn rs) (os:=xW x82.2.1) (hc:=λ w hs=>tE hg k.t i m x82.1 _ ht (by have:=h82.len;omega) h82.bd h82.go h82.ok hs))) (h:=λ x83 h83=>?_)
   have hch:=Ch.nx h83 (Ch.nx h82 ((Ch.base (F:=[])).cons (f:=(x71.1,dE (Yt (kV (aD x.L m).nd (aD x.L m).xs (aD x.L m).ys k.key k.val))))))
   have hlc:x.cs.length<=x83.2.1.cs.length:=by have:=h82.lc;have:=h83.lc;omega
   refine dC (i:=12) (hq:=(cV (hc:=λ w1 hw=>pL _ _ _ _ w1))) (h:=λ x86=>?_);refine cP (i:=13) (hq:=(bP rf rfl)) (h:=?_);refine cP (i:=14) (hq:=(bP rf rfl)) (h:=?_);refine Ck ?_
   refine bB Tryz.results224 (λ w hw=>?_)
   obtain⟨N,hN,hf⟩:=hch.to (t':=K (rT (dV (aD x.L m).c.ys k.key).isSome ((dV (aD x.L m).c.ys k.key).getD 0)) (if x83.1=true then 1 else 0)) h83 (h83.go) hlc (bH _)
   exact⟨(rT (dV (aD x.L m).c.ys k.key).isSome ((dV (aD x.L m).c.ys k.key).getD 0),(if x83.1=true then 1 else 0),x83.2.1,N),rfl,hN,(hw.fG hf).v4⟩
 ·exact absurd hk c51
set_option maxRecDepth 100000 in
theorem Ye(hg:g.Ok)(i m:Int){h:Nat}(hh:h<18446744073709551616)(level:Nat)(hlv:level<=1073741824)(gen:Int)(K:Rs->Int->Tr)(ht:k.t.root<=9223372036854775807)(hi:i<=x.L.length)(hm:m<=x.L.length)(hA:∀f∈aL x.L,f∈A)(hk:¬(aD x.L m).nd.kind=6)(hl:kU (aD x.L m).c (gJ h (level:Int))=none)(go:fS g x (lY k i m h level gen K))(ok:x.Ok)(hs:SF w D (xH k bx bm x dn rs) A [] (xW x) w):Calls prog 224 #[.pointer (some ⟨bx,0,none⟩),.int .i64 i,.int .i64 m,.int .u64 (h:Int),.int .i64 (level:Int),.int .i64 gen] w (Ys g x K bx bm k dn rs D w):=by
 have hyl:=rL ok m
 have hlL:=ok.lL
 refine enter Tryz.func224 Tryz.ntmps224 rfl rfl (cH hs) ?_
 simp only[cE]
 refine J0 ?_;refine aJ (λ x12=>?_);refine iW ?_;refine eQ [(0,[]),(1,[]),(2,[]),(3,[]),(4,[]),(5,[]),(6,[]),(7,[]),(8,[]),(9,[]),(10,[]),(11,[]),(12,[]),(13,[]),(14,[]),(15,[4,9,14]),(16,[9,14]),(17,[14]),(18,[])] ?_;refine J9 ?_;refine aT ?_;refine bT (i:=4) (hq:=(aP (k:=2) (vs:=[.int .i64 k.t.root,.bool k.t.ro]) rf cR eE rfl rfl)) (h:=?_);refine yA ?_;refine yA ?_;refine iE (hfire:=(λ _=>by((repeat (first|exact aQ.nil|refine aQ.cons (by first|exact iP (hq:=aP (k:=2) (vs:=[.int .i64 k.t.root,.bool k.t.ro]) rf cR eE rfl rfl)|exact iF) ?_));done))) (h:=λ x14=>?_);refine pD (h:=λ _=>?_);refine ag ?_;refine jM ?_;refine aC (cM (hs:=xH k bx bm x dn rs) (os:=xW x) (hc:=λ w hs=>cJ m _ hm go ok hs)) (λ x48 h48=>?_);refine aJ (λ x17=>?_);refine J5 ?_;refine Kc9 ?_
 refine bE (λ c51=>?_) (λ c51=>?_)
 ·exact absurd c51 hk
 ·have g0:=h48.1.to (λ _=>if_neg hk)
  have g1:=Lw g0 (by rw[hl];rfl)
  refine D1 ?_;refine aM (cV (hc:=λ w1 hw=>eY hh (level:Int) w1)) (λ x91=>?_);refine zM ?_;refine aA ?_;refine bK ?_;refine aJ (λ x23=>?_);refine J5 ?_;refine Dv ?_;refine aM (cV (hc:=λ w1 hw=>v7 (v:=(aD x.L m)) h48.2 hl (ok.sG hw hA m))) (λ x99=>?_);refine aA ?_;refine aB (bP rf rfl) rfl ?_;refine aB (bP rf rfl) rfl ?_;refine J8 ?_;refine Da ?_
  refine aI ?_
  (refine aI ?_);(refine aI ?_);refine J87 ?_;refine aG ?_
  refine bE (λ c109=>?_) (λ c109=>?_)
  ·exact nv c109
  ·refine D1 ?_
   refine aI ?_
   (refine aI ?_);(refine aI ?_);refine J81 ?_;(refine aI ?_);refine cA ?_;refine zM ?_;refine aC (cM (hs:=xH k bx bm x dn rs) (os:=xW x) (hc:=λ w hs=>fK 0 (by decide) ok hs)) (λ x122 h122=>?_);refine cC ?_;refine Kc8 ?_;refine pN ?_
   refine bE (λ c125=>?_) (λ c125=>?_)
   ·refine dJ ?_;refine iW ?_;refine Kb6 ?_;refine aC (cM (hs:=xH k bx bm x dn rs) (os:=xW x) (hc:=λ w hs=>xS _ _ hs)) (λ x129 h129=>?_);refine pN ?_
    refine bE (λ c130=>?_) (λ c130=>?_)
    ·have g2:=g1.to (λ _=>if_neg (show ¬nU k false 0=true from by simpa using c130))
     refine jM ?_;refine aM (cV (hc:=λ w1 hw=>gF _ _ w1)) (λ x133=>?_);refine Dm ?_
     refine bB Tryz.results224 (λ w hw=>?_)
     exact⟨(jL false 0,1,x,[]),rfl,⟨g2,ok,by simp,Nat.le_refl _,bH _⟩,hw.aX (hF:=by exact aV.nil)⟩
    ·have g2:=g1.to (λ _=>if_pos (show nU k false 0=true from by simpa using c130))
     refine sA ?_;refine J2 ?_;refine uI ?_;refine J1 ?_
     refine bE (λ c134=>?_) (λ c134=>?_)
     ·refine aR ?_
      refine eJ [28,29,137,138,139,140,141,142,143,144,145] (λ z:Nat×(Int×XS×List aU)×(Option Addr×Nat)×Nd=>[(28,.pointer (some ⟨z.1,0,none⟩))]) (λ z=>Nx g x z.2.1.2.1 z.2.1.2.2 (.alloc (inV (aD x.L m).c (gJ h (level:Int)) z.2.1.1) m λ r=>oI k.t i m r λ ok=>K (rT false 0) (if ok=true then 1 else 0)) z.2.1.1/\z.2.2.2=mU (Yz (aD x.L m) (gJ h (level:Int)) z.2.1.1) z.2.2.1) (λ z=>[(z.1,.cells ⟨z.2.2.2.cells⟩ 47 (0,0)),(x23,.cells ⟨({Nd.zero with kind:=4,hash:=(h:Int),key:=k.key,val:=k.val}:Nd).cells⟩ 47 (0,0)),(x17,.cells ⟨(aD x.L m).nd.cells⟩ 47 (0,0)),(x14,.cells ⟨[.int .i64 k.t.root,.bool k.t.ro]⟩ 29 (0,0)),(x12,.cells ⟨Rs.zero.cells⟩ 64 (0,0)),(bx,xO k bm z.2.1.2.1 dn rs),(bm,xM z.2.1.2.1)]) (λ z=>(z.2.2.1.1,aH (mL (Yz (aD x.L m) (gJ h (level:Int)) z.2.1.1)))::(aL z.2.1.2.2++[])) (λ z=>xW z.2.1.2.1) (by decide) (λ _=>by exact rfl) ?_ (λ z f hx=>?_)
      ·refine iD (.one 0 [] (.one 1 [] (.one 2 [] (.one 3 [] (.two 4 [0] (.two 5 [] (.one 6 [] (.one 7 [] (.one 8 [] (.one 9 [0,3] (.one 10 [] (.one 11 [] .nil)))))) 0 [] (.two 9 [0,3] (.one 5 [] (.one 6 [] (.one 7 [] (.one 8 [] (.one 10 [] (.one 11 [] .nil)))))) 0 [] .nil)) 0 [] (.two 9 [0,3] (.one 4 [0] (.one 5 [] (.one 6 [] (.one 7 [] (.one 8 [] (.one 10 [] (.one 11 [] .nil))))))) 0 [] .nil)))))) ?_
       refine Ka9 ?_;refine bX ?_
       refine iK (E:=[4,9]) (by decide +kernel) ((.cons ?_ (.cons ?_ .nil)))
       ·refine mE (i:=4) (hq:=(cM (hs:=xH k bx bm x dn rs) (os:=xW x) (A0:=[(none,aH []),(none,dE [])]) (hc:=λ w hs=>gI hg (n:={Nd.zero with kind:=4,hash:=(h:Int),key:=k.key,val:=k.val}) (xs:=[]) (ys:=[]) 0 _ rfl rfl (by decide) (Nat.zero_le _) (Ew hh) (bH _) (g2) ok hs))) (h:=λ x142 h142=>?_)
        refine iK (E:=[5,9]) (by decide +kernel) ((.cons ?_ (.cons ?_ .nil)))
        ·refine mE (i:=5) (hq:=(cF (hc:=λ w1 hw=>j6 (v:=(aD x.L m)) h48.2 (gJ h (level:Int)) x142.1 (ok.sG hw hA m)))) (h:=λ x143 h143=>?_)
         refine bC ?_;refine cP (i:=7) (hq:=(bP rf rfl)) (h:=?_);refine cP (i:=8) (hq:=(bP rf rfl)) (h:=?_);refine iE (h:=λ x28=>?_);refine Ck ?_
         refine fF ((x28,x142,x143,mU (Yz (aD x.L m) (gJ h (level:Int)) x142.1) x143)) ?_ (hw1:=λ w hw=>hw.v6)
         ·exact⟨h142,rfl⟩
        ·refine iC (i:=9) (h:=λ x28=>?_)
         refine bG (i:=5) (hq:=(cF (hc:=λ w1 hw=>j6 (v:=(aD x.L m)) h48.2 (gJ h (level:Int)) x142.1 (ok.sG hw hA m)))) (h:=λ x143 h143=>?_);refine bC ?_;refine cP (i:=7) (hq:=(bP rf rfl)) (h:=?_);refine cP (i:=8) (hq:=(bP rf rfl)) (h:=?_);refine Ck ?_
         refine fF ((x28,x142,x143,mU (Yz (aD x.L m) (gJ h (level:Int)) x142.1) x143)) ?_ (hw1:=λ w hw=>hw.v6)
         ·exact⟨h142,rfl⟩
       ·refine iC (i:=9) (h:=λ x28=>?_)
        refine bG (i:=4) (hq:=(cM (hs:=xH k bx bm x dn rs) (os:=xW x) (A0:=[(none,aH []),(none,dE [])]) (hc:=λ w hs=>gI hg (n:={Nd.zero with kind:=4,hash:=(h:Int),key:=k.key,val:=k.val}) (xs:=[]) (ys:=[]) 0 _ rfl rfl (by decide) (Nat.zero_le _) (Ew hh) (bH _) (g2) ok hs))) (h:=λ x142 h142=>?_);refine bG (i:=5) (hq:=(cF (hc:=λ w1 hw=>j6 (v:=(aD x.L m)) h48.2 (gJ h (level:Int)) x142.1 (ok.sG hw hA m)))) (h:=λ x143 h143=>?_);refine bC ?_;refine cP (i:=7) (hq:=(bP rf rfl)) (h:=?_);refine cP (i:=8) (hq:=(bP rf rfl)) (h:=?_);refine Ck ?_
        refine fF ((x28,x142,x143,mU (Yz (aD x.L m) (gJ h (level:Int)) x142.1) x143)) ?_ (hw1:=λ w hw=>hw.v6)
        ·exact⟨h142,rfl⟩
      dsimp only[iB,List.map,List.cons_append,List.nil_append]
      obtain⟨hz,ez⟩:=hx
      have hlz:=hz.len
      have hB:=aBB ((ok.nv m).mono (Nat.le_refl _) (Nat.le_refl _) |>.mono hlz hz.lc) hz.bd (gJ h (level:Int))
      refine aR ?_;refine eQ [(0,[]),(1,[]),(2,[]),(3,[]),(4,[]),(5,[]),(6,[]),(7,[]),(8,[2]),(9,[]),(10,[]),(11,[]),(12,[]),(13,[]),(14,[])] ?_;refine hU ?_;refine Ka9 ?_;refine bC ?_;refine bX ?_;refine bC ?_;refine bG (i:=8) (hq:=(cM (hs:=xH k bx bm z.2.1.2.1 dn rs) (os:=xW z.2.1.2.1) (A0:=[(z.2.2.2.brA,aH (mL (Yz (aD x.L m) (gJ h (level:Int)) z.2.1.1))),(z.2.2.2.prA,dE [])]) (hA:=by rw[ez];exact Ss) (hc:=λ w hs=>gI hg (n:=z.2.2.2) (xs:=mL (Yz (aD x.L m) (gJ h (level:Int)) z.2.1.1)) (ys:=[]) m _ (by rw[ez];exact Ei _ _) (by rw[ez];exact Ea _ _) hB.len (Nat.zero_le _) (by rw[ez];exact hB.nvB _) (by omega) (by rw[ez,<- aCc h48.2];exact hz.go) hz.ok hs))) (h:=λ x154 h154=>?_);refine bG (i:=9) (hq:=(cM (hs:=xH k bx bm x154.2.1 dn rs) (os:=xW x154.2.1) (hc:=λ w hs=>tE hg k.t i m x154.1 _ ht (by have:=h154.len;omega) h154.bd h154.go h154.ok hs))) (h:=λ x155 h155=>?_)
      have hch:=Ch.nx h155 (Ch.nx h154 (((Ch.base (F:=[])).nx hz).cons (f:=(z.2.2.1.1,aH (mL (Yz (aD x.L m) (gJ h (level:Int)) z.2.1.1))))))
      have hlc:x.cs.length<=x155.2.1.cs.length:=by have:=hz.lc;have:=h154.lc;have:=h155.lc;omega
      refine dC (i:=10) (hq:=(cV (hc:=λ w1 hw=>pL _ _ _ _ w1))) (h:=λ x156=>?_);refine cP (i:=11) (hq:=(bP rf rfl)) (h:=?_);refine cP (i:=12) (hq:=(bP rf rfl)) (h:=?_);refine Ck ?_
      refine bB Tryz.results224 (λ w hw=>?_)
      obtain⟨N,hN,hf⟩:=hch.to (t':=K (rT false 0) (if x155.1=true then 1 else 0)) h155 (h155.go) hlc (bH _)
      exact⟨(rT false 0,(if x155.1=true then 1 else 0),x155.2.1,N),rfl,hN,(hw.fG hf).v4⟩
     ·exact nv c134
   ·exact nv c125
set_option maxRecDepth 100000 in
theorem Wx(hg:g.Ok)(i m:Int){h:Nat}(hh:h<18446744073709551616)(level:Nat)(hlv:level<=1073741824)(gen:Int)(K:Rs->Int->Tr)(ht:k.t.root<=9223372036854775807)(hi:i<=x.L.length)(hm:m<=x.L.length)(hA:∀f∈aL x.L,f∈A)(hk:¬(aD x.L m).nd.kind=6){b:Int}(hl:kU (aD x.L m).c (gJ h (level:Int))=some b)(hi2:(aD x.L b).nd.kind=2)(go:fS g x (lY k i m h level gen K))(ok:x.Ok)(hs:SF w D (xH k bx bm x dn rs) A [] (xW x) w):Calls prog 224 #[.pointer (some ⟨bx,0,none⟩),.int .i64 i,.int .i64 m,.int .u64 (h:Int),.int .i64 (level:Int),.int .i64 gen] w (Ys g x K bx bm k dn rs D w):=by
 have hyl:=rL ok m
 have hlL:=ok.lL
 have hb:b<=x.L.length:=by have:=qG (ok.nv m) (gJ h (level:Int));rw[hl] at this;exact this
 refine enter Tryz.func224 Tryz.ntmps224 rfl rfl (cH hs) ?_
 simp only[cE]
 refine J0 ?_;refine aJ (λ x12=>?_);refine iW ?_;refine eQ [(0,[]),(1,[]),(2,[]),(3,[]),(4,[]),(5,[]),(6,[]),(7,[]),(8,[]),(9,[]),(10,[]),(11,[]),(12,[]),(13,[]),(14,[]),(15,[4,9,14]),(16,[9,14]),(17,[14]),(18,[])] ?_;refine J9 ?_;refine aT ?_;refine bT (i:=4) (hq:=(aP (k:=2) (vs:=[.int .i64 k.t.root,.bool k.t.ro]) rf cR eE rfl rfl)) (h:=?_);refine yA ?_;refine yA ?_;refine iE (hfire:=(λ _=>by((repeat (first|exact aQ.nil|refine aQ.cons (by first|exact iP (hq:=aP (k:=2) (vs:=[.int .i64 k.t.root,.bool k.t.ro]) rf cR eE rfl rfl)|exact iF) ?_));done))) (h:=λ x14=>?_);refine pD (h:=λ _=>?_);refine ag ?_;refine jM ?_;refine aC (cM (hs:=xH k bx bm x dn rs) (os:=xW x) (hc:=λ w hs=>cJ m _ hm go ok hs)) (λ x48 h48=>?_);refine aJ (λ x17=>?_);refine J5 ?_;refine Kc9 ?_
 refine bE (λ c51=>?_) (λ c51=>?_)
 ·exact absurd c51 hk
 ·have g0:=h48.1.to (λ _=>if_neg hk)
  have g1:=tP g0 (by rw[hl];rfl)
  rw[hl] at g1
  refine D1 ?_;refine aM (cV (hc:=λ w1 hw=>eY hh (level:Int) w1)) (λ x91=>?_);refine zM ?_;refine aA ?_;refine bK ?_;refine aJ (λ x23=>?_);refine J5 ?_;refine Dv ?_;refine aM (cV (hc:=λ w1 hw=>Ki (v:=(aD x.L m)) h48.2 hl (ok.sG hw hA m))) (λ x99=>?_);refine aA ?_;refine aB (bP rf rfl) rfl ?_;refine aB (bP rf rfl) rfl ?_;refine J8 ?_;refine Da ?_
  (refine Ka3 ?_)
  ((refine Ka3 ?_));((refine aF ?_;refine aC (cM (hs:=xH k bx bm x dn rs) (os:=xW x) (hc:=λ w hs=>cJ b _ hb g1 ok hs)) (λ x106 h106=>?_)));refine J87 ?_;refine aG ?_
  refine bE (λ c109=>?_) (λ c109=>?_)
  ·have g2:=h106.1.to (λ _=>if_pos hi2)
   refine J0 ?_;refine bK ?_;refine Dm ?_
   refine bB Tryz.results224 (λ w hw=>?_)
   exact⟨(Rs.zero,2,x,[]),rfl,⟨g2,ok,by simp,Nat.le_refl _,bH _⟩,hw.aX (hF:=by exact aV.nil)⟩
  ·exact absurd hi2 c109
set_option maxRecDepth 100000 in
theorem Yp(hg:g.Ok)(i m:Int){h:Nat}(hh:h<18446744073709551616)(level:Nat)(hlv:level<=1073741824)(gen:Int)(K:Rs->Int->Tr)(ht:k.t.root<=9223372036854775807)(hi:i<=x.L.length)(hm:m<=x.L.length)(hA:∀f∈aL x.L,f∈A)(hk:¬(aD x.L m).nd.kind=6){b:Int}(hl:kU (aD x.L m).c (gJ h (level:Int))=some b)(hi2:¬(aD x.L b).nd.kind=2)(he:(aD x.L b).nd.key=k.key)(go:fS g x (lY k i m h level gen K))(ok:x.Ok)(hs:SF w D (xH k bx bm x dn rs) A [] (xW x) w):Calls prog 224 #[.pointer (some ⟨bx,0,none⟩),.int .i64 i,.int .i64 m,.int .u64 (h:Int),.int .i64 (level:Int),.int .i64 gen] w (Ys g x K bx bm k dn rs D w):=by
 have hyl:=rL ok m
 have hlL:=ok.lL
 have hb:b<=x.L.length:=by have:=qG (ok.nv m) (gJ h (level:Int));rw[hl] at this;exact this
 refine enter Tryz.func224 Tryz.ntmps224 rfl rfl (cH hs) ?_
 simp only[cE]
 refine J0 ?_;refine aJ (λ x12=>?_);refine iW ?_;refine eQ [(0,[]),(1,[]),(2,[]),(3,[]),(4,[]),(5,[]),(6,[]),(7,[]),(8,[]),(9,[]),(10,[]),(11,[]),(12,[]),(13,[]),(14,[]),(15,[4,9,14]),(16,[9,14]),(17,[14]),(18,[])] ?_;refine J9 ?_;refine aT ?_;refine bT (i:=4) (hq:=(aP (k:=2) (vs:=[.int .i64 k.t.root,.bool k.t.ro]) rf cR eE rfl rfl)) (h:=?_);refine yA ?_;refine yA ?_;refine iE (hfire:=(λ _=>by((repeat (first|exact aQ.nil|refine aQ.cons (by first|exact iP (hq:=aP (k:=2) (vs:=[.int .i64 k.t.root,.bool k.t.ro]) rf cR eE rfl rfl)|exact iF) ?_));done))) (h:=λ x14=>?_);refine pD (h:=λ _=>?_);refine ag ?_;refine jM ?_;refine aC (cM (hs:=xH k bx bm x dn rs) (os:=xW x) (hc:=λ w hs=>cJ m _ hm go ok hs)) (λ x48 h48=>?_);refine aJ (λ x17=>?_);refine J5 ?_;refine Kc9 ?_
 refine bE (λ c51=>?_) (λ c51=>?_)
 ·exact absurd c51 hk
 ·have g0:=h48.1.to (λ _=>if_neg hk)
  have g1:=tP g0 (by rw[hl];rfl)
  rw[hl] at g1
  refine D1 ?_;refine aM (cV (hc:=λ w1 hw=>eY hh (level:Int) w1)) (λ x91=>?_);refine zM ?_;refine aA ?_;refine bK ?_;refine aJ (λ x23=>?_);refine J5 ?_;refine Dv ?_;refine aM (cV (hc:=λ w1 hw=>Ki (v:=(aD x.L m)) h48.2 hl (ok.sG hw hA m))) (λ x99=>?_);refine aA ?_;refine aB (bP rf rfl) rfl ?_;refine aB (bP rf rfl) rfl ?_;refine J8 ?_;refine Da ?_
  (refine Ka3 ?_)
  ((refine Ka3 ?_));((refine aF ?_;refine aC (cM (hs:=xH k bx bm x dn rs) (os:=xW x) (hc:=λ w hs=>cJ b _ hb g1 ok hs)) (λ x106 h106=>?_)));refine J87 ?_;refine aG ?_
  refine bE (λ c109=>?_) (λ c109=>?_)
  ·exact absurd c109 hi2
  ·have g3:=(h106.1.to (λ _=>if_neg hi2)).to (λ _=>if_pos he)
   refine D1 ?_
   (refine Ka3 ?_)
   ((refine Ka3 ?_));((refine aF ?_;refine aC (cM (hs:=xH k bx bm x dn rs) (os:=xW x) (hc:=λ w hs=>fK b (by omega) ok hs)) (λ x115 h115=>?_)));refine J81 ?_;((refine aF ?_;refine aB (qt rf rf he) rfl ?_));refine cA ?_;refine zM ?_;refine aC (cM (hs:=xH k bx bm x dn rs) (os:=xW x) (hc:=λ w hs=>fK b (by omega) ok hs)) (λ x122 h122=>?_);refine cC ?_;refine Kc8 ?_;refine pN ?_
   refine bE (λ c125=>?_) (λ c125=>?_)
   ·exact nv c125
   ·refine lW ?_;refine Kb6 ?_;refine aC (cM (hs:=xH k bx bm x dn rs) (os:=xW x) (hc:=λ w hs=>xS _ _ hs)) (λ x129 h129=>?_);refine pN ?_
    refine bE (λ c130=>?_) (λ c130=>?_)
    ·have g2:=g3.to (λ _=>if_neg (show ¬nU k true (aD x.L b).nd.val=true from by simpa using c130))
     refine jM ?_;refine aM (cV (hc:=λ w1 hw=>gF _ _ w1)) (λ x133=>?_);refine Dm ?_
     refine bB Tryz.results224 (λ w hw=>?_)
     exact⟨(jL true (aD x.L b).nd.val,1,x,[]),rfl,⟨g2,ok,by simp,Nat.le_refl _,bH _⟩,hw.aX (hF:=by exact aV.nil)⟩
    ·have g2:=g3.to (λ _=>if_pos (show nU k true (aD x.L b).nd.val=true from by simpa using c130))
     refine sA ?_;refine J2 ?_;refine uI ?_;refine J1 ?_
     refine bE (λ c134=>?_) (λ c134=>?_)
     ·exact nv c134
     ·refine Ka5 ?_
      refine bE (λ c159=>?_) (λ c159=>?_)
      ·refine aR ?_;refine eQ [(0,[]),(1,[]),(2,[]),(3,[]),(4,[]),(5,[]),(6,[]),(7,[]),(8,[]),(9,[]),(13,[]),(10,[2]),(11,[2]),(12,[]),(14,[]),(15,[]),(16,[]),(17,[]),(18,[])] ?_;refine hU ?_;refine Ka9 ?_;refine hU ?_;refine hU ?_;refine bX ?_;refine bC ?_;refine bG (i:=10) (hq:=(cM (hs:=xH k bx bm x dn rs) (os:=xW x) (A0:=[(none,aH []),(none,dE [])]) (hc:=λ w hs=>gI hg (n:={Nd.zero with kind:=4,hash:=(h:Int),key:=k.key,val:=k.val}) (xs:=[]) (ys:=[]) 0 _ rfl rfl (by decide) (Nat.zero_le _) (Ew hh) (bH _) (g2) ok hs))) (h:=λ x171 h171=>?_)
       have hch:=(Ch.base (F:=[])).nx h171
       refine bG (i:=11) (hq:=(cM (hs:=xH k bx bm x171.2.1 dn rs) (os:=xW x171.2.1) (A0:=aL x171.2.1.L) (hA:=Ch.all hch hA) (hc:=λ w hs=>Bl hg m (gJ h (level:Int)) x171.1 _ (by have:=h171.len;omega) h171.bd (λ f hf=>hf) h171.go h171.ok hs))) (h:=λ x172 h172=>?_);refine bG (i:=12) (hq:=(cM (hs:=xH k bx bm x172.2.1 dn rs) (os:=xW x172.2.1) (hc:=λ w hs=>tE hg k.t i m x172.1 _ ht (by have:=h171.len;have:=h172.len;omega) h172.bd h172.go h172.ok hs))) (h:=λ x173 h173=>?_)
       have hch2:=Ch.nx h173 (Ch.nx h172 hch)
       have hlc:x.cs.length<=x173.2.1.cs.length:=by have:=h171.lc;have:=h172.lc;have:=h173.lc;omega
       refine dC (i:=14) (hq:=(cV (hc:=λ w1 hw=>pL _ _ _ _ w1))) (h:=λ x175=>?_);refine cP (i:=15) (hq:=(bP rf rfl)) (h:=?_);refine cP (i:=16) (hq:=(bP rf rfl)) (h:=?_);refine Ck ?_
       refine bB Tryz.results224 (λ w hw=>?_)
       obtain⟨N,hN,hf⟩:=hch2.to (t':=K (rT true (aD x.L b).nd.val) (if x173.1=true then 1 else 0)) h173 (h173.go) hlc (bH _)
       exact⟨(rT true (aD x.L b).nd.val,(if x173.1=true then 1 else 0),x173.2.1,N),rfl,hN,(hw.fG hf).v4⟩
      ·exact nv c159
set_option maxRecDepth 100000 in
theorem Xr(hg:g.Ok)(i m:Int){h:Nat}(hh:h<18446744073709551616)(level:Nat)(hlv:level<=1073741824)(gen:Int)(K:Rs->Int->Tr)(ht:k.t.root<=9223372036854775807)(hi:i<=x.L.length)(hm:m<=x.L.length)(hA:∀f∈aL x.L,f∈A)(hk:¬(aD x.L m).nd.kind=6){b:Int}(hl:kU (aD x.L m).c (gJ h (level:Int))=some b)(hi2:¬(aD x.L b).nd.kind=2)(he:¬(aD x.L b).nd.key=k.key)(go:fS g x (lY k i m h level gen K))(ok:x.Ok)(hs:SF w D (xH k bx bm x dn rs) A [] (xW x) w):Calls prog 224 #[.pointer (some ⟨bx,0,none⟩),.int .i64 i,.int .i64 m,.int .u64 (h:Int),.int .i64 (level:Int),.int .i64 gen] w (Ys g x K bx bm k dn rs D w):=by
 have hyl:=rL ok m
 have hlL:=ok.lL
 have hb:b<=x.L.length:=by have:=qG (ok.nv m) (gJ h (level:Int));rw[hl] at this;exact this
 refine enter Tryz.func224 Tryz.ntmps224 rfl rfl (cH hs) ?_
 simp only[cE]
 refine J0 ?_;refine aJ (λ x12=>?_);refine iW ?_;refine eQ [(0,[]),(1,[]),(2,[]),(3,[]),(4,[]),(5,[]),(6,[]),(7,[]),(8,[]),(9,[]),(10,[]),(11,[]),(12,[]),(13,[]),(14,[]),(15,[4,9,14]),(16,[9,14]),(17,[14]),(18,[])] ?_;refine J9 ?_;refine aT ?_;refine bT (i:=4) (hq:=(aP (k:=2) (vs:=[.int .i64 k.t.root,.bool k.t.ro]) rf cR eE rfl rfl)) (h:=?_);refine yA ?_;refine yA ?_;refine iE (hfire:=(λ _=>by((repeat (first|exact aQ.nil|refine aQ.cons (by first|exact iP (hq:=aP (k:=2) (vs:=[.int .i64 k.t.root,.bool k.t.ro]) rf cR eE rfl rfl)|exact iF) ?_));done))) (h:=λ x14=>?_);refine pD (h:=λ _=>?_);refine ag ?_;refine jM ?_;refine aC (cM (hs:=xH k bx bm x dn rs) (os:=xW x) (hc:=λ w hs=>cJ m _ hm go ok hs)) (λ x48 h48=>?_);refine aJ (λ x17=>?_);refine J5 ?_;refine Kc9 ?_
 refine bE (λ c51=>?_) (λ c51=>?_)
 ·exact absurd c51 hk
 ·have g0:=h48.1.to (λ _=>if_neg hk)
  have g1:=tP g0 (by rw[hl];rfl)
  rw[hl] at g1
  refine D1 ?_;refine aM (cV (hc:=λ w1 hw=>eY hh (level:Int) w1)) (λ x91=>?_);refine zM ?_;refine aA ?_;refine bK ?_;refine aJ (λ x23=>?_);refine J5 ?_;refine Dv ?_;refine aM (cV (hc:=λ w1 hw=>Ki (v:=(aD x.L m)) h48.2 hl (ok.sG hw hA m))) (λ x99=>?_);refine aA ?_;refine aB (bP rf rfl) rfl ?_;refine aB (bP rf rfl) rfl ?_;refine J8 ?_;refine Da ?_
  (refine Ka3 ?_)
  ((refine Ka3 ?_));((refine aF ?_;refine aC (cM (hs:=xH k bx bm x dn rs) (os:=xW x) (hc:=λ w hs=>cJ b _ hb g1 ok hs)) (λ x106 h106=>?_)));refine J87 ?_;refine aG ?_
  refine bE (λ c109=>?_) (λ c109=>?_)
  ·exact absurd c109 hi2
  ·have g3:=(h106.1.to (λ _=>if_neg hi2)).to (λ _=>if_neg he)
   refine D1 ?_
   (refine Ka3 ?_)
   ((refine Ka3 ?_));((refine aF ?_;refine aC (cM (hs:=xH k bx bm x dn rs) (os:=xW x) (hc:=λ w hs=>fK b (by omega) ok hs)) (λ x115 h115=>?_)));refine J81 ?_;((refine aF ?_;refine aB (qp rf rf he) rfl ?_));refine cA ?_;refine zM ?_;refine aC (cM (hs:=xH k bx bm x dn rs) (os:=xW x) (hc:=λ w hs=>fK b (by omega) ok hs)) (λ x122 h122=>?_);refine cC ?_;refine Kc8 ?_;refine pN ?_
   refine bE (λ c125=>?_) (λ c125=>?_)
   ·refine dJ ?_;refine iW ?_;refine Kb6 ?_;refine aC (cM (hs:=xH k bx bm x dn rs) (os:=xW x) (hc:=λ w hs=>xS _ _ hs)) (λ x129 h129=>?_);refine pN ?_
    refine bE (λ c130=>?_) (λ c130=>?_)
    ·have g2:=g3.to (λ _=>if_neg (show ¬nU k false 0=true from by simpa using c130))
     refine jM ?_;refine aM (cV (hc:=λ w1 hw=>gF _ _ w1)) (λ x133=>?_);refine Dm ?_
     refine bB Tryz.results224 (λ w hw=>?_)
     exact⟨(jL false 0,1,x,[]),rfl,⟨g2,ok,by simp,Nat.le_refl _,bH _⟩,hw.aX (hF:=by exact aV.nil)⟩
    ·have g2:=g3.to (λ _=>if_pos (show nU k false 0=true from by simpa using c130))
     refine sA ?_;refine J2 ?_;refine uI ?_;refine J1 ?_
     refine bE (λ c134=>?_) (λ c134=>?_)
     ·exact nv c134
     ·refine Ka5 ?_
      refine bE (λ c159=>?_) (λ c159=>?_)
      ·exact nv c159
      ·refine pM ?_;refine jM ?_;refine bK ?_;refine qJ ?_;refine qJ ?_;refine F6 ?_;refine aA ?_;refine aC (cM (hs:=xH k bx bm x dn rs) (os:=xW x) (hc:=λ w hs=>yv hg b hh (level+1) gen _ hb g2 ok hs)) (λ x187 h187=>?_);refine aC (cM (hs:=xH k bx bm x187.2.1 dn rs) (os:=xW x187.2.1) (A0:=[(none,aH []),(none,dE [])]) (hc:=λ w hs=>gI hg (n:={Nd.zero with kind:=2,gen:=gen}) (xs:=[]) (ys:=[]) x187.1 _ rfl rfl (by decide) (Nat.zero_le _) sP h187.bd h187.go h187.ok hs)) (λ x188 h188=>?_)
       have hch:=Ch.nx h188 ((Ch.base (F:=[])).nx h187)
       refine iW ?_;refine eQ [(0,[]),(1,[]),(2,[]),(3,[]),(4,[]),(5,[]),(6,[]),(7,[]),(8,[]),(9,[2]),(10,[]),(11,[]),(12,[]),(13,[]),(14,[]),(15,[])] ?_;refine hU ?_;refine Ka9 ?_;refine hU ?_;refine hU ?_;refine bG (i:=9) (hq:=(cM (hs:=xH k bx bm x188.2.1 dn rs) (os:=xW x188.2.1) (A0:=aL x188.2.1.L) (hA:=Ch.all hch hA) (hc:=λ w hs=>Bl hg m (gJ h (level:Int)) x188.1 _ (by have:=h187.len;have:=h188.len;omega) h188.bd (λ f hf=>hf) h188.go h188.ok hs))) (h:=λ x198 h198=>?_);refine bG (i:=10) (hq:=(cM (hs:=xH k bx bm x198.2.1 dn rs) (os:=xW x198.2.1) (hc:=λ w hs=>tE hg k.t i m x198.1 _ ht (by have:=h187.len;have:=h188.len;have:=h198.len;omega) h198.bd h198.go h198.ok hs))) (h:=λ x199 h199=>?_)
       have hch2:=Ch.nx h199 (Ch.nx h198 hch)
       have hlc:x.cs.length<=x199.2.1.cs.length:=by have:=h187.lc;have:=h188.lc;have:=h198.lc;have:=h199.lc;omega
       refine dC (i:=11) (hq:=(cV (hc:=λ w1 hw=>pL _ _ _ _ w1))) (h:=λ x200=>?_);refine cP (i:=12) (hq:=(bP rf rfl)) (h:=?_);refine cP (i:=13) (hq:=(bP rf rfl)) (h:=?_);refine Ck ?_
       refine bB Tryz.results224 (λ w hw=>?_)
       obtain⟨N,hN,hf⟩:=hch2.to (t':=K (rT false 0) (if x199.1=true then 1 else 0)) h199 (h199.go) hlc (bH _)
       exact⟨(rT false 0,(if x199.1=true then 1 else 0),x199.2.1,N),rfl,hN,(hw.fG hf).v4⟩
   ·exact nv c125
theorem Xt(hg:g.Ok)(i m:Int){h:Nat}(hh:h<18446744073709551616)(level:Nat)(hlv:level<=1073741824)(gen:Int)(K:Rs->Int->Tr)(ht:k.t.root<=9223372036854775807)(hi:i<=x.L.length)(hm:m<=x.L.length)(hA:∀f∈aL x.L,f∈A)(go:fS g x (lY k i m h level gen K))(ok:x.Ok)(hs:SF w D (xH k bx bm x dn rs) A [] (xW x) w):Calls prog 224 #[.pointer (some ⟨bx,0,none⟩),.int .i64 i,.int .i64 m,.int .u64 (h:Int),.int .i64 (level:Int),.int .i64 gen] w (Ys g x K bx bm k dn rs D w):=by
 by_cases hk:(aD x.L m).nd.kind=6
 ·exact Yq hg i m hh level hlv gen K ht hi hm hA hk go ok hs
 ·cases hl:kU (aD x.L m).c (gJ h (level:Int)) with
  | none=>exact Ye hg i m hh level hlv gen K ht hi hm hA hk hl go ok hs
  | some b =>
   by_cases hi2:(aD x.L b).nd.kind=2
   ·exact Wx hg i m hh level hlv gen K ht hi hm hA hk hl hi2 go ok hs
   ·by_cases he:(aD x.L b).nd.key=k.key
    ·exact Yp hg i m hh level hlv gen K ht hi hm hA hk hl hi2 he go ok hs
    ·exact Xr hg i m hh level hlv gen K ht hi hm hA hk hl hi2 he go ok hs
end
end Go.Proofs.YtbajmaoegmbfgaaGreat

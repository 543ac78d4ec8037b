/- Executions of the reference: one attempt of PUT at a leaf. -/
import Derived.Test.YtbajmaoegmbfgaaGreatGEx14
set_option linter.unusedSimpArgs false
set_option linter.unusedVariables false
namespace Go.Ct
open Go Go.RowKit
theorem w7{a b:ByteArray}(h:a=b):(a.toList==b.toList)=true:=by subst h;simp
theorem wb{a b:ByteArray}(h:¬a=b):(a.toList==b.toList)=false:=by
 rw[beq_eq_false_iff_ne]
 exact λ e=>h (toList_inj e)
section
variable{P:Program}{S:List (Nat×Value)}{G:World->Prop}{d:Nat}{ty t t':TypeId}{pos:String}{af:Array Edge}{gd:Option (Nat×Bool)}{x y:Operand}{a b:ByteArray}
theorem uk(hx:ev S x=.string a)(hy:ev S y=.string b)(h:a=b):aM P S G ⟨some d,.binOp .eql t x y t',ty,pos,af,gd⟩ (.bool true):=by
 have:=F9 (P:=P) (G:=G) (d:=d) (ty:=ty) (pos:=pos) (af:=af) (gd:=gd) (t:=t) (t':=t') hx hy
 rwa [w7 h] at this
theorem r4(hx:ev S x=.string a)(hy:ev S y=.string b)(h:¬a=b):aM P S G ⟨some d,.binOp .eql t x y t',ty,pos,af,gd⟩ (.bool false):=by
 have:=F9 (P:=P) (G:=G) (d:=d) (ty:=ty) (pos:=pos) (af:=af) (gd:=gd) (t:=t) (t':=t') hx hy
 rwa [wb h] at this
end
end Go.Ct
namespace Go.Proofs.YtbajmaoegmbfgaaGreat
open Go Go.RowKit Go.Ct
section
variable{v:aP}{n c:Nat}{w:World}
theorem Jv(h:mB n c v.c){i b:Int}(e:mE v.c i=some b)(hr:sE w v.nd v.xs v.ys):Calls Tryz.prog 216 #[v.nd.v,.int .i64 i] w λ e w'=>e=.returned (.tuple #[.int .i64 b,.bool true])/\St w [] [] w':=by
 have:=Jj h i hr
 rwa [e] at this
theorem wq(h:mB n c v.c){i:Int}(e:mE v.c i=none)(hr:sE w v.nd v.xs v.ys):Calls Tryz.prog 216 #[v.nd.v,.int .i64 i] w λ e w'=>e=.returned (.tuple #[.int .i64 0,.bool false])/\St w [] [] w':=by
 have:=Jj h i hr
 rwa [e] at this
end
section
variable{k:Cl}{bx bm:Nat}{x:XS}{dn:Bool}{rs:Rs}{D:List Nat}{A:Fr}{w:World}{g:Gx}
abbrev Zs(g:Gx)(x:XS)(K:Rs->Int->Tr)(bx bm:Nat)(k:Cl)(dn:Bool)(rs:Rs)(D:List Nat)(w:World)(e:Ending)(w':World):Prop:=∃q:Rs×Int×XS×List aP,e=.returned (.tuple #[.agg ⟨q.1.cells⟩,.int .i64 q.2.1])/\Nx g x q.2.2.1 q.2.2.2 (K q.1 q.2.1) 0/\SF w D (xH k bx bm q.2.2.1 dn rs) [] (aL q.2.2.2) (xW q.2.2.1) w'
set_option maxRecDepth 100000 in
theorem Zd(hg:g.Ok)(i m:Int){h:Nat}(hh:h<18446744073709551616)(level:Nat)(hlv:level<=1073741824)(gen:Int)(K:Rs->Int->Tr)(ht:k.t.root<=9223372036854775807)(hi:i<=x.L.length)(hm:m<=x.L.length)(hA:∀f∈aL x.L,f∈A)(hk:(aB x.L m).nd.kind=6)(go:gD g x (mR k i m h level gen K))(ok:x.Ok)(hs:SF w D (xH k bx bm x dn rs) A [] (xW x) w):Calls Tryz.prog 224 #[.pointer (some ⟨bx,0,none⟩),.int .i64 i,.int .i64 m,.int .u64 (h:Int),.int .i64 (level:Int),.int .i64 gen] w (Zs g x K bx bm k dn rs D w):=by
 have hyl:=rF ok m
 have hlL:=ok.lL
 refine enter Tryz.func224 Tryz.ntmps224 rfl rfl (cD hs) ?_
 simp only[cA]
 refine J0 ?_;refine aJ (λ x12=>?_);refine iZ ?_;refine eG [(0,[]),(1,[]),(2,[]),(3,[]),(4,[]),(5,[]),(6,[]),(7,[]),(8,[]),(9,[]),(10,[]),(11,[]),(12,[]),(13,[]),(14,[]),(15,[4,9,14]),(16,[9,14]),(17,[14]),(18,[])] ?_;refine J9 ?_;refine aU ?_;refine bT (i:=4) (hq:=(aR (k:=2) (vs:=[.int .i64 k.t.root,.bool k.t.ro]) rf cY eF rfl rfl)) (h:=?_);refine yN ?_;refine yN ?_;refine gJ (hfire:=(λ _=>by((repeat (first|exact aK.nil|refine aK.cons (by first|exact fT (hq:=aR (k:=2) (vs:=[.int .i64 k.t.root,.bool k.t.ro]) rf cY eF rfl rfl)|exact eW) ?_));done))) (h:=λ x14=>?_);refine pM (h:=λ _=>?_);refine Tk ?_;refine jJ ?_;refine aD (cM (hs:=xH k bx bm x dn rs) (os:=xW x) (hc:=λ w hs=>cJ m _ hm go ok hs)) (λ x48 h48=>?_);refine aJ (λ x17=>?_);refine J5 ?_;refine Kc5 ?_
 refine bD (λ c51=>?_) (λ c51=>?_)
 ·have g1:=h48.1.to (λ _=>if_pos hk)
  refine Kd0 ?_;refine aN (cV (hc:=λ w1 hw=>Ld (v:=(aB x.L m)) (n:=0) k.key (ok.sF hw hA m) (ok.ysl m))) (λ x56=>?_);refine aA ?_;refine aC (bP rf rfl) rfl ?_;refine aC (bP rf rfl) rfl ?_;refine J8 ?_;refine Db ?_;refine aA ?_;refine aD (cM (hs:=xH k bx bm x dn rs) (os:=xW x) (hc:=λ w hs=>yC _ _ hs)) (λ x62 h62=>?_);refine pE ?_
  refine bD (λ c63=>?_) (λ c63=>?_)
  ·have g2:=g1.to (λ _=>if_neg (show ¬oO k (dU (aB x.L m).c.ys k.key).isSome ((dU (aB x.L m).c.ys k.key).getD 0)=true from by simpa using c63))
   refine jJ ?_;refine aN (cV (hc:=λ w1 hw=>gX _ _ w1)) (λ x66=>?_);refine Cr ?_
   refine aY Tryz.results224 (λ w hw=>?_)
   exact⟨(jW (dU (aB x.L m).c.ys k.key).isSome ((dU (aB x.L m).c.ys k.key).getD 0),1,x,[]),rfl,⟨g2,ok,by simp,Nat.le_refl _,bL _⟩,hw.aX (hF:=by exact aV.nil)⟩
  ·have g2:=g1.to (λ _=>if_pos (show oO k (dU (aB x.L m).c.ys k.key).isSome ((dU (aB x.L m).c.ys k.key).getD 0)=true from by simpa using c63))
   refine aW ?_;refine nF ?_;refine pV ?_;refine aD (cF (hc:=λ w1 hw=>aAL (v:=(aB x.L m)) h48.2 k.key k.val (ok.sF hw hA m) (by omega))) (λ x71 h71=>?_);refine aA ?_;refine aC (bP rf rfl) rfl ?_;refine aC (bP rf rfl) rfl ?_;refine aJ (λ x20=>?_);refine kJ (λ _=>?_);refine iZ ?_;refine eG [(0,[]),(1,[]),(2,[]),(3,[]),(4,[]),(5,[]),(6,[]),(7,[]),(10,[]),(11,[]),(8,[2]),(9,[]),(12,[]),(13,[]),(14,[]),(15,[]),(16,[])] ?_;refine iF ?_;refine Ka9 ?_;refine aT ?_;refine Ka9 ?_;refine aT ?_;refine bC (i:=8) (hq:=(cM (hs:=xH k bx bm x dn rs) (os:=xW x) (A0:=[((nf (kY (aB x.L m).nd (aB x.L m).xs (aB x.L m).ys k.key k.val) (aB x.L m).nd.hash x71).brA,aH []),((nf (kY (aB x.L m).nd (aB x.L m).xs (aB x.L m).ys k.key k.val) (aB x.L m).nd.hash x71).prA,cZ (Zp (kY (aB x.L m).nd (aB x.L m).xs (aB x.L m).ys k.key k.val)))]) (hA:=aAY) (hc:=λ w hs=>hU hg (n:=nf (kY (aB x.L m).nd (aB x.L m).xs (aB x.L m).ys k.key k.val) (aB x.L m).nd.hash x71) (xs:=[]) (ys:=Zp (kY (aB x.L m).nd (aB x.L m).xs (aB x.L m).ys k.key k.val)) m _ (ls _ _ _).1 (ls _ _ _).2 (by decide) (by have:=zy (aB x.L m).xs (aB x.L m).ys (aB x.L m).nd k.key k.val;omega) (yz _ h48.2.hash) hm (by rw[aCk];exact g2) ok hs))) (h:=λ x82 h82=>?_);refine bC (i:=9) (hq:=(cM (hs:=xH k bx bm x82.2.1 dn rs) (os:=xW x82.2.1) (hc:=λ w hs=>uK hg k.t i m x82.1 _ ht (by have:=h82.len;omega) h82.bd h82.go h82.ok hs))) (h:=λ x83 h83=>?_)
   have hch:=Ch.nx h83 (Ch.nx h82 ((Ch.base (F:=[])).cons (f:=(x71.1,cZ (Zp (kY (aB x.L m).nd (aB x.L m).xs (aB x.L m).ys k.key k.val))))))
   have hlc:x.cs.length<=x83.2.1.cs.length:=by have:=h82.lc;have:=h83.lc;omega
   refine cO (i:=12) (hq:=(cV (hc:=λ w1 hw=>pT _ _ _ _ w1))) (h:=λ x86=>?_);refine cP (i:=13) (hq:=(bP rf rfl)) (h:=?_);refine cP (i:=14) (hq:=(bP rf rfl)) (h:=?_);refine yQ ?_
   refine aY Tryz.results224 (λ w hw=>?_)
   obtain⟨N,hN,hf⟩:=hch.to (t':=K (rX (dU (aB x.L m).c.ys k.key).isSome ((dU (aB x.L m).c.ys k.key).getD 0)) (if x83.1=true then 1 else 0)) h83 (h83.go) hlc (bL _)
   exact⟨(rX (dU (aB x.L m).c.ys k.key).isSome ((dU (aB x.L m).c.ys k.key).getD 0),(if x83.1=true then 1 else 0),x83.2.1,N),rfl,hN,(hw.eY hf).aX (hF:=by exact aV.all)⟩
 ·exact absurd hk c51
set_option maxRecDepth 100000 in
theorem Xq(hg:g.Ok)(i m:Int){h:Nat}(hh:h<18446744073709551616)(level:Nat)(hlv:level<=1073741824)(gen:Int)(K:Rs->Int->Tr)(ht:k.t.root<=9223372036854775807)(hi:i<=x.L.length)(hm:m<=x.L.length)(hA:∀f∈aL x.L,f∈A)(hk:¬(aB x.L m).nd.kind=6)(hl:mE (aB x.L m).c (iA h (level:Int))=none)(go:gD g x (mR k i m h level gen K))(ok:x.Ok)(hs:SF w D (xH k bx bm x dn rs) A [] (xW x) w):Calls Tryz.prog 224 #[.pointer (some ⟨bx,0,none⟩),.int .i64 i,.int .i64 m,.int .u64 (h:Int),.int .i64 (level:Int),.int .i64 gen] w (Zs g x K bx bm k dn rs D w):=by
 have hyl:=rF ok m
 have hlL:=ok.lL
 refine enter Tryz.func224 Tryz.ntmps224 rfl rfl (cD hs) ?_
 simp only[cA]
 refine J0 ?_;refine aJ (λ x12=>?_);refine iZ ?_;refine eG [(0,[]),(1,[]),(2,[]),(3,[]),(4,[]),(5,[]),(6,[]),(7,[]),(8,[]),(9,[]),(10,[]),(11,[]),(12,[]),(13,[]),(14,[]),(15,[4,9,14]),(16,[9,14]),(17,[14]),(18,[])] ?_;refine J9 ?_;refine aU ?_;refine bT (i:=4) (hq:=(aR (k:=2) (vs:=[.int .i64 k.t.root,.bool k.t.ro]) rf cY eF rfl rfl)) (h:=?_);refine yN ?_;refine yN ?_;refine gJ (hfire:=(λ _=>by((repeat (first|exact aK.nil|refine aK.cons (by first|exact fT (hq:=aR (k:=2) (vs:=[.int .i64 k.t.root,.bool k.t.ro]) rf cY eF rfl rfl)|exact eW) ?_));done))) (h:=λ x14=>?_);refine pM (h:=λ _=>?_);refine Tk ?_;refine jJ ?_;refine aD (cM (hs:=xH k bx bm x dn rs) (os:=xW x) (hc:=λ w hs=>cJ m _ hm go ok hs)) (λ x48 h48=>?_);refine aJ (λ x17=>?_);refine J5 ?_;refine Kc5 ?_
 refine bD (λ c51=>?_) (λ c51=>?_)
 ·exact absurd c51 hk
 ·have g0:=h48.1.to (λ _=>if_neg hk)
  have g1:=K8 g0 (by rw[hl];rfl)
  refine El ?_;refine aN (cV (hc:=λ w1 hw=>fH hh (level:Int) w1)) (λ x91=>?_);refine Ai ?_;refine aA ?_;refine bI ?_;refine aJ (λ x23=>?_);refine J5 ?_;refine Dg ?_;refine aN (cV (hc:=λ w1 hw=>wq (v:=(aB x.L m)) h48.2 hl (ok.sF hw hA m))) (λ x99=>?_);refine aA ?_;refine aC (bP rf rfl) rfl ?_;refine aC (bP rf rfl) rfl ?_;refine J8 ?_;refine Db ?_
  refine aI ?_
  (refine aI ?_);(refine aI ?_);refine J87 ?_;refine aG ?_
  refine bD (λ c109=>?_) (λ c109=>?_)
  ·exact nv c109
  ·refine El ?_
   refine aI ?_
   (refine aI ?_);(refine aI ?_);refine J81 ?_;(refine aI ?_);refine bX ?_;refine Ai ?_;refine aD (cM (hs:=xH k bx bm x dn rs) (os:=xW x) (hc:=λ w hs=>fS 0 (by decide) ok hs)) (λ x122 h122=>?_);refine cC ?_;refine Kc3 ?_;refine pE ?_
   refine bD (λ c125=>?_) (λ c125=>?_)
   ·refine dG ?_;refine iZ ?_;refine Kb8 ?_;refine aD (cM (hs:=xH k bx bm x dn rs) (os:=xW x) (hc:=λ w hs=>yC _ _ hs)) (λ x129 h129=>?_);refine pE ?_
    refine bD (λ c130=>?_) (λ c130=>?_)
    ·have g2:=g1.to (λ _=>if_neg (show ¬oO k false 0=true from by simpa using c130))
     refine jJ ?_;refine aN (cV (hc:=λ w1 hw=>gX _ _ w1)) (λ x133=>?_);refine Cr ?_
     refine aY Tryz.results224 (λ w hw=>?_)
     exact⟨(jW false 0,1,x,[]),rfl,⟨g2,ok,by simp,Nat.le_refl _,bL _⟩,hw.aX (hF:=by exact aV.nil)⟩
    ·have g2:=g1.to (λ _=>if_pos (show oO k false 0=true from by simpa using c130))
     refine rR ?_;refine J2 ?_;refine uP ?_;refine J1 ?_
     refine bD (λ c134=>?_) (λ c134=>?_)
     ·refine aS ?_
      refine dX [28,29,137,138,139,140,141,142,143,144,145] (λ z:Nat×(Int×XS×List aP)×(Option Addr×Nat)×Nd=>[(28,.pointer (some ⟨z.1,0,none⟩))]) (λ z=>Nx g x z.2.1.2.1 z.2.1.2.2 (.alloc (xd (aB x.L m).c (iA h (level:Int)) z.2.1.1) m λ r=>oS k.t i m r λ ok=>K (rX false 0) (if ok=true then 1 else 0)) z.2.1.1/\z.2.2.2=nD (Zt (aB x.L m) (iA h (level:Int)) z.2.1.1) z.2.2.1) (λ z=>[(z.1,.cells ⟨z.2.2.2.cells⟩ 47 (0,0)),(x23,.cells ⟨({Nd.zero with kind:=4,hash:=(h:Int),key:=k.key,val:=k.val}:Nd).cells⟩ 47 (0,0)),(x17,.cells ⟨(aB x.L m).nd.cells⟩ 47 (0,0)),(x14,.cells ⟨[.int .i64 k.t.root,.bool k.t.ro]⟩ 29 (0,0)),(x12,.cells ⟨Rs.zero.cells⟩ 64 (0,0)),(bx,xO k bm z.2.1.2.1 dn rs),(bm,xM z.2.1.2.1)]) (λ z=>(z.2.2.1.1,aH (mU (Zt (aB x.L m) (iA h (level:Int)) z.2.1.1)))::(aL z.2.1.2.2++[])) (λ z=>xW z.2.1.2.1) (by decide) (λ _=>by exact rfl) ?_ (λ z f hx=>?_)
      ·refine fR (.one 0 [] (.one 1 [] (.one 2 [] (.one 3 [] (.two 4 [0] (.two 5 [] (.one 6 [] (.one 7 [] (.one 8 [] (.one 9 [0,3] (.one 10 [] (.one 11 [] .nil)))))) 0 [] (.two 9 [0,3] (.one 5 [] (.one 6 [] (.one 7 [] (.one 8 [] (.one 10 [] (.one 11 [] .nil)))))) 0 [] .nil)) 0 [] (.two 9 [0,3] (.one 4 [0] (.one 5 [] (.one 6 [] (.one 7 [] (.one 8 [] (.one 10 [] (.one 11 [] .nil))))))) 0 [] .nil)))))) ?_
       refine Ka9 ?_;refine bO ?_
       refine fD (E:=[4,9]) (by decide +kernel) ((.cons ?_ (.cons ?_ .nil)))
       ·refine kC (i:=4) (hq:=(cM (hs:=xH k bx bm x dn rs) (os:=xW x) (A0:=[(none,aH []),(none,cZ [])]) (hc:=λ w hs=>hU hg (n:={Nd.zero with kind:=4,hash:=(h:Int),key:=k.key,val:=k.val}) (xs:=[]) (ys:=[]) 0 _ rfl rfl (by decide) (Nat.zero_le _) (Fp hh) (bL _) (g2) ok hs))) (h:=λ x142 h142=>?_)
        refine fD (E:=[5,9]) (by decide +kernel) ((.cons ?_ (.cons ?_ .nil)))
        ·refine kC (i:=5) (hq:=(cF (hc:=λ w1 hw=>Z4 (v:=(aB x.L m)) h48.2 (iA h (level:Int)) x142.1 (ok.sF hw hA m)))) (h:=λ x143 h143=>?_)
         refine aT ?_;refine cP (i:=7) (hq:=(bP rf rfl)) (h:=?_);refine cP (i:=8) (hq:=(bP rf rfl)) (h:=?_);refine gJ (h:=λ x28=>?_);refine yQ ?_
         refine eE ((x28,x142,x143,nD (Zt (aB x.L m) (iA h (level:Int)) x142.1) x143)) ?_ (hw1:=λ w hw=>hw.back (hF:=by exact aV.all))
         ·exact⟨h142,rfl⟩
        ·refine fI (i:=9) (h:=λ x28=>?_)
         refine bC (i:=5) (hq:=(cF (hc:=λ w1 hw=>Z4 (v:=(aB x.L m)) h48.2 (iA h (level:Int)) x142.1 (ok.sF hw hA m)))) (h:=λ x143 h143=>?_);refine aT ?_;refine cP (i:=7) (hq:=(bP rf rfl)) (h:=?_);refine cP (i:=8) (hq:=(bP rf rfl)) (h:=?_);refine yQ ?_
         refine eE ((x28,x142,x143,nD (Zt (aB x.L m) (iA h (level:Int)) x142.1) x143)) ?_ (hw1:=λ w hw=>hw.back (hF:=by exact aV.all))
         ·exact⟨h142,rfl⟩
       ·refine fI (i:=9) (h:=λ x28=>?_)
        refine bC (i:=4) (hq:=(cM (hs:=xH k bx bm x dn rs) (os:=xW x) (A0:=[(none,aH []),(none,cZ [])]) (hc:=λ w hs=>hU hg (n:={Nd.zero with kind:=4,hash:=(h:Int),key:=k.key,val:=k.val}) (xs:=[]) (ys:=[]) 0 _ rfl rfl (by decide) (Nat.zero_le _) (Fp hh) (bL _) (g2) ok hs))) (h:=λ x142 h142=>?_);refine bC (i:=5) (hq:=(cF (hc:=λ w1 hw=>Z4 (v:=(aB x.L m)) h48.2 (iA h (level:Int)) x142.1 (ok.sF hw hA m)))) (h:=λ x143 h143=>?_);refine aT ?_;refine cP (i:=7) (hq:=(bP rf rfl)) (h:=?_);refine cP (i:=8) (hq:=(bP rf rfl)) (h:=?_);refine yQ ?_
        refine eE ((x28,x142,x143,nD (Zt (aB x.L m) (iA h (level:Int)) x142.1) x143)) ?_ (hw1:=λ w hw=>hw.back (hF:=by exact aV.all))
        ·exact⟨h142,rfl⟩
      dsimp only[hX,List.map,List.cons_append,List.nil_append]
      obtain⟨hz,ez⟩:=hx
      have hlz:=hz.len
      have hB:=aA1 ((ok.nv m).mono (Nat.le_refl _) (Nat.le_refl _) |>.mono hlz hz.lc) hz.bd (iA h (level:Int))
      refine aS ?_;refine eG [(0,[]),(1,[]),(2,[]),(3,[]),(4,[]),(5,[]),(6,[]),(7,[]),(8,[2]),(9,[]),(10,[]),(11,[]),(12,[]),(13,[]),(14,[])] ?_;refine iF ?_;refine Ka9 ?_;refine aT ?_;refine bO ?_;refine aT ?_;refine bC (i:=8) (hq:=(cM (hs:=xH k bx bm z.2.1.2.1 dn rs) (os:=xW z.2.1.2.1) (A0:=[(z.2.2.2.brA,aH (mU (Zt (aB x.L m) (iA h (level:Int)) z.2.1.1))),(z.2.2.2.prA,cZ [])]) (hA:=by rw[ez];exact Sw) (hc:=λ w hs=>hU hg (n:=z.2.2.2) (xs:=mU (Zt (aB x.L m) (iA h (level:Int)) z.2.1.1)) (ys:=[]) m _ (by rw[ez];exact Ew _ _) (by rw[ez];exact Et _ _) hB.len (Nat.zero_le _) (by rw[ez];exact hB.nvB _) (by omega) (by rw[ez,<- aBF h48.2];exact hz.go) hz.ok hs))) (h:=λ x154 h154=>?_);refine bC (i:=9) (hq:=(cM (hs:=xH k bx bm x154.2.1 dn rs) (os:=xW x154.2.1) (hc:=λ w hs=>uK hg k.t i m x154.1 _ ht (by have:=h154.len;omega) h154.bd h154.go h154.ok hs))) (h:=λ x155 h155=>?_)
      have hch:=Ch.nx h155 (Ch.nx h154 (((Ch.base (F:=[])).nx hz).cons (f:=(z.2.2.1.1,aH (mU (Zt (aB x.L m) (iA h (level:Int)) z.2.1.1))))))
      have hlc:x.cs.length<=x155.2.1.cs.length:=by have:=hz.lc;have:=h154.lc;have:=h155.lc;omega
      refine cO (i:=10) (hq:=(cV (hc:=λ w1 hw=>pT _ _ _ _ w1))) (h:=λ x156=>?_);refine cP (i:=11) (hq:=(bP rf rfl)) (h:=?_);refine cP (i:=12) (hq:=(bP rf rfl)) (h:=?_);refine yQ ?_
      refine aY Tryz.results224 (λ w hw=>?_)
      obtain⟨N,hN,hf⟩:=hch.to (t':=K (rX false 0) (if x155.1=true then 1 else 0)) h155 (h155.go) hlc (bL _)
      exact⟨(rX false 0,(if x155.1=true then 1 else 0),x155.2.1,N),rfl,hN,(hw.eY hf).aX (hF:=by exact aV.all)⟩
     ·exact nv c134
   ·exact nv c125
set_option maxRecDepth 100000 in
theorem Yo(hg:g.Ok)(i m:Int){h:Nat}(hh:h<18446744073709551616)(level:Nat)(hlv:level<=1073741824)(gen:Int)(K:Rs->Int->Tr)(ht:k.t.root<=9223372036854775807)(hi:i<=x.L.length)(hm:m<=x.L.length)(hA:∀f∈aL x.L,f∈A)(hk:¬(aB x.L m).nd.kind=6){b:Int}(hl:mE (aB x.L m).c (iA h (level:Int))=some b)(hi2:(aB x.L b).nd.kind=2)(go:gD g x (mR k i m h level gen K))(ok:x.Ok)(hs:SF w D (xH k bx bm x dn rs) A [] (xW x) w):Calls Tryz.prog 224 #[.pointer (some ⟨bx,0,none⟩),.int .i64 i,.int .i64 m,.int .u64 (h:Int),.int .i64 (level:Int),.int .i64 gen] w (Zs g x K bx bm k dn rs D w):=by
 have hyl:=rF ok m
 have hlL:=ok.lL
 have hb:b<=x.L.length:=by have:=qK (ok.nv m) (iA h (level:Int));rw[hl] at this;exact this
 refine enter Tryz.func224 Tryz.ntmps224 rfl rfl (cD hs) ?_
 simp only[cA]
 refine J0 ?_;refine aJ (λ x12=>?_);refine iZ ?_;refine eG [(0,[]),(1,[]),(2,[]),(3,[]),(4,[]),(5,[]),(6,[]),(7,[]),(8,[]),(9,[]),(10,[]),(11,[]),(12,[]),(13,[]),(14,[]),(15,[4,9,14]),(16,[9,14]),(17,[14]),(18,[])] ?_;refine J9 ?_;refine aU ?_;refine bT (i:=4) (hq:=(aR (k:=2) (vs:=[.int .i64 k.t.root,.bool k.t.ro]) rf cY eF rfl rfl)) (h:=?_);refine yN ?_;refine yN ?_;refine gJ (hfire:=(λ _=>by((repeat (first|exact aK.nil|refine aK.cons (by first|exact fT (hq:=aR (k:=2) (vs:=[.int .i64 k.t.root,.bool k.t.ro]) rf cY eF rfl rfl)|exact eW) ?_));done))) (h:=λ x14=>?_);refine pM (h:=λ _=>?_);refine Tk ?_;refine jJ ?_;refine aD (cM (hs:=xH k bx bm x dn rs) (os:=xW x) (hc:=λ w hs=>cJ m _ hm go ok hs)) (λ x48 h48=>?_);refine aJ (λ x17=>?_);refine J5 ?_;refine Kc5 ?_
 refine bD (λ c51=>?_) (λ c51=>?_)
 ·exact absurd c51 hk
 ·have g0:=h48.1.to (λ _=>if_neg hk)
  have g1:=sW g0 (by rw[hl];rfl)
  rw[hl] at g1
  refine El ?_;refine aN (cV (hc:=λ w1 hw=>fH hh (level:Int) w1)) (λ x91=>?_);refine Ai ?_;refine aA ?_;refine bI ?_;refine aJ (λ x23=>?_);refine J5 ?_;refine Dg ?_;refine aN (cV (hc:=λ w1 hw=>Jv (v:=(aB x.L m)) h48.2 hl (ok.sF hw hA m))) (λ x99=>?_);refine aA ?_;refine aC (bP rf rfl) rfl ?_;refine aC (bP rf rfl) rfl ?_;refine J8 ?_;refine Db ?_
  (refine Ka3 ?_)
  ((refine Ka3 ?_));((refine aE ?_;refine aD (cM (hs:=xH k bx bm x dn rs) (os:=xW x) (hc:=λ w hs=>cJ b _ hb g1 ok hs)) (λ x106 h106=>?_)));refine J87 ?_;refine aG ?_
  refine bD (λ c109=>?_) (λ c109=>?_)
  ·have g2:=h106.1.to (λ _=>if_pos hi2)
   refine J0 ?_;refine bI ?_;refine Cr ?_
   refine aY Tryz.results224 (λ w hw=>?_)
   exact⟨(Rs.zero,2,x,[]),rfl,⟨g2,ok,by simp,Nat.le_refl _,bL _⟩,hw.aX (hF:=by exact aV.nil)⟩
  ·exact absurd hi2 c109
set_option maxRecDepth 100000 in
theorem Xo(hg:g.Ok)(i m:Int){h:Nat}(hh:h<18446744073709551616)(level:Nat)(hlv:level<=1073741824)(gen:Int)(K:Rs->Int->Tr)(ht:k.t.root<=9223372036854775807)(hi:i<=x.L.length)(hm:m<=x.L.length)(hA:∀f∈aL x.L,f∈A)(hk:¬(aB x.L m).nd.kind=6){b:Int}(hl:mE (aB x.L m).c (iA h (level:Int))=some b)(hi2:¬(aB x.L b).nd.kind=2)(he:(aB x.L b).nd.key=k.key)(go:gD g x (mR k i m h level gen K))(ok:x.Ok)(hs:SF w D (xH k bx bm x dn rs) A [] (xW x) w):Calls Tryz.prog 224 #[.pointer (some ⟨bx,0,none⟩),.int .i64 i,.int .i64 m,.int .u64 (h:Int),.int .i64 (level:Int),.int .i64 gen] w (Zs g x K bx bm k dn rs D w):=by
 have hyl:=rF ok m
 have hlL:=ok.lL
 have hb:b<=x.L.length:=by have:=qK (ok.nv m) (iA h (level:Int));rw[hl] at this;exact this
 refine enter Tryz.func224 Tryz.ntmps224 rfl rfl (cD hs) ?_
 simp only[cA]
 refine J0 ?_;refine aJ (λ x12=>?_);refine iZ ?_;refine eG [(0,[]),(1,[]),(2,[]),(3,[]),(4,[]),(5,[]),(6,[]),(7,[]),(8,[]),(9,[]),(10,[]),(11,[]),(12,[]),(13,[]),(14,[]),(15,[4,9,14]),(16,[9,14]),(17,[14]),(18,[])] ?_;refine J9 ?_;refine aU ?_;refine bT (i:=4) (hq:=(aR (k:=2) (vs:=[.int .i64 k.t.root,.bool k.t.ro]) rf cY eF rfl rfl)) (h:=?_);refine yN ?_;refine yN ?_;refine gJ (hfire:=(λ _=>by((repeat (first|exact aK.nil|refine aK.cons (by first|exact fT (hq:=aR (k:=2) (vs:=[.int .i64 k.t.root,.bool k.t.ro]) rf cY eF rfl rfl)|exact eW) ?_));done))) (h:=λ x14=>?_);refine pM (h:=λ _=>?_);refine Tk ?_;refine jJ ?_;refine aD (cM (hs:=xH k bx bm x dn rs) (os:=xW x) (hc:=λ w hs=>cJ m _ hm go ok hs)) (λ x48 h48=>?_);refine aJ (λ x17=>?_);refine J5 ?_;refine Kc5 ?_
 refine bD (λ c51=>?_) (λ c51=>?_)
 ·exact absurd c51 hk
 ·have g0:=h48.1.to (λ _=>if_neg hk)
  have g1:=sW g0 (by rw[hl];rfl)
  rw[hl] at g1
  refine El ?_;refine aN (cV (hc:=λ w1 hw=>fH hh (level:Int) w1)) (λ x91=>?_);refine Ai ?_;refine aA ?_;refine bI ?_;refine aJ (λ x23=>?_);refine J5 ?_;refine Dg ?_;refine aN (cV (hc:=λ w1 hw=>Jv (v:=(aB x.L m)) h48.2 hl (ok.sF hw hA m))) (λ x99=>?_);refine aA ?_;refine aC (bP rf rfl) rfl ?_;refine aC (bP rf rfl) rfl ?_;refine J8 ?_;refine Db ?_
  (refine Ka3 ?_)
  ((refine Ka3 ?_));((refine aE ?_;refine aD (cM (hs:=xH k bx bm x dn rs) (os:=xW x) (hc:=λ w hs=>cJ b _ hb g1 ok hs)) (λ x106 h106=>?_)));refine J87 ?_;refine aG ?_
  refine bD (λ c109=>?_) (λ c109=>?_)
  ·exact absurd c109 hi2
  ·have g3:=(h106.1.to (λ _=>if_neg hi2)).to (λ _=>if_pos he)
   refine El ?_
   (refine Ka3 ?_)
   ((refine Ka3 ?_));((refine aE ?_;refine aD (cM (hs:=xH k bx bm x dn rs) (os:=xW x) (hc:=λ w hs=>fS b (by omega) ok hs)) (λ x115 h115=>?_)));refine J81 ?_;((refine aE ?_;refine aC (uk rf rf he) rfl ?_));refine bX ?_;refine Ai ?_;refine aD (cM (hs:=xH k bx bm x dn rs) (os:=xW x) (hc:=λ w hs=>fS b (by omega) ok hs)) (λ x122 h122=>?_);refine cC ?_;refine Kc3 ?_;refine pE ?_
   refine bD (λ c125=>?_) (λ c125=>?_)
   ·exact nv c125
   ·refine kO ?_;refine Kb8 ?_;refine aD (cM (hs:=xH k bx bm x dn rs) (os:=xW x) (hc:=λ w hs=>yC _ _ hs)) (λ x129 h129=>?_);refine pE ?_
    refine bD (λ c130=>?_) (λ c130=>?_)
    ·have g2:=g3.to (λ _=>if_neg (show ¬oO k true (aB x.L b).nd.val=true from by simpa using c130))
     refine jJ ?_;refine aN (cV (hc:=λ w1 hw=>gX _ _ w1)) (λ x133=>?_);refine Cr ?_
     refine aY Tryz.results224 (λ w hw=>?_)
     exact⟨(jW true (aB x.L b).nd.val,1,x,[]),rfl,⟨g2,ok,by simp,Nat.le_refl _,bL _⟩,hw.aX (hF:=by exact aV.nil)⟩
    ·have g2:=g3.to (λ _=>if_pos (show oO k true (aB x.L b).nd.val=true from by simpa using c130))
     refine rR ?_;refine J2 ?_;refine uP ?_;refine J1 ?_
     refine bD (λ c134=>?_) (λ c134=>?_)
     ·exact nv c134
     ·refine Ka5 ?_
      refine bD (λ c159=>?_) (λ c159=>?_)
      ·refine aS ?_;refine eG [(0,[]),(1,[]),(2,[]),(3,[]),(4,[]),(5,[]),(6,[]),(7,[]),(8,[]),(9,[]),(13,[]),(10,[2]),(11,[2]),(12,[]),(14,[]),(15,[]),(16,[]),(17,[]),(18,[])] ?_;refine iF ?_;refine Ka9 ?_;refine iF ?_;refine iF ?_;refine bO ?_;refine aT ?_;refine bC (i:=10) (hq:=(cM (hs:=xH k bx bm x dn rs) (os:=xW x) (A0:=[(none,aH []),(none,cZ [])]) (hc:=λ w hs=>hU hg (n:={Nd.zero with kind:=4,hash:=(h:Int),key:=k.key,val:=k.val}) (xs:=[]) (ys:=[]) 0 _ rfl rfl (by decide) (Nat.zero_le _) (Fp hh) (bL _) (g2) ok hs))) (h:=λ x171 h171=>?_)
       have hch:=(Ch.base (F:=[])).nx h171
       refine bC (i:=11) (hq:=(cM (hs:=xH k bx bm x171.2.1 dn rs) (os:=xW x171.2.1) (A0:=aL x171.2.1.L) (hA:=Ch.all hch hA) (hc:=λ w hs=>C5 hg m (iA h (level:Int)) x171.1 _ (by have:=h171.len;omega) h171.bd (λ f hf=>hf) h171.go h171.ok hs))) (h:=λ x172 h172=>?_);refine bC (i:=12) (hq:=(cM (hs:=xH k bx bm x172.2.1 dn rs) (os:=xW x172.2.1) (hc:=λ w hs=>uK hg k.t i m x172.1 _ ht (by have:=h171.len;have:=h172.len;omega) h172.bd h172.go h172.ok hs))) (h:=λ x173 h173=>?_)
       have hch2:=Ch.nx h173 (Ch.nx h172 hch)
       have hlc:x.cs.length<=x173.2.1.cs.length:=by have:=h171.lc;have:=h172.lc;have:=h173.lc;omega
       refine cO (i:=14) (hq:=(cV (hc:=λ w1 hw=>pT _ _ _ _ w1))) (h:=λ x175=>?_);refine cP (i:=15) (hq:=(bP rf rfl)) (h:=?_);refine cP (i:=16) (hq:=(bP rf rfl)) (h:=?_);refine yQ ?_
       refine aY Tryz.results224 (λ w hw=>?_)
       obtain⟨N,hN,hf⟩:=hch2.to (t':=K (rX true (aB x.L b).nd.val) (if x173.1=true then 1 else 0)) h173 (h173.go) hlc (bL _)
       exact⟨(rX true (aB x.L b).nd.val,(if x173.1=true then 1 else 0),x173.2.1,N),rfl,hN,(hw.eY hf).aX (hF:=by exact aV.all)⟩
      ·exact nv c159
set_option maxRecDepth 100000 in
theorem Yg(hg:g.Ok)(i m:Int){h:Nat}(hh:h<18446744073709551616)(level:Nat)(hlv:level<=1073741824)(gen:Int)(K:Rs->Int->Tr)(ht:k.t.root<=9223372036854775807)(hi:i<=x.L.length)(hm:m<=x.L.length)(hA:∀f∈aL x.L,f∈A)(hk:¬(aB x.L m).nd.kind=6){b:Int}(hl:mE (aB x.L m).c (iA h (level:Int))=some b)(hi2:¬(aB x.L b).nd.kind=2)(he:¬(aB x.L b).nd.key=k.key)(go:gD g x (mR k i m h level gen K))(ok:x.Ok)(hs:SF w D (xH k bx bm x dn rs) A [] (xW x) w):Calls Tryz.prog 224 #[.pointer (some ⟨bx,0,none⟩),.int .i64 i,.int .i64 m,.int .u64 (h:Int),.int .i64 (level:Int),.int .i64 gen] w (Zs g x K bx bm k dn rs D w):=by
 have hyl:=rF ok m
 have hlL:=ok.lL
 have hb:b<=x.L.length:=by have:=qK (ok.nv m) (iA h (level:Int));rw[hl] at this;exact this
 refine enter Tryz.func224 Tryz.ntmps224 rfl rfl (cD hs) ?_
 simp only[cA]
 refine J0 ?_;refine aJ (λ x12=>?_);refine iZ ?_;refine eG [(0,[]),(1,[]),(2,[]),(3,[]),(4,[]),(5,[]),(6,[]),(7,[]),(8,[]),(9,[]),(10,[]),(11,[]),(12,[]),(13,[]),(14,[]),(15,[4,9,14]),(16,[9,14]),(17,[14]),(18,[])] ?_;refine J9 ?_;refine aU ?_;refine bT (i:=4) (hq:=(aR (k:=2) (vs:=[.int .i64 k.t.root,.bool k.t.ro]) rf cY eF rfl rfl)) (h:=?_);refine yN ?_;refine yN ?_;refine gJ (hfire:=(λ _=>by((repeat (first|exact aK.nil|refine aK.cons (by first|exact fT (hq:=aR (k:=2) (vs:=[.int .i64 k.t.root,.bool k.t.ro]) rf cY eF rfl rfl)|exact eW) ?_));done))) (h:=λ x14=>?_);refine pM (h:=λ _=>?_);refine Tk ?_;refine jJ ?_;refine aD (cM (hs:=xH k bx bm x dn rs) (os:=xW x) (hc:=λ w hs=>cJ m _ hm go ok hs)) (λ x48 h48=>?_);refine aJ (λ x17=>?_);refine J5 ?_;refine Kc5 ?_
 refine bD (λ c51=>?_) (λ c51=>?_)
 ·exact absurd c51 hk
 ·have g0:=h48.1.to (λ _=>if_neg hk)
  have g1:=sW g0 (by rw[hl];rfl)
  rw[hl] at g1
  refine El ?_;refine aN (cV (hc:=λ w1 hw=>fH hh (level:Int) w1)) (λ x91=>?_);refine Ai ?_;refine aA ?_;refine bI ?_;refine aJ (λ x23=>?_);refine J5 ?_;refine Dg ?_;refine aN (cV (hc:=λ w1 hw=>Jv (v:=(aB x.L m)) h48.2 hl (ok.sF hw hA m))) (λ x99=>?_);refine aA ?_;refine aC (bP rf rfl) rfl ?_;refine aC (bP rf rfl) rfl ?_;refine J8 ?_;refine Db ?_
  (refine Ka3 ?_)
  ((refine Ka3 ?_));((refine aE ?_;refine aD (cM (hs:=xH k bx bm x dn rs) (os:=xW x) (hc:=λ w hs=>cJ b _ hb g1 ok hs)) (λ x106 h106=>?_)));refine J87 ?_;refine aG ?_
  refine bD (λ c109=>?_) (λ c109=>?_)
  ·exact absurd c109 hi2
  ·have g3:=(h106.1.to (λ _=>if_neg hi2)).to (λ _=>if_neg he)
   refine El ?_
   (refine Ka3 ?_)
   ((refine Ka3 ?_));((refine aE ?_;refine aD (cM (hs:=xH k bx bm x dn rs) (os:=xW x) (hc:=λ w hs=>fS b (by omega) ok hs)) (λ x115 h115=>?_)));refine J81 ?_;((refine aE ?_;refine aC (r4 rf rf he) rfl ?_));refine bX ?_;refine Ai ?_;refine aD (cM (hs:=xH k bx bm x dn rs) (os:=xW x) (hc:=λ w hs=>fS b (by omega) ok hs)) (λ x122 h122=>?_);refine cC ?_;refine Kc3 ?_;refine pE ?_
   refine bD (λ c125=>?_) (λ c125=>?_)
   ·refine dG ?_;refine iZ ?_;refine Kb8 ?_;refine aD (cM (hs:=xH k bx bm x dn rs) (os:=xW x) (hc:=λ w hs=>yC _ _ hs)) (λ x129 h129=>?_);refine pE ?_
    refine bD (λ c130=>?_) (λ c130=>?_)
    ·have g2:=g3.to (λ _=>if_neg (show ¬oO k false 0=true from by simpa using c130))
     refine jJ ?_;refine aN (cV (hc:=λ w1 hw=>gX _ _ w1)) (λ x133=>?_);refine Cr ?_
     refine aY Tryz.results224 (λ w hw=>?_)
     exact⟨(jW false 0,1,x,[]),rfl,⟨g2,ok,by simp,Nat.le_refl _,bL _⟩,hw.aX (hF:=by exact aV.nil)⟩
    ·have g2:=g3.to (λ _=>if_pos (show oO k false 0=true from by simpa using c130))
     refine rR ?_;refine J2 ?_;refine uP ?_;refine J1 ?_
     refine bD (λ c134=>?_) (λ c134=>?_)
     ·exact nv c134
     ·refine Ka5 ?_
      refine bD (λ c159=>?_) (λ c159=>?_)
      ·exact nv c159
      ·refine pG ?_;refine jJ ?_;refine bI ?_;refine pV ?_;refine pV ?_;refine H7 ?_;refine aA ?_;refine aD (cM (hs:=xH k bx bm x dn rs) (os:=xW x) (hc:=λ w hs=>aAD hg b hh (level+1) gen _ hb g2 ok hs)) (λ x187 h187=>?_);refine aD (cM (hs:=xH k bx bm x187.2.1 dn rs) (os:=xW x187.2.1) (A0:=[(none,aH []),(none,cZ [])]) (hc:=λ w hs=>hU hg (n:={Nd.zero with kind:=2,gen:=gen}) (xs:=[]) (ys:=[]) x187.1 _ rfl rfl (by decide) (Nat.zero_le _) sI h187.bd h187.go h187.ok hs)) (λ x188 h188=>?_)
       have hch:=Ch.nx h188 ((Ch.base (F:=[])).nx h187)
       refine iZ ?_;refine eG [(0,[]),(1,[]),(2,[]),(3,[]),(4,[]),(5,[]),(6,[]),(7,[]),(8,[]),(9,[2]),(10,[]),(11,[]),(12,[]),(13,[]),(14,[]),(15,[])] ?_;refine iF ?_;refine Ka9 ?_;refine iF ?_;refine iF ?_;refine bC (i:=9) (hq:=(cM (hs:=xH k bx bm x188.2.1 dn rs) (os:=xW x188.2.1) (A0:=aL x188.2.1.L) (hA:=Ch.all hch hA) (hc:=λ w hs=>C5 hg m (iA h (level:Int)) x188.1 _ (by have:=h187.len;have:=h188.len;omega) h188.bd (λ f hf=>hf) h188.go h188.ok hs))) (h:=λ x198 h198=>?_);refine bC (i:=10) (hq:=(cM (hs:=xH k bx bm x198.2.1 dn rs) (os:=xW x198.2.1) (hc:=λ w hs=>uK hg k.t i m x198.1 _ ht (by have:=h187.len;have:=h188.len;have:=h198.len;omega) h198.bd h198.go h198.ok hs))) (h:=λ x199 h199=>?_)
       have hch2:=Ch.nx h199 (Ch.nx h198 hch)
       have hlc:x.cs.length<=x199.2.1.cs.length:=by have:=h187.lc;have:=h188.lc;have:=h198.lc;have:=h199.lc;omega
       refine cO (i:=11) (hq:=(cV (hc:=λ w1 hw=>pT _ _ _ _ w1))) (h:=λ x200=>?_);refine cP (i:=12) (hq:=(bP rf rfl)) (h:=?_);refine cP (i:=13) (hq:=(bP rf rfl)) (h:=?_);refine yQ ?_
       refine aY Tryz.results224 (λ w hw=>?_)
       obtain⟨N,hN,hf⟩:=hch2.to (t':=K (rX false 0) (if x199.1=true then 1 else 0)) h199 (h199.go) hlc (bL _)
       exact⟨(rX false 0,(if x199.1=true then 1 else 0),x199.2.1,N),rfl,hN,(hw.eY hf).aX (hF:=by exact aV.all)⟩
   ·exact nv c125
theorem Zl(hg:g.Ok)(i m:Int){h:Nat}(hh:h<18446744073709551616)(level:Nat)(hlv:level<=1073741824)(gen:Int)(K:Rs->Int->Tr)(ht:k.t.root<=9223372036854775807)(hi:i<=x.L.length)(hm:m<=x.L.length)(hA:∀f∈aL x.L,f∈A)(go:gD g x (mR k i m h level gen K))(ok:x.Ok)(hs:SF w D (xH k bx bm x dn rs) A [] (xW x) w):Calls Tryz.prog 224 #[.pointer (some ⟨bx,0,none⟩),.int .i64 i,.int .i64 m,.int .u64 (h:Int),.int .i64 (level:Int),.int .i64 gen] w (Zs g x K bx bm k dn rs D w):=by
 by_cases hk:(aB x.L m).nd.kind=6
 ·exact Zd hg i m hh level hlv gen K ht hi hm hA hk go ok hs
 ·cases hl:mE (aB x.L m).c (iA h (level:Int)) with
  | none=>exact Xq hg i m hh level hlv gen K ht hi hm hA hk hl go ok hs
  | some b =>
   by_cases hi2:(aB x.L b).nd.kind=2
   ·exact Yo hg i m hh level hlv gen K ht hi hm hA hk hl hi2 go ok hs
   ·by_cases he:(aB x.L b).nd.key=k.key
    ·exact Xo hg i m hh level hlv gen K ht hi hm hA hk hl hi2 he go ok hs
    ·exact Yg hg i m hh level hlv gen K ht hi hm hA hk hl hi2 he go ok hs
end
end Go.Proofs.YtbajmaoegmbfgaaGreat

/- Executions of the reference: one attempt of PUT at a leaf. -/
import Derived.Test.YtbajmaoegmbfgaaGreatGEx14
set_option linter.unusedSimpArgs false
set_option linter.unusedVariables false
namespace Go.Ct
open Go Go.RowKit
theorem rz{a b:ByteArray}(h:a=b):(a.toList==b.toList)=true:=by subst h;simp
theorem tz{a b:ByteArray}(h:¬a=b):(a.toList==b.toList)=false:=by
 rw[beq_eq_false_iff_ne]
 exact λ e=>h (toList_inj e)
section
variable{P:Program}{S:List (Nat×Value)}{G:World->Prop}{d:Nat}{ty t t':TypeId}{pos:String}{af:Array Edge}{gd:Option (Nat×Bool)}{x y:Operand}{a b:ByteArray}
theorem mz(hx:ev S x=.string a)(hy:ev S y=.string b)(h:a=b):aL P S G ⟨some d,.binOp .eql t x y t',ty,pos,af,gd⟩ (.bool true):=by
 have:=F9 (P:=P) (G:=G) (d:=d) (ty:=ty) (pos:=pos) (af:=af) (gd:=gd) (t:=t) (t':=t') hx hy
 rwa [rz h] at this
theorem p8(hx:ev S x=.string a)(hy:ev S y=.string b)(h:¬a=b):aL P S G ⟨some d,.binOp .eql t x y t',ty,pos,af,gd⟩ (.bool false):=by
 have:=F9 (P:=P) (G:=G) (d:=d) (ty:=ty) (pos:=pos) (af:=af) (gd:=gd) (t:=t) (t':=t') hx hy
 rwa [tz h] at this
end
end Go.Ct
namespace Go.Proofs.YtbajmaoegmbfgaaGreat
open Go Go.RowKit Go.Ct
section
variable{v:aP}{n c:Nat}{w:World}
theorem Ip(h:lQ n c v.c){i b:Int}(e:lT v.c i=some b)(hr:rX w v.nd v.xs v.ys):Calls Tryz.prog 216 #[v.nd.v,.int .i64 i] w λ e w'=>e=.returned (.tuple #[.int .i64 b,.bool true])/\St w [] [] w':=by
 have:=Iz h i hr
 rwa [e] at this
theorem tv(h:lQ n c v.c){i:Int}(e:lT v.c i=none)(hr:rX w v.nd v.xs v.ys):Calls Tryz.prog 216 #[v.nd.v,.int .i64 i] w λ e w'=>e=.returned (.tuple #[.int .i64 0,.bool false])/\St w [] [] w':=by
 have:=Iz h i hr
 rwa [e] at this
end
section
variable{k:Cl}{bx bm:Nat}{x:XS}{dn:Bool}{rs:Rs}{D:List Nat}{A:Fr}{w:World}{g:Gx}
abbrev Yb(g:Gx)(x:XS)(K:Rs->Int->Tr)(bx bm:Nat)(k:Cl)(dn:Bool)(rs:Rs)(D:List Nat)(w:World)(e:Ending)(w':World):Prop:=∃q:Rs×Int×XS×List aP,e=.returned (.tuple #[.agg ⟨q.1.cells⟩,.int .i64 q.2.1])/\Nx g x q.2.2.1 q.2.2.2 (K q.1 q.2.1) 0/\SF w D (xH k bx bm q.2.2.1 dn rs) [] (aM q.2.2.2) (xW q.2.2.1) w'
set_option maxRecDepth 100000 in
theorem Xi(hg:g.Ok)(i m:Int){h:Nat}(hh:h<18446744073709551616)(level:Nat)(hlv:level<=1073741824)(gen:Int)(K:Rs->Int->Tr)(ht:k.t.root<=9223372036854775807)(hi:i<=x.L.length)(hm:m<=x.L.length)(hA:∀f∈aM x.L,f∈A)(hk:(aB x.L m).nd.kind=6)(go:fV g x (lV k i m h level gen K))(ok:x.Ok)(hs:SF w D (xH k bx bm x dn rs) A [] (xW x) w):Calls Tryz.prog 224 #[.pointer (some ⟨bx,0,none⟩),.int .i64 i,.int .i64 m,.int .u64 (h:Int),.int .i64 (level:Int),.int .i64 gen] w (Yb g x K bx bm k dn rs D w):=by
 have hyl:=qY ok m
 have hlL:=ok.lL
 refine enter Tryz.func224 Tryz.ntmps224 rfl rfl (cA hs) ?_
 simp only[cD]
 refine J0 ?_;refine aJ (λ x12=>?_);refine iO ?_;refine dZ [(0,[]),(1,[]),(2,[]),(3,[]),(4,[]),(5,[]),(6,[]),(7,[]),(8,[]),(9,[]),(10,[]),(11,[]),(12,[]),(13,[]),(14,[]),(15,[4,9,14]),(16,[9,14]),(17,[14]),(18,[])] ?_;refine J9 ?_;refine aU ?_;refine bU (i:=4) (hq:=(aR (k:=2) (vs:=[.int .i64 k.t.root,.bool k.t.ro]) rf cX eP rfl rfl)) (h:=?_);refine xP ?_;refine xP ?_;refine gY (hfire:=(λ _=>by((repeat (first|exact aK.nil|refine aK.cons (by first|exact fK (hq:=aR (k:=2) (vs:=[.int .i64 k.t.root,.bool k.t.ro]) rf cX eP rfl rfl)|exact eT) ?_));done))) (h:=λ x14=>?_);refine lX (h:=λ _=>?_);refine Qp ?_;refine jA ?_;refine aD (cM (hs:=xH k bx bm x dn rs) (os:=xW x) (hc:=λ w hs=>cG m _ hm go ok hs)) (λ x48 h48=>?_);refine aJ (λ x17=>?_);refine J5 ?_;refine Cx ?_;refine sH ?_
 refine aZ (λ c51=>?_) (λ c51=>?_)
 ·have g1:=h48.1.to (λ _=>if_pos hk)
  refine hZ ?_;refine aA ?_;refine aN (cV (hc:=λ w1 hw=>Kj (v:=(aB x.L m)) (n:=0) k.key (ok.rQ hw hA m) (ok.ysl m))) (λ x56=>?_);refine aA ?_;refine aC (bQ rf rfl) rfl ?_;refine aC (bQ rf rfl) rfl ?_;refine J8 ?_;refine A6 ?_;refine aA ?_;refine aD (cM (hs:=xH k bx bm x dn rs) (os:=xW x) (hc:=λ w hs=>xA _ _ hs)) (λ x62 h62=>?_);refine oU ?_
  refine aZ (λ c63=>?_) (λ c63=>?_)
  ·have g2:=g1.to (λ _=>if_neg (show ¬oA k (dO (aB x.L m).c.ys k.key).isSome ((dO (aB x.L m).c.ys k.key).getD 0)=true from by simpa using c63))
   refine jA ?_;refine aN (cV (hc:=λ w1 hw=>gN _ _ w1)) (λ x66=>?_);refine Bi ?_
   refine aY Tryz.results224 (λ w hw=>?_)
   exact⟨(jQ (dO (aB x.L m).c.ys k.key).isSome ((dO (aB x.L m).c.ys k.key).getD 0),1,x,[]),rfl,⟨g2,ok,by simp,Nat.le_refl _,bI _⟩,hw.aV (hF:=by exact aW.nil)⟩
  ·have g2:=g1.to (λ _=>if_pos (show oA k (dO (aB x.L m).c.ys k.key).isSome ((dO (aB x.L m).c.ys k.key).getD 0)=true from by simpa using c63))
   refine aX ?_;refine oC ?_;refine pD ?_;refine aD (cF (hc:=λ w1 hw=>z8 (v:=(aB x.L m)) h48.2 k.key k.val (ok.rQ hw hA m) (by omega))) (λ x71 h71=>?_);refine aA ?_;refine aC (bQ rf rfl) rfl ?_;refine aC (bQ rf rfl) rfl ?_;refine aJ (λ x20=>?_);refine iV (λ _=>?_);refine iO ?_;refine dZ [(0,[]),(1,[]),(2,[]),(3,[]),(4,[]),(5,[]),(6,[]),(7,[]),(10,[]),(11,[]),(8,[2]),(9,[]),(12,[]),(13,[]),(14,[]),(15,[]),(16,[])] ?_;refine gV ?_;refine bN ?_;refine gV ?_;refine aT ?_;refine bN ?_;refine gV ?_;refine aT ?_;refine bB (i:=8) (hq:=(cM (hs:=xH k bx bm x dn rs) (os:=xW x) (A0:=[((dk (kR (aB x.L m).nd (aB x.L m).xs (aB x.L m).ys k.key k.val) (aB x.L m).nd.hash x71).brA,aG []),((dk (kR (aB x.L m).nd (aB x.L m).xs (aB x.L m).ys k.key k.val) (aB x.L m).nd.hash x71).prA,cR (Ya (kR (aB x.L m).nd (aB x.L m).xs (aB x.L m).ys k.key k.val)))]) (hA:=aAW) (hc:=λ w hs=>gQ hg (n:=dk (kR (aB x.L m).nd (aB x.L m).xs (aB x.L m).ys k.key k.val) (aB x.L m).nd.hash x71) (xs:=[]) (ys:=Ya (kR (aB x.L m).nd (aB x.L m).xs (aB x.L m).ys k.key k.val)) m _ (je _ _ _).1 (je _ _ _).2 (by decide) (by have:=uz (aB x.L m).xs (aB x.L m).ys (aB x.L m).nd k.key k.val;omega) (um _ h48.2.hash) hm (by rw[aBt];exact g2) ok hs))) (h:=λ x82 h82=>?_);refine bB (i:=9) (hq:=(cM (hs:=xH k bx bm x82.2.1 dn rs) (os:=xW x82.2.1) (hc:=λ w hs=>tJ hg k.t i m x82.1 _ ht (by have:=h82.len;omega) h82.bd h82.go h82.ok hs))) (h:=λ x83 h83=>?_)
   have hch:=Ch.nx h83 (Ch.nx h82 ((Ch.base (F:=[])).cons (f:=(x71.1,cR (Ya (kR (aB x.L m).nd (aB x.L m).xs (aB x.L m).ys k.key k.val))))))
   have hlc:x.cs.length<=x83.2.1.cs.length:=by have:=h82.lc;have:=h83.lc;omega
   refine cL (i:=12) (hq:=(cV (hc:=λ w1 hw=>oY _ _ _ _ w1))) (h:=λ x86=>?_);refine cI (i:=13) (hq:=(bQ rf rfl)) (h:=?_);refine cI (i:=14) (hq:=(bQ rf rfl)) (h:=?_);refine A1 ?_
   refine aY Tryz.results224 (λ w hw=>?_)
   obtain⟨N,hN,hf⟩:=hch.to (t':=K (sA (dO (aB x.L m).c.ys k.key).isSome ((dO (aB x.L m).c.ys k.key).getD 0)) (if x83.1=true then 1 else 0)) h83 (h83.go) hlc (bI _)
   exact⟨(sA (dO (aB x.L m).c.ys k.key).isSome ((dO (aB x.L m).c.ys k.key).getD 0),(if x83.1=true then 1 else 0),x83.2.1,N),rfl,hN,(hw.eU hf).aV (hF:=by exact aW.all)⟩
 ·exact absurd hk c51
set_option maxRecDepth 100000 in
theorem Wp(hg:g.Ok)(i m:Int){h:Nat}(hh:h<18446744073709551616)(level:Nat)(hlv:level<=1073741824)(gen:Int)(K:Rs->Int->Tr)(ht:k.t.root<=9223372036854775807)(hi:i<=x.L.length)(hm:m<=x.L.length)(hA:∀f∈aM x.L,f∈A)(hk:¬(aB x.L m).nd.kind=6)(hl:lT (aB x.L m).c (gS h (level:Int))=none)(go:fV g x (lV k i m h level gen K))(ok:x.Ok)(hs:SF w D (xH k bx bm x dn rs) A [] (xW x) w):Calls Tryz.prog 224 #[.pointer (some ⟨bx,0,none⟩),.int .i64 i,.int .i64 m,.int .u64 (h:Int),.int .i64 (level:Int),.int .i64 gen] w (Yb g x K bx bm k dn rs D w):=by
 have hyl:=qY ok m
 have hlL:=ok.lL
 refine enter Tryz.func224 Tryz.ntmps224 rfl rfl (cA hs) ?_
 simp only[cD]
 refine J0 ?_;refine aJ (λ x12=>?_);refine iO ?_;refine dZ [(0,[]),(1,[]),(2,[]),(3,[]),(4,[]),(5,[]),(6,[]),(7,[]),(8,[]),(9,[]),(10,[]),(11,[]),(12,[]),(13,[]),(14,[]),(15,[4,9,14]),(16,[9,14]),(17,[14]),(18,[])] ?_;refine J9 ?_;refine aU ?_;refine bU (i:=4) (hq:=(aR (k:=2) (vs:=[.int .i64 k.t.root,.bool k.t.ro]) rf cX eP rfl rfl)) (h:=?_);refine xP ?_;refine xP ?_;refine gY (hfire:=(λ _=>by((repeat (first|exact aK.nil|refine aK.cons (by first|exact fK (hq:=aR (k:=2) (vs:=[.int .i64 k.t.root,.bool k.t.ro]) rf cX eP rfl rfl)|exact eT) ?_));done))) (h:=λ x14=>?_);refine lX (h:=λ _=>?_);refine Qp ?_;refine jA ?_;refine aD (cM (hs:=xH k bx bm x dn rs) (os:=xW x) (hc:=λ w hs=>cG m _ hm go ok hs)) (λ x48 h48=>?_);refine aJ (λ x17=>?_);refine J5 ?_;refine Cx ?_;refine sH ?_
 refine aZ (λ c51=>?_) (λ c51=>?_)
 ·exact absurd c51 hk
 ·have g0:=h48.1.to (λ _=>if_neg hk)
  have g1:=Kn g0 (by rw[hl];rfl)
  refine C6 ?_;refine aN (cV (hc:=λ w1 hw=>fA hh (level:Int) w1)) (λ x91=>?_);refine zI ?_;refine aA ?_;refine bM ?_;refine aJ (λ x23=>?_);refine J5 ?_;refine Dy ?_;refine aN (cV (hc:=λ w1 hw=>tv (v:=(aB x.L m)) h48.2 hl (ok.rQ hw hA m))) (λ x99=>?_);refine aA ?_;refine aC (bQ rf rfl) rfl ?_;refine aC (bQ rf rfl) rfl ?_;refine J8 ?_;refine A6 ?_
  refine aI ?_
  (refine aI ?_);(refine aI ?_);refine yz ?_;refine aH ?_
  refine aZ (λ c109=>?_) (λ c109=>?_)
  ·exact nv c109
  ·refine C6 ?_
   refine aI ?_
   (refine aI ?_);(refine aI ?_);refine J81 ?_;(refine aI ?_);refine bY ?_;refine zI ?_;refine aD (cM (hs:=xH k bx bm x dn rs) (os:=xW x) (hc:=λ w hs=>fH 0 (by decide) ok hs)) (λ x122 h122=>?_);refine bZ ?_;refine iO ?_;refine J2 ?_;refine oU ?_
   refine aZ (λ c125=>?_) (λ c125=>?_)
   ·refine dI ?_;refine iO ?_;refine jA ?_;refine aA ?_;refine aD (cM (hs:=xH k bx bm x dn rs) (os:=xW x) (hc:=λ w hs=>xA _ _ hs)) (λ x129 h129=>?_);refine oU ?_
    refine aZ (λ c130=>?_) (λ c130=>?_)
    ·have g2:=g1.to (λ _=>if_neg (show ¬oA k false 0=true from by simpa using c130))
     refine jA ?_;refine aN (cV (hc:=λ w1 hw=>gN _ _ w1)) (λ x133=>?_);refine Bi ?_
     refine aY Tryz.results224 (λ w hw=>?_)
     exact⟨(jQ false 0,1,x,[]),rfl,⟨g2,ok,by simp,Nat.le_refl _,bI _⟩,hw.aV (hF:=by exact aW.nil)⟩
    ·have g2:=g1.to (λ _=>if_pos (show oA k false 0=true from by simpa using c130))
     refine rR ?_;refine J2 ?_;refine tS ?_;refine J1 ?_
     refine aZ (λ c134=>?_) (λ c134=>?_)
     ·refine aS ?_
      refine eQ [28,29,137,138,139,140,141,142,143,144,145] (λ z:Nat×(Int×XS×List aP)×(Option Addr×Nat)×Nd=>[(28,.pointer (some ⟨z.1,0,none⟩))]) (λ z=>Nx g x z.2.1.2.1 z.2.1.2.2 (.alloc (wz (aB x.L m).c (gS h (level:Int)) z.2.1.1) m λ r=>jD k.t i m r λ ok=>K (sA false 0) (if ok=true then 1 else 0)) z.2.1.1/\z.2.2.2=mK (X9 (aB x.L m) (gS h (level:Int)) z.2.1.1) z.2.2.1) (λ z=>[(z.1,.cells ⟨z.2.2.2.cells⟩ 47 (0,0)),(x23,.cells ⟨({Nd.zero with kind:=4,hash:=(h:Int),key:=k.key,val:=k.val}:Nd).cells⟩ 47 (0,0)),(x17,.cells ⟨(aB x.L m).nd.cells⟩ 47 (0,0)),(x14,.cells ⟨[.int .i64 k.t.root,.bool k.t.ro]⟩ 29 (0,0)),(x12,.cells ⟨Rs.zero.cells⟩ 64 (0,0)),(bx,xO k bm z.2.1.2.1 dn rs),(bm,xM z.2.1.2.1)]) (λ z=>(z.2.2.1.1,aG (mC (X9 (aB x.L m) (gS h (level:Int)) z.2.1.1)))::(aM z.2.1.2.2++[])) (λ z=>xW z.2.1.2.1) (by decide) (λ _=>by exact rfl) ?_ (λ z f hx=>?_)
      ·refine gR (.one 0 [] (.one 1 [] (.one 2 [] (.one 3 [] (.two 4 [0] (.two 5 [] (.one 6 [] (.one 7 [] (.one 8 [] (.one 9 [0,3] (.one 10 [] (.one 11 [] .nil)))))) 0 [] (.two 9 [0,3] (.one 5 [] (.one 6 [] (.one 7 [] (.one 8 [] (.one 10 [] (.one 11 [] .nil)))))) 0 [] .nil)) 0 [] (.two 9 [0,3] (.one 4 [0] (.one 5 [] (.one 6 [] (.one 7 [] (.one 8 [] (.one 10 [] (.one 11 [] .nil))))))) 0 [] .nil)))))) ?_
       refine bN ?_;refine gV ?_;refine bN ?_
       refine gT (E:=[4,9]) (by decide +kernel) ((.cons ?_ (.cons ?_ .nil)))
       ·refine mY (i:=4) (hq:=(cM (hs:=xH k bx bm x dn rs) (os:=xW x) (A0:=[(none,aG []),(none,cR [])]) (hc:=λ w hs=>gQ hg (n:={Nd.zero with kind:=4,hash:=(h:Int),key:=k.key,val:=k.val}) (xs:=[]) (ys:=[]) 0 _ rfl rfl (by decide) (Nat.zero_le _) (Fq hh) (bI _) (g2) ok hs))) (h:=λ x142 h142=>?_)
        refine gT (E:=[5,9]) (by decide +kernel) ((.cons ?_ (.cons ?_ .nil)))
        ·refine mY (i:=5) (hq:=(cF (hc:=λ w1 hw=>bc (v:=(aB x.L m)) h48.2 (gS h (level:Int)) x142.1 (ok.rQ hw hA m)))) (h:=λ x143 h143=>?_)
         refine aT ?_;refine cI (i:=7) (hq:=(bQ rf rfl)) (h:=?_);refine cI (i:=8) (hq:=(bQ rf rfl)) (h:=?_);refine gY (h:=λ x28=>?_);refine A1 ?_
         refine fC ((x28,x142,x143,mK (X9 (aB x.L m) (gS h (level:Int)) x142.1) x143)) ?_ (hw1:=λ w hw=>hw.back (hF:=by exact aW.all))
         ·exact⟨h142,rfl⟩
        ·refine gZ (i:=9) (h:=λ x28=>?_)
         refine bB (i:=5) (hq:=(cF (hc:=λ w1 hw=>bc (v:=(aB x.L m)) h48.2 (gS h (level:Int)) x142.1 (ok.rQ hw hA m)))) (h:=λ x143 h143=>?_);refine aT ?_;refine cI (i:=7) (hq:=(bQ rf rfl)) (h:=?_);refine cI (i:=8) (hq:=(bQ rf rfl)) (h:=?_);refine A1 ?_
         refine fC ((x28,x142,x143,mK (X9 (aB x.L m) (gS h (level:Int)) x142.1) x143)) ?_ (hw1:=λ w hw=>hw.back (hF:=by exact aW.all))
         ·exact⟨h142,rfl⟩
       ·refine gZ (i:=9) (h:=λ x28=>?_)
        refine bB (i:=4) (hq:=(cM (hs:=xH k bx bm x dn rs) (os:=xW x) (A0:=[(none,aG []),(none,cR [])]) (hc:=λ w hs=>gQ hg (n:={Nd.zero with kind:=4,hash:=(h:Int),key:=k.key,val:=k.val}) (xs:=[]) (ys:=[]) 0 _ rfl rfl (by decide) (Nat.zero_le _) (Fq hh) (bI _) (g2) ok hs))) (h:=λ x142 h142=>?_);refine bB (i:=5) (hq:=(cF (hc:=λ w1 hw=>bc (v:=(aB x.L m)) h48.2 (gS h (level:Int)) x142.1 (ok.rQ hw hA m)))) (h:=λ x143 h143=>?_);refine aT ?_;refine cI (i:=7) (hq:=(bQ rf rfl)) (h:=?_);refine cI (i:=8) (hq:=(bQ rf rfl)) (h:=?_);refine A1 ?_
        refine fC ((x28,x142,x143,mK (X9 (aB x.L m) (gS h (level:Int)) x142.1) x143)) ?_ (hw1:=λ w hw=>hw.back (hF:=by exact aW.all))
        ·exact⟨h142,rfl⟩
      dsimp only[iA,List.map,List.cons_append,List.nil_append]
      obtain⟨hz,ez⟩:=hx
      have hlz:=hz.len
      have hB:=aA2 ((ok.nv m).mono (Nat.le_refl _) (Nat.le_refl _) |>.mono hlz hz.lc) hz.bd (gS h (level:Int))
      refine aS ?_;refine dZ [(0,[]),(1,[]),(2,[]),(3,[]),(4,[]),(5,[]),(6,[]),(7,[]),(8,[2]),(9,[]),(10,[]),(11,[]),(12,[]),(13,[]),(14,[])] ?_;refine gV ?_;refine bN ?_;refine gV ?_;refine aT ?_;refine bN ?_;refine aT ?_;refine bB (i:=8) (hq:=(cM (hs:=xH k bx bm z.2.1.2.1 dn rs) (os:=xW z.2.1.2.1) (A0:=[(z.2.2.2.brA,aG (mC (X9 (aB x.L m) (gS h (level:Int)) z.2.1.1))),(z.2.2.2.prA,cR [])]) (hA:=by rw[ez];exact Sj) (hc:=λ w hs=>gQ hg (n:=z.2.2.2) (xs:=mC (X9 (aB x.L m) (gS h (level:Int)) z.2.1.1)) (ys:=[]) m _ (by rw[ez];exact Ef _ _) (by rw[ez];exact Eb _ _) hB.len (Nat.zero_le _) (by rw[ez];exact hB.nvB _) (by omega) (by rw[ez,<- aAy h48.2];exact hz.go) hz.ok hs))) (h:=λ x154 h154=>?_);refine bB (i:=9) (hq:=(cM (hs:=xH k bx bm x154.2.1 dn rs) (os:=xW x154.2.1) (hc:=λ w hs=>tJ hg k.t i m x154.1 _ ht (by have:=h154.len;omega) h154.bd h154.go h154.ok hs))) (h:=λ x155 h155=>?_)
      have hch:=Ch.nx h155 (Ch.nx h154 (((Ch.base (F:=[])).nx hz).cons (f:=(z.2.2.1.1,aG (mC (X9 (aB x.L m) (gS h (level:Int)) z.2.1.1))))))
      have hlc:x.cs.length<=x155.2.1.cs.length:=by have:=hz.lc;have:=h154.lc;have:=h155.lc;omega
      refine cL (i:=10) (hq:=(cV (hc:=λ w1 hw=>oY _ _ _ _ w1))) (h:=λ x156=>?_);refine cI (i:=11) (hq:=(bQ rf rfl)) (h:=?_);refine cI (i:=12) (hq:=(bQ rf rfl)) (h:=?_);refine A1 ?_
      refine aY Tryz.results224 (λ w hw=>?_)
      obtain⟨N,hN,hf⟩:=hch.to (t':=K (sA false 0) (if x155.1=true then 1 else 0)) h155 (h155.go) hlc (bI _)
      exact⟨(sA false 0,(if x155.1=true then 1 else 0),x155.2.1,N),rfl,hN,(hw.eU hf).aV (hF:=by exact aW.all)⟩
     ·exact nv c134
   ·exact nv c125
set_option maxRecDepth 100000 in
theorem We(hg:g.Ok)(i m:Int){h:Nat}(hh:h<18446744073709551616)(level:Nat)(hlv:level<=1073741824)(gen:Int)(K:Rs->Int->Tr)(ht:k.t.root<=9223372036854775807)(hi:i<=x.L.length)(hm:m<=x.L.length)(hA:∀f∈aM x.L,f∈A)(hk:¬(aB x.L m).nd.kind=6){b:Int}(hl:lT (aB x.L m).c (gS h (level:Int))=some b)(hi2:(aB x.L b).nd.kind=2)(go:fV g x (lV k i m h level gen K))(ok:x.Ok)(hs:SF w D (xH k bx bm x dn rs) A [] (xW x) w):Calls Tryz.prog 224 #[.pointer (some ⟨bx,0,none⟩),.int .i64 i,.int .i64 m,.int .u64 (h:Int),.int .i64 (level:Int),.int .i64 gen] w (Yb g x K bx bm k dn rs D w):=by
 have hyl:=qY ok m
 have hlL:=ok.lL
 have hb:b<=x.L.length:=by have:=pZ (ok.nv m) (gS h (level:Int));rw[hl] at this;exact this
 refine enter Tryz.func224 Tryz.ntmps224 rfl rfl (cA hs) ?_
 simp only[cD]
 refine J0 ?_;refine aJ (λ x12=>?_);refine iO ?_;refine dZ [(0,[]),(1,[]),(2,[]),(3,[]),(4,[]),(5,[]),(6,[]),(7,[]),(8,[]),(9,[]),(10,[]),(11,[]),(12,[]),(13,[]),(14,[]),(15,[4,9,14]),(16,[9,14]),(17,[14]),(18,[])] ?_;refine J9 ?_;refine aU ?_;refine bU (i:=4) (hq:=(aR (k:=2) (vs:=[.int .i64 k.t.root,.bool k.t.ro]) rf cX eP rfl rfl)) (h:=?_);refine xP ?_;refine xP ?_;refine gY (hfire:=(λ _=>by((repeat (first|exact aK.nil|refine aK.cons (by first|exact fK (hq:=aR (k:=2) (vs:=[.int .i64 k.t.root,.bool k.t.ro]) rf cX eP rfl rfl)|exact eT) ?_));done))) (h:=λ x14=>?_);refine lX (h:=λ _=>?_);refine Qp ?_;refine jA ?_;refine aD (cM (hs:=xH k bx bm x dn rs) (os:=xW x) (hc:=λ w hs=>cG m _ hm go ok hs)) (λ x48 h48=>?_);refine aJ (λ x17=>?_);refine J5 ?_;refine Cx ?_;refine sH ?_
 refine aZ (λ c51=>?_) (λ c51=>?_)
 ·exact absurd c51 hk
 ·have g0:=h48.1.to (λ _=>if_neg hk)
  have g1:=sF g0 (by rw[hl];rfl)
  rw[hl] at g1
  refine C6 ?_;refine aN (cV (hc:=λ w1 hw=>fA hh (level:Int) w1)) (λ x91=>?_);refine zI ?_;refine aA ?_;refine bM ?_;refine aJ (λ x23=>?_);refine J5 ?_;refine Dy ?_;refine aN (cV (hc:=λ w1 hw=>Ip (v:=(aB x.L m)) h48.2 hl (ok.rQ hw hA m))) (λ x99=>?_);refine aA ?_;refine aC (bQ rf rfl) rfl ?_;refine aC (bQ rf rfl) rfl ?_;refine J8 ?_;refine A6 ?_
  (refine aE ?_;refine aA ?_)
  ((refine aE ?_;refine aA ?_));((refine aE ?_;refine aD (cM (hs:=xH k bx bm x dn rs) (os:=xW x) (hc:=λ w hs=>cG b _ hb g1 ok hs)) (λ x106 h106=>?_)));refine yz ?_;refine aH ?_
  refine aZ (λ c109=>?_) (λ c109=>?_)
  ·have g2:=h106.1.to (λ _=>if_pos hi2)
   refine J0 ?_;refine bM ?_;refine Bi ?_
   refine aY Tryz.results224 (λ w hw=>?_)
   exact⟨(Rs.zero,2,x,[]),rfl,⟨g2,ok,by simp,Nat.le_refl _,bI _⟩,hw.aV (hF:=by exact aW.nil)⟩
  ·exact absurd hi2 c109
set_option maxRecDepth 100000 in
theorem X5(hg:g.Ok)(i m:Int){h:Nat}(hh:h<18446744073709551616)(level:Nat)(hlv:level<=1073741824)(gen:Int)(K:Rs->Int->Tr)(ht:k.t.root<=9223372036854775807)(hi:i<=x.L.length)(hm:m<=x.L.length)(hA:∀f∈aM x.L,f∈A)(hk:¬(aB x.L m).nd.kind=6){b:Int}(hl:lT (aB x.L m).c (gS h (level:Int))=some b)(hi2:¬(aB x.L b).nd.kind=2)(he:(aB x.L b).nd.key=k.key)(go:fV g x (lV k i m h level gen K))(ok:x.Ok)(hs:SF w D (xH k bx bm x dn rs) A [] (xW x) w):Calls Tryz.prog 224 #[.pointer (some ⟨bx,0,none⟩),.int .i64 i,.int .i64 m,.int .u64 (h:Int),.int .i64 (level:Int),.int .i64 gen] w (Yb g x K bx bm k dn rs D w):=by
 have hyl:=qY ok m
 have hlL:=ok.lL
 have hb:b<=x.L.length:=by have:=pZ (ok.nv m) (gS h (level:Int));rw[hl] at this;exact this
 refine enter Tryz.func224 Tryz.ntmps224 rfl rfl (cA hs) ?_
 simp only[cD]
 refine J0 ?_;refine aJ (λ x12=>?_);refine iO ?_;refine dZ [(0,[]),(1,[]),(2,[]),(3,[]),(4,[]),(5,[]),(6,[]),(7,[]),(8,[]),(9,[]),(10,[]),(11,[]),(12,[]),(13,[]),(14,[]),(15,[4,9,14]),(16,[9,14]),(17,[14]),(18,[])] ?_;refine J9 ?_;refine aU ?_;refine bU (i:=4) (hq:=(aR (k:=2) (vs:=[.int .i64 k.t.root,.bool k.t.ro]) rf cX eP rfl rfl)) (h:=?_);refine xP ?_;refine xP ?_;refine gY (hfire:=(λ _=>by((repeat (first|exact aK.nil|refine aK.cons (by first|exact fK (hq:=aR (k:=2) (vs:=[.int .i64 k.t.root,.bool k.t.ro]) rf cX eP rfl rfl)|exact eT) ?_));done))) (h:=λ x14=>?_);refine lX (h:=λ _=>?_);refine Qp ?_;refine jA ?_;refine aD (cM (hs:=xH k bx bm x dn rs) (os:=xW x) (hc:=λ w hs=>cG m _ hm go ok hs)) (λ x48 h48=>?_);refine aJ (λ x17=>?_);refine J5 ?_;refine Cx ?_;refine sH ?_
 refine aZ (λ c51=>?_) (λ c51=>?_)
 ·exact absurd c51 hk
 ·have g0:=h48.1.to (λ _=>if_neg hk)
  have g1:=sF g0 (by rw[hl];rfl)
  rw[hl] at g1
  refine C6 ?_;refine aN (cV (hc:=λ w1 hw=>fA hh (level:Int) w1)) (λ x91=>?_);refine zI ?_;refine aA ?_;refine bM ?_;refine aJ (λ x23=>?_);refine J5 ?_;refine Dy ?_;refine aN (cV (hc:=λ w1 hw=>Ip (v:=(aB x.L m)) h48.2 hl (ok.rQ hw hA m))) (λ x99=>?_);refine aA ?_;refine aC (bQ rf rfl) rfl ?_;refine aC (bQ rf rfl) rfl ?_;refine J8 ?_;refine A6 ?_
  (refine aE ?_;refine aA ?_)
  ((refine aE ?_;refine aA ?_));((refine aE ?_;refine aD (cM (hs:=xH k bx bm x dn rs) (os:=xW x) (hc:=λ w hs=>cG b _ hb g1 ok hs)) (λ x106 h106=>?_)));refine yz ?_;refine aH ?_
  refine aZ (λ c109=>?_) (λ c109=>?_)
  ·exact absurd c109 hi2
  ·have g3:=(h106.1.to (λ _=>if_neg hi2)).to (λ _=>if_pos he)
   refine C6 ?_
   (refine aE ?_;refine aA ?_)
   ((refine aE ?_;refine aA ?_));((refine aE ?_;refine aD (cM (hs:=xH k bx bm x dn rs) (os:=xW x) (hc:=λ w hs=>fH b (by omega) ok hs)) (λ x115 h115=>?_)));refine J81 ?_;((refine aE ?_;refine aC (mz rf rf he) rfl ?_));refine bY ?_;refine zI ?_;refine aD (cM (hs:=xH k bx bm x dn rs) (os:=xW x) (hc:=λ w hs=>fH b (by omega) ok hs)) (λ x122 h122=>?_);refine bZ ?_;refine iO ?_;refine J2 ?_;refine oU ?_
   refine aZ (λ c125=>?_) (λ c125=>?_)
   ·exact nv c125
   ·refine kK ?_;refine jA ?_;refine aA ?_;refine aD (cM (hs:=xH k bx bm x dn rs) (os:=xW x) (hc:=λ w hs=>xA _ _ hs)) (λ x129 h129=>?_);refine oU ?_
    refine aZ (λ c130=>?_) (λ c130=>?_)
    ·have g2:=g3.to (λ _=>if_neg (show ¬oA k true (aB x.L b).nd.val=true from by simpa using c130))
     refine jA ?_;refine aN (cV (hc:=λ w1 hw=>gN _ _ w1)) (λ x133=>?_);refine Bi ?_
     refine aY Tryz.results224 (λ w hw=>?_)
     exact⟨(jQ true (aB x.L b).nd.val,1,x,[]),rfl,⟨g2,ok,by simp,Nat.le_refl _,bI _⟩,hw.aV (hF:=by exact aW.nil)⟩
    ·have g2:=g3.to (λ _=>if_pos (show oA k true (aB x.L b).nd.val=true from by simpa using c130))
     refine rR ?_;refine J2 ?_;refine tS ?_;refine J1 ?_
     refine aZ (λ c134=>?_) (λ c134=>?_)
     ·exact nv c134
     ·refine J2 ?_;refine J1 ?_
      refine aZ (λ c159=>?_) (λ c159=>?_)
      ·refine aS ?_;refine dZ [(0,[]),(1,[]),(2,[]),(3,[]),(4,[]),(5,[]),(6,[]),(7,[]),(8,[]),(9,[]),(13,[]),(10,[2]),(11,[2]),(12,[]),(14,[]),(15,[]),(16,[]),(17,[]),(18,[])] ?_;refine gV ?_;refine bN ?_;refine gV ?_;refine gV ?_;refine gV ?_;refine bN ?_;refine aT ?_;refine bB (i:=10) (hq:=(cM (hs:=xH k bx bm x dn rs) (os:=xW x) (A0:=[(none,aG []),(none,cR [])]) (hc:=λ w hs=>gQ hg (n:={Nd.zero with kind:=4,hash:=(h:Int),key:=k.key,val:=k.val}) (xs:=[]) (ys:=[]) 0 _ rfl rfl (by decide) (Nat.zero_le _) (Fq hh) (bI _) (g2) ok hs))) (h:=λ x171 h171=>?_)
       have hch:=(Ch.base (F:=[])).nx h171
       refine bB (i:=11) (hq:=(cM (hs:=xH k bx bm x171.2.1 dn rs) (os:=xW x171.2.1) (A0:=aM x171.2.1.L) (hA:=Ch.all hch hA) (hc:=λ w hs=>B3 hg m (gS h (level:Int)) x171.1 _ (by have:=h171.len;omega) h171.bd (λ f hf=>hf) h171.go h171.ok hs))) (h:=λ x172 h172=>?_);refine bB (i:=12) (hq:=(cM (hs:=xH k bx bm x172.2.1 dn rs) (os:=xW x172.2.1) (hc:=λ w hs=>tJ hg k.t i m x172.1 _ ht (by have:=h171.len;have:=h172.len;omega) h172.bd h172.go h172.ok hs))) (h:=λ x173 h173=>?_)
       have hch2:=Ch.nx h173 (Ch.nx h172 hch)
       have hlc:x.cs.length<=x173.2.1.cs.length:=by have:=h171.lc;have:=h172.lc;have:=h173.lc;omega
       refine cL (i:=14) (hq:=(cV (hc:=λ w1 hw=>oY _ _ _ _ w1))) (h:=λ x175=>?_);refine cI (i:=15) (hq:=(bQ rf rfl)) (h:=?_);refine cI (i:=16) (hq:=(bQ rf rfl)) (h:=?_);refine A1 ?_
       refine aY Tryz.results224 (λ w hw=>?_)
       obtain⟨N,hN,hf⟩:=hch2.to (t':=K (sA true (aB x.L b).nd.val) (if x173.1=true then 1 else 0)) h173 (h173.go) hlc (bI _)
       exact⟨(sA true (aB x.L b).nd.val,(if x173.1=true then 1 else 0),x173.2.1,N),rfl,hN,(hw.eU hf).aV (hF:=by exact aW.all)⟩
      ·exact nv c159
set_option maxRecDepth 100000 in
theorem Xk(hg:g.Ok)(i m:Int){h:Nat}(hh:h<18446744073709551616)(level:Nat)(hlv:level<=1073741824)(gen:Int)(K:Rs->Int->Tr)(ht:k.t.root<=9223372036854775807)(hi:i<=x.L.length)(hm:m<=x.L.length)(hA:∀f∈aM x.L,f∈A)(hk:¬(aB x.L m).nd.kind=6){b:Int}(hl:lT (aB x.L m).c (gS h (level:Int))=some b)(hi2:¬(aB x.L b).nd.kind=2)(he:¬(aB x.L b).nd.key=k.key)(go:fV g x (lV k i m h level gen K))(ok:x.Ok)(hs:SF w D (xH k bx bm x dn rs) A [] (xW x) w):Calls Tryz.prog 224 #[.pointer (some ⟨bx,0,none⟩),.int .i64 i,.int .i64 m,.int .u64 (h:Int),.int .i64 (level:Int),.int .i64 gen] w (Yb g x K bx bm k dn rs D w):=by
 have hyl:=qY ok m
 have hlL:=ok.lL
 have hb:b<=x.L.length:=by have:=pZ (ok.nv m) (gS h (level:Int));rw[hl] at this;exact this
 refine enter Tryz.func224 Tryz.ntmps224 rfl rfl (cA hs) ?_
 simp only[cD]
 refine J0 ?_;refine aJ (λ x12=>?_);refine iO ?_;refine dZ [(0,[]),(1,[]),(2,[]),(3,[]),(4,[]),(5,[]),(6,[]),(7,[]),(8,[]),(9,[]),(10,[]),(11,[]),(12,[]),(13,[]),(14,[]),(15,[4,9,14]),(16,[9,14]),(17,[14]),(18,[])] ?_;refine J9 ?_;refine aU ?_;refine bU (i:=4) (hq:=(aR (k:=2) (vs:=[.int .i64 k.t.root,.bool k.t.ro]) rf cX eP rfl rfl)) (h:=?_);refine xP ?_;refine xP ?_;refine gY (hfire:=(λ _=>by((repeat (first|exact aK.nil|refine aK.cons (by first|exact fK (hq:=aR (k:=2) (vs:=[.int .i64 k.t.root,.bool k.t.ro]) rf cX eP rfl rfl)|exact eT) ?_));done))) (h:=λ x14=>?_);refine lX (h:=λ _=>?_);refine Qp ?_;refine jA ?_;refine aD (cM (hs:=xH k bx bm x dn rs) (os:=xW x) (hc:=λ w hs=>cG m _ hm go ok hs)) (λ x48 h48=>?_);refine aJ (λ x17=>?_);refine J5 ?_;refine Cx ?_;refine sH ?_
 refine aZ (λ c51=>?_) (λ c51=>?_)
 ·exact absurd c51 hk
 ·have g0:=h48.1.to (λ _=>if_neg hk)
  have g1:=sF g0 (by rw[hl];rfl)
  rw[hl] at g1
  refine C6 ?_;refine aN (cV (hc:=λ w1 hw=>fA hh (level:Int) w1)) (λ x91=>?_);refine zI ?_;refine aA ?_;refine bM ?_;refine aJ (λ x23=>?_);refine J5 ?_;refine Dy ?_;refine aN (cV (hc:=λ w1 hw=>Ip (v:=(aB x.L m)) h48.2 hl (ok.rQ hw hA m))) (λ x99=>?_);refine aA ?_;refine aC (bQ rf rfl) rfl ?_;refine aC (bQ rf rfl) rfl ?_;refine J8 ?_;refine A6 ?_
  (refine aE ?_;refine aA ?_)
  ((refine aE ?_;refine aA ?_));((refine aE ?_;refine aD (cM (hs:=xH k bx bm x dn rs) (os:=xW x) (hc:=λ w hs=>cG b _ hb g1 ok hs)) (λ x106 h106=>?_)));refine yz ?_;refine aH ?_
  refine aZ (λ c109=>?_) (λ c109=>?_)
  ·exact absurd c109 hi2
  ·have g3:=(h106.1.to (λ _=>if_neg hi2)).to (λ _=>if_neg he)
   refine C6 ?_
   (refine aE ?_;refine aA ?_)
   ((refine aE ?_;refine aA ?_));((refine aE ?_;refine aD (cM (hs:=xH k bx bm x dn rs) (os:=xW x) (hc:=λ w hs=>fH b (by omega) ok hs)) (λ x115 h115=>?_)));refine J81 ?_;((refine aE ?_;refine aC (p8 rf rf he) rfl ?_));refine bY ?_;refine zI ?_;refine aD (cM (hs:=xH k bx bm x dn rs) (os:=xW x) (hc:=λ w hs=>fH b (by omega) ok hs)) (λ x122 h122=>?_);refine bZ ?_;refine iO ?_;refine J2 ?_;refine oU ?_
   refine aZ (λ c125=>?_) (λ c125=>?_)
   ·refine dI ?_;refine iO ?_;refine jA ?_;refine aA ?_;refine aD (cM (hs:=xH k bx bm x dn rs) (os:=xW x) (hc:=λ w hs=>xA _ _ hs)) (λ x129 h129=>?_);refine oU ?_
    refine aZ (λ c130=>?_) (λ c130=>?_)
    ·have g2:=g3.to (λ _=>if_neg (show ¬oA k false 0=true from by simpa using c130))
     refine jA ?_;refine aN (cV (hc:=λ w1 hw=>gN _ _ w1)) (λ x133=>?_);refine Bi ?_
     refine aY Tryz.results224 (λ w hw=>?_)
     exact⟨(jQ false 0,1,x,[]),rfl,⟨g2,ok,by simp,Nat.le_refl _,bI _⟩,hw.aV (hF:=by exact aW.nil)⟩
    ·have g2:=g3.to (λ _=>if_pos (show oA k false 0=true from by simpa using c130))
     refine rR ?_;refine J2 ?_;refine tS ?_;refine J1 ?_
     refine aZ (λ c134=>?_) (λ c134=>?_)
     ·exact nv c134
     ·refine J2 ?_;refine J1 ?_
      refine aZ (λ c159=>?_) (λ c159=>?_)
      ·exact nv c159
      ·refine oP ?_;refine jA ?_;refine bM ?_;refine pD ?_;refine pD ?_;refine F6 ?_;refine aA ?_;refine aD (cM (hs:=xH k bx bm x dn rs) (os:=xW x) (hc:=λ w hs=>xl hg b hh (level+1) gen _ hb g2 ok hs)) (λ x187 h187=>?_);refine aD (cM (hs:=xH k bx bm x187.2.1 dn rs) (os:=xW x187.2.1) (A0:=[(none,aG []),(none,cR [])]) (hc:=λ w hs=>gQ hg (n:={Nd.zero with kind:=2,gen:=gen}) (xs:=[]) (ys:=[]) x187.1 _ rfl rfl (by decide) (Nat.zero_le _) rD h187.bd h187.go h187.ok hs)) (λ x188 h188=>?_)
       have hch:=Ch.nx h188 ((Ch.base (F:=[])).nx h187)
       refine iO ?_;refine dZ [(0,[]),(1,[]),(2,[]),(3,[]),(4,[]),(5,[]),(6,[]),(7,[]),(8,[]),(9,[2]),(10,[]),(11,[]),(12,[]),(13,[]),(14,[]),(15,[])] ?_;refine gV ?_;refine bN ?_;refine gV ?_;refine gV ?_;refine gV ?_;refine bB (i:=9) (hq:=(cM (hs:=xH k bx bm x188.2.1 dn rs) (os:=xW x188.2.1) (A0:=aM x188.2.1.L) (hA:=Ch.all hch hA) (hc:=λ w hs=>B3 hg m (gS h (level:Int)) x188.1 _ (by have:=h187.len;have:=h188.len;omega) h188.bd (λ f hf=>hf) h188.go h188.ok hs))) (h:=λ x198 h198=>?_);refine bB (i:=10) (hq:=(cM (hs:=xH k bx bm x198.2.1 dn rs) (os:=xW x198.2.1) (hc:=λ w hs=>tJ hg k.t i m x198.1 _ ht (by have:=h187.len;have:=h188.len;have:=h198.len;omega) h198.bd h198.go h198.ok hs))) (h:=λ x199 h199=>?_)
       have hch2:=Ch.nx h199 (Ch.nx h198 hch)
       have hlc:x.cs.length<=x199.2.1.cs.length:=by have:=h187.lc;have:=h188.lc;have:=h198.lc;have:=h199.lc;omega
       refine cL (i:=11) (hq:=(cV (hc:=λ w1 hw=>oY _ _ _ _ w1))) (h:=λ x200=>?_);refine cI (i:=12) (hq:=(bQ rf rfl)) (h:=?_);refine cI (i:=13) (hq:=(bQ rf rfl)) (h:=?_);refine A1 ?_
       refine aY Tryz.results224 (λ w hw=>?_)
       obtain⟨N,hN,hf⟩:=hch2.to (t':=K (sA false 0) (if x199.1=true then 1 else 0)) h199 (h199.go) hlc (bI _)
       exact⟨(sA false 0,(if x199.1=true then 1 else 0),x199.2.1,N),rfl,hN,(hw.eU hf).aV (hF:=by exact aW.all)⟩
   ·exact nv c125
theorem Wo(hg:g.Ok)(i m:Int){h:Nat}(hh:h<18446744073709551616)(level:Nat)(hlv:level<=1073741824)(gen:Int)(K:Rs->Int->Tr)(ht:k.t.root<=9223372036854775807)(hi:i<=x.L.length)(hm:m<=x.L.length)(hA:∀f∈aM x.L,f∈A)(go:fV g x (lV k i m h level gen K))(ok:x.Ok)(hs:SF w D (xH k bx bm x dn rs) A [] (xW x) w):Calls Tryz.prog 224 #[.pointer (some ⟨bx,0,none⟩),.int .i64 i,.int .i64 m,.int .u64 (h:Int),.int .i64 (level:Int),.int .i64 gen] w (Yb g x K bx bm k dn rs D w):=by
 by_cases hk:(aB x.L m).nd.kind=6
 ·exact Xi hg i m hh level hlv gen K ht hi hm hA hk go ok hs
 ·cases hl:lT (aB x.L m).c (gS h (level:Int)) with
  | none=>exact Wp hg i m hh level hlv gen K ht hi hm hA hk hl go ok hs
  | some b =>
   by_cases hi2:(aB x.L b).nd.kind=2
   ·exact We hg i m hh level hlv gen K ht hi hm hA hk hl hi2 go ok hs
   ·by_cases he:(aB x.L b).nd.key=k.key
    ·exact X5 hg i m hh level hlv gen K ht hi hm hA hk hl hi2 he go ok hs
    ·exact Xk hg i m hh level hlv gen K ht hi hm hA hk hl hi2 he go ok hs
end
end Go.Proofs.YtbajmaoegmbfgaaGreat

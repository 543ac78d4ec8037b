/- Executions of the reference: one attempt of PUT at a leaf. -/
import Derived.Test.YtadnboagdhcedaaGreatDoorGEx14
set_option linter.unusedSimpArgs false
set_option linter.unusedVariables false
namespace Go.Ct
open Go Go.RowKit
theorem j1{a b:ByteArray}(h:a=b):(a.toList==b.toList)=true:=by subst h;simp
theorem ml{a b:ByteArray}(h:¬a=b):(a.toList==b.toList)=false:=by
 rw[beq_eq_false_iff_ne]
 exact λ e=>h (toList_inj e)
section
variable{P:Program}{S:List (Nat×Value)}{G:World->Prop}{d:Nat}{ty t t':TypeId}{pos:String}{af:Array Edge}{gd:Option (Nat×Bool)}{x y:Operand}{a b:ByteArray}
theorem ic(hx:ev S x=.string a)(hy:ev S y=.string b)(h:a=b):aJ P S G ⟨some d,.binOp .eql t x y t',ty,pos,af,gd⟩ (.bool true):=by
 have:=Di (P:=P) (G:=G) (d:=d) (ty:=ty) (pos:=pos) (af:=af) (gd:=gd) (t:=t) (t':=t') hx hy
 rwa [j1 h] at this
theorem Z5(hx:ev S x=.string a)(hy:ev S y=.string b)(h:¬a=b):aJ P S G ⟨some d,.binOp .eql t x y t',ty,pos,af,gd⟩ (.bool false):=by
 have:=Di (P:=P) (G:=G) (d:=d) (ty:=ty) (pos:=pos) (af:=af) (gd:=gd) (t:=t) (t':=t') hx hy
 rwa [ml h] at this
end
end Go.Ct
namespace Go.Proofs.YtadnboagdhcedaaGreatDoor
open Go Go.RowKit Go.Ct
section
variable{v:aK}{n c:Nat}{w:World}
theorem Gk(h:nE n c v.c){i b:Int}(e:jF v.c i=some b)(hr:pT w v.nd v.xs v.ys):Calls Tryz.prog 115 #[v.nd.v,.int .i64 i] w λ e w'=>e=.returned (.tuple #[.int .i64 b,.bool true])/\St w [] [] w':=by
 have:=F2 h i hr
 rwa [e] at this
theorem mq(h:nE n c v.c){i:Int}(e:jF v.c i=none)(hr:pT w v.nd v.xs v.ys):Calls Tryz.prog 115 #[v.nd.v,.int .i64 i] w λ e w'=>e=.returned (.tuple #[.int .i64 0,.bool false])/\St w [] [] w':=by
 have:=F2 h i hr
 rwa [e] at this
end
section
variable{k:Cl}{bx bm:Nat}{x:XS}{dn:Bool}{rs:Rs}{D:List Nat}{A:Fr}{w:World}{g:Gx}
abbrev Un(g:Gx)(x:XS)(K:Rs->Int->Tr)(bx bm:Nat)(k:Cl)(dn:Bool)(rs:Rs)(D:List Nat)(w:World)(e:Ending)(w':World):Prop:=∃q:Rs×Int×XS×List aK,e=.returned (.tuple #[.agg ⟨q.1.cells⟩,.int .i64 q.2.1])/\Nx g x q.2.2.1 q.2.2.2 (K q.1 q.2.1) 0/\SF w D (xH k bx bm q.2.2.1 dn rs) [] (aY q.2.2.2) (xW q.2.2.1) w'
set_option maxRecDepth 100000 in
theorem Sm(hg:g.Ok)(i m:Int){h:Nat}(hh:h<18446744073709551616)(level:Nat)(hlv:level<=1073741824)(gen:Int)(K:Rs->Int->Tr)(ht:k.t.root<=9223372036854775807)(hi:i<=x.L.length)(hm:m<=x.L.length)(hA:∀f∈aY x.L,f∈A)(hk:(aA x.L m).nd.kind=6)(go:eU g x (kF k i m h level gen K))(ok:x.Ok)(hs:SF w D (xH k bx bm x dn rs) A [] (xW x) w):Calls Tryz.prog 122 #[.pointer (some ⟨bx,0,none⟩),.int .i64 i,.int .i64 m,.int .u64 (h:Int),.int .i64 (level:Int),.int .i64 gen] w (Un g x K bx bm k dn rs D w):=by
 have hyl:=oT ok m
 have hlL:=ok.lL
 refine enter Tryz.func122 Tryz.ntmps122 rfl rfl (cA hs) ?_
 simp only[cR]
 refine J0 ?_;refine aP (λ x12=>?_);refine gK ?_;refine eD [(0,[]),(1,[]),(2,[]),(3,[]),(4,[]),(5,[]),(6,[]),(7,[]),(8,[]),(9,[]),(10,[]),(11,[]),(12,[]),(13,[]),(14,[]),(15,[4,9,14]),(16,[9,14]),(17,[14]),(18,[])] ?_;refine J9 ?_;refine aQ ?_;refine bM (i:=4) (hq:=(aL (k:=2) (vs:=[.int .i64 k.t.root,.bool k.t.ro]) rf fN gX rfl rfl)) (h:=?_);refine tA ?_;refine tA ?_;refine fS (hfire:=(λ _=>by((repeat (first|exact aM.nil|refine aM.cons (by first|exact eI (hq:=aL (k:=2) (vs:=[.int .i64 k.t.root,.bool k.t.ro]) rf fN gX rfl rfl)|exact eT) ?_));done))) (h:=λ x14=>?_);refine nA (h:=λ _=>?_);refine de ?_;refine iF ?_;refine aC (cM (hs:=xH k bx bm x dn rs) (os:=xW x) (hc:=λ w hs=>cB m _ hm go ok hs)) (λ x48 h48=>?_);refine aP (λ x17=>?_);refine J5 ?_;refine yU ?_;refine rR ?_
 refine aZ (λ c51=>?_) (λ c51=>?_)
 ·have g1:=h48.1.to (λ _=>if_pos hk)
  refine gN ?_;refine aB ?_;refine aR (cV (hc:=λ w1 hw=>Hw (v:=(aA x.L m)) (n:=0) k.key (ok.pU hw hA m) (ok.zp m))) (λ x56=>?_);refine aB ?_;refine aE (bI rf rfl) rfl ?_;refine aE (bI rf rfl) rfl ?_;refine J8 ?_;refine Gi ?_;refine aB ?_;refine aC (cM (hs:=xH k bx bm x dn rs) (os:=xW x) (hc:=λ w hs=>uL _ _ hs)) (λ x62 h62=>?_);refine lX ?_
  refine aZ (λ c63=>?_) (λ c63=>?_)
  ·have g2:=g1.to (λ _=>if_neg (show ¬mD k (dA (aA x.L m).c.ys k.key).isSome ((dA (aA x.L m).c.ys k.key).getD 0)=true from by simpa using c63))
   refine iF ?_;refine aR (cV (hc:=λ w1 hw=>fF _ _ w1)) (λ x66=>?_);refine A1 ?_
   refine bJ Tryz.results122 (λ w hw=>?_)
   exact⟨(hZ (dA (aA x.L m).c.ys k.key).isSome ((dA (aA x.L m).c.ys k.key).getD 0),1,x,[]),rfl,⟨g2,ok,by simp,Nat.le_refl _,bE _⟩,hw.aU (hF:=by exact aX.nil)⟩
  ·have g2:=g1.to (λ _=>if_pos (show mD k (dA (aA x.L m).c.ys k.key).isSome ((dA (aA x.L m).c.ys k.key).getD 0)=true from by simpa using c63))
   refine bA ?_;refine kU ?_;refine nB ?_;refine aC (cF (hc:=λ w1 hw=>ur (v:=(aA x.L m)) h48.2 k.key k.val (ok.pU hw hA m) (by omega))) (λ x71 h71=>?_);refine aB ?_;refine aE (bI rf rfl) rfl ?_;refine aE (bI rf rfl) rfl ?_;refine aP (λ x20=>?_);refine lN (λ _=>?_);refine gK ?_;refine eD [(0,[]),(1,[]),(2,[]),(3,[]),(4,[]),(5,[]),(6,[]),(7,[]),(10,[]),(11,[]),(8,[2]),(9,[]),(12,[]),(13,[]),(14,[]),(15,[]),(16,[])] ?_;refine gM ?_;refine bN ?_;refine gM ?_;refine Kb5 ?_;refine gM ?_;refine aT ?_;refine bS (i:=8) (hq:=(cM (hs:=xH k bx bm x dn rs) (os:=xW x) (A0:=[((Uw (jI (aA x.L m).nd (aA x.L m).xs (aA x.L m).ys k.key k.val) (aA x.L m).nd.hash x71).brA,aG []),((Uw (jI (aA x.L m).nd (aA x.L m).xs (aA x.L m).ys k.key k.val) (aA x.L m).nd.hash x71).prA,cZ (Ug (jI (aA x.L m).nd (aA x.L m).xs (aA x.L m).ys k.key k.val)))]) (hA:=ve) (hc:=λ w hs=>fJ hg (n:=Uw (jI (aA x.L m).nd (aA x.L m).xs (aA x.L m).ys k.key k.val) (aA x.L m).nd.hash x71) (xs:=[]) (ys:=Ug (jI (aA x.L m).nd (aA x.L m).xs (aA x.L m).ys k.key k.val)) m _ (Xo _ _ _).1 (Xo _ _ _).2 (by decide) (by have:=oa (aA x.L m).xs (aA x.L m).ys (aA x.L m).nd k.key k.val;omega) (sc _ h48.2.hash) hm (by rw[zi];exact g2) ok hs))) (h:=λ x82 h82=>?_);refine bS (i:=9) (hq:=(cM (hs:=xH k bx bm x82.2.1 dn rs) (os:=xW x82.2.1) (hc:=λ w hs=>rC hg k.t i m x82.1 _ ht (by have:=h82.len;omega) h82.bd h82.go h82.ok hs))) (h:=λ x83 h83=>?_)
   have hch:=Ch.nx h83 (Ch.nx h82 ((Ch.base (F:=[])).cons (f:=(x71.1,cZ (Ug (jI (aA x.L m).nd (aA x.L m).xs (aA x.L m).ys k.key k.val))))))
   have hlc:x.cs.length<=x83.2.1.cs.length:=by have:=h82.lc;have:=h83.lc;omega
   refine dG (i:=12) (hq:=(cV (hc:=λ w1 hw=>nK _ _ _ _ w1))) (h:=λ x86=>?_);refine cJ (i:=13) (hq:=(bI rf rfl)) (h:=?_);refine cJ (i:=14) (hq:=(bI rf rfl)) (h:=?_);refine zF ?_
   refine bJ Tryz.results122 (λ w hw=>?_)
   obtain⟨N,hN,hf⟩:=hch.to (t':=K (pF (dA (aA x.L m).c.ys k.key).isSome ((dA (aA x.L m).c.ys k.key).getD 0)) (if x83.1=true then 1 else 0)) h83 (h83.go) hlc (bE _)
   exact⟨(pF (dA (aA x.L m).c.ys k.key).isSome ((dA (aA x.L m).c.ys k.key).getD 0),(if x83.1=true then 1 else 0),x83.2.1,N),rfl,hN,(hw.eG hf).z7⟩
 ·exact absurd hk c51
set_option maxRecDepth 100000 in
theorem R9(hg:g.Ok)(i m:Int){h:Nat}(hh:h<18446744073709551616)(level:Nat)(hlv:level<=1073741824)(gen:Int)(K:Rs->Int->Tr)(ht:k.t.root<=9223372036854775807)(hi:i<=x.L.length)(hm:m<=x.L.length)(hA:∀f∈aY x.L,f∈A)(hk:¬(aA x.L m).nd.kind=6)(hl:jF (aA x.L m).c (fM h (level:Int))=none)(go:eU g x (kF k i m h level gen K))(ok:x.Ok)(hs:SF w D (xH k bx bm x dn rs) A [] (xW x) w):Calls Tryz.prog 122 #[.pointer (some ⟨bx,0,none⟩),.int .i64 i,.int .i64 m,.int .u64 (h:Int),.int .i64 (level:Int),.int .i64 gen] w (Un g x K bx bm k dn rs D w):=by
 have hyl:=oT ok m
 have hlL:=ok.lL
 refine enter Tryz.func122 Tryz.ntmps122 rfl rfl (cA hs) ?_
 simp only[cR]
 refine J0 ?_;refine aP (λ x12=>?_);refine gK ?_;refine eD [(0,[]),(1,[]),(2,[]),(3,[]),(4,[]),(5,[]),(6,[]),(7,[]),(8,[]),(9,[]),(10,[]),(11,[]),(12,[]),(13,[]),(14,[]),(15,[4,9,14]),(16,[9,14]),(17,[14]),(18,[])] ?_;refine J9 ?_;refine aQ ?_;refine bM (i:=4) (hq:=(aL (k:=2) (vs:=[.int .i64 k.t.root,.bool k.t.ro]) rf fN gX rfl rfl)) (h:=?_);refine tA ?_;refine tA ?_;refine fS (hfire:=(λ _=>by((repeat (first|exact aM.nil|refine aM.cons (by first|exact eI (hq:=aL (k:=2) (vs:=[.int .i64 k.t.root,.bool k.t.ro]) rf fN gX rfl rfl)|exact eT) ?_));done))) (h:=λ x14=>?_);refine nA (h:=λ _=>?_);refine de ?_;refine iF ?_;refine aC (cM (hs:=xH k bx bm x dn rs) (os:=xW x) (hc:=λ w hs=>cB m _ hm go ok hs)) (λ x48 h48=>?_);refine aP (λ x17=>?_);refine J5 ?_;refine yU ?_;refine rR ?_
 refine aZ (λ c51=>?_) (λ c51=>?_)
 ·exact absurd c51 hk
 ·have g0:=h48.1.to (λ _=>if_neg hk)
  have g1:=I5 g0 (by rw[hl];rfl)
  refine yT ?_;refine aR (cV (hc:=λ w1 hw=>dZ hh (level:Int) w1)) (λ x91=>?_);refine tZ ?_;refine aB ?_;refine bD ?_;refine aP (λ x23=>?_);refine J5 ?_;refine Az ?_;refine aR (cV (hc:=λ w1 hw=>mq (v:=(aA x.L m)) h48.2 hl (ok.pU hw hA m))) (λ x99=>?_);refine aB ?_;refine aE (bI rf rfl) rfl ?_;refine aE (bI rf rfl) rfl ?_;refine J8 ?_;refine Gi ?_
  refine aH ?_
  (refine aH ?_);(refine aH ?_);refine sv ?_;refine aI ?_
  refine aZ (λ c109=>?_) (λ c109=>?_)
  ·exact nv c109
  ·refine yT ?_
   refine aH ?_
   (refine aH ?_);(refine aH ?_);refine xp ?_;(refine aH ?_);refine cU ?_;refine tZ ?_;refine aC (cM (hs:=xH k bx bm x dn rs) (os:=xW x) (hc:=λ w hs=>eK 0 (by decide) ok hs)) (λ x122 h122=>?_);refine cE ?_;refine gK ?_;refine J2 ?_;refine lX ?_
   refine aZ (λ c125=>?_) (λ c125=>?_)
   ·refine dO ?_;refine gK ?_;refine iF ?_;refine aB ?_;refine aC (cM (hs:=xH k bx bm x dn rs) (os:=xW x) (hc:=λ w hs=>uL _ _ hs)) (λ x129 h129=>?_);refine lX ?_
    refine aZ (λ c130=>?_) (λ c130=>?_)
    ·have g2:=g1.to (λ _=>if_neg (show ¬mD k false 0=true from by simpa using c130))
     refine iF ?_;refine aR (cV (hc:=λ w1 hw=>fF _ _ w1)) (λ x133=>?_);refine A1 ?_
     refine bJ Tryz.results122 (λ w hw=>?_)
     exact⟨(hZ false 0,1,x,[]),rfl,⟨g2,ok,by simp,Nat.le_refl _,bE _⟩,hw.aU (hF:=by exact aX.nil)⟩
    ·have g2:=g1.to (λ _=>if_pos (show mD k false 0=true from by simpa using c130))
     refine oW ?_;refine J2 ?_;refine Ce ?_;refine J1 ?_
     refine aZ (λ c134=>?_) (λ c134=>?_)
     ·refine aS ?_
      refine eL [28,29,137,138,139,140,141,142,143,144,145] (λ z:Nat×(Int×XS×List aK)×(Option Addr×Nat)×Nd=>[(28,.pointer (some ⟨z.1,0,none⟩))]) (λ z=>Nx g x z.2.1.2.1 z.2.1.2.2 (.alloc (qe (aA x.L m).c (fM h (level:Int)) z.2.1.1) m λ r=>mA k.t i m r λ ok=>K (pF false 0) (if ok=true then 1 else 0)) z.2.1.1/\z.2.2.2=kW (Uk (aA x.L m) (fM h (level:Int)) z.2.1.1) z.2.2.1) (λ z=>[(z.1,.cells ⟨z.2.2.2.cells⟩ 77 (0,0)),(x23,.cells ⟨({Nd.zero with kind:=4,hash:=(h:Int),key:=k.key,val:=k.val}:Nd).cells⟩ 77 (0,0)),(x17,.cells ⟨(aA x.L m).nd.cells⟩ 77 (0,0)),(x14,.cells ⟨[.int .i64 k.t.root,.bool k.t.ro]⟩ 29 (0,0)),(x12,.cells ⟨Rs.zero.cells⟩ 68 (0,0)),(bx,xO k bm z.2.1.2.1 dn rs),(bm,xM z.2.1.2.1)]) (λ z=>(z.2.2.1.1,aG (kE (Uk (aA x.L m) (fM h (level:Int)) z.2.1.1)))::(aY z.2.1.2.2++[])) (λ z=>xW z.2.1.2.1) (by decide) (λ _=>by exact rfl) ?_ (λ z f hx=>?_)
      ·refine gV (.one 0 [] (.one 1 [] (.one 2 [] (.one 3 [] (.two 4 [0] (.two 5 [] (.one 6 [] (.one 7 [] (.one 8 [] (.one 9 [0,3] (.one 10 [] (.one 11 [] .nil)))))) 0 [] (.two 9 [0,3] (.one 5 [] (.one 6 [] (.one 7 [] (.one 8 [] (.one 10 [] (.one 11 [] .nil)))))) 0 [] .nil)) 0 [] (.two 9 [0,3] (.one 4 [0] (.one 5 [] (.one 6 [] (.one 7 [] (.one 8 [] (.one 10 [] (.one 11 [] .nil))))))) 0 [] .nil)))))) ?_
       refine bN ?_;refine gM ?_;refine bN ?_
       refine kH (E:=[4,9]) (by decide +kernel) ((.cons ?_ (.cons ?_ .nil)))
       ·refine qB (i:=4) (hq:=(cM (hs:=xH k bx bm x dn rs) (os:=xW x) (A0:=[(none,aG []),(none,cZ [])]) (hc:=λ w hs=>fJ hg (n:={Nd.zero with kind:=4,hash:=(h:Int),key:=k.key,val:=k.val}) (xs:=[]) (ys:=[]) 0 _ rfl rfl (by decide) (Nat.zero_le _) (Ea hh) (bE _) (g2) ok hs))) (h:=λ x142 h142=>?_)
        refine kH (E:=[5,9]) (by decide +kernel) ((.cons ?_ (.cons ?_ .nil)))
        ·refine qB (i:=5) (hq:=(cF (hc:=λ w1 hw=>Zx (v:=(aA x.L m)) h48.2 (fM h (level:Int)) x142.1 (ok.pU hw hA m)))) (h:=λ x143 h143=>?_)
         refine aT ?_;refine cJ (i:=7) (hq:=(bI rf rfl)) (h:=?_);refine cJ (i:=8) (hq:=(bI rf rfl)) (h:=?_);refine fS (h:=λ x28=>?_);refine zF ?_
         refine gA ((x28,x142,x143,kW (Uk (aA x.L m) (fM h (level:Int)) x142.1) x143)) ?_ (hw1:=λ w hw=>hw.v1)
         ·exact⟨h142,rfl⟩
        ·refine jL (i:=9) (h:=λ x28=>?_)
         refine bS (i:=5) (hq:=(cF (hc:=λ w1 hw=>Zx (v:=(aA x.L m)) h48.2 (fM h (level:Int)) x142.1 (ok.pU hw hA m)))) (h:=λ x143 h143=>?_);refine aT ?_;refine cJ (i:=7) (hq:=(bI rf rfl)) (h:=?_);refine cJ (i:=8) (hq:=(bI rf rfl)) (h:=?_);refine zF ?_
         refine gA ((x28,x142,x143,kW (Uk (aA x.L m) (fM h (level:Int)) x142.1) x143)) ?_ (hw1:=λ w hw=>hw.v1)
         ·exact⟨h142,rfl⟩
       ·refine jL (i:=9) (h:=λ x28=>?_)
        refine bS (i:=4) (hq:=(cM (hs:=xH k bx bm x dn rs) (os:=xW x) (A0:=[(none,aG []),(none,cZ [])]) (hc:=λ w hs=>fJ hg (n:={Nd.zero with kind:=4,hash:=(h:Int),key:=k.key,val:=k.val}) (xs:=[]) (ys:=[]) 0 _ rfl rfl (by decide) (Nat.zero_le _) (Ea hh) (bE _) (g2) ok hs))) (h:=λ x142 h142=>?_);refine bS (i:=5) (hq:=(cF (hc:=λ w1 hw=>Zx (v:=(aA x.L m)) h48.2 (fM h (level:Int)) x142.1 (ok.pU hw hA m)))) (h:=λ x143 h143=>?_);refine aT ?_;refine cJ (i:=7) (hq:=(bI rf rfl)) (h:=?_);refine cJ (i:=8) (hq:=(bI rf rfl)) (h:=?_);refine zF ?_
        refine gA ((x28,x142,x143,kW (Uk (aA x.L m) (fM h (level:Int)) x142.1) x143)) ?_ (hw1:=λ w hw=>hw.v1)
        ·exact⟨h142,rfl⟩
      dsimp only[gG,List.map,List.cons_append,List.nil_append]
      obtain⟨hz,ez⟩:=hx
      have hlz:=hz.len
      have hB:=tk ((ok.nv m).mono (Nat.le_refl _) (Nat.le_refl _) |>.mono hlz hz.lc) hz.bd (fM h (level:Int))
      refine aS ?_;refine eD [(0,[]),(1,[]),(2,[]),(3,[]),(4,[]),(5,[]),(6,[]),(7,[]),(8,[2]),(9,[]),(10,[]),(11,[]),(12,[]),(13,[]),(14,[])] ?_;refine gM ?_;refine bN ?_;refine gM ?_;refine Kb5 ?_;refine aT ?_;refine bS (i:=8) (hq:=(cM (hs:=xH k bx bm z.2.1.2.1 dn rs) (os:=xW z.2.1.2.1) (A0:=[(z.2.2.2.brA,aG (kE (Uk (aA x.L m) (fM h (level:Int)) z.2.1.1))),(z.2.2.2.prA,cZ [])]) (hA:=by rw[ez];exact Od) (hc:=λ w hs=>fJ hg (n:=z.2.2.2) (xs:=kE (Uk (aA x.L m) (fM h (level:Int)) z.2.1.1)) (ys:=[]) m _ (by rw[ez];exact Be _ _) (by rw[ez];exact Bn _ _) hB.len (Nat.zero_le _) (by rw[ez];exact hB.ym _) (by omega) (by rw[ez,<- xk h48.2];exact hz.go) hz.ok hs))) (h:=λ x154 h154=>?_);refine bS (i:=9) (hq:=(cM (hs:=xH k bx bm x154.2.1 dn rs) (os:=xW x154.2.1) (hc:=λ w hs=>rC hg k.t i m x154.1 _ ht (by have:=h154.len;omega) h154.bd h154.go h154.ok hs))) (h:=λ x155 h155=>?_)
      have hch:=Ch.nx h155 (Ch.nx h154 (((Ch.base (F:=[])).nx hz).cons (f:=(z.2.2.1.1,aG (kE (Uk (aA x.L m) (fM h (level:Int)) z.2.1.1))))))
      have hlc:x.cs.length<=x155.2.1.cs.length:=by have:=hz.lc;have:=h154.lc;have:=h155.lc;omega
      refine dG (i:=10) (hq:=(cV (hc:=λ w1 hw=>nK _ _ _ _ w1))) (h:=λ x156=>?_);refine cJ (i:=11) (hq:=(bI rf rfl)) (h:=?_);refine cJ (i:=12) (hq:=(bI rf rfl)) (h:=?_);refine zF ?_
      refine bJ Tryz.results122 (λ w hw=>?_)
      obtain⟨N,hN,hf⟩:=hch.to (t':=K (pF false 0) (if x155.1=true then 1 else 0)) h155 (h155.go) hlc (bE _)
      exact⟨(pF false 0,(if x155.1=true then 1 else 0),x155.2.1,N),rfl,hN,(hw.eG hf).z7⟩
     ·exact nv c134
   ·exact nv c125
set_option maxRecDepth 100000 in
theorem So(hg:g.Ok)(i m:Int){h:Nat}(hh:h<18446744073709551616)(level:Nat)(hlv:level<=1073741824)(gen:Int)(K:Rs->Int->Tr)(ht:k.t.root<=9223372036854775807)(hi:i<=x.L.length)(hm:m<=x.L.length)(hA:∀f∈aY x.L,f∈A)(hk:¬(aA x.L m).nd.kind=6){b:Int}(hl:jF (aA x.L m).c (fM h (level:Int))=some b)(hi2:(aA x.L b).nd.kind=2)(go:eU g x (kF k i m h level gen K))(ok:x.Ok)(hs:SF w D (xH k bx bm x dn rs) A [] (xW x) w):Calls Tryz.prog 122 #[.pointer (some ⟨bx,0,none⟩),.int .i64 i,.int .i64 m,.int .u64 (h:Int),.int .i64 (level:Int),.int .i64 gen] w (Un g x K bx bm k dn rs D w):=by
 have hyl:=oT ok m
 have hlL:=ok.lL
 have hb:b<=x.L.length:=by have:=oB (ok.nv m) (fM h (level:Int));rw[hl] at this;exact this
 refine enter Tryz.func122 Tryz.ntmps122 rfl rfl (cA hs) ?_
 simp only[cR]
 refine J0 ?_;refine aP (λ x12=>?_);refine gK ?_;refine eD [(0,[]),(1,[]),(2,[]),(3,[]),(4,[]),(5,[]),(6,[]),(7,[]),(8,[]),(9,[]),(10,[]),(11,[]),(12,[]),(13,[]),(14,[]),(15,[4,9,14]),(16,[9,14]),(17,[14]),(18,[])] ?_;refine J9 ?_;refine aQ ?_;refine bM (i:=4) (hq:=(aL (k:=2) (vs:=[.int .i64 k.t.root,.bool k.t.ro]) rf fN gX rfl rfl)) (h:=?_);refine tA ?_;refine tA ?_;refine fS (hfire:=(λ _=>by((repeat (first|exact aM.nil|refine aM.cons (by first|exact eI (hq:=aL (k:=2) (vs:=[.int .i64 k.t.root,.bool k.t.ro]) rf fN gX rfl rfl)|exact eT) ?_));done))) (h:=λ x14=>?_);refine nA (h:=λ _=>?_);refine de ?_;refine iF ?_;refine aC (cM (hs:=xH k bx bm x dn rs) (os:=xW x) (hc:=λ w hs=>cB m _ hm go ok hs)) (λ x48 h48=>?_);refine aP (λ x17=>?_);refine J5 ?_;refine yU ?_;refine rR ?_
 refine aZ (λ c51=>?_) (λ c51=>?_)
 ·exact absurd c51 hk
 ·have g0:=h48.1.to (λ _=>if_neg hk)
  have g1:=qU g0 (by rw[hl];rfl)
  rw[hl] at g1
  refine yT ?_;refine aR (cV (hc:=λ w1 hw=>dZ hh (level:Int) w1)) (λ x91=>?_);refine tZ ?_;refine aB ?_;refine bD ?_;refine aP (λ x23=>?_);refine J5 ?_;refine Az ?_;refine aR (cV (hc:=λ w1 hw=>Gk (v:=(aA x.L m)) h48.2 hl (ok.pU hw hA m))) (λ x99=>?_);refine aB ?_;refine aE (bI rf rfl) rfl ?_;refine aE (bI rf rfl) rfl ?_;refine J8 ?_;refine Gi ?_
  (refine Ka3 ?_)
  ((refine Ka3 ?_));((refine aF ?_;refine aC (cM (hs:=xH k bx bm x dn rs) (os:=xW x) (hc:=λ w hs=>cB b _ hb g1 ok hs)) (λ x106 h106=>?_)));refine sv ?_;refine aI ?_
  refine aZ (λ c109=>?_) (λ c109=>?_)
  ·have g2:=h106.1.to (λ _=>if_pos hi2)
   refine J0 ?_;refine bD ?_;refine A1 ?_
   refine bJ Tryz.results122 (λ w hw=>?_)
   exact⟨(Rs.zero,2,x,[]),rfl,⟨g2,ok,by simp,Nat.le_refl _,bE _⟩,hw.aU (hF:=by exact aX.nil)⟩
  ·exact absurd hi2 c109
set_option maxRecDepth 100000 in
theorem Sh(hg:g.Ok)(i m:Int){h:Nat}(hh:h<18446744073709551616)(level:Nat)(hlv:level<=1073741824)(gen:Int)(K:Rs->Int->Tr)(ht:k.t.root<=9223372036854775807)(hi:i<=x.L.length)(hm:m<=x.L.length)(hA:∀f∈aY x.L,f∈A)(hk:¬(aA x.L m).nd.kind=6){b:Int}(hl:jF (aA x.L m).c (fM h (level:Int))=some b)(hi2:¬(aA x.L b).nd.kind=2)(he:(aA x.L b).nd.key=k.key)(go:eU g x (kF k i m h level gen K))(ok:x.Ok)(hs:SF w D (xH k bx bm x dn rs) A [] (xW x) w):Calls Tryz.prog 122 #[.pointer (some ⟨bx,0,none⟩),.int .i64 i,.int .i64 m,.int .u64 (h:Int),.int .i64 (level:Int),.int .i64 gen] w (Un g x K bx bm k dn rs D w):=by
 have hyl:=oT ok m
 have hlL:=ok.lL
 have hb:b<=x.L.length:=by have:=oB (ok.nv m) (fM h (level:Int));rw[hl] at this;exact this
 refine enter Tryz.func122 Tryz.ntmps122 rfl rfl (cA hs) ?_
 simp only[cR]
 refine J0 ?_;refine aP (λ x12=>?_);refine gK ?_;refine eD [(0,[]),(1,[]),(2,[]),(3,[]),(4,[]),(5,[]),(6,[]),(7,[]),(8,[]),(9,[]),(10,[]),(11,[]),(12,[]),(13,[]),(14,[]),(15,[4,9,14]),(16,[9,14]),(17,[14]),(18,[])] ?_;refine J9 ?_;refine aQ ?_;refine bM (i:=4) (hq:=(aL (k:=2) (vs:=[.int .i64 k.t.root,.bool k.t.ro]) rf fN gX rfl rfl)) (h:=?_);refine tA ?_;refine tA ?_;refine fS (hfire:=(λ _=>by((repeat (first|exact aM.nil|refine aM.cons (by first|exact eI (hq:=aL (k:=2) (vs:=[.int .i64 k.t.root,.bool k.t.ro]) rf fN gX rfl rfl)|exact eT) ?_));done))) (h:=λ x14=>?_);refine nA (h:=λ _=>?_);refine de ?_;refine iF ?_;refine aC (cM (hs:=xH k bx bm x dn rs) (os:=xW x) (hc:=λ w hs=>cB m _ hm go ok hs)) (λ x48 h48=>?_);refine aP (λ x17=>?_);refine J5 ?_;refine yU ?_;refine rR ?_
 refine aZ (λ c51=>?_) (λ c51=>?_)
 ·exact absurd c51 hk
 ·have g0:=h48.1.to (λ _=>if_neg hk)
  have g1:=qU g0 (by rw[hl];rfl)
  rw[hl] at g1
  refine yT ?_;refine aR (cV (hc:=λ w1 hw=>dZ hh (level:Int) w1)) (λ x91=>?_);refine tZ ?_;refine aB ?_;refine bD ?_;refine aP (λ x23=>?_);refine J5 ?_;refine Az ?_;refine aR (cV (hc:=λ w1 hw=>Gk (v:=(aA x.L m)) h48.2 hl (ok.pU hw hA m))) (λ x99=>?_);refine aB ?_;refine aE (bI rf rfl) rfl ?_;refine aE (bI rf rfl) rfl ?_;refine J8 ?_;refine Gi ?_
  (refine Ka3 ?_)
  ((refine Ka3 ?_));((refine aF ?_;refine aC (cM (hs:=xH k bx bm x dn rs) (os:=xW x) (hc:=λ w hs=>cB b _ hb g1 ok hs)) (λ x106 h106=>?_)));refine sv ?_;refine aI ?_
  refine aZ (λ c109=>?_) (λ c109=>?_)
  ·exact absurd c109 hi2
  ·have g3:=(h106.1.to (λ _=>if_neg hi2)).to (λ _=>if_pos he)
   refine yT ?_
   (refine Ka3 ?_)
   ((refine Ka3 ?_));((refine aF ?_;refine aC (cM (hs:=xH k bx bm x dn rs) (os:=xW x) (hc:=λ w hs=>eK b (by omega) ok hs)) (λ x115 h115=>?_)));refine xp ?_;((refine aF ?_;refine aE (ic rf rf he) rfl ?_));refine cU ?_;refine tZ ?_;refine aC (cM (hs:=xH k bx bm x dn rs) (os:=xW x) (hc:=λ w hs=>eK b (by omega) ok hs)) (λ x122 h122=>?_);refine cE ?_;refine gK ?_;refine J2 ?_;refine lX ?_
   refine aZ (λ c125=>?_) (λ c125=>?_)
   ·exact nv c125
   ·refine jD ?_;refine iF ?_;refine aB ?_;refine aC (cM (hs:=xH k bx bm x dn rs) (os:=xW x) (hc:=λ w hs=>uL _ _ hs)) (λ x129 h129=>?_);refine lX ?_
    refine aZ (λ c130=>?_) (λ c130=>?_)
    ·have g2:=g3.to (λ _=>if_neg (show ¬mD k true (aA x.L b).nd.val=true from by simpa using c130))
     refine iF ?_;refine aR (cV (hc:=λ w1 hw=>fF _ _ w1)) (λ x133=>?_);refine A1 ?_
     refine bJ Tryz.results122 (λ w hw=>?_)
     exact⟨(hZ true (aA x.L b).nd.val,1,x,[]),rfl,⟨g2,ok,by simp,Nat.le_refl _,bE _⟩,hw.aU (hF:=by exact aX.nil)⟩
    ·have g2:=g3.to (λ _=>if_pos (show mD k true (aA x.L b).nd.val=true from by simpa using c130))
     refine oW ?_;refine J2 ?_;refine Ce ?_;refine J1 ?_
     refine aZ (λ c134=>?_) (λ c134=>?_)
     ·exact nv c134
     ·refine Ka6 ?_
      refine aZ (λ c159=>?_) (λ c159=>?_)
      ·refine aS ?_;refine eD [(0,[]),(1,[]),(2,[]),(3,[]),(4,[]),(5,[]),(6,[]),(7,[]),(8,[]),(9,[]),(13,[]),(10,[2]),(11,[2]),(12,[]),(14,[]),(15,[]),(16,[]),(17,[]),(18,[])] ?_;refine gM ?_;refine bN ?_;refine gM ?_;refine gM ?_;refine gM ?_;refine bN ?_;refine aT ?_;refine bS (i:=10) (hq:=(cM (hs:=xH k bx bm x dn rs) (os:=xW x) (A0:=[(none,aG []),(none,cZ [])]) (hc:=λ w hs=>fJ hg (n:={Nd.zero with kind:=4,hash:=(h:Int),key:=k.key,val:=k.val}) (xs:=[]) (ys:=[]) 0 _ rfl rfl (by decide) (Nat.zero_le _) (Ea hh) (bE _) (g2) ok hs))) (h:=λ x171 h171=>?_)
       have hch:=(Ch.base (F:=[])).nx h171
       refine bS (i:=11) (hq:=(cM (hs:=xH k bx bm x171.2.1 dn rs) (os:=xW x171.2.1) (A0:=aY x171.2.1.L) (hA:=Ch.all hch hA) (hc:=λ w hs=>yS hg m (fM h (level:Int)) x171.1 _ (by have:=h171.len;omega) h171.bd (λ f hf=>hf) h171.go h171.ok hs))) (h:=λ x172 h172=>?_);refine bS (i:=12) (hq:=(cM (hs:=xH k bx bm x172.2.1 dn rs) (os:=xW x172.2.1) (hc:=λ w hs=>rC hg k.t i m x172.1 _ ht (by have:=h171.len;have:=h172.len;omega) h172.bd h172.go h172.ok hs))) (h:=λ x173 h173=>?_)
       have hch2:=Ch.nx h173 (Ch.nx h172 hch)
       have hlc:x.cs.length<=x173.2.1.cs.length:=by have:=h171.lc;have:=h172.lc;have:=h173.lc;omega
       refine dG (i:=14) (hq:=(cV (hc:=λ w1 hw=>nK _ _ _ _ w1))) (h:=λ x175=>?_);refine cJ (i:=15) (hq:=(bI rf rfl)) (h:=?_);refine cJ (i:=16) (hq:=(bI rf rfl)) (h:=?_);refine zF ?_
       refine bJ Tryz.results122 (λ w hw=>?_)
       obtain⟨N,hN,hf⟩:=hch2.to (t':=K (pF true (aA x.L b).nd.val) (if x173.1=true then 1 else 0)) h173 (h173.go) hlc (bE _)
       exact⟨(pF true (aA x.L b).nd.val,(if x173.1=true then 1 else 0),x173.2.1,N),rfl,hN,(hw.eG hf).z7⟩
      ·exact nv c159
set_option maxRecDepth 100000 in
theorem Te(hg:g.Ok)(i m:Int){h:Nat}(hh:h<18446744073709551616)(level:Nat)(hlv:level<=1073741824)(gen:Int)(K:Rs->Int->Tr)(ht:k.t.root<=9223372036854775807)(hi:i<=x.L.length)(hm:m<=x.L.length)(hA:∀f∈aY x.L,f∈A)(hk:¬(aA x.L m).nd.kind=6){b:Int}(hl:jF (aA x.L m).c (fM h (level:Int))=some b)(hi2:¬(aA x.L b).nd.kind=2)(he:¬(aA x.L b).nd.key=k.key)(go:eU g x (kF k i m h level gen K))(ok:x.Ok)(hs:SF w D (xH k bx bm x dn rs) A [] (xW x) w):Calls Tryz.prog 122 #[.pointer (some ⟨bx,0,none⟩),.int .i64 i,.int .i64 m,.int .u64 (h:Int),.int .i64 (level:Int),.int .i64 gen] w (Un g x K bx bm k dn rs D w):=by
 have hyl:=oT ok m
 have hlL:=ok.lL
 have hb:b<=x.L.length:=by have:=oB (ok.nv m) (fM h (level:Int));rw[hl] at this;exact this
 refine enter Tryz.func122 Tryz.ntmps122 rfl rfl (cA hs) ?_
 simp only[cR]
 refine J0 ?_;refine aP (λ x12=>?_);refine gK ?_;refine eD [(0,[]),(1,[]),(2,[]),(3,[]),(4,[]),(5,[]),(6,[]),(7,[]),(8,[]),(9,[]),(10,[]),(11,[]),(12,[]),(13,[]),(14,[]),(15,[4,9,14]),(16,[9,14]),(17,[14]),(18,[])] ?_;refine J9 ?_;refine aQ ?_;refine bM (i:=4) (hq:=(aL (k:=2) (vs:=[.int .i64 k.t.root,.bool k.t.ro]) rf fN gX rfl rfl)) (h:=?_);refine tA ?_;refine tA ?_;refine fS (hfire:=(λ _=>by((repeat (first|exact aM.nil|refine aM.cons (by first|exact eI (hq:=aL (k:=2) (vs:=[.int .i64 k.t.root,.bool k.t.ro]) rf fN gX rfl rfl)|exact eT) ?_));done))) (h:=λ x14=>?_);refine nA (h:=λ _=>?_);refine de ?_;refine iF ?_;refine aC (cM (hs:=xH k bx bm x dn rs) (os:=xW x) (hc:=λ w hs=>cB m _ hm go ok hs)) (λ x48 h48=>?_);refine aP (λ x17=>?_);refine J5 ?_;refine yU ?_;refine rR ?_
 refine aZ (λ c51=>?_) (λ c51=>?_)
 ·exact absurd c51 hk
 ·have g0:=h48.1.to (λ _=>if_neg hk)
  have g1:=qU g0 (by rw[hl];rfl)
  rw[hl] at g1
  refine yT ?_;refine aR (cV (hc:=λ w1 hw=>dZ hh (level:Int) w1)) (λ x91=>?_);refine tZ ?_;refine aB ?_;refine bD ?_;refine aP (λ x23=>?_);refine J5 ?_;refine Az ?_;refine aR (cV (hc:=λ w1 hw=>Gk (v:=(aA x.L m)) h48.2 hl (ok.pU hw hA m))) (λ x99=>?_);refine aB ?_;refine aE (bI rf rfl) rfl ?_;refine aE (bI rf rfl) rfl ?_;refine J8 ?_;refine Gi ?_
  (refine Ka3 ?_)
  ((refine Ka3 ?_));((refine aF ?_;refine aC (cM (hs:=xH k bx bm x dn rs) (os:=xW x) (hc:=λ w hs=>cB b _ hb g1 ok hs)) (λ x106 h106=>?_)));refine sv ?_;refine aI ?_
  refine aZ (λ c109=>?_) (λ c109=>?_)
  ·exact absurd c109 hi2
  ·have g3:=(h106.1.to (λ _=>if_neg hi2)).to (λ _=>if_neg he)
   refine yT ?_
   (refine Ka3 ?_)
   ((refine Ka3 ?_));((refine aF ?_;refine aC (cM (hs:=xH k bx bm x dn rs) (os:=xW x) (hc:=λ w hs=>eK b (by omega) ok hs)) (λ x115 h115=>?_)));refine xp ?_;((refine aF ?_;refine aE (Z5 rf rf he) rfl ?_));refine cU ?_;refine tZ ?_;refine aC (cM (hs:=xH k bx bm x dn rs) (os:=xW x) (hc:=λ w hs=>eK b (by omega) ok hs)) (λ x122 h122=>?_);refine cE ?_;refine gK ?_;refine J2 ?_;refine lX ?_
   refine aZ (λ c125=>?_) (λ c125=>?_)
   ·refine dO ?_;refine gK ?_;refine iF ?_;refine aB ?_;refine aC (cM (hs:=xH k bx bm x dn rs) (os:=xW x) (hc:=λ w hs=>uL _ _ hs)) (λ x129 h129=>?_);refine lX ?_
    refine aZ (λ c130=>?_) (λ c130=>?_)
    ·have g2:=g3.to (λ _=>if_neg (show ¬mD k false 0=true from by simpa using c130))
     refine iF ?_;refine aR (cV (hc:=λ w1 hw=>fF _ _ w1)) (λ x133=>?_);refine A1 ?_
     refine bJ Tryz.results122 (λ w hw=>?_)
     exact⟨(hZ false 0,1,x,[]),rfl,⟨g2,ok,by simp,Nat.le_refl _,bE _⟩,hw.aU (hF:=by exact aX.nil)⟩
    ·have g2:=g3.to (λ _=>if_pos (show mD k false 0=true from by simpa using c130))
     refine oW ?_;refine J2 ?_;refine Ce ?_;refine J1 ?_
     refine aZ (λ c134=>?_) (λ c134=>?_)
     ·exact nv c134
     ·refine Ka6 ?_
      refine aZ (λ c159=>?_) (λ c159=>?_)
      ·exact nv c159
      ·refine lC ?_;refine iF ?_;refine bD ?_;refine nB ?_;refine nB ?_;refine F0 ?_;refine aB ?_;refine aC (cM (hs:=xH k bx bm x dn rs) (os:=xW x) (hc:=λ w hs=>rr hg b hh (level+1) gen _ hb g2 ok hs)) (λ x187 h187=>?_);refine aC (cM (hs:=xH k bx bm x187.2.1 dn rs) (os:=xW x187.2.1) (A0:=[(none,aG []),(none,cZ [])]) (hc:=λ w hs=>fJ hg (n:={Nd.zero with kind:=2,gen:=gen}) (xs:=[]) (ys:=[]) x187.1 _ rfl rfl (by decide) (Nat.zero_le _) pC h187.bd h187.go h187.ok hs)) (λ x188 h188=>?_)
       have hch:=Ch.nx h188 ((Ch.base (F:=[])).nx h187)
       refine gK ?_;refine eD [(0,[]),(1,[]),(2,[]),(3,[]),(4,[]),(5,[]),(6,[]),(7,[]),(8,[]),(9,[2]),(10,[]),(11,[]),(12,[]),(13,[]),(14,[]),(15,[])] ?_;refine gM ?_;refine bN ?_;refine gM ?_;refine gM ?_;refine gM ?_;refine bS (i:=9) (hq:=(cM (hs:=xH k bx bm x188.2.1 dn rs) (os:=xW x188.2.1) (A0:=aY x188.2.1.L) (hA:=Ch.all hch hA) (hc:=λ w hs=>yS hg m (fM h (level:Int)) x188.1 _ (by have:=h187.len;have:=h188.len;omega) h188.bd (λ f hf=>hf) h188.go h188.ok hs))) (h:=λ x198 h198=>?_);refine bS (i:=10) (hq:=(cM (hs:=xH k bx bm x198.2.1 dn rs) (os:=xW x198.2.1) (hc:=λ w hs=>rC hg k.t i m x198.1 _ ht (by have:=h187.len;have:=h188.len;have:=h198.len;omega) h198.bd h198.go h198.ok hs))) (h:=λ x199 h199=>?_)
       have hch2:=Ch.nx h199 (Ch.nx h198 hch)
       have hlc:x.cs.length<=x199.2.1.cs.length:=by have:=h187.lc;have:=h188.lc;have:=h198.lc;have:=h199.lc;omega
       refine dG (i:=11) (hq:=(cV (hc:=λ w1 hw=>nK _ _ _ _ w1))) (h:=λ x200=>?_);refine cJ (i:=12) (hq:=(bI rf rfl)) (h:=?_);refine cJ (i:=13) (hq:=(bI rf rfl)) (h:=?_);refine zF ?_
       refine bJ Tryz.results122 (λ w hw=>?_)
       obtain⟨N,hN,hf⟩:=hch2.to (t':=K (pF false 0) (if x199.1=true then 1 else 0)) h199 (h199.go) hlc (bE _)
       exact⟨(pF false 0,(if x199.1=true then 1 else 0),x199.2.1,N),rfl,hN,(hw.eG hf).z7⟩
   ·exact nv c125
theorem Sw(hg:g.Ok)(i m:Int){h:Nat}(hh:h<18446744073709551616)(level:Nat)(hlv:level<=1073741824)(gen:Int)(K:Rs->Int->Tr)(ht:k.t.root<=9223372036854775807)(hi:i<=x.L.length)(hm:m<=x.L.length)(hA:∀f∈aY x.L,f∈A)(go:eU g x (kF k i m h level gen K))(ok:x.Ok)(hs:SF w D (xH k bx bm x dn rs) A [] (xW x) w):Calls Tryz.prog 122 #[.pointer (some ⟨bx,0,none⟩),.int .i64 i,.int .i64 m,.int .u64 (h:Int),.int .i64 (level:Int),.int .i64 gen] w (Un g x K bx bm k dn rs D w):=by
 by_cases hk:(aA x.L m).nd.kind=6
 ·exact Sm hg i m hh level hlv gen K ht hi hm hA hk go ok hs
 ·cases hl:jF (aA x.L m).c (fM h (level:Int)) with
  | none=>exact R9 hg i m hh level hlv gen K ht hi hm hA hk hl go ok hs
  | some b =>
   by_cases hi2:(aA x.L b).nd.kind=2
   ·exact So hg i m hh level hlv gen K ht hi hm hA hk hl hi2 go ok hs
   ·by_cases he:(aA x.L b).nd.key=k.key
    ·exact Sh hg i m hh level hlv gen K ht hi hm hA hk hl hi2 he go ok hs
    ·exact Te hg i m hh level hlv gen K ht hi hm hA hk hl hi2 he go ok hs
end
end Go.Proofs.YtadnboagdhcedaaGreatDoor

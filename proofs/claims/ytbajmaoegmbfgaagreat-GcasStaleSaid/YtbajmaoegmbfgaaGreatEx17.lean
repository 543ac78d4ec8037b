/- Merged. -/
import Derived.Test.YtbajmaoegmbfgaaGreatGEx14
set_option linter.unusedSimpArgs false
set_option linter.unusedVariables false
namespace Go.Ct
open Go Go.RowKit
theorem ve{a b:ByteArray}(h:a=b):(a.toList==b.toList)=true:=by subst h;simp
theorem uu{a b:ByteArray}(h:¬a=b):(a.toList==b.toList)=false:=by
 rw[beq_eq_false_iff_ne]
 exact λ e=>h (toList_inj e)
section
variable{P:Program}{S:List (Nat×Value)}{G:World->Prop}{d:Nat}{ty t t':TypeId}{pos:String}{af:Array Edge}{gd:Option (Nat×Bool)}{x y:Operand}{a b:ByteArray}
theorem qn(hx:ev S x=.string a)(hy:ev S y=.string b)(h:a=b):aL P S G ⟨some d,.binOp .eql t x y t',ty,pos,af,gd⟩ (.bool true):=by
 have:=F3 (P:=P) (G:=G) (d:=d) (ty:=ty) (pos:=pos) (af:=af) (gd:=gd) (t:=t) (t':=t') hx hy
 rwa [ve h] at this
theorem ta(hx:ev S x=.string a)(hy:ev S y=.string b)(h:¬a=b):aL P S G ⟨some d,.binOp .eql t x y t',ty,pos,af,gd⟩ (.bool false):=by
 have:=F3 (P:=P) (G:=G) (d:=d) (ty:=ty) (pos:=pos) (af:=af) (gd:=gd) (t:=t) (t':=t') hx hy
 rwa [uu h] at this
end
end Go.Ct
namespace Go.Proofs.YtbajmaoegmbfgaaGreat
open Go.Proofs.Tryz (prog)
open Go Go.RowKit Go.Ct
section
variable{v:aP}{n c:Nat}{w:World}
theorem Ky(h:lX n c v.c){i b:Int}(e:lA v.c i=some b)(hr:rY w v.nd v.xs v.ys):Calls prog 216 #[v.nd.v,.int .i64 i] w λ e w'=>e=.returned (.tuple #[.int .i64 b,.bool true])/\St w [] [] w':=by
 have:=Ko h i hr
 rwa [e] at this
theorem ux(h:lX n c v.c){i:Int}(e:lA v.c i=none)(hr:rY w v.nd v.xs v.ys):Calls prog 216 #[v.nd.v,.int .i64 i] w λ e w'=>e=.returned (.tuple #[.int .i64 0,.bool false])/\St w [] [] w':=by
 have:=Ko h i hr
 rwa [e] at this
end
section
variable{k:Cl}{bx bm:Nat}{x:XS}{dn:Bool}{rs:Rs}{D:List Nat}{A:Fr}{w:World}{g:Gx}
abbrev Zq(g:Gx)(x:XS)(K:Rs->Int->Tr)(bx bm:Nat)(k:Cl)(dn:Bool)(rs:Rs)(D:List Nat)(w:World)(e:Ending)(w':World):Prop:=∃q:Rs×Int×XS×List aP,e=.returned (.tuple #[.agg ⟨q.1.cells⟩,.int .i64 q.2.1])/\Nx g x q.2.2.1 q.2.2.2 (K q.1 q.2.1) 0/\SF w D (xH k bx bm q.2.2.1 dn rs) [] (aM q.2.2.2) (xW q.2.2.1) w'
set_option maxRecDepth 100000 in
theorem Xj(hg:g.Ok)(i m:Int){h:Nat}(hh:h<18446744073709551616)(level:Nat)(hlv:level<=1073741824)(gen:Int)(K:Rs->Int->Tr)(ht:k.t.root<=9223372036854775807)(hi:i<=x.L.length)(hm:m<=x.L.length)(hA:∀f∈aM x.L,f∈A)(hk:(aB x.L m).nd.kind=6)(go:gF g x (mA k i m h level gen K))(ok:x.Ok)(hs:SF w D (xH k bx bm x dn rs) A [] (xW x) w):Calls prog 224 #[.pointer (some ⟨bx,0,none⟩),.int .i64 i,.int .i64 m,.int .u64 (h:Int),.int .i64 (level:Int),.int .i64 gen] w (Zq g x K bx bm k dn rs D w):=by
 have hyl:=rK ok m
 have hlL:=ok.lL
 refine enter Tryz.func224 Tryz.ntmps224 rfl rfl (cB hs) ?_
 simp only[cC]
 refine J0 ?_;refine aK (λ x12=>?_);refine jF ?_;refine eC [(0,[]),(1,[]),(2,[]),(3,[]),(4,[]),(5,[]),(6,[]),(7,[]),(8,[]),(9,[]),(10,[]),(11,[]),(12,[]),(13,[]),(14,[]),(15,[4,9,14]),(16,[9,14]),(17,[14]),(18,[])] ?_;refine J9 ?_;refine aU ?_;refine bV (i:=4) (hq:=(aT (k:=2) (vs:=[.int .i64 k.t.root,.bool k.t.ro]) rf dC eT rfl rfl)) (h:=?_);refine yD ?_;refine yD ?_;refine gU (hfire:=(λ _=>by((repeat (first|exact aJ.nil|refine aJ.cons (by first|exact fC (hq:=aT (k:=2) (vs:=[.int .i64 k.t.root,.bool k.t.ro]) rf dC eT rfl rfl)|exact eG) ?_));done))) (h:=λ x14=>?_);refine oC (h:=λ _=>?_);refine Oz ?_;refine jG ?_;refine aD (cM (hs:=xH k bx bm x dn rs) (os:=xW x) (hc:=λ w hs=>cG m _ hm go ok hs)) (λ x48 h48=>?_);refine aK (λ x17=>?_);refine J5 ?_;refine Kc7 ?_
 refine bC (λ c51=>?_) (λ c51=>?_)
 ·have g1:=h48.1.to (λ _=>if_pos hk)
  refine Kb9 ?_;refine aQ (cV (hc:=λ w1 hw=>M2 (v:=(aB x.L m)) (n:=0) k.key (ok.sA hw hA m) (ok.ysl m))) (λ x56=>?_);refine aA ?_;refine aC (bO rf rfl) rfl ?_;refine aC (bO rf rfl) rfl ?_;refine J8 ?_;refine C6 ?_;refine aA ?_;refine aD (cM (hs:=xH k bx bm x dn rs) (os:=xW x) (hc:=λ w hs=>xJ _ _ hs)) (λ x62 h62=>?_);refine oV ?_
  refine bC (λ c63=>?_) (λ c63=>?_)
  ·have g2:=g1.to (λ _=>if_neg (show ¬oR k (dV (aB x.L m).c.ys k.key).isSome ((dV (aB x.L m).c.ys k.key).getD 0)=true from by simpa using c63))
   refine jG ?_;refine aQ (cV (hc:=λ w1 hw=>gQ _ _ w1)) (λ x66=>?_);refine Br ?_
   refine bE Tryz.results224 (λ w hw=>?_)
   exact⟨(jN (dV (aB x.L m).c.ys k.key).isSome ((dV (aB x.L m).c.ys k.key).getD 0),1,x,[]),rfl,⟨g2,ok,by simp,Nat.le_refl _,bK _⟩,hw.aX (hF:=by exact aY.nil)⟩
  ·have g2:=g1.to (λ _=>if_pos (show oR k (dV (aB x.L m).c.ys k.key).isSome ((dV (aB x.L m).c.ys k.key).getD 0)=true from by simpa using c63))
   refine aZ ?_;refine nI ?_;refine pK ?_;refine aD (cF (hc:=λ w1 hw=>aAW (v:=(aB x.L m)) h48.2 k.key k.val (ok.sA hw hA m) (by omega))) (λ x71 h71=>?_);refine aA ?_;refine aC (bO rf rfl) rfl ?_;refine aC (bO rf rfl) rfl ?_;refine aK (λ x20=>?_);refine kQ (λ _=>?_);refine jF ?_;refine eC [(0,[]),(1,[]),(2,[]),(3,[]),(4,[]),(5,[]),(6,[]),(7,[]),(10,[]),(11,[]),(8,[2]),(9,[]),(12,[]),(13,[]),(14,[]),(15,[]),(16,[])] ?_;refine iL ?_;refine Ka9 ?_;refine aN ?_;refine Ka9 ?_;refine aN ?_;refine bB (i:=8) (hq:=(cM (hs:=xH k bx bm x dn rs) (os:=xW x) (A0:=[((cr (kY (aB x.L m).nd (aB x.L m).xs (aB x.L m).ys k.key k.val) (aB x.L m).nd.hash x71).brA,aG []),((cr (kY (aB x.L m).nd (aB x.L m).xs (aB x.L m).ys k.key k.val) (aB x.L m).nd.hash x71).prA,cY (Zo (kY (aB x.L m).nd (aB x.L m).xs (aB x.L m).ys k.key k.val)))]) (hA:=aBK) (hc:=λ w hs=>gV hg (n:=cr (kY (aB x.L m).nd (aB x.L m).xs (aB x.L m).ys k.key k.val) (aB x.L m).nd.hash x71) (xs:=[]) (ys:=Zo (kY (aB x.L m).nd (aB x.L m).xs (aB x.L m).ys k.key k.val)) m _ (jw _ _ _).1 (jw _ _ _).2 (by decide) (by have:=xi (aB x.L m).xs (aB x.L m).ys (aB x.L m).nd k.key k.val;omega) (y6 _ h48.2.hash) hm (by rw[aCi];exact g2) ok hs))) (h:=λ x82 h82=>?_);refine bB (i:=9) (hq:=(cM (hs:=xH k bx bm x82.2.1 dn rs) (os:=xW x82.2.1) (hc:=λ w hs=>tB hg k.t i m x82.1 _ ht (by have:=h82.len;omega) h82.bd h82.go h82.ok hs))) (h:=λ x83 h83=>?_)
   have hch:=Ch.nx h83 (Ch.nx h82 ((Ch.base (F:=[])).cons (f:=(x71.1,cY (Zo (kY (aB x.L m).nd (aB x.L m).xs (aB x.L m).ys k.key k.val))))))
   have hlc:x.cs.length<=x83.2.1.cs.length:=by have:=h82.lc;have:=h83.lc;omega
   refine cR (i:=12) (hq:=(cV (hc:=λ w1 hw=>pL _ _ _ _ w1))) (h:=λ x86=>?_);refine cJ (i:=13) (hq:=(bO rf rfl)) (h:=?_);refine cJ (i:=14) (hq:=(bO rf rfl)) (h:=?_);refine Bw ?_
   refine bE Tryz.results224 (λ w hw=>?_)
   obtain⟨N,hN,hf⟩:=hch.to (t':=K (sN (dV (aB x.L m).c.ys k.key).isSome ((dV (aB x.L m).c.ys k.key).getD 0)) (if x83.1=true then 1 else 0)) h83 (h83.go) hlc (bK _)
   exact⟨(sN (dV (aB x.L m).c.ys k.key).isSome ((dV (aB x.L m).c.ys k.key).getD 0),(if x83.1=true then 1 else 0),x83.2.1,N),rfl,hN,(hw.eW hf).v4⟩
 ·exact absurd hk c51
set_option maxRecDepth 100000 in
theorem Yg(hg:g.Ok)(i m:Int){h:Nat}(hh:h<18446744073709551616)(level:Nat)(hlv:level<=1073741824)(gen:Int)(K:Rs->Int->Tr)(ht:k.t.root<=9223372036854775807)(hi:i<=x.L.length)(hm:m<=x.L.length)(hA:∀f∈aM x.L,f∈A)(hk:¬(aB x.L m).nd.kind=6)(hl:lA (aB x.L m).c (gY h (level:Int))=none)(go:gF g x (mA k i m h level gen K))(ok:x.Ok)(hs:SF w D (xH k bx bm x dn rs) A [] (xW x) w):Calls prog 224 #[.pointer (some ⟨bx,0,none⟩),.int .i64 i,.int .i64 m,.int .u64 (h:Int),.int .i64 (level:Int),.int .i64 gen] w (Zq g x K bx bm k dn rs D w):=by
 have hyl:=rK ok m
 have hlL:=ok.lL
 refine enter Tryz.func224 Tryz.ntmps224 rfl rfl (cB hs) ?_
 simp only[cC]
 refine J0 ?_;refine aK (λ x12=>?_);refine jF ?_;refine eC [(0,[]),(1,[]),(2,[]),(3,[]),(4,[]),(5,[]),(6,[]),(7,[]),(8,[]),(9,[]),(10,[]),(11,[]),(12,[]),(13,[]),(14,[]),(15,[4,9,14]),(16,[9,14]),(17,[14]),(18,[])] ?_;refine J9 ?_;refine aU ?_;refine bV (i:=4) (hq:=(aT (k:=2) (vs:=[.int .i64 k.t.root,.bool k.t.ro]) rf dC eT rfl rfl)) (h:=?_);refine yD ?_;refine yD ?_;refine gU (hfire:=(λ _=>by((repeat (first|exact aJ.nil|refine aJ.cons (by first|exact fC (hq:=aT (k:=2) (vs:=[.int .i64 k.t.root,.bool k.t.ro]) rf dC eT rfl rfl)|exact eG) ?_));done))) (h:=λ x14=>?_);refine oC (h:=λ _=>?_);refine Oz ?_;refine jG ?_;refine aD (cM (hs:=xH k bx bm x dn rs) (os:=xW x) (hc:=λ w hs=>cG m _ hm go ok hs)) (λ x48 h48=>?_);refine aK (λ x17=>?_);refine J5 ?_;refine Kc7 ?_
 refine bC (λ c51=>?_) (λ c51=>?_)
 ·exact absurd c51 hk
 ·have g0:=h48.1.to (λ _=>if_neg hk)
  have g1:=M5 g0 (by rw[hl];rfl)
  refine Dc ?_;refine aQ (cV (hc:=λ w1 hw=>fJ hh (level:Int) w1)) (λ x91=>?_);refine zS ?_;refine aA ?_;refine bN ?_;refine aK (λ x23=>?_);refine J5 ?_;refine Dn ?_;refine aQ (cV (hc:=λ w1 hw=>ux (v:=(aB x.L m)) h48.2 hl (ok.sA hw hA m))) (λ x99=>?_);refine aA ?_;refine aC (bO rf rfl) rfl ?_;refine aC (bO rf rfl) rfl ?_;refine J8 ?_;refine C6 ?_
  refine aI ?_
  (refine aI ?_);(refine aI ?_);refine J87 ?_;refine aH ?_
  refine bC (λ c109=>?_) (λ c109=>?_)
  ·exact nv c109
  ·refine Dc ?_
   refine aI ?_
   (refine aI ?_);(refine aI ?_);refine J81 ?_;(refine aI ?_);refine cD ?_;refine zS ?_;refine aD (cM (hs:=xH k bx bm x dn rs) (os:=xW x) (hc:=λ w hs=>fO 0 (by decide) ok hs)) (λ x122 h122=>?_);refine cE ?_;refine jF ?_;refine J2 ?_;refine oV ?_
   refine bC (λ c125=>?_) (λ c125=>?_)
   ·refine dM ?_;refine jF ?_;refine Kc2 ?_;refine aD (cM (hs:=xH k bx bm x dn rs) (os:=xW x) (hc:=λ w hs=>xJ _ _ hs)) (λ x129 h129=>?_);refine oV ?_
    refine bC (λ c130=>?_) (λ c130=>?_)
    ·have g2:=g1.to (λ _=>if_neg (show ¬oR k false 0=true from by simpa using c130))
     refine jG ?_;refine aQ (cV (hc:=λ w1 hw=>gQ _ _ w1)) (λ x133=>?_);refine Br ?_
     refine bE Tryz.results224 (λ w hw=>?_)
     exact⟨(jN false 0,1,x,[]),rfl,⟨g2,ok,by simp,Nat.le_refl _,bK _⟩,hw.aX (hF:=by exact aY.nil)⟩
    ·have g2:=g1.to (λ _=>if_pos (show oR k false 0=true from by simpa using c130))
     refine rX ?_;refine J2 ?_;refine yK ?_;refine J1 ?_
     refine bC (λ c134=>?_) (λ c134=>?_)
     ·refine aV ?_
      refine eO [28,29,137,138,139,140,141,142,143,144,145] (λ z:Nat×(Int×XS×List aP)×(Option Addr×Nat)×Nd=>[(28,.pointer (some ⟨z.1,0,none⟩))]) (λ z=>Nx g x z.2.1.2.1 z.2.1.2.2 (.alloc (xn (aB x.L m).c (gY h (level:Int)) z.2.1.1) m λ r=>jT k.t i m r λ ok=>K (sN false 0) (if ok=true then 1 else 0)) z.2.1.1/\z.2.2.2=mY (Zl (aB x.L m) (gY h (level:Int)) z.2.1.1) z.2.2.1) (λ z=>[(z.1,.cells ⟨z.2.2.2.cells⟩ 47 (0,0)),(x23,.cells ⟨({Nd.zero with kind:=4,hash:=(h:Int),key:=k.key,val:=k.val}:Nd).cells⟩ 47 (0,0)),(x17,.cells ⟨(aB x.L m).nd.cells⟩ 47 (0,0)),(x14,.cells ⟨[.int .i64 k.t.root,.bool k.t.ro]⟩ 29 (0,0)),(x12,.cells ⟨Rs.zero.cells⟩ 64 (0,0)),(bx,xO k bm z.2.1.2.1 dn rs),(bm,xM z.2.1.2.1)]) (λ z=>(z.2.2.1.1,aG (mP (Zl (aB x.L m) (gY h (level:Int)) z.2.1.1)))::(aM z.2.1.2.2++[])) (λ z=>xW z.2.1.2.1) (by decide) (λ _=>by exact rfl) ?_ (λ z f hx=>?_)
      ·refine gI (.one 0 [] (.one 1 [] (.one 2 [] (.one 3 [] (.two 4 [0] (.two 5 [] (.one 6 [] (.one 7 [] (.one 8 [] (.one 9 [0,3] (.one 10 [] (.one 11 [] .nil)))))) 0 [] (.two 9 [0,3] (.one 5 [] (.one 6 [] (.one 7 [] (.one 8 [] (.one 10 [] (.one 11 [] .nil)))))) 0 [] .nil)) 0 [] (.two 9 [0,3] (.one 4 [0] (.one 5 [] (.one 6 [] (.one 7 [] (.one 8 [] (.one 10 [] (.one 11 [] .nil))))))) 0 [] .nil)))))) ?_
       refine Ka9 ?_;refine bT ?_
       refine gR (E:=[4,9]) (by decide +kernel) ((.cons ?_ (.cons ?_ .nil)))
       ·refine mN (i:=4) (hq:=(cM (hs:=xH k bx bm x dn rs) (os:=xW x) (A0:=[(none,aG []),(none,cY [])]) (hc:=λ w hs=>gV hg (n:={Nd.zero with kind:=4,hash:=(h:Int),key:=k.key,val:=k.val}) (xs:=[]) (ys:=[]) 0 _ rfl rfl (by decide) (Nat.zero_le _) (F4 hh) (bK _) (g2) ok hs))) (h:=λ x142 h142=>?_)
        refine gR (E:=[5,9]) (by decide +kernel) ((.cons ?_ (.cons ?_ .nil)))
        ·refine mN (i:=5) (hq:=(cF (hc:=λ w1 hw=>Z2 (v:=(aB x.L m)) h48.2 (gY h (level:Int)) x142.1 (ok.sA hw hA m)))) (h:=λ x143 h143=>?_)
         refine aN ?_;refine cJ (i:=7) (hq:=(bO rf rfl)) (h:=?_);refine cJ (i:=8) (hq:=(bO rf rfl)) (h:=?_);refine gU (h:=λ x28=>?_);refine Bw ?_
         refine fH ((x28,x142,x143,mY (Zl (aB x.L m) (gY h (level:Int)) x142.1) x143)) ?_ (hw1:=λ w hw=>hw.v6)
         ·exact⟨h142,rfl⟩
        ·refine gW (i:=9) (h:=λ x28=>?_)
         refine bB (i:=5) (hq:=(cF (hc:=λ w1 hw=>Z2 (v:=(aB x.L m)) h48.2 (gY h (level:Int)) x142.1 (ok.sA hw hA m)))) (h:=λ x143 h143=>?_);refine aN ?_;refine cJ (i:=7) (hq:=(bO rf rfl)) (h:=?_);refine cJ (i:=8) (hq:=(bO rf rfl)) (h:=?_);refine Bw ?_
         refine fH ((x28,x142,x143,mY (Zl (aB x.L m) (gY h (level:Int)) x142.1) x143)) ?_ (hw1:=λ w hw=>hw.v6)
         ·exact⟨h142,rfl⟩
       ·refine gW (i:=9) (h:=λ x28=>?_)
        refine bB (i:=4) (hq:=(cM (hs:=xH k bx bm x dn rs) (os:=xW x) (A0:=[(none,aG []),(none,cY [])]) (hc:=λ w hs=>gV hg (n:={Nd.zero with kind:=4,hash:=(h:Int),key:=k.key,val:=k.val}) (xs:=[]) (ys:=[]) 0 _ rfl rfl (by decide) (Nat.zero_le _) (F4 hh) (bK _) (g2) ok hs))) (h:=λ x142 h142=>?_);refine bB (i:=5) (hq:=(cF (hc:=λ w1 hw=>Z2 (v:=(aB x.L m)) h48.2 (gY h (level:Int)) x142.1 (ok.sA hw hA m)))) (h:=λ x143 h143=>?_);refine aN ?_;refine cJ (i:=7) (hq:=(bO rf rfl)) (h:=?_);refine cJ (i:=8) (hq:=(bO rf rfl)) (h:=?_);refine Bw ?_
        refine fH ((x28,x142,x143,mY (Zl (aB x.L m) (gY h (level:Int)) x142.1) x143)) ?_ (hw1:=λ w hw=>hw.v6)
        ·exact⟨h142,rfl⟩
      dsimp only[hY,List.map,List.cons_append,List.nil_append]
      obtain⟨hz,ez⟩:=hx
      have hlz:=hz.len
      have hB:=aBL ((ok.nv m).mono (Nat.le_refl _) (Nat.le_refl _) |>.mono hlz hz.lc) hz.bd (gY h (level:Int))
      refine aV ?_;refine eC [(0,[]),(1,[]),(2,[]),(3,[]),(4,[]),(5,[]),(6,[]),(7,[]),(8,[2]),(9,[]),(10,[]),(11,[]),(12,[]),(13,[]),(14,[])] ?_;refine iL ?_;refine Ka9 ?_;refine aN ?_;refine bT ?_;refine aN ?_;refine bB (i:=8) (hq:=(cM (hs:=xH k bx bm z.2.1.2.1 dn rs) (os:=xW z.2.1.2.1) (A0:=[(z.2.2.2.brA,aG (mP (Zl (aB x.L m) (gY h (level:Int)) z.2.1.1))),(z.2.2.2.prA,cY [])]) (hA:=by rw[ez];exact Sd) (hc:=λ w hs=>gV hg (n:=z.2.2.2) (xs:=mP (Zl (aB x.L m) (gY h (level:Int)) z.2.1.1)) (ys:=[]) m _ (by rw[ez];exact Ek _ _) (by rw[ez];exact Eo _ _) hB.len (Nat.zero_le _) (by rw[ez];exact hB.nvB _) (by omega) (by rw[ez,<- aBg h48.2];exact hz.go) hz.ok hs))) (h:=λ x154 h154=>?_);refine bB (i:=9) (hq:=(cM (hs:=xH k bx bm x154.2.1 dn rs) (os:=xW x154.2.1) (hc:=λ w hs=>tB hg k.t i m x154.1 _ ht (by have:=h154.len;omega) h154.bd h154.go h154.ok hs))) (h:=λ x155 h155=>?_)
      have hch:=Ch.nx h155 (Ch.nx h154 (((Ch.base (F:=[])).nx hz).cons (f:=(z.2.2.1.1,aG (mP (Zl (aB x.L m) (gY h (level:Int)) z.2.1.1))))))
      have hlc:x.cs.length<=x155.2.1.cs.length:=by have:=hz.lc;have:=h154.lc;have:=h155.lc;omega
      refine cR (i:=10) (hq:=(cV (hc:=λ w1 hw=>pL _ _ _ _ w1))) (h:=λ x156=>?_);refine cJ (i:=11) (hq:=(bO rf rfl)) (h:=?_);refine cJ (i:=12) (hq:=(bO rf rfl)) (h:=?_);refine Bw ?_
      refine bE Tryz.results224 (λ w hw=>?_)
      obtain⟨N,hN,hf⟩:=hch.to (t':=K (sN false 0) (if x155.1=true then 1 else 0)) h155 (h155.go) hlc (bK _)
      exact⟨(sN false 0,(if x155.1=true then 1 else 0),x155.2.1,N),rfl,hN,(hw.eW hf).v4⟩
     ·exact nv c134
   ·exact nv c125
set_option maxRecDepth 100000 in
theorem X8(hg:g.Ok)(i m:Int){h:Nat}(hh:h<18446744073709551616)(level:Nat)(hlv:level<=1073741824)(gen:Int)(K:Rs->Int->Tr)(ht:k.t.root<=9223372036854775807)(hi:i<=x.L.length)(hm:m<=x.L.length)(hA:∀f∈aM x.L,f∈A)(hk:¬(aB x.L m).nd.kind=6){b:Int}(hl:lA (aB x.L m).c (gY h (level:Int))=some b)(hi2:(aB x.L b).nd.kind=2)(go:gF g x (mA k i m h level gen K))(ok:x.Ok)(hs:SF w D (xH k bx bm x dn rs) A [] (xW x) w):Calls prog 224 #[.pointer (some ⟨bx,0,none⟩),.int .i64 i,.int .i64 m,.int .u64 (h:Int),.int .i64 (level:Int),.int .i64 gen] w (Zq g x K bx bm k dn rs D w):=by
 have hyl:=rK ok m
 have hlL:=ok.lL
 have hb:b<=x.L.length:=by have:=pV (ok.nv m) (gY h (level:Int));rw[hl] at this;exact this
 refine enter Tryz.func224 Tryz.ntmps224 rfl rfl (cB hs) ?_
 simp only[cC]
 refine J0 ?_;refine aK (λ x12=>?_);refine jF ?_;refine eC [(0,[]),(1,[]),(2,[]),(3,[]),(4,[]),(5,[]),(6,[]),(7,[]),(8,[]),(9,[]),(10,[]),(11,[]),(12,[]),(13,[]),(14,[]),(15,[4,9,14]),(16,[9,14]),(17,[14]),(18,[])] ?_;refine J9 ?_;refine aU ?_;refine bV (i:=4) (hq:=(aT (k:=2) (vs:=[.int .i64 k.t.root,.bool k.t.ro]) rf dC eT rfl rfl)) (h:=?_);refine yD ?_;refine yD ?_;refine gU (hfire:=(λ _=>by((repeat (first|exact aJ.nil|refine aJ.cons (by first|exact fC (hq:=aT (k:=2) (vs:=[.int .i64 k.t.root,.bool k.t.ro]) rf dC eT rfl rfl)|exact eG) ?_));done))) (h:=λ x14=>?_);refine oC (h:=λ _=>?_);refine Oz ?_;refine jG ?_;refine aD (cM (hs:=xH k bx bm x dn rs) (os:=xW x) (hc:=λ w hs=>cG m _ hm go ok hs)) (λ x48 h48=>?_);refine aK (λ x17=>?_);refine J5 ?_;refine Kc7 ?_
 refine bC (λ c51=>?_) (λ c51=>?_)
 ·exact absurd c51 hk
 ·have g0:=h48.1.to (λ _=>if_neg hk)
  have g1:=uA g0 (by rw[hl];rfl)
  rw[hl] at g1
  refine Dc ?_;refine aQ (cV (hc:=λ w1 hw=>fJ hh (level:Int) w1)) (λ x91=>?_);refine zS ?_;refine aA ?_;refine bN ?_;refine aK (λ x23=>?_);refine J5 ?_;refine Dn ?_;refine aQ (cV (hc:=λ w1 hw=>Ky (v:=(aB x.L m)) h48.2 hl (ok.sA hw hA m))) (λ x99=>?_);refine aA ?_;refine aC (bO rf rfl) rfl ?_;refine aC (bO rf rfl) rfl ?_;refine J8 ?_;refine C6 ?_
  (refine Ka3 ?_)
  ((refine Ka3 ?_));((refine aE ?_;refine aD (cM (hs:=xH k bx bm x dn rs) (os:=xW x) (hc:=λ w hs=>cG b _ hb g1 ok hs)) (λ x106 h106=>?_)));refine J87 ?_;refine aH ?_
  refine bC (λ c109=>?_) (λ c109=>?_)
  ·have g2:=h106.1.to (λ _=>if_pos hi2)
   refine J0 ?_;refine bN ?_;refine Br ?_
   refine bE Tryz.results224 (λ w hw=>?_)
   exact⟨(Rs.zero,2,x,[]),rfl,⟨g2,ok,by simp,Nat.le_refl _,bK _⟩,hw.aX (hF:=by exact aY.nil)⟩
  ·exact absurd hi2 c109
set_option maxRecDepth 100000 in
theorem Zd(hg:g.Ok)(i m:Int){h:Nat}(hh:h<18446744073709551616)(level:Nat)(hlv:level<=1073741824)(gen:Int)(K:Rs->Int->Tr)(ht:k.t.root<=9223372036854775807)(hi:i<=x.L.length)(hm:m<=x.L.length)(hA:∀f∈aM x.L,f∈A)(hk:¬(aB x.L m).nd.kind=6){b:Int}(hl:lA (aB x.L m).c (gY h (level:Int))=some b)(hi2:¬(aB x.L b).nd.kind=2)(he:(aB x.L b).nd.key=k.key)(go:gF g x (mA k i m h level gen K))(ok:x.Ok)(hs:SF w D (xH k bx bm x dn rs) A [] (xW x) w):Calls prog 224 #[.pointer (some ⟨bx,0,none⟩),.int .i64 i,.int .i64 m,.int .u64 (h:Int),.int .i64 (level:Int),.int .i64 gen] w (Zq g x K bx bm k dn rs D w):=by
 have hyl:=rK ok m
 have hlL:=ok.lL
 have hb:b<=x.L.length:=by have:=pV (ok.nv m) (gY h (level:Int));rw[hl] at this;exact this
 refine enter Tryz.func224 Tryz.ntmps224 rfl rfl (cB hs) ?_
 simp only[cC]
 refine J0 ?_;refine aK (λ x12=>?_);refine jF ?_;refine eC [(0,[]),(1,[]),(2,[]),(3,[]),(4,[]),(5,[]),(6,[]),(7,[]),(8,[]),(9,[]),(10,[]),(11,[]),(12,[]),(13,[]),(14,[]),(15,[4,9,14]),(16,[9,14]),(17,[14]),(18,[])] ?_;refine J9 ?_;refine aU ?_;refine bV (i:=4) (hq:=(aT (k:=2) (vs:=[.int .i64 k.t.root,.bool k.t.ro]) rf dC eT rfl rfl)) (h:=?_);refine yD ?_;refine yD ?_;refine gU (hfire:=(λ _=>by((repeat (first|exact aJ.nil|refine aJ.cons (by first|exact fC (hq:=aT (k:=2) (vs:=[.int .i64 k.t.root,.bool k.t.ro]) rf dC eT rfl rfl)|exact eG) ?_));done))) (h:=λ x14=>?_);refine oC (h:=λ _=>?_);refine Oz ?_;refine jG ?_;refine aD (cM (hs:=xH k bx bm x dn rs) (os:=xW x) (hc:=λ w hs=>cG m _ hm go ok hs)) (λ x48 h48=>?_);refine aK (λ x17=>?_);refine J5 ?_;refine Kc7 ?_
 refine bC (λ c51=>?_) (λ c51=>?_)
 ·exact absurd c51 hk
 ·have g0:=h48.1.to (λ _=>if_neg hk)
  have g1:=uA g0 (by rw[hl];rfl)
  rw[hl] at g1
  refine Dc ?_;refine aQ (cV (hc:=λ w1 hw=>fJ hh (level:Int) w1)) (λ x91=>?_);refine zS ?_;refine aA ?_;refine bN ?_;refine aK (λ x23=>?_);refine J5 ?_;refine Dn ?_;refine aQ (cV (hc:=λ w1 hw=>Ky (v:=(aB x.L m)) h48.2 hl (ok.sA hw hA m))) (λ x99=>?_);refine aA ?_;refine aC (bO rf rfl) rfl ?_;refine aC (bO rf rfl) rfl ?_;refine J8 ?_;refine C6 ?_
  (refine Ka3 ?_)
  ((refine Ka3 ?_));((refine aE ?_;refine aD (cM (hs:=xH k bx bm x dn rs) (os:=xW x) (hc:=λ w hs=>cG b _ hb g1 ok hs)) (λ x106 h106=>?_)));refine J87 ?_;refine aH ?_
  refine bC (λ c109=>?_) (λ c109=>?_)
  ·exact absurd c109 hi2
  ·have g3:=(h106.1.to (λ _=>if_neg hi2)).to (λ _=>if_pos he)
   refine Dc ?_
   (refine Ka3 ?_)
   ((refine Ka3 ?_));((refine aE ?_;refine aD (cM (hs:=xH k bx bm x dn rs) (os:=xW x) (hc:=λ w hs=>fO b (by omega) ok hs)) (λ x115 h115=>?_)));refine J81 ?_;((refine aE ?_;refine aC (qn rf rf he) rfl ?_));refine cD ?_;refine zS ?_;refine aD (cM (hs:=xH k bx bm x dn rs) (os:=xW x) (hc:=λ w hs=>fO b (by omega) ok hs)) (λ x122 h122=>?_);refine cE ?_;refine jF ?_;refine J2 ?_;refine oV ?_
   refine bC (λ c125=>?_) (λ c125=>?_)
   ·exact nv c125
   ·refine kW ?_;refine Kc2 ?_;refine aD (cM (hs:=xH k bx bm x dn rs) (os:=xW x) (hc:=λ w hs=>xJ _ _ hs)) (λ x129 h129=>?_);refine oV ?_
    refine bC (λ c130=>?_) (λ c130=>?_)
    ·have g2:=g3.to (λ _=>if_neg (show ¬oR k true (aB x.L b).nd.val=true from by simpa using c130))
     refine jG ?_;refine aQ (cV (hc:=λ w1 hw=>gQ _ _ w1)) (λ x133=>?_);refine Br ?_
     refine bE Tryz.results224 (λ w hw=>?_)
     exact⟨(jN true (aB x.L b).nd.val,1,x,[]),rfl,⟨g2,ok,by simp,Nat.le_refl _,bK _⟩,hw.aX (hF:=by exact aY.nil)⟩
    ·have g2:=g3.to (λ _=>if_pos (show oR k true (aB x.L b).nd.val=true from by simpa using c130))
     refine rX ?_;refine J2 ?_;refine yK ?_;refine J1 ?_
     refine bC (λ c134=>?_) (λ c134=>?_)
     ·exact nv c134
     ·refine Ka4 ?_
      refine bC (λ c159=>?_) (λ c159=>?_)
      ·refine aV ?_;refine eC [(0,[]),(1,[]),(2,[]),(3,[]),(4,[]),(5,[]),(6,[]),(7,[]),(8,[]),(9,[]),(13,[]),(10,[2]),(11,[2]),(12,[]),(14,[]),(15,[]),(16,[]),(17,[]),(18,[])] ?_;refine iL ?_;refine Ka9 ?_;refine iL ?_;refine iL ?_;refine bT ?_;refine aN ?_;refine bB (i:=10) (hq:=(cM (hs:=xH k bx bm x dn rs) (os:=xW x) (A0:=[(none,aG []),(none,cY [])]) (hc:=λ w hs=>gV hg (n:={Nd.zero with kind:=4,hash:=(h:Int),key:=k.key,val:=k.val}) (xs:=[]) (ys:=[]) 0 _ rfl rfl (by decide) (Nat.zero_le _) (F4 hh) (bK _) (g2) ok hs))) (h:=λ x171 h171=>?_)
       have hch:=(Ch.base (F:=[])).nx h171
       refine bB (i:=11) (hq:=(cM (hs:=xH k bx bm x171.2.1 dn rs) (os:=xW x171.2.1) (A0:=aM x171.2.1.L) (hA:=Ch.all hch hA) (hc:=λ w hs=>B8 hg m (gY h (level:Int)) x171.1 _ (by have:=h171.len;omega) h171.bd (λ f hf=>hf) h171.go h171.ok hs))) (h:=λ x172 h172=>?_);refine bB (i:=12) (hq:=(cM (hs:=xH k bx bm x172.2.1 dn rs) (os:=xW x172.2.1) (hc:=λ w hs=>tB hg k.t i m x172.1 _ ht (by have:=h171.len;have:=h172.len;omega) h172.bd h172.go h172.ok hs))) (h:=λ x173 h173=>?_)
       have hch2:=Ch.nx h173 (Ch.nx h172 hch)
       have hlc:x.cs.length<=x173.2.1.cs.length:=by have:=h171.lc;have:=h172.lc;have:=h173.lc;omega
       refine cR (i:=14) (hq:=(cV (hc:=λ w1 hw=>pL _ _ _ _ w1))) (h:=λ x175=>?_);refine cJ (i:=15) (hq:=(bO rf rfl)) (h:=?_);refine cJ (i:=16) (hq:=(bO rf rfl)) (h:=?_);refine Bw ?_
       refine bE Tryz.results224 (λ w hw=>?_)
       obtain⟨N,hN,hf⟩:=hch2.to (t':=K (sN true (aB x.L b).nd.val) (if x173.1=true then 1 else 0)) h173 (h173.go) hlc (bK _)
       exact⟨(sN true (aB x.L b).nd.val,(if x173.1=true then 1 else 0),x173.2.1,N),rfl,hN,(hw.eW hf).v4⟩
      ·exact nv c159
set_option maxRecDepth 100000 in
theorem Y2(hg:g.Ok)(i m:Int){h:Nat}(hh:h<18446744073709551616)(level:Nat)(hlv:level<=1073741824)(gen:Int)(K:Rs->Int->Tr)(ht:k.t.root<=9223372036854775807)(hi:i<=x.L.length)(hm:m<=x.L.length)(hA:∀f∈aM x.L,f∈A)(hk:¬(aB x.L m).nd.kind=6){b:Int}(hl:lA (aB x.L m).c (gY h (level:Int))=some b)(hi2:¬(aB x.L b).nd.kind=2)(he:¬(aB x.L b).nd.key=k.key)(go:gF g x (mA k i m h level gen K))(ok:x.Ok)(hs:SF w D (xH k bx bm x dn rs) A [] (xW x) w):Calls prog 224 #[.pointer (some ⟨bx,0,none⟩),.int .i64 i,.int .i64 m,.int .u64 (h:Int),.int .i64 (level:Int),.int .i64 gen] w (Zq g x K bx bm k dn rs D w):=by
 have hyl:=rK ok m
 have hlL:=ok.lL
 have hb:b<=x.L.length:=by have:=pV (ok.nv m) (gY h (level:Int));rw[hl] at this;exact this
 refine enter Tryz.func224 Tryz.ntmps224 rfl rfl (cB hs) ?_
 simp only[cC]
 refine J0 ?_;refine aK (λ x12=>?_);refine jF ?_;refine eC [(0,[]),(1,[]),(2,[]),(3,[]),(4,[]),(5,[]),(6,[]),(7,[]),(8,[]),(9,[]),(10,[]),(11,[]),(12,[]),(13,[]),(14,[]),(15,[4,9,14]),(16,[9,14]),(17,[14]),(18,[])] ?_;refine J9 ?_;refine aU ?_;refine bV (i:=4) (hq:=(aT (k:=2) (vs:=[.int .i64 k.t.root,.bool k.t.ro]) rf dC eT rfl rfl)) (h:=?_);refine yD ?_;refine yD ?_;refine gU (hfire:=(λ _=>by((repeat (first|exact aJ.nil|refine aJ.cons (by first|exact fC (hq:=aT (k:=2) (vs:=[.int .i64 k.t.root,.bool k.t.ro]) rf dC eT rfl rfl)|exact eG) ?_));done))) (h:=λ x14=>?_);refine oC (h:=λ _=>?_);refine Oz ?_;refine jG ?_;refine aD (cM (hs:=xH k bx bm x dn rs) (os:=xW x) (hc:=λ w hs=>cG m _ hm go ok hs)) (λ x48 h48=>?_);refine aK (λ x17=>?_);refine J5 ?_;refine Kc7 ?_
 refine bC (λ c51=>?_) (λ c51=>?_)
 ·exact absurd c51 hk
 ·have g0:=h48.1.to (λ _=>if_neg hk)
  have g1:=uA g0 (by rw[hl];rfl)
  rw[hl] at g1
  refine Dc ?_;refine aQ (cV (hc:=λ w1 hw=>fJ hh (level:Int) w1)) (λ x91=>?_);refine zS ?_;refine aA ?_;refine bN ?_;refine aK (λ x23=>?_);refine J5 ?_;refine Dn ?_;refine aQ (cV (hc:=λ w1 hw=>Ky (v:=(aB x.L m)) h48.2 hl (ok.sA hw hA m))) (λ x99=>?_);refine aA ?_;refine aC (bO rf rfl) rfl ?_;refine aC (bO rf rfl) rfl ?_;refine J8 ?_;refine C6 ?_
  (refine Ka3 ?_)
  ((refine Ka3 ?_));((refine aE ?_;refine aD (cM (hs:=xH k bx bm x dn rs) (os:=xW x) (hc:=λ w hs=>cG b _ hb g1 ok hs)) (λ x106 h106=>?_)));refine J87 ?_;refine aH ?_
  refine bC (λ c109=>?_) (λ c109=>?_)
  ·exact absurd c109 hi2
  ·have g3:=(h106.1.to (λ _=>if_neg hi2)).to (λ _=>if_neg he)
   refine Dc ?_
   (refine Ka3 ?_)
   ((refine Ka3 ?_));((refine aE ?_;refine aD (cM (hs:=xH k bx bm x dn rs) (os:=xW x) (hc:=λ w hs=>fO b (by omega) ok hs)) (λ x115 h115=>?_)));refine J81 ?_;((refine aE ?_;refine aC (ta rf rf he) rfl ?_));refine cD ?_;refine zS ?_;refine aD (cM (hs:=xH k bx bm x dn rs) (os:=xW x) (hc:=λ w hs=>fO b (by omega) ok hs)) (λ x122 h122=>?_);refine cE ?_;refine jF ?_;refine J2 ?_;refine oV ?_
   refine bC (λ c125=>?_) (λ c125=>?_)
   ·refine dM ?_;refine jF ?_;refine Kc2 ?_;refine aD (cM (hs:=xH k bx bm x dn rs) (os:=xW x) (hc:=λ w hs=>xJ _ _ hs)) (λ x129 h129=>?_);refine oV ?_
    refine bC (λ c130=>?_) (λ c130=>?_)
    ·have g2:=g3.to (λ _=>if_neg (show ¬oR k false 0=true from by simpa using c130))
     refine jG ?_;refine aQ (cV (hc:=λ w1 hw=>gQ _ _ w1)) (λ x133=>?_);refine Br ?_
     refine bE Tryz.results224 (λ w hw=>?_)
     exact⟨(jN false 0,1,x,[]),rfl,⟨g2,ok,by simp,Nat.le_refl _,bK _⟩,hw.aX (hF:=by exact aY.nil)⟩
    ·have g2:=g3.to (λ _=>if_pos (show oR k false 0=true from by simpa using c130))
     refine rX ?_;refine J2 ?_;refine yK ?_;refine J1 ?_
     refine bC (λ c134=>?_) (λ c134=>?_)
     ·exact nv c134
     ·refine Ka4 ?_
      refine bC (λ c159=>?_) (λ c159=>?_)
      ·exact nv c159
      ·refine pI ?_;refine jG ?_;refine bN ?_;refine pK ?_;refine pK ?_;refine Ie ?_;refine aA ?_;refine aD (cM (hs:=xH k bx bm x dn rs) (os:=xW x) (hc:=λ w hs=>yj hg b hh (level+1) gen _ hb g2 ok hs)) (λ x187 h187=>?_);refine aD (cM (hs:=xH k bx bm x187.2.1 dn rs) (os:=xW x187.2.1) (A0:=[(none,aG []),(none,cY [])]) (hc:=λ w hs=>gV hg (n:={Nd.zero with kind:=2,gen:=gen}) (xs:=[]) (ys:=[]) x187.1 _ rfl rfl (by decide) (Nat.zero_le _) sB h187.bd h187.go h187.ok hs)) (λ x188 h188=>?_)
       have hch:=Ch.nx h188 ((Ch.base (F:=[])).nx h187)
       refine jF ?_;refine eC [(0,[]),(1,[]),(2,[]),(3,[]),(4,[]),(5,[]),(6,[]),(7,[]),(8,[]),(9,[2]),(10,[]),(11,[]),(12,[]),(13,[]),(14,[]),(15,[])] ?_;refine iL ?_;refine Ka9 ?_;refine iL ?_;refine iL ?_;refine bB (i:=9) (hq:=(cM (hs:=xH k bx bm x188.2.1 dn rs) (os:=xW x188.2.1) (A0:=aM x188.2.1.L) (hA:=Ch.all hch hA) (hc:=λ w hs=>B8 hg m (gY h (level:Int)) x188.1 _ (by have:=h187.len;have:=h188.len;omega) h188.bd (λ f hf=>hf) h188.go h188.ok hs))) (h:=λ x198 h198=>?_);refine bB (i:=10) (hq:=(cM (hs:=xH k bx bm x198.2.1 dn rs) (os:=xW x198.2.1) (hc:=λ w hs=>tB hg k.t i m x198.1 _ ht (by have:=h187.len;have:=h188.len;have:=h198.len;omega) h198.bd h198.go h198.ok hs))) (h:=λ x199 h199=>?_)
       have hch2:=Ch.nx h199 (Ch.nx h198 hch)
       have hlc:x.cs.length<=x199.2.1.cs.length:=by have:=h187.lc;have:=h188.lc;have:=h198.lc;have:=h199.lc;omega
       refine cR (i:=11) (hq:=(cV (hc:=λ w1 hw=>pL _ _ _ _ w1))) (h:=λ x200=>?_);refine cJ (i:=12) (hq:=(bO rf rfl)) (h:=?_);refine cJ (i:=13) (hq:=(bO rf rfl)) (h:=?_);refine Bw ?_
       refine bE Tryz.results224 (λ w hw=>?_)
       obtain⟨N,hN,hf⟩:=hch2.to (t':=K (sN false 0) (if x199.1=true then 1 else 0)) h199 (h199.go) hlc (bK _)
       exact⟨(sN false 0,(if x199.1=true then 1 else 0),x199.2.1,N),rfl,hN,(hw.eW hf).v4⟩
   ·exact nv c125
theorem X3(hg:g.Ok)(i m:Int){h:Nat}(hh:h<18446744073709551616)(level:Nat)(hlv:level<=1073741824)(gen:Int)(K:Rs->Int->Tr)(ht:k.t.root<=9223372036854775807)(hi:i<=x.L.length)(hm:m<=x.L.length)(hA:∀f∈aM x.L,f∈A)(go:gF g x (mA k i m h level gen K))(ok:x.Ok)(hs:SF w D (xH k bx bm x dn rs) A [] (xW x) w):Calls prog 224 #[.pointer (some ⟨bx,0,none⟩),.int .i64 i,.int .i64 m,.int .u64 (h:Int),.int .i64 (level:Int),.int .i64 gen] w (Zq g x K bx bm k dn rs D w):=by
 by_cases hk:(aB x.L m).nd.kind=6
 ·exact Xj hg i m hh level hlv gen K ht hi hm hA hk go ok hs
 ·cases hl:lA (aB x.L m).c (gY h (level:Int)) with
  | none=>exact Yg hg i m hh level hlv gen K ht hi hm hA hk hl go ok hs
  | some b =>
   by_cases hi2:(aB x.L b).nd.kind=2
   ·exact X8 hg i m hh level hlv gen K ht hi hm hA hk hl hi2 go ok hs
   ·by_cases he:(aB x.L b).nd.key=k.key
    ·exact Zd hg i m hh level hlv gen K ht hi hm hA hk hl hi2 he go ok hs
    ·exact Y2 hg i m hh level hlv gen K ht hi hm hA hk hl hi2 he go ok hs
end
end Go.Proofs.YtbajmaoegmbfgaaGreat

/- Executions of the reference: one attempt of PUT at a leaf. -/
import Derived.Test.YtbajmaoegmbfgaaGreatGEx14
set_option linter.unusedSimpArgs false
set_option linter.unusedVariables false
namespace Go.Ct
open Go Go.RowKit
theorem r8{a b:ByteArray}(h:a=b):(a.toList==b.toList)=true:=by subst h;simp
theorem sn{a b:ByteArray}(h:¬a=b):(a.toList==b.toList)=false:=by
 rw[beq_eq_false_iff_ne]
 exact λ e=>h (toList_inj e)
section
variable{P:Program}{S:List (Nat×Value)}{G:World->Prop}{d:Nat}{ty t t':TypeId}{pos:String}{af:Array Edge}{gd:Option (Nat×Bool)}{x y:Operand}{a b:ByteArray}
theorem n9(hx:ev S x=.string a)(hy:ev S y=.string b)(h:a=b):aL P S G ⟨some d,.binOp .eql t x y t',ty,pos,af,gd⟩ (.bool true):=by
 have:=Ib (P:=P) (G:=G) (d:=d) (ty:=ty) (pos:=pos) (af:=af) (gd:=gd) (t:=t) (t':=t') hx hy
 rwa [r8 h] at this
theorem m7(hx:ev S x=.string a)(hy:ev S y=.string b)(h:¬a=b):aL P S G ⟨some d,.binOp .eql t x y t',ty,pos,af,gd⟩ (.bool false):=by
 have:=Ib (P:=P) (G:=G) (d:=d) (ty:=ty) (pos:=pos) (af:=af) (gd:=gd) (t:=t) (t':=t') hx hy
 rwa [sn h] at this
end
end Go.Ct
namespace Go.Proofs.YtbajmaoegmbfgaaGreat
open Go Go.RowKit Go.Ct
section
variable{v:aS}{n c:Nat}{w:World}
theorem Jo(h:lJ n c v.c){i b:Int}(e:mB v.c i=some b)(hr:rK w v.nd v.xs v.ys):Calls Tryz.prog 216 #[v.nd.v,.int .i64 i] w λ e w'=>e=.returned (.tuple #[.int .i64 b,.bool true])/\St w [] [] w':=by
 have:=Jt h i hr
 rwa [e] at this
theorem tz(h:lJ n c v.c){i:Int}(e:mB v.c i=none)(hr:rK w v.nd v.xs v.ys):Calls Tryz.prog 216 #[v.nd.v,.int .i64 i] w λ e w'=>e=.returned (.tuple #[.int .i64 0,.bool false])/\St w [] [] w':=by
 have:=Jt h i hr
 rwa [e] at this
end
section
variable{k:Cl}{bx bm:Nat}{x:XS}{dn:Bool}{rs:Rs}{D:List Nat}{A:Fr}{w:World}{g:Gx}
abbrev Yt(g:Gx)(x:XS)(K:Rs->Int->Tr)(bx bm:Nat)(k:Cl)(dn:Bool)(rs:Rs)(D:List Nat)(w:World)(e:Ending)(w':World):Prop:=∃q:Rs×Int×XS×List aS,e=.returned (.tuple #[.agg ⟨q.1.cells⟩,.int .i64 q.2.1])/\Nx g x q.2.2.1 q.2.2.2 (K q.1 q.2.1) 0/\SF w D (xH k bx bm q.2.2.1 dn rs) [] (aK q.2.2.2) (xW q.2.2.1) w'
set_option maxRecDepth 100000 in
theorem Yp(hg:g.Ok)(i m:Int){h:Nat}(hh:h<18446744073709551616)(level:Nat)(hlv:level<=1073741824)(gen:Int)(K:Rs->Int->Tr)(ht:k.t.root<=9223372036854775807)(hi:i<=x.L.length)(hm:m<=x.L.length)(hA:∀f∈aK x.L,f∈A)(hk:(aD x.L m).nd.kind=6)(go:fU g x (lR k i m h level gen K))(ok:x.Ok)(hs:SF w D (xH k bx bm x dn rs) A [] (xW x) w):Calls Tryz.prog 224 #[.pointer (some ⟨bx,0,none⟩),.int .i64 i,.int .i64 m,.int .u64 (h:Int),.int .i64 (level:Int),.int .i64 gen] w (Yt g x K bx bm k dn rs D w):=by
 have hyl:=rA ok m
 have hlL:=ok.lL
 refine enter Tryz.func224 Tryz.ntmps224 rfl rfl (bZ hs) ?_
 simp only[bX]
 refine J0 ?_;refine aI (λ x12=>?_);refine hZ ?_;refine dV [(0,[]),(1,[]),(2,[]),(3,[]),(4,[]),(5,[]),(6,[]),(7,[]),(8,[]),(9,[]),(10,[]),(11,[]),(12,[]),(13,[]),(14,[]),(15,[4,9,14]),(16,[9,14]),(17,[14]),(18,[])] ?_;refine J9 ?_;refine aQ ?_;refine bS (i:=4) (hq:=(aN (k:=2) (vs:=[.int .i64 k.t.root,.bool k.t.ro]) rf cN dI rfl rfl)) (h:=?_);refine xS ?_;refine xS ?_;refine fO (hfire:=(λ _=>by((repeat (first|exact aV.nil|refine aV.cons (by first|exact iC (hq:=aN (k:=2) (vs:=[.int .i64 k.t.root,.bool k.t.ro]) rf cN dI rfl rfl)|exact iX) ?_));done))) (h:=λ x14=>?_);refine oQ (h:=λ _=>?_);refine l9 ?_;refine jA ?_;refine aC (cM (hs:=xH k bx bm x dn rs) (os:=xW x) (hc:=λ w hs=>cI m _ hm go ok hs)) (λ x48 h48=>?_);refine aI (λ x17=>?_);refine J5 ?_;refine D7 ?_;refine uB ?_
 refine bC (λ c51=>?_) (λ c51=>?_)
 ·have g1:=h48.1.to (λ _=>if_pos hk)
  refine gM ?_;refine aA ?_;refine aP (cV (hc:=λ w1 hw=>Mj (v:=(aD x.L m)) (n:=0) k.key (ok.rJ hw hA m) (ok.ysl m))) (λ x56=>?_);refine aA ?_;refine aB (bP rf rfl) rfl ?_;refine aB (bP rf rfl) rfl ?_;refine J8 ?_;refine C6 ?_;refine aA ?_;refine aC (cM (hs:=xH k bx bm x dn rs) (os:=xW x) (hc:=λ w hs=>wT _ _ hs)) (λ x62 h62=>?_);refine oK ?_
  refine bC (λ c63=>?_) (λ c63=>?_)
  ·have g2:=g1.to (λ _=>if_neg (show ¬nW k (dR (aD x.L m).c.ys k.key).isSome ((dR (aD x.L m).c.ys k.key).getD 0)=true from by simpa using c63))
   refine jA ?_;refine aP (cV (hc:=λ w1 hw=>gE _ _ w1)) (λ x66=>?_);refine yA ?_
   refine bB Tryz.results224 (λ w hw=>?_)
   exact⟨(jL (dR (aD x.L m).c.ys k.key).isSome ((dR (aD x.L m).c.ys k.key).getD 0),1,x,[]),rfl,⟨g2,ok,by simp,Nat.le_refl _,bH _⟩,hw.aU (hF:=by exact aY.nil)⟩
  ·have g2:=g1.to (λ _=>if_pos (show nW k (dR (aD x.L m).c.ys k.key).isSome ((dR (aD x.L m).c.ys k.key).getD 0)=true from by simpa using c63))
   refine aX ?_;refine nX ?_;refine pE ?_;refine aC (cF (hc:=λ w1 hw=>aA9 (v:=(aD x.L m)) h48.2 k.key k.val (ok.rJ hw hA m) (by omega))) (λ x71 h71=>?_);refine aA ?_;refine aB (bP rf rfl) rfl ?_;refine aB (bP rf rfl) rfl ?_;refine aI (λ x20=>?_);refine iF (λ _=>?_);refine hZ ?_;refine dV [(0,[]),(1,[]),(2,[]),(3,[]),(4,[]),(5,[]),(6,[]),(7,[]),(10,[]),(11,[]),(8,[2]),(9,[]),(12,[]),(13,[]),(14,[]),(15,[]),(16,[])] ?_;refine gT ?_;refine bK ?_;refine gT ?_;refine aM ?_;refine bK ?_;refine gT ?_;refine aM ?_;refine aZ (i:=8) (hq:=(cM (hs:=xH k bx bm x dn rs) (os:=xW x) (A0:=[((jz (kL (aD x.L m).nd (aD x.L m).xs (aD x.L m).ys k.key k.val) (aD x.L m).nd.hash x71).brA,aH []),((jz (kL (aD x.L m).nd (aD x.L m).xs (aD x.L m).ys k.key k.val) (aD x.L m).nd.hash x71).prA,dC (Yz (kL (aD x.L m).nd (aD x.L m).xs (aD x.L m).ys k.key k.val)))]) (hA:=aAh) (hc:=λ w hs=>gJ hg (n:=jz (kL (aD x.L m).nd (aD x.L m).xs (aD x.L m).ys k.key k.val) (aD x.L m).nd.hash x71) (xs:=[]) (ys:=Yz (kL (aD x.L m).nd (aD x.L m).xs (aD x.L m).ys k.key k.val)) m _ (jx _ _ _).1 (jx _ _ _).2 (by decide) (by have:=xp (aD x.L m).xs (aD x.L m).ys (aD x.L m).nd k.key k.val;omega) (yk _ h48.2.hash) hm (by rw[aBr];exact g2) ok hs))) (h:=λ x82 h82=>?_);refine aZ (i:=9) (hq:=(cM (hs:=xH k bx bm x82.2.1 dn rs) (os:=xW x82.2.1) (hc:=λ w hs=>tG hg k.t i m x82.1 _ ht (by have:=h82.len;omega) h82.bd h82.go h82.ok hs))) (h:=λ x83 h83=>?_)
   have hch:=Ch.nx h83 (Ch.nx h82 ((Ch.base (F:=[])).cons (f:=(x71.1,dC (Yz (kL (aD x.L m).nd (aD x.L m).xs (aD x.L m).ys k.key k.val))))))
   have hlc:x.cs.length<=x83.2.1.cs.length:=by have:=h82.lc;have:=h83.lc;omega
   refine cB (i:=12) (hq:=(cV (hc:=λ w1 hw=>oW _ _ _ _ w1))) (h:=λ x86=>?_);refine cC (i:=13) (hq:=(bP rf rfl)) (h:=?_);refine cC (i:=14) (hq:=(bP rf rfl)) (h:=?_);refine yB ?_
   refine bB Tryz.results224 (λ w hw=>?_)
   obtain⟨N,hN,hf⟩:=hch.to (t':=K (rQ (dR (aD x.L m).c.ys k.key).isSome ((dR (aD x.L m).c.ys k.key).getD 0)) (if x83.1=true then 1 else 0)) h83 (h83.go) hlc (bH _)
   exact⟨(rQ (dR (aD x.L m).c.ys k.key).isSome ((dR (aD x.L m).c.ys k.key).getD 0),(if x83.1=true then 1 else 0),x83.2.1,N),rfl,hN,(hw.fA hf).aU (hF:=by exact aY.all)⟩
 ·exact absurd hk c51
set_option maxRecDepth 100000 in
theorem Xf(hg:g.Ok)(i m:Int){h:Nat}(hh:h<18446744073709551616)(level:Nat)(hlv:level<=1073741824)(gen:Int)(K:Rs->Int->Tr)(ht:k.t.root<=9223372036854775807)(hi:i<=x.L.length)(hm:m<=x.L.length)(hA:∀f∈aK x.L,f∈A)(hk:¬(aD x.L m).nd.kind=6)(hl:mB (aD x.L m).c (gL h (level:Int))=none)(go:fU g x (lR k i m h level gen K))(ok:x.Ok)(hs:SF w D (xH k bx bm x dn rs) A [] (xW x) w):Calls Tryz.prog 224 #[.pointer (some ⟨bx,0,none⟩),.int .i64 i,.int .i64 m,.int .u64 (h:Int),.int .i64 (level:Int),.int .i64 gen] w (Yt g x K bx bm k dn rs D w):=by
 have hyl:=rA ok m
 have hlL:=ok.lL
 refine enter Tryz.func224 Tryz.ntmps224 rfl rfl (bZ hs) ?_
 simp only[bX]
 refine J0 ?_;refine aI (λ x12=>?_);refine hZ ?_;refine dV [(0,[]),(1,[]),(2,[]),(3,[]),(4,[]),(5,[]),(6,[]),(7,[]),(8,[]),(9,[]),(10,[]),(11,[]),(12,[]),(13,[]),(14,[]),(15,[4,9,14]),(16,[9,14]),(17,[14]),(18,[])] ?_;refine J9 ?_;refine aQ ?_;refine bS (i:=4) (hq:=(aN (k:=2) (vs:=[.int .i64 k.t.root,.bool k.t.ro]) rf cN dI rfl rfl)) (h:=?_);refine xS ?_;refine xS ?_;refine fO (hfire:=(λ _=>by((repeat (first|exact aV.nil|refine aV.cons (by first|exact iC (hq:=aN (k:=2) (vs:=[.int .i64 k.t.root,.bool k.t.ro]) rf cN dI rfl rfl)|exact iX) ?_));done))) (h:=λ x14=>?_);refine oQ (h:=λ _=>?_);refine l9 ?_;refine jA ?_;refine aC (cM (hs:=xH k bx bm x dn rs) (os:=xW x) (hc:=λ w hs=>cI m _ hm go ok hs)) (λ x48 h48=>?_);refine aI (λ x17=>?_);refine J5 ?_;refine D7 ?_;refine uB ?_
 refine bC (λ c51=>?_) (λ c51=>?_)
 ·exact absurd c51 hk
 ·have g0:=h48.1.to (λ _=>if_neg hk)
  have g1:=Lq g0 (by rw[hl];rfl)
  refine Dc ?_;refine aP (cV (hc:=λ w1 hw=>eV hh (level:Int) w1)) (λ x91=>?_);refine xZ ?_;refine aA ?_;refine bG ?_;refine aI (λ x23=>?_);refine J5 ?_;refine Dz ?_;refine aP (cV (hc:=λ w1 hw=>tz (v:=(aD x.L m)) h48.2 hl (ok.rJ hw hA m))) (λ x99=>?_);refine aA ?_;refine aB (bP rf rfl) rfl ?_;refine aB (bP rf rfl) rfl ?_;refine J8 ?_;refine C6 ?_
  refine aJ ?_
  (refine aJ ?_);(refine aJ ?_);refine zh ?_;refine aG ?_
  refine bC (λ c109=>?_) (λ c109=>?_)
  ·exact nv c109
  ·refine Dc ?_
   refine aJ ?_
   (refine aJ ?_);(refine aJ ?_);refine J81 ?_;(refine aJ ?_);refine cJ ?_;refine xZ ?_;refine aC (cM (hs:=xH k bx bm x dn rs) (os:=xW x) (hc:=λ w hs=>fD 0 (by decide) ok hs)) (λ x122 h122=>?_);refine cD ?_;refine hZ ?_;refine J2 ?_;refine oK ?_
   refine bC (λ c125=>?_) (λ c125=>?_)
   ·refine dG ?_;refine hZ ?_;refine jA ?_;refine aA ?_;refine aC (cM (hs:=xH k bx bm x dn rs) (os:=xW x) (hc:=λ w hs=>wT _ _ hs)) (λ x129 h129=>?_);refine oK ?_
    refine bC (λ c130=>?_) (λ c130=>?_)
    ·have g2:=g1.to (λ _=>if_neg (show ¬nW k false 0=true from by simpa using c130))
     refine jA ?_;refine aP (cV (hc:=λ w1 hw=>gE _ _ w1)) (λ x133=>?_);refine yA ?_
     refine bB Tryz.results224 (λ w hw=>?_)
     exact⟨(jL false 0,1,x,[]),rfl,⟨g2,ok,by simp,Nat.le_refl _,bH _⟩,hw.aU (hF:=by exact aY.nil)⟩
    ·have g2:=g1.to (λ _=>if_pos (show nW k false 0=true from by simpa using c130))
     refine qG ?_;refine J2 ?_;refine yT ?_;refine J1 ?_
     refine bC (λ c134=>?_) (λ c134=>?_)
     ·refine aT ?_
      refine dJ [28,29,137,138,139,140,141,142,143,144,145] (λ z:Nat×(Int×XS×List aS)×(Option Addr×Nat)×Nd=>[(28,.pointer (some ⟨z.1,0,none⟩))]) (λ z=>Nx g x z.2.1.2.1 z.2.1.2.2 (.alloc (xi (aD x.L m).c (gL h (level:Int)) z.2.1.1) m λ r=>nG k.t i m r λ ok=>K (rQ false 0) (if ok=true then 1 else 0)) z.2.1.1/\z.2.2.2=mF (Yx (aD x.L m) (gL h (level:Int)) z.2.1.1) z.2.2.1) (λ z=>[(z.1,.cells ⟨z.2.2.2.cells⟩ 47 (0,0)),(x23,.cells ⟨({Nd.zero with kind:=4,hash:=(h:Int),key:=k.key,val:=k.val}:Nd).cells⟩ 47 (0,0)),(x17,.cells ⟨(aD x.L m).nd.cells⟩ 47 (0,0)),(x14,.cells ⟨[.int .i64 k.t.root,.bool k.t.ro]⟩ 29 (0,0)),(x12,.cells ⟨Rs.zero.cells⟩ 64 (0,0)),(bx,xO k bm z.2.1.2.1 dn rs),(bm,xM z.2.1.2.1)]) (λ z=>(z.2.2.1.1,aH (mC (Yx (aD x.L m) (gL h (level:Int)) z.2.1.1)))::(aK z.2.1.2.2++[])) (λ z=>xW z.2.1.2.1) (by decide) (λ _=>by exact rfl) ?_ (λ z f hx=>?_)
      ·refine fP (.one 0 [] (.one 1 [] (.one 2 [] (.one 3 [] (.two 4 [0] (.two 5 [] (.one 6 [] (.one 7 [] (.one 8 [] (.one 9 [0,3] (.one 10 [] (.one 11 [] .nil)))))) 0 [] (.two 9 [0,3] (.one 5 [] (.one 6 [] (.one 7 [] (.one 8 [] (.one 10 [] (.one 11 [] .nil)))))) 0 [] .nil)) 0 [] (.two 9 [0,3] (.one 4 [0] (.one 5 [] (.one 6 [] (.one 7 [] (.one 8 [] (.one 10 [] (.one 11 [] .nil))))))) 0 [] .nil)))))) ?_
       refine bK ?_;refine gT ?_;refine bK ?_
       refine fF (E:=[4,9]) (by decide +kernel) ((.cons ?_ (.cons ?_ .nil)))
       ·refine jG (i:=4) (hq:=(cM (hs:=xH k bx bm x dn rs) (os:=xW x) (A0:=[(none,aH []),(none,dC [])]) (hc:=λ w hs=>gJ hg (n:={Nd.zero with kind:=4,hash:=(h:Int),key:=k.key,val:=k.val}) (xs:=[]) (ys:=[]) 0 _ rfl rfl (by decide) (Nat.zero_le _) (Ha hh) (bH _) (g2) ok hs))) (h:=λ x142 h142=>?_)
        refine fF (E:=[5,9]) (by decide +kernel) ((.cons ?_ (.cons ?_ .nil)))
        ·refine jG (i:=5) (hq:=(cF (hc:=λ w1 hw=>ku (v:=(aD x.L m)) h48.2 (gL h (level:Int)) x142.1 (ok.rJ hw hA m)))) (h:=λ x143 h143=>?_)
         refine aM ?_;refine cC (i:=7) (hq:=(bP rf rfl)) (h:=?_);refine cC (i:=8) (hq:=(bP rf rfl)) (h:=?_);refine fO (h:=λ x28=>?_);refine yB ?_
         refine eC ((x28,x142,x143,mF (Yx (aD x.L m) (gL h (level:Int)) x142.1) x143)) ?_ (hw1:=λ w hw=>hw.back (hF:=by exact aY.all))
         ·exact⟨h142,rfl⟩
        ·refine eX (i:=9) (h:=λ x28=>?_)
         refine aZ (i:=5) (hq:=(cF (hc:=λ w1 hw=>ku (v:=(aD x.L m)) h48.2 (gL h (level:Int)) x142.1 (ok.rJ hw hA m)))) (h:=λ x143 h143=>?_);refine aM ?_;refine cC (i:=7) (hq:=(bP rf rfl)) (h:=?_);refine cC (i:=8) (hq:=(bP rf rfl)) (h:=?_);refine yB ?_
         refine eC ((x28,x142,x143,mF (Yx (aD x.L m) (gL h (level:Int)) x142.1) x143)) ?_ (hw1:=λ w hw=>hw.back (hF:=by exact aY.all))
         ·exact⟨h142,rfl⟩
       ·refine eX (i:=9) (h:=λ x28=>?_)
        refine aZ (i:=4) (hq:=(cM (hs:=xH k bx bm x dn rs) (os:=xW x) (A0:=[(none,aH []),(none,dC [])]) (hc:=λ w hs=>gJ hg (n:={Nd.zero with kind:=4,hash:=(h:Int),key:=k.key,val:=k.val}) (xs:=[]) (ys:=[]) 0 _ rfl rfl (by decide) (Nat.zero_le _) (Ha hh) (bH _) (g2) ok hs))) (h:=λ x142 h142=>?_);refine aZ (i:=5) (hq:=(cF (hc:=λ w1 hw=>ku (v:=(aD x.L m)) h48.2 (gL h (level:Int)) x142.1 (ok.rJ hw hA m)))) (h:=λ x143 h143=>?_);refine aM ?_;refine cC (i:=7) (hq:=(bP rf rfl)) (h:=?_);refine cC (i:=8) (hq:=(bP rf rfl)) (h:=?_);refine yB ?_
        refine eC ((x28,x142,x143,mF (Yx (aD x.L m) (gL h (level:Int)) x142.1) x143)) ?_ (hw1:=λ w hw=>hw.back (hF:=by exact aY.all))
        ·exact⟨h142,rfl⟩
      dsimp only[gP,List.map,List.cons_append,List.nil_append]
      obtain⟨hz,ez⟩:=hx
      have hlz:=hz.len
      have hB:=zw ((ok.nv m).mono (Nat.le_refl _) (Nat.le_refl _) |>.mono hlz hz.lc) hz.bd (gL h (level:Int))
      refine aT ?_;refine dV [(0,[]),(1,[]),(2,[]),(3,[]),(4,[]),(5,[]),(6,[]),(7,[]),(8,[2]),(9,[]),(10,[]),(11,[]),(12,[]),(13,[]),(14,[])] ?_;refine gT ?_;refine bK ?_;refine gT ?_;refine aM ?_;refine bK ?_;refine aM ?_;refine aZ (i:=8) (hq:=(cM (hs:=xH k bx bm z.2.1.2.1 dn rs) (os:=xW z.2.1.2.1) (A0:=[(z.2.2.2.brA,aH (mC (Yx (aD x.L m) (gL h (level:Int)) z.2.1.1))),(z.2.2.2.prA,dC [])]) (hA:=by rw[ez];exact Sk) (hc:=λ w hs=>gJ hg (n:=z.2.2.2) (xs:=mC (Yx (aD x.L m) (gL h (level:Int)) z.2.1.1)) (ys:=[]) m _ (by rw[ez];exact Ev _ _) (by rw[ez];exact Eg _ _) hB.len (Nat.zero_le _) (by rw[ez];exact hB.nvB _) (by omega) (by rw[ez,<- aAg h48.2];exact hz.go) hz.ok hs))) (h:=λ x154 h154=>?_);refine aZ (i:=9) (hq:=(cM (hs:=xH k bx bm x154.2.1 dn rs) (os:=xW x154.2.1) (hc:=λ w hs=>tG hg k.t i m x154.1 _ ht (by have:=h154.len;omega) h154.bd h154.go h154.ok hs))) (h:=λ x155 h155=>?_)
      have hch:=Ch.nx h155 (Ch.nx h154 (((Ch.base (F:=[])).nx hz).cons (f:=(z.2.2.1.1,aH (mC (Yx (aD x.L m) (gL h (level:Int)) z.2.1.1))))))
      have hlc:x.cs.length<=x155.2.1.cs.length:=by have:=hz.lc;have:=h154.lc;have:=h155.lc;omega
      refine cB (i:=10) (hq:=(cV (hc:=λ w1 hw=>oW _ _ _ _ w1))) (h:=λ x156=>?_);refine cC (i:=11) (hq:=(bP rf rfl)) (h:=?_);refine cC (i:=12) (hq:=(bP rf rfl)) (h:=?_);refine yB ?_
      refine bB Tryz.results224 (λ w hw=>?_)
      obtain⟨N,hN,hf⟩:=hch.to (t':=K (rQ false 0) (if x155.1=true then 1 else 0)) h155 (h155.go) hlc (bH _)
      exact⟨(rQ false 0,(if x155.1=true then 1 else 0),x155.2.1,N),rfl,hN,(hw.fA hf).aU (hF:=by exact aY.all)⟩
     ·exact nv c134
   ·exact nv c125
set_option maxRecDepth 100000 in
theorem X2(hg:g.Ok)(i m:Int){h:Nat}(hh:h<18446744073709551616)(level:Nat)(hlv:level<=1073741824)(gen:Int)(K:Rs->Int->Tr)(ht:k.t.root<=9223372036854775807)(hi:i<=x.L.length)(hm:m<=x.L.length)(hA:∀f∈aK x.L,f∈A)(hk:¬(aD x.L m).nd.kind=6){b:Int}(hl:mB (aD x.L m).c (gL h (level:Int))=some b)(hi2:(aD x.L b).nd.kind=2)(go:fU g x (lR k i m h level gen K))(ok:x.Ok)(hs:SF w D (xH k bx bm x dn rs) A [] (xW x) w):Calls Tryz.prog 224 #[.pointer (some ⟨bx,0,none⟩),.int .i64 i,.int .i64 m,.int .u64 (h:Int),.int .i64 (level:Int),.int .i64 gen] w (Yt g x K bx bm k dn rs D w):=by
 have hyl:=rA ok m
 have hlL:=ok.lL
 have hb:b<=x.L.length:=by have:=qC (ok.nv m) (gL h (level:Int));rw[hl] at this;exact this
 refine enter Tryz.func224 Tryz.ntmps224 rfl rfl (bZ hs) ?_
 simp only[bX]
 refine J0 ?_;refine aI (λ x12=>?_);refine hZ ?_;refine dV [(0,[]),(1,[]),(2,[]),(3,[]),(4,[]),(5,[]),(6,[]),(7,[]),(8,[]),(9,[]),(10,[]),(11,[]),(12,[]),(13,[]),(14,[]),(15,[4,9,14]),(16,[9,14]),(17,[14]),(18,[])] ?_;refine J9 ?_;refine aQ ?_;refine bS (i:=4) (hq:=(aN (k:=2) (vs:=[.int .i64 k.t.root,.bool k.t.ro]) rf cN dI rfl rfl)) (h:=?_);refine xS ?_;refine xS ?_;refine fO (hfire:=(λ _=>by((repeat (first|exact aV.nil|refine aV.cons (by first|exact iC (hq:=aN (k:=2) (vs:=[.int .i64 k.t.root,.bool k.t.ro]) rf cN dI rfl rfl)|exact iX) ?_));done))) (h:=λ x14=>?_);refine oQ (h:=λ _=>?_);refine l9 ?_;refine jA ?_;refine aC (cM (hs:=xH k bx bm x dn rs) (os:=xW x) (hc:=λ w hs=>cI m _ hm go ok hs)) (λ x48 h48=>?_);refine aI (λ x17=>?_);refine J5 ?_;refine D7 ?_;refine uB ?_
 refine bC (λ c51=>?_) (λ c51=>?_)
 ·exact absurd c51 hk
 ·have g0:=h48.1.to (λ _=>if_neg hk)
  have g1:=tD g0 (by rw[hl];rfl)
  rw[hl] at g1
  refine Dc ?_;refine aP (cV (hc:=λ w1 hw=>eV hh (level:Int) w1)) (λ x91=>?_);refine xZ ?_;refine aA ?_;refine bG ?_;refine aI (λ x23=>?_);refine J5 ?_;refine Dz ?_;refine aP (cV (hc:=λ w1 hw=>Jo (v:=(aD x.L m)) h48.2 hl (ok.rJ hw hA m))) (λ x99=>?_);refine aA ?_;refine aB (bP rf rfl) rfl ?_;refine aB (bP rf rfl) rfl ?_;refine J8 ?_;refine C6 ?_
  (refine aF ?_;refine aA ?_)
  ((refine aF ?_;refine aA ?_));((refine aF ?_;refine aC (cM (hs:=xH k bx bm x dn rs) (os:=xW x) (hc:=λ w hs=>cI b _ hb g1 ok hs)) (λ x106 h106=>?_)));refine zh ?_;refine aG ?_
  refine bC (λ c109=>?_) (λ c109=>?_)
  ·have g2:=h106.1.to (λ _=>if_pos hi2)
   refine J0 ?_;refine bG ?_;refine yA ?_
   refine bB Tryz.results224 (λ w hw=>?_)
   exact⟨(Rs.zero,2,x,[]),rfl,⟨g2,ok,by simp,Nat.le_refl _,bH _⟩,hw.aU (hF:=by exact aY.nil)⟩
  ·exact absurd hi2 c109
set_option maxRecDepth 100000 in
theorem W4(hg:g.Ok)(i m:Int){h:Nat}(hh:h<18446744073709551616)(level:Nat)(hlv:level<=1073741824)(gen:Int)(K:Rs->Int->Tr)(ht:k.t.root<=9223372036854775807)(hi:i<=x.L.length)(hm:m<=x.L.length)(hA:∀f∈aK x.L,f∈A)(hk:¬(aD x.L m).nd.kind=6){b:Int}(hl:mB (aD x.L m).c (gL h (level:Int))=some b)(hi2:¬(aD x.L b).nd.kind=2)(he:(aD x.L b).nd.key=k.key)(go:fU g x (lR k i m h level gen K))(ok:x.Ok)(hs:SF w D (xH k bx bm x dn rs) A [] (xW x) w):Calls Tryz.prog 224 #[.pointer (some ⟨bx,0,none⟩),.int .i64 i,.int .i64 m,.int .u64 (h:Int),.int .i64 (level:Int),.int .i64 gen] w (Yt g x K bx bm k dn rs D w):=by
 have hyl:=rA ok m
 have hlL:=ok.lL
 have hb:b<=x.L.length:=by have:=qC (ok.nv m) (gL h (level:Int));rw[hl] at this;exact this
 refine enter Tryz.func224 Tryz.ntmps224 rfl rfl (bZ hs) ?_
 simp only[bX]
 refine J0 ?_;refine aI (λ x12=>?_);refine hZ ?_;refine dV [(0,[]),(1,[]),(2,[]),(3,[]),(4,[]),(5,[]),(6,[]),(7,[]),(8,[]),(9,[]),(10,[]),(11,[]),(12,[]),(13,[]),(14,[]),(15,[4,9,14]),(16,[9,14]),(17,[14]),(18,[])] ?_;refine J9 ?_;refine aQ ?_;refine bS (i:=4) (hq:=(aN (k:=2) (vs:=[.int .i64 k.t.root,.bool k.t.ro]) rf cN dI rfl rfl)) (h:=?_);refine xS ?_;refine xS ?_;refine fO (hfire:=(λ _=>by((repeat (first|exact aV.nil|refine aV.cons (by first|exact iC (hq:=aN (k:=2) (vs:=[.int .i64 k.t.root,.bool k.t.ro]) rf cN dI rfl rfl)|exact iX) ?_));done))) (h:=λ x14=>?_);refine oQ (h:=λ _=>?_);refine l9 ?_;refine jA ?_;refine aC (cM (hs:=xH k bx bm x dn rs) (os:=xW x) (hc:=λ w hs=>cI m _ hm go ok hs)) (λ x48 h48=>?_);refine aI (λ x17=>?_);refine J5 ?_;refine D7 ?_;refine uB ?_
 refine bC (λ c51=>?_) (λ c51=>?_)
 ·exact absurd c51 hk
 ·have g0:=h48.1.to (λ _=>if_neg hk)
  have g1:=tD g0 (by rw[hl];rfl)
  rw[hl] at g1
  refine Dc ?_;refine aP (cV (hc:=λ w1 hw=>eV hh (level:Int) w1)) (λ x91=>?_);refine xZ ?_;refine aA ?_;refine bG ?_;refine aI (λ x23=>?_);refine J5 ?_;refine Dz ?_;refine aP (cV (hc:=λ w1 hw=>Jo (v:=(aD x.L m)) h48.2 hl (ok.rJ hw hA m))) (λ x99=>?_);refine aA ?_;refine aB (bP rf rfl) rfl ?_;refine aB (bP rf rfl) rfl ?_;refine J8 ?_;refine C6 ?_
  (refine aF ?_;refine aA ?_)
  ((refine aF ?_;refine aA ?_));((refine aF ?_;refine aC (cM (hs:=xH k bx bm x dn rs) (os:=xW x) (hc:=λ w hs=>cI b _ hb g1 ok hs)) (λ x106 h106=>?_)));refine zh ?_;refine aG ?_
  refine bC (λ c109=>?_) (λ c109=>?_)
  ·exact absurd c109 hi2
  ·have g3:=(h106.1.to (λ _=>if_neg hi2)).to (λ _=>if_pos he)
   refine Dc ?_
   (refine aF ?_;refine aA ?_)
   ((refine aF ?_;refine aA ?_));((refine aF ?_;refine aC (cM (hs:=xH k bx bm x dn rs) (os:=xW x) (hc:=λ w hs=>fD b (by omega) ok hs)) (λ x115 h115=>?_)));refine J81 ?_;((refine aF ?_;refine aB (n9 rf rf he) rfl ?_));refine cJ ?_;refine xZ ?_;refine aC (cM (hs:=xH k bx bm x dn rs) (os:=xW x) (hc:=λ w hs=>fD b (by omega) ok hs)) (λ x122 h122=>?_);refine cD ?_;refine hZ ?_;refine J2 ?_;refine oK ?_
   refine bC (λ c125=>?_) (λ c125=>?_)
   ·exact nv c125
   ·refine kG ?_;refine jA ?_;refine aA ?_;refine aC (cM (hs:=xH k bx bm x dn rs) (os:=xW x) (hc:=λ w hs=>wT _ _ hs)) (λ x129 h129=>?_);refine oK ?_
    refine bC (λ c130=>?_) (λ c130=>?_)
    ·have g2:=g3.to (λ _=>if_neg (show ¬nW k true (aD x.L b).nd.val=true from by simpa using c130))
     refine jA ?_;refine aP (cV (hc:=λ w1 hw=>gE _ _ w1)) (λ x133=>?_);refine yA ?_
     refine bB Tryz.results224 (λ w hw=>?_)
     exact⟨(jL true (aD x.L b).nd.val,1,x,[]),rfl,⟨g2,ok,by simp,Nat.le_refl _,bH _⟩,hw.aU (hF:=by exact aY.nil)⟩
    ·have g2:=g3.to (λ _=>if_pos (show nW k true (aD x.L b).nd.val=true from by simpa using c130))
     refine qG ?_;refine J2 ?_;refine yT ?_;refine J1 ?_
     refine bC (λ c134=>?_) (λ c134=>?_)
     ·exact nv c134
     ·refine J2 ?_;refine J1 ?_
      refine bC (λ c159=>?_) (λ c159=>?_)
      ·refine aT ?_;refine dV [(0,[]),(1,[]),(2,[]),(3,[]),(4,[]),(5,[]),(6,[]),(7,[]),(8,[]),(9,[]),(13,[]),(10,[2]),(11,[2]),(12,[]),(14,[]),(15,[]),(16,[]),(17,[]),(18,[])] ?_;refine gT ?_;refine bK ?_;refine gT ?_;refine gT ?_;refine gT ?_;refine bK ?_;refine aM ?_;refine aZ (i:=10) (hq:=(cM (hs:=xH k bx bm x dn rs) (os:=xW x) (A0:=[(none,aH []),(none,dC [])]) (hc:=λ w hs=>gJ hg (n:={Nd.zero with kind:=4,hash:=(h:Int),key:=k.key,val:=k.val}) (xs:=[]) (ys:=[]) 0 _ rfl rfl (by decide) (Nat.zero_le _) (Ha hh) (bH _) (g2) ok hs))) (h:=λ x171 h171=>?_)
       have hch:=(Ch.base (F:=[])).nx h171
       refine aZ (i:=11) (hq:=(cM (hs:=xH k bx bm x171.2.1 dn rs) (os:=xW x171.2.1) (A0:=aK x171.2.1.L) (hA:=Ch.all hch hA) (hc:=λ w hs=>Bj hg m (gL h (level:Int)) x171.1 _ (by have:=h171.len;omega) h171.bd (λ f hf=>hf) h171.go h171.ok hs))) (h:=λ x172 h172=>?_);refine aZ (i:=12) (hq:=(cM (hs:=xH k bx bm x172.2.1 dn rs) (os:=xW x172.2.1) (hc:=λ w hs=>tG hg k.t i m x172.1 _ ht (by have:=h171.len;have:=h172.len;omega) h172.bd h172.go h172.ok hs))) (h:=λ x173 h173=>?_)
       have hch2:=Ch.nx h173 (Ch.nx h172 hch)
       have hlc:x.cs.length<=x173.2.1.cs.length:=by have:=h171.lc;have:=h172.lc;have:=h173.lc;omega
       refine cB (i:=14) (hq:=(cV (hc:=λ w1 hw=>oW _ _ _ _ w1))) (h:=λ x175=>?_);refine cC (i:=15) (hq:=(bP rf rfl)) (h:=?_);refine cC (i:=16) (hq:=(bP rf rfl)) (h:=?_);refine yB ?_
       refine bB Tryz.results224 (λ w hw=>?_)
       obtain⟨N,hN,hf⟩:=hch2.to (t':=K (rQ true (aD x.L b).nd.val) (if x173.1=true then 1 else 0)) h173 (h173.go) hlc (bH _)
       exact⟨(rQ true (aD x.L b).nd.val,(if x173.1=true then 1 else 0),x173.2.1,N),rfl,hN,(hw.fA hf).aU (hF:=by exact aY.all)⟩
      ·exact nv c159
set_option maxRecDepth 100000 in
theorem Ys(hg:g.Ok)(i m:Int){h:Nat}(hh:h<18446744073709551616)(level:Nat)(hlv:level<=1073741824)(gen:Int)(K:Rs->Int->Tr)(ht:k.t.root<=9223372036854775807)(hi:i<=x.L.length)(hm:m<=x.L.length)(hA:∀f∈aK x.L,f∈A)(hk:¬(aD x.L m).nd.kind=6){b:Int}(hl:mB (aD x.L m).c (gL h (level:Int))=some b)(hi2:¬(aD x.L b).nd.kind=2)(he:¬(aD x.L b).nd.key=k.key)(go:fU g x (lR k i m h level gen K))(ok:x.Ok)(hs:SF w D (xH k bx bm x dn rs) A [] (xW x) w):Calls Tryz.prog 224 #[.pointer (some ⟨bx,0,none⟩),.int .i64 i,.int .i64 m,.int .u64 (h:Int),.int .i64 (level:Int),.int .i64 gen] w (Yt g x K bx bm k dn rs D w):=by
 have hyl:=rA ok m
 have hlL:=ok.lL
 have hb:b<=x.L.length:=by have:=qC (ok.nv m) (gL h (level:Int));rw[hl] at this;exact this
 refine enter Tryz.func224 Tryz.ntmps224 rfl rfl (bZ hs) ?_
 simp only[bX]
 refine J0 ?_;refine aI (λ x12=>?_);refine hZ ?_;refine dV [(0,[]),(1,[]),(2,[]),(3,[]),(4,[]),(5,[]),(6,[]),(7,[]),(8,[]),(9,[]),(10,[]),(11,[]),(12,[]),(13,[]),(14,[]),(15,[4,9,14]),(16,[9,14]),(17,[14]),(18,[])] ?_;refine J9 ?_;refine aQ ?_;refine bS (i:=4) (hq:=(aN (k:=2) (vs:=[.int .i64 k.t.root,.bool k.t.ro]) rf cN dI rfl rfl)) (h:=?_);refine xS ?_;refine xS ?_;refine fO (hfire:=(λ _=>by((repeat (first|exact aV.nil|refine aV.cons (by first|exact iC (hq:=aN (k:=2) (vs:=[.int .i64 k.t.root,.bool k.t.ro]) rf cN dI rfl rfl)|exact iX) ?_));done))) (h:=λ x14=>?_);refine oQ (h:=λ _=>?_);refine l9 ?_;refine jA ?_;refine aC (cM (hs:=xH k bx bm x dn rs) (os:=xW x) (hc:=λ w hs=>cI m _ hm go ok hs)) (λ x48 h48=>?_);refine aI (λ x17=>?_);refine J5 ?_;refine D7 ?_;refine uB ?_
 refine bC (λ c51=>?_) (λ c51=>?_)
 ·exact absurd c51 hk
 ·have g0:=h48.1.to (λ _=>if_neg hk)
  have g1:=tD g0 (by rw[hl];rfl)
  rw[hl] at g1
  refine Dc ?_;refine aP (cV (hc:=λ w1 hw=>eV hh (level:Int) w1)) (λ x91=>?_);refine xZ ?_;refine aA ?_;refine bG ?_;refine aI (λ x23=>?_);refine J5 ?_;refine Dz ?_;refine aP (cV (hc:=λ w1 hw=>Jo (v:=(aD x.L m)) h48.2 hl (ok.rJ hw hA m))) (λ x99=>?_);refine aA ?_;refine aB (bP rf rfl) rfl ?_;refine aB (bP rf rfl) rfl ?_;refine J8 ?_;refine C6 ?_
  (refine aF ?_;refine aA ?_)
  ((refine aF ?_;refine aA ?_));((refine aF ?_;refine aC (cM (hs:=xH k bx bm x dn rs) (os:=xW x) (hc:=λ w hs=>cI b _ hb g1 ok hs)) (λ x106 h106=>?_)));refine zh ?_;refine aG ?_
  refine bC (λ c109=>?_) (λ c109=>?_)
  ·exact absurd c109 hi2
  ·have g3:=(h106.1.to (λ _=>if_neg hi2)).to (λ _=>if_neg he)
   refine Dc ?_
   (refine aF ?_;refine aA ?_)
   ((refine aF ?_;refine aA ?_));((refine aF ?_;refine aC (cM (hs:=xH k bx bm x dn rs) (os:=xW x) (hc:=λ w hs=>fD b (by omega) ok hs)) (λ x115 h115=>?_)));refine J81 ?_;((refine aF ?_;refine aB (m7 rf rf he) rfl ?_));refine cJ ?_;refine xZ ?_;refine aC (cM (hs:=xH k bx bm x dn rs) (os:=xW x) (hc:=λ w hs=>fD b (by omega) ok hs)) (λ x122 h122=>?_);refine cD ?_;refine hZ ?_;refine J2 ?_;refine oK ?_
   refine bC (λ c125=>?_) (λ c125=>?_)
   ·refine dG ?_;refine hZ ?_;refine jA ?_;refine aA ?_;refine aC (cM (hs:=xH k bx bm x dn rs) (os:=xW x) (hc:=λ w hs=>wT _ _ hs)) (λ x129 h129=>?_);refine oK ?_
    refine bC (λ c130=>?_) (λ c130=>?_)
    ·have g2:=g3.to (λ _=>if_neg (show ¬nW k false 0=true from by simpa using c130))
     refine jA ?_;refine aP (cV (hc:=λ w1 hw=>gE _ _ w1)) (λ x133=>?_);refine yA ?_
     refine bB Tryz.results224 (λ w hw=>?_)
     exact⟨(jL false 0,1,x,[]),rfl,⟨g2,ok,by simp,Nat.le_refl _,bH _⟩,hw.aU (hF:=by exact aY.nil)⟩
    ·have g2:=g3.to (λ _=>if_pos (show nW k false 0=true from by simpa using c130))
     refine qG ?_;refine J2 ?_;refine yT ?_;refine J1 ?_
     refine bC (λ c134=>?_) (λ c134=>?_)
     ·exact nv c134
     ·refine J2 ?_;refine J1 ?_
      refine bC (λ c159=>?_) (λ c159=>?_)
      ·exact nv c159
      ·refine oF ?_;refine jA ?_;refine bG ?_;refine pE ?_;refine pE ?_;refine Hq ?_;refine aA ?_;refine aC (cM (hs:=xH k bx bm x dn rs) (os:=xW x) (hc:=λ w hs=>xa hg b hh (level+1) gen _ hb g2 ok hs)) (λ x187 h187=>?_);refine aC (cM (hs:=xH k bx bm x187.2.1 dn rs) (os:=xW x187.2.1) (A0:=[(none,aH []),(none,dC [])]) (hc:=λ w hs=>gJ hg (n:={Nd.zero with kind:=2,gen:=gen}) (xs:=[]) (ys:=[]) x187.1 _ rfl rfl (by decide) (Nat.zero_le _) rZ h187.bd h187.go h187.ok hs)) (λ x188 h188=>?_)
       have hch:=Ch.nx h188 ((Ch.base (F:=[])).nx h187)
       refine hZ ?_;refine dV [(0,[]),(1,[]),(2,[]),(3,[]),(4,[]),(5,[]),(6,[]),(7,[]),(8,[]),(9,[2]),(10,[]),(11,[]),(12,[]),(13,[]),(14,[]),(15,[])] ?_;refine gT ?_;refine bK ?_;refine gT ?_;refine gT ?_;refine gT ?_;refine aZ (i:=9) (hq:=(cM (hs:=xH k bx bm x188.2.1 dn rs) (os:=xW x188.2.1) (A0:=aK x188.2.1.L) (hA:=Ch.all hch hA) (hc:=λ w hs=>Bj hg m (gL h (level:Int)) x188.1 _ (by have:=h187.len;have:=h188.len;omega) h188.bd (λ f hf=>hf) h188.go h188.ok hs))) (h:=λ x198 h198=>?_);refine aZ (i:=10) (hq:=(cM (hs:=xH k bx bm x198.2.1 dn rs) (os:=xW x198.2.1) (hc:=λ w hs=>tG hg k.t i m x198.1 _ ht (by have:=h187.len;have:=h188.len;have:=h198.len;omega) h198.bd h198.go h198.ok hs))) (h:=λ x199 h199=>?_)
       have hch2:=Ch.nx h199 (Ch.nx h198 hch)
       have hlc:x.cs.length<=x199.2.1.cs.length:=by have:=h187.lc;have:=h188.lc;have:=h198.lc;have:=h199.lc;omega
       refine cB (i:=11) (hq:=(cV (hc:=λ w1 hw=>oW _ _ _ _ w1))) (h:=λ x200=>?_);refine cC (i:=12) (hq:=(bP rf rfl)) (h:=?_);refine cC (i:=13) (hq:=(bP rf rfl)) (h:=?_);refine yB ?_
       refine bB Tryz.results224 (λ w hw=>?_)
       obtain⟨N,hN,hf⟩:=hch2.to (t':=K (rQ false 0) (if x199.1=true then 1 else 0)) h199 (h199.go) hlc (bH _)
       exact⟨(rQ false 0,(if x199.1=true then 1 else 0),x199.2.1,N),rfl,hN,(hw.fA hf).aU (hF:=by exact aY.all)⟩
   ·exact nv c125
theorem W7(hg:g.Ok)(i m:Int){h:Nat}(hh:h<18446744073709551616)(level:Nat)(hlv:level<=1073741824)(gen:Int)(K:Rs->Int->Tr)(ht:k.t.root<=9223372036854775807)(hi:i<=x.L.length)(hm:m<=x.L.length)(hA:∀f∈aK x.L,f∈A)(go:fU g x (lR k i m h level gen K))(ok:x.Ok)(hs:SF w D (xH k bx bm x dn rs) A [] (xW x) w):Calls Tryz.prog 224 #[.pointer (some ⟨bx,0,none⟩),.int .i64 i,.int .i64 m,.int .u64 (h:Int),.int .i64 (level:Int),.int .i64 gen] w (Yt g x K bx bm k dn rs D w):=by
 by_cases hk:(aD x.L m).nd.kind=6
 ·exact Yp hg i m hh level hlv gen K ht hi hm hA hk go ok hs
 ·cases hl:mB (aD x.L m).c (gL h (level:Int)) with
  | none=>exact Xf hg i m hh level hlv gen K ht hi hm hA hk hl go ok hs
  | some b =>
   by_cases hi2:(aD x.L b).nd.kind=2
   ·exact X2 hg i m hh level hlv gen K ht hi hm hA hk hl hi2 go ok hs
   ·by_cases he:(aD x.L b).nd.key=k.key
    ·exact W4 hg i m hh level hlv gen K ht hi hm hA hk hl hi2 he go ok hs
    ·exact Ys hg i m hh level hlv gen K ht hi hm hA hk hl hi2 he go ok hs
end
end Go.Proofs.YtbajmaoegmbfgaaGreat
